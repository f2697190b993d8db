/- TopO answers true whatever the input (text 2 of 6): own walks and plain laws; no conditions. -/
import Derived.BigRegion
import Derived.Deep.RegionHeld3
import Derived.Deep.RegionLaw
import Derived.Lib.Hide
import Derived.Maps.OwnOps
import Derived.Maps.Views
import Derived.Outline
import Derived.RegionIn
import Derived.RegionTactic
import Derived.Sort.LoopGhostIn
import Derived.WalkSpells
import Derived.Test.YtffdiakgjakngaaGreatTopO1
namespace Go.Proofs.YtffdiakgjakngaaGreat.P
open Go.RowKit Go.Proofs.YtffdiakgjakngaaGreatW.PrintWords Go.Proofs.YtffdiakgjakngaaGreatW.PrintLast Go.Proofs.YtffdiakgjakngaaGreatW.PrintMore
set_option linter.unusedVariables false
set_option linter.unusedSimpArgs false
set_option maxHeartbeats 8000000
set_option maxRecDepth 100000
mutual
def aW.j0:Nat->Bool->Int->List (S83)->Option (Int)
 |0,_,_,_=>none
 |k+1,b,e,a=>if b=true then(some 2) else(aW.l0 k a (a.length:Int) 0 e a (-1) (-1))
def aW.l0:Nat->List (S83)->Int->Int->Int->List (S83)->Int->Int->Option (Int)
 |0,_,_,_,_,_,_,_=>none
 |k+1,b,g,a,e,h,i,j=>if a<g then(if 0<=a then(if a<(b.length:Int) then((fD.f e ((ab b a).f0)).bind fun t216=>(if t216=true then((fD.f e ((ab b a).f1)).bind fun t217=>(if t217=true then(if((ab b a).f2)<1 then(aW.j2 k b g a true e h i j ((ab b a).f0) ((ab b a).f1) ((ab b a).f2) ((ab b a).f0) ((ab b a).f1)) else(aW.j2 k b g a (decide (((ab b a).f2)>50)) e h i j ((ab b a).f0) ((ab b a).f1) ((ab b a).f2) ((ab b a).f0) ((ab b a).f1))) else(aW.j2 k b g a true e h i j ((ab b a).f0) ((ab b a).f1) ((ab b a).f2) ((ab b a).f0) ((ab b a).f1)))) else(aW.j2 k b g a true e h i j ((ab b a).f0) ((ab b a).f1) ((ab b a).f2) ((ab b a).f0) ((ab b a).f1)))) else(none)) else(none)) else(some 0)
def aW.j2:Nat->List (S83)->Int->Int->Bool->Int->List (S83)->Int->Int->Int->Int->Int->Int->Int->Option (Int)
 |0,_,_,_,_,_,_,_,_,_,_,_,_,_=>none
 |k+1,e,g,h,i,j,l,m,n,o,p,q,a,b=>if i=true then(some 2) else(if o>p then(some 9) else((dg.f k m n a b).bind fun t218=>(if t218>=0 then(some 9) else(aW.l0 k e g (wrap64 (h+1)) j l a b))))
end
def aW.f (k:Nat) (a:Int) (b:List (S83)):Option (Int):=if a<1 then(aW.j0 k true a b) else(aW.j0 k (decide (a>12)) a b)
theorem aW.lO:∀k,(∀a b e,bl (aW.j0 k a b e) (aW.j0 (k+1) a b e))/\(∀a b e g i j l,bl (aW.l0 k a b e g i j l) (aW.l0 (k+1) a b e g i j l))/\(∀a b e g i j l m n o p q s,bl (aW.j2 k a b e g i j l m n o p q s) (aW.j2 (k+1) a b e g i j l m n o p q s))
 |0=>⟨fun _ _ _ r h=>by simp[aW.j0] at h,fun _ _ _ _ _ _ _ r h=>by simp[aW.l0] at h,fun _ _ _ _ _ _ _ _ _ _ _ _ _ r h=>by simp[aW.j2] at h⟩
 |k+1=>by
  obtain⟨u,v,w⟩:=aW.lO k;refine⟨?_,?_,?_⟩
  ·intro a b e
   unfold aW.j0;with_reducible repeat' first|exact u _ _ _|exact v _ _ _ _ _ _ _|exact w _ _ _ _ _ _ _ _ _ _ _ _ _|exact dg.mono _ _ _ _ _|exact bl.refl _|exact bl.none _|refine bl.ite ?_ ?_|refine bl.bind ?_ (fun _=>?_)
  ·intro a b e g i j l
   unfold aW.l0;with_reducible repeat' first|exact u _ _ _|exact v _ _ _ _ _ _ _|exact w _ _ _ _ _ _ _ _ _ _ _ _ _|exact dg.mono _ _ _ _ _|exact bl.refl _|exact bl.none _|refine bl.ite ?_ ?_|refine bl.bind ?_ (fun _=>?_)
  ·intro a b e g i j l m n o p q s
   unfold aW.j2;with_reducible repeat' first|exact u _ _ _|exact v _ _ _ _ _ _ _|exact w _ _ _ _ _ _ _ _ _ _ _ _ _|exact dg.mono _ _ _ _ _|exact bl.refl _|exact bl.none _|refine bl.ite ?_ ?_|refine bl.bind ?_ (fun _=>?_)
theorem aW.mono:∀a0 a k,bl (aW.f k a0 a) (aW.f (k+1) a0 a):=by
 intro a0 a k;obtain⟨b,e,g⟩:=aW.lO k;unfold aW.f;with_reducible repeat' first|exact b _ _ _|exact e _ _ _ _ _ _ _|exact g _ _ _ _ _ _ _ _ _ _ _ _ _|exact dg.mono _ _ _ _ _|exact bl.refl _|exact bl.none _|refine bl.ite ?_ ?_|refine bl.bind ?_ (fun _=>?_)
theorem aW.calls (k:Nat) (j:Int) (R:Option Addr) (B:Nat) (a:List (S83)) (r:Int) (w:World) (bb:Kd.C aQ w R a.length a) (bd:a.length<=B) (h:aW.f k j a=some r):
  Calls Tryz.prog 64 #[.agg #[.int .i64 j,.slice R a.length B]] w fun e w'=>e= .returned (.int .i64 r)/\Below w.heap.size w w':=by
 have cn:=Tryz.underlying24;have co:=Tryz.underlying116;have cq:=Tryz.underlying83;have bk:=zA bb;have cr:=zA bd;clear bb bd;have m:=zA (ai w.heap.size w);unfold aW.f at h;have H:=h;clear h;have a2:=zA H;clear H;go_enter Tryz.func64,Tryz.ntmps64
 go_upto_region 1 with (first|((with_reducible refine aX (N:=1) rfl ?_);refine zX 1 #[.int .i64 j,.slice R a.length B] 24 ?_;intro u l w3 I hb;have i:=zA (I);have cv:=zG m l;have cx:=zG m l;replace m:=zS m hb;clear hb I l))
 (try simp only[Act.put,List.setIfInBounds_toArray,List.set_cons_zero,List.set_cons_succ])
 go_cut [14] (fun bn wc=>∃(G:Nat) (am:Bool),bn= .bool am/\Aside0 (aW.j0 G am j a=some r)/\Aside0 (G<=k)/\Aside0 (wc.heap[u]? =some (.cells #[.int .i64 j,(.slice R a.length B)] 24 (0,0)))/\Aside0 (Below w.heap.size w wc))
 case first=>
  have H:=a2.out;clear a2;by_cases c4:j<1
  ·rw[if_pos c4] at H
   have ag:=aA c4;clear c4
   (first|rw[ag]|(simp only[cA,cI];rw[ag])|skip)
   have v:=zA H;clear H;obtain⟨cy,c0,c1,c2⟩:=aE i;go_wp2;go_meet
   case rel=>exact⟨_,(true),zT,v,⟨by first|omega|exact aM _⟩,⟨zK i⟩,⟨zB⟩⟩
  ·rw[if_neg c4] at H
   have ag:=aY c4;clear c4
   (first|rw[ag]|(simp only[cA,cI];rw[ag])|skip)
   have v:=zA H;clear H;obtain⟨c3,c5,c6,c8⟩:=aE i;go_wp2;go_meet
   case rel=>exact⟨_,(decide (j>12)),zT,v,⟨by first|omega|exact aM _⟩,⟨zK i⟩,⟨zB⟩⟩
 case rest=>
  clear a2;obtain⟨G,am,rfl,J,V,i,m⟩:=hcut;cases G with
  |zero=>exact absurd J.out (by simp[aW.j0])
  |succ be=>
   have H:=J.out;clear J;simp only[aW.j0] at H;by_cases c7:am=true
   ·subst c7
    replace H:=zi H;obtain rfl:=aR H;go_wp2;go_ret;exact⟨zE,zB⟩
   ·replace c7:=Bool.eq_false_iff.mpr c7
    subst c7;replace H:=zj H;have v:=zA H;clear H;go_wp2_with (first|((with_reducible refine aX (N:=3) rfl ?_);refine zX 3 #[.int .i64 0,.int .i64 0] 116 ?_;intro D l w8 I hb;have n:=zA (I);have c':=zG m l;have dd:=zG m l;replace m:=zS m hb;have K:=zA ((by rw[l];exact Nat.ne_of_lt (ay (g:=u) (o:=.cells #[.int .i64 j,.slice R a.length B] 24 (0,0)) (zK i)):u≠D));have S:=zA ((by rw[l];exact Nat.ne_of_gt (ay (g:=u) (o:=.cells #[.int .i64 j,.slice R a.length B] 24 (0,0)) (zK i)):D≠u));replace i:=zb i hb;clear hb I l;have dl:=S.out;have ds:=K.out;obtain⟨bo,bq,bv,bw⟩:=aE n;obtain⟨bx,b0,b1,b2⟩:=aE i))
    go_loopg [19] be (fun G b3 w'=>∃(b:Int) (E:Int) (z:Int),b3= .int .i64 b/\Aside0 (aW.l0 G a (a.length:Int) b j a E z=some r)/\Aside0 (G<=be)/\Aside0 (w'.heap[u]? =some (.cells #[.int .i64 j,(.slice R a.length B)] 24 (0,0)))/\Aside0 (w'.heap[D]? =some (.cells #[.int .i64 E,.int .i64 z] 116 (0,0)))/\Aside0 (Below w.heap.size w w'))
    case atStart=>exact⟨(0),((-1)),((-1)),zT,v,⟨aM _⟩,⟨by refine zk ?_;refine aH ?_ K.out _;refine zk ?_;refine aH ?_ K.out _;exact zK i⟩,⟨by refine zk ?_;refine cm (cs:=#[.int .i64 (-1),.int .i64 0]) ?_ 1 _ rfl;refine zk ?_;refine cm (cs:=#[.int .i64 0,.int .i64 0]) ?_ 0 _ rfl;exact zK n⟩,⟨zB⟩⟩
    case round=>
     clear v;clear bo bq bx b0 bv bw b1 b2;obtain⟨b,E,z,rfl,J,W,i,n,m⟩:=hrel;cases gk with
     |zero=>exact absurd J.out (by simp[aW.l0])
     |succ k2=>
      have H:=J.out;clear J;simp only[aW.l0] at H;by_cases X:b<(a.length:Int)
      ·rw[if_pos X] at H
       have bf:=aA X;clear X;by_cases ao:0<=b
       ·rw[if_pos ao] at H
        have b5:=aA ao;clear ao;by_cases ap:b<(a.length:Int)
        ·rw[if_pos ap] at H
         have b6:=aA ap;clear ap;have a3:=zA H;clear H;have ar:0<=(b:Int):=aD ‹_›;have av:b<(a.length:Int):=aD ‹_›;obtain⟨Y,b_,aB,aF,aL⟩:=fa bk.out b ar av;cases b_;replace aB:=(m.out.cell (bS w _ aB)).trans aB;replace aF:=(m.out.cell (bS w _ aF)).trans aF;replace aL:=(m.out.cell (bS w _ aL)).trans aL;replace ar:=eq_true ar;replace av:=eq_true av;go_upto_region 8 with (first|((with_reducible refine aX (N:=5) rfl ?_);refine zX 5 #[.int .i64 0,.int .i64 0,.int .i64 0] 83 ?_;intro M l dv I hb;have p:=zA (I);have dx:=zG m l;have d0:=zG m l;replace m:=zS m hb;have q:=zA ((by rw[l];exact Nat.ne_of_lt (ay (g:=u) (o:=.cells #[.int .i64 j,.slice (some Y) a.length B] 24 (0,0)) (zK i)):u≠M));have O:=zA ((by rw[l];exact Nat.ne_of_gt (ay (g:=u) (o:=.cells #[.int .i64 j,.slice (some Y) a.length B] 24 (0,0)) (zK i)):M≠u));replace i:=zb i hb;have s:=zA ((by rw[l];exact Nat.ne_of_lt (ay (g:=D) (o:=.cells #[.int .i64 E,.int .i64 z] 116 (0,0)) (zK n)):D≠M));have P:=zA ((by rw[l];exact Nat.ne_of_gt (ay (g:=D) (o:=.cells #[.int .i64 E,.int .i64 z] 116 (0,0)) (zK n)):M≠D));replace n:=zb n hb;clear hb I l;have d1:=O.out;have d2:=q.out;have d3:=P.out;have d4:=s.out;obtain⟨b',ca,cb,cc,cd,ce⟩:=cp p)|((with_reducible refine aX (N:=6) rfl ?_);refine zX 6 #[.int .i64 0,.int .i64 0] 116 ?_;intro T l d5 I hb;have F:=zA (I);have d6:=zG m l;have d7:=zG m l;replace m:=zS m hb;have y:=zA ((by rw[l];exact Nat.ne_of_lt (ay (g:=u) (o:=.cells #[.int .i64 j,.slice (some Y) a.length B] 24 (0,0)) (by refine zk ?_;refine aH ?_ q.out _;refine zk ?_;refine aH ?_ q.out _;refine zk ?_;refine aH ?_ q.out _;exact zK i)):u≠T));have U:=zA ((by rw[l];exact Nat.ne_of_gt (ay (g:=u) (o:=.cells #[.int .i64 j,.slice (some Y) a.length B] 24 (0,0)) (by refine zk ?_;refine aH ?_ q.out _;refine zk ?_;refine aH ?_ q.out _;refine zk ?_;refine aH ?_ q.out _;exact zK i)):T≠u));replace i:=zA (au (g:=u) (o:=.cells #[.int .i64 j,.slice (some Y) a.length B] 24 (0,0)) (by refine zk ?_;refine aH ?_ q.out _;refine zk ?_;refine aH ?_ q.out _;refine zk ?_;refine aH ?_ q.out _;exact zK i) hb);have L:=zA ((by rw[l];exact Nat.ne_of_lt (ay (g:=D) (o:=.cells #[.int .i64 E,.int .i64 z] 116 (0,0)) (by refine zk ?_;refine aH ?_ s.out _;refine zk ?_;refine aH ?_ s.out _;refine zk ?_;refine aH ?_ s.out _;exact zK n)):D≠T));have a4:=zA ((by rw[l];exact Nat.ne_of_gt (ay (g:=D) (o:=.cells #[.int .i64 E,.int .i64 z] 116 (0,0)) (by refine zk ?_;refine aH ?_ s.out _;refine zk ?_;refine aH ?_ s.out _;refine zk ?_;refine aH ?_ s.out _;exact zK n)):T≠D));replace n:=zA (au (g:=D) (o:=.cells #[.int .i64 E,.int .i64 z] 116 (0,0)) (by refine zk ?_;refine aH ?_ s.out _;refine zk ?_;refine aH ?_ s.out _;refine zk ?_;refine aH ?_ s.out _;exact zK n) hb);have x:=zA ((by rw[l];exact Nat.ne_of_lt (ay (g:=M) (o:=.cells #[.int .i64 ((ab a b).f0),.int .i64 ((ab a b).f1),.int .i64 ((ab a b).f2)] 83 (0,0)) (by refine zk ?_;refine cm (cs:=#[.int .i64 ((ab a b).f0),.int .i64 ((ab a b).f1),.int .i64 0]) ?_ 2 _ rfl;refine zk ?_;refine cm (cs:=#[.int .i64 ((ab a b).f0),.int .i64 0,.int .i64 0]) ?_ 1 _ rfl;refine zk ?_;refine cm (cs:=#[.int .i64 0,.int .i64 0,.int .i64 0]) ?_ 0 _ rfl;exact zK p)):M≠T));have Q:=zA ((by rw[l];exact Nat.ne_of_gt (ay (g:=M) (o:=.cells #[.int .i64 ((ab a b).f0),.int .i64 ((ab a b).f1),.int .i64 ((ab a b).f2)] 83 (0,0)) (by refine zk ?_;refine cm (cs:=#[.int .i64 ((ab a b).f0),.int .i64 ((ab a b).f1),.int .i64 0]) ?_ 2 _ rfl;refine zk ?_;refine cm (cs:=#[.int .i64 ((ab a b).f0),.int .i64 0,.int .i64 0]) ?_ 1 _ rfl;refine zk ?_;refine cm (cs:=#[.int .i64 0,.int .i64 0,.int .i64 0]) ?_ 0 _ rfl;exact zK p)):T≠M));replace p:=zA (au (g:=M) (o:=.cells #[.int .i64 ((ab a b).f0),.int .i64 ((ab a b).f1),.int .i64 ((ab a b).f2)] 83 (0,0)) (by refine zk ?_;refine cm (cs:=#[.int .i64 ((ab a b).f0),.int .i64 ((ab a b).f1),.int .i64 0]) ?_ 2 _ rfl;refine zk ?_;refine cm (cs:=#[.int .i64 ((ab a b).f0),.int .i64 0,.int .i64 0]) ?_ 1 _ rfl;refine zk ?_;refine cm (cs:=#[.int .i64 0,.int .i64 0,.int .i64 0]) ?_ 0 _ rfl;exact zK p) hb);clear hb I l;have d8:=U.out;have d9:=y.out;have ea:=a4.out;have eb:=L.out;have eg:=Q.out;have ek:=x.out;obtain⟨cg,ch,ci,cj⟩:=aE F))
         (try simp only[Act.put,List.setIfInBounds_toArray,List.set_cons_zero,List.set_cons_succ])
         go_cut [28] (fun v28 wc=>∃(G:Nat) (aO:Bool),v28= .bool aO/\Aside0 (aW.j2 G a (a.length:Int) b aO j a E z ((ab a b).f0) ((ab a b).f1) ((ab a b).f2) ((ab a b).f0) ((ab a b).f1)=some r)/\Aside0 (G<=k2)/\Aside0 (wc.heap[u]? =some (.cells #[.int .i64 j,(.slice (some Y) a.length B)] 24 (0,0)))/\Aside0 (wc.heap[D]? =some (.cells #[.int .i64 E,.int .i64 z] 116 (0,0)))/\Aside0 (wc.heap[M]? =some (.cells #[.int .i64 ((ab a b).f0),.int .i64 ((ab a b).f1),.int .i64 ((ab a b).f2)] 83 (0,0)))/\Aside0 (wc.heap[T]? =some (.cells #[.int .i64 ((ab a b).f0),.int .i64 ((ab a b).f1)] 116 (0,0)))/\Aside0 (Below w.heap.size w wc))
         case first=>
          have H:=a3.out;clear a3;obtain⟨t216,aP,H⟩:=zo H;by_cases aS:t216=true
          ·subst aS
           replace H:=zi H;obtain⟨t217,a5,H⟩:=zo H;by_cases a0:t217=true
           ·subst a0
            replace H:=zi H;by_cases Z:((ab a b).f2)<1
            ·rw[if_pos Z] at H
             have ak:=aA Z;clear Z
             (first|rw[ak]|(simp only[cA,cI];rw[ak])|skip)
             have v:=zA H;clear H;have el:=K.out;have em:=S.out;have er:=q.out;have es:=O.out;have ev:=y.out;have ew:=U.out;obtain⟨ex,ey,e0,e1⟩:=aE i;have e2:=P.out;have e3:=s.out;have e4:=x.out;have e5:=Q.out;obtain⟨e6,e_,e',fd,fn,fo⟩:=cp p;go_wp2_with (first|((with_reducible refine aT (f:=121) rfl ?_);refine zL (some 33) Tryz.func121 #[.int .i64 j,.int .i64 ((ab a b).f0)] ?_;(with_reducible refine(fD.calls j ((ab a b).f0) true _ aP.out).mono ?_);rintro e w' ⟨rfl,⟨nd,rfl⟩⟩;refine⟨_,rfl,?_⟩)|(go_at_call 121;(with_reducible refine(fD.calls j ((ab a b).f1) true _ a5.out).mono ?_);rintro e w' ⟨rfl,⟨nd,rfl⟩⟩))
             go_meet
             case rel=>exact⟨_,(true),zT,v,⟨by have:=V.out;have:=W.out;first|omega|exact aM _⟩,⟨by refine zk ?_;refine aH ?_ y.out _;refine zk ?_;refine aH ?_ y.out _;exact zK i⟩,⟨by refine zk ?_;refine aH ?_ L.out _;refine zk ?_;refine aH ?_ L.out _;exact zK n⟩,⟨by refine zk ?_;refine aH ?_ x.out _;refine zk ?_;refine aH ?_ x.out _;exact zK p⟩,⟨by refine zk ?_;refine cm (cs:=#[.int .i64 ((ab a b).f0),.int .i64 0]) ?_ 1 _ rfl;refine zk ?_;refine cm (cs:=#[.int .i64 0,.int .i64 0]) ?_ 0 _ rfl;exact zK F⟩,⟨zB⟩⟩
            ·rw[if_neg Z] at H
             have ak:=aY Z;clear Z
             (first|rw[ak]|(simp only[cA,cI];rw[ak])|skip)
             have v:=zA H;clear H;have fq:=K.out;have fr:=S.out;have ft:=q.out;have f3:=O.out;have f4:=y.out;have f5:=U.out;obtain⟨f6,f7,f8,f9⟩:=aE i;have f':=P.out;have ga:=s.out;have gb:=x.out;have gc:=Q.out;obtain⟨gd,ge,gf,gg,gi,gl⟩:=cp p;go_wp2_with (first|((with_reducible refine aT (f:=121) rfl ?_);refine zL (some 33) Tryz.func121 #[.int .i64 j,.int .i64 ((ab a b).f0)] ?_;(with_reducible refine(fD.calls j ((ab a b).f0) true _ aP.out).mono ?_);rintro e w' ⟨rfl,⟨nd,rfl⟩⟩;refine⟨_,rfl,?_⟩)|(go_at_call 121;(with_reducible refine(fD.calls j ((ab a b).f1) true _ a5.out).mono ?_);rintro e w' ⟨rfl,⟨nd,rfl⟩⟩))
             go_meet
             case rel=>exact⟨_,(decide (((ab a b).f2)>50)),zT,v,⟨by have:=V.out;have:=W.out;first|omega|exact aM _⟩,⟨by refine zk ?_;refine aH ?_ y.out _;refine zk ?_;refine aH ?_ y.out _;exact zK i⟩,⟨by refine zk ?_;refine aH ?_ L.out _;refine zk ?_;refine aH ?_ L.out _;exact zK n⟩,⟨by refine zk ?_;refine aH ?_ x.out _;refine zk ?_;refine aH ?_ x.out _;exact zK p⟩,⟨by refine zk ?_;refine cm (cs:=#[.int .i64 ((ab a b).f0),.int .i64 0]) ?_ 1 _ rfl;refine zk ?_;refine cm (cs:=#[.int .i64 0,.int .i64 0]) ?_ 0 _ rfl;exact zK F⟩,⟨zB⟩⟩
           ·replace a0:=Bool.eq_false_iff.mpr a0
            subst a0;replace H:=zj H;have v:=zA H;clear H;have gm:=K.out;have go:=S.out;have gp:=q.out;have gq:=O.out;have gr:=y.out;have gs:=U.out;obtain⟨gt,gu,gv,gx⟩:=aE i;have g0:=P.out;have g1:=s.out;have g2:=x.out;have g3:=Q.out;obtain⟨g4,g5,g6,g7,g8,g9⟩:=cp p;go_wp2_with (first|((with_reducible refine aT (f:=121) rfl ?_);refine zL (some 33) Tryz.func121 #[.int .i64 j,.int .i64 ((ab a b).f0)] ?_;(with_reducible refine(fD.calls j ((ab a b).f0) true _ aP.out).mono ?_);rintro e w' ⟨rfl,⟨nd,rfl⟩⟩;refine⟨_,rfl,?_⟩)|(go_at_call 121;(with_reducible refine(fD.calls j ((ab a b).f1) false _ a5.out).mono ?_);rintro e w' ⟨rfl,⟨nd,rfl⟩⟩))
            go_meet
            case rel=>exact⟨_,(true),zT,v,⟨by have:=V.out;have:=W.out;first|omega|exact aM _⟩,⟨by refine zk ?_;refine aH ?_ y.out _;refine zk ?_;refine aH ?_ y.out _;exact zK i⟩,⟨by refine zk ?_;refine aH ?_ L.out _;refine zk ?_;refine aH ?_ L.out _;exact zK n⟩,⟨by refine zk ?_;refine aH ?_ x.out _;refine zk ?_;refine aH ?_ x.out _;exact zK p⟩,⟨by refine zk ?_;refine cm (cs:=#[.int .i64 ((ab a b).f0),.int .i64 0]) ?_ 1 _ rfl;refine zk ?_;refine cm (cs:=#[.int .i64 0,.int .i64 0]) ?_ 0 _ rfl;exact zK F⟩,⟨zB⟩⟩
          ·replace aS:=Bool.eq_false_iff.mpr aS
           subst aS;replace H:=zj H;have v:=zA H;clear H;have g':=K.out;have ha:=S.out;have hc:=q.out;have he:=O.out;have hf:=y.out;have hh:=U.out;obtain⟨hj,hk,hl,hm⟩:=aE i;have hn:=P.out;have ho:=s.out;have hp:=x.out;have hq:=Q.out;obtain⟨hr,hs,ht,hv,hw,hx⟩:=cp p;go_wp2_with (first|((with_reducible refine aT (f:=121) rfl ?_);refine zL (some 33) Tryz.func121 #[.int .i64 j,.int .i64 ((ab a b).f0)] ?_;(with_reducible refine(fD.calls j ((ab a b).f0) false _ aP.out).mono ?_);rintro e w' ⟨rfl,⟨nd,rfl⟩⟩;refine⟨_,rfl,?_⟩))
           go_meet
           case rel=>exact⟨_,(true),zT,v,⟨by have:=V.out;have:=W.out;first|omega|exact aM _⟩,⟨by refine zk ?_;refine aH ?_ y.out _;refine zk ?_;refine aH ?_ y.out _;exact zK i⟩,⟨by refine zk ?_;refine aH ?_ L.out _;refine zk ?_;refine aH ?_ L.out _;exact zK n⟩,⟨by refine zk ?_;refine aH ?_ x.out _;refine zk ?_;refine aH ?_ x.out _;exact zK p⟩,⟨by refine zk ?_;refine cm (cs:=#[.int .i64 ((ab a b).f0),.int .i64 0]) ?_ 1 _ rfl;refine zk ?_;refine cm (cs:=#[.int .i64 0,.int .i64 0]) ?_ 0 _ rfl;exact zK F⟩,⟨zB⟩⟩
         case rest=>
          clear a3;clear bf b5 b6 b' ca cb cg ch cc cd ce ci cj aB aF aL ar av;obtain⟨G,aO,rfl,J,bg,i,n,p,F,m⟩:=hcut;cases G with
          |zero=>exact absurd J.out (by simp[aW.j2])
          |succ a9=>
           have H:=J.out;clear J;simp only[aW.j2] at H;by_cases a1:aO=true
           ·subst a1
            replace H:=zi H;obtain rfl:=aR H;go_wp2;go_ret;exact⟨zE,zB⟩
           ·replace a1:=Bool.eq_false_iff.mpr a1
            subst a1;replace H:=zj H;by_cases aa:((ab a b).f0)>((ab a b).f1)
            ·rw[if_pos aa] at H
             have ck:=aA aa;clear aa;obtain rfl:=aR H;have hy:=O.out;have hz:=q.out;have hA:=P.out;have hB:=s.out;have hC:=x.out;have hD:=Q.out;obtain⟨hE,hG,hH,hI,hJ,hK⟩:=cp p;go_wp2;go_ret;exact⟨zE,zB⟩
            ·rw[if_neg aa] at H
             have ck:=aY aa;clear aa;obtain⟨t218,bi,H⟩:=zo H;by_cases ad:t218>=0
             ·rw[if_pos ad] at H
              have cl:=aA ad;clear ad;obtain rfl:=aR H;have hL:=O.out;have hM:=q.out;have hN:=P.out;have hO:=s.out;have hP:=x.out;have hQ:=Q.out;obtain⟨hR,hT,hV,hW,hX,hY⟩:=cp p;have hZ:=S.out;have h0:=K.out;have h1:=L.out;have h2:=a4.out;obtain⟨h3,h4,h5,h6⟩:=aE n;have h7:=U.out;have h8:=y.out;obtain⟨h9,h_,h',ib⟩:=aE F;go_wp2_with (first|(go_at_call 122;(with_reducible refine(dg.calls a9 E z ((ab a b).f0) ((ab a b).f1) t218 _ bi.out).mono ?_);rintro e id ⟨rfl,hb⟩;replace i:=zb i hb;replace n:=zb n hb;replace p:=zb p hb;replace F:=zb F hb;replace m:=zS m hb;(try clear hb)))
              go_ret;exact⟨zE,zB⟩
             ·rw[if_neg ad] at H
              have cl:=aY ad;clear ad;have v:=zA H;clear H;have ih:=O.out;have ii:=q.out;have im:=P.out;have io:=s.out;have ip:=x.out;have it:=Q.out;obtain⟨iv,i0,i1,i2,i3,i4⟩:=cp p;have i5:=S.out;have i6:=K.out;have i7:=L.out;have i8:=a4.out;obtain⟨i9,jj,jp,j1⟩:=aE n;have j3:=U.out;have j_:=y.out;obtain⟨j',kb,kd,kk⟩:=aE F;go_wp2_with (first|(go_at_call 122;(with_reducible refine(dg.calls a9 E z ((ab a b).f0) ((ab a b).f1) t218 _ bi.out).mono ?_);rintro e km ⟨rfl,hb⟩;replace i:=zb i hb;replace n:=zb n hb;replace p:=zb p hb;replace F:=zb F hb;replace m:=zS m hb;(try clear hb);obtain⟨ks,kt,kv,kw⟩:=aE F;obtain⟨k0,k1,k3,k4⟩:=aE n))
              go_roundg a9
              case measure=>have:=V.out;have:=W.out;have:=bg.out;omega
              case rel=>exact⟨(wrap64 (b+1)),(((ab a b).f0)),(((ab a b).f1)),zT,v,⟨by have:=V.out;have:=W.out;have:=bg.out;omega⟩,⟨by refine zk ?_;refine aH ?_ K.out _;refine zk ?_;refine aH ?_ K.out _;exact zK i⟩,⟨by refine zk ?_;refine cm (cs:=#[.int .i64 ((ab a b).f0),.int .i64 z]) ?_ 1 _ rfl;refine zk ?_;refine cm (cs:=#[.int .i64 E,.int .i64 z]) ?_ 0 _ rfl;exact zK n⟩,⟨zB⟩⟩
        ·rw[if_neg ap] at H
         exact absurd H (by simp)
       ·rw[if_neg ao] at H
        exact absurd H (by simp)
      ·rw[if_neg X] at H
       have bf:=aY X;clear X;obtain rfl:=aR H;go_wp2;go_ret;exact⟨zE,zB⟩
section
attribute [local go_sem] Oper.semAt_some
theorem zp (N:Int) (A0:Option Addr) (c0:Nat) (E:List S83) (w:World):Calls Tryz.prog 85 #[.agg #[.int .i64 N,.slice A0 E.length c0]] w fun e w'=>e= .returned (.func (.func 140) #[] #[.pointer (some ⟨w.heap.size,0,none⟩)])/\w'=w.alloc (.cells #[.int .i64 N,.slice A0 E.length c0] 24):=by
 go_enter Tryz.func85,Tryz.ntmps85
 go_wp2;go_ret;exact⟨rfl,rfl⟩
def eK (s:Nat) (a b:Int):Nat->List (Nat×Int×Int)
 |0=>[]
 |j+1=>eK s a b j++[(s+j,a,b)]
def a6 (E:List S83):Nat->List (Nat×Int×Int)
 |0=>[]
 |k+1=>a6 E k++eK (bN E k) (ab E k).f0 (ab E k).f1 (ab E k).f2.toNat
theorem pj (s:Nat) (a b:Int):∀j,(eK s a b j).length=j
 |0=>rfl
 |j+1=>by simp[eK,pj s a b j]
theorem lP (E:List S83):∀k,(a6 E k).length=bN E k
 |0=>rfl
 |k+1=>by simp[a6,bN,lP E k,pj]
def sR (base:Nat) (X Y:World):Prop:=(base<=X.heap.size->Below base X Y)/\∀(k:Nat) (cs:Array Value) (t:TypeId),(t=24\/t=83)->X.heap[k]? =some (Obj.cells cs t (0,0))->Y.heap[k]? =some (Obj.cells cs t (0,0))
theorem sS (s:Nat) (a b:Int) (j:Nat):∀m,j<m->(s+j,a,b)∈eK s a b m
 |0,h=>by omega
 |m+1,h=>by
  by_cases e:j=m
  ·subst e;exact List.mem_append.2 (.inr (List.mem_singleton.2 rfl))
  ·exact List.mem_append.2 (.inl (sS s a b j m (by omega)))
theorem sT (E:List S83):∀(m k:Nat),∀x∈a6 E k,x∈a6 E (k+m)
 |0,k,x,a=>a
 |m+1,k,x,a=>List.mem_append.2 (.inl (sT E m k x a))
theorem sU (s:Nat) (a b:Int):∀m,∀x∈eK s a b m,x.2.1=a/\x.2.2=b
 |0,x,e=>by cases e
 |m+1,x,e=>by
  rcases List.mem_append.1 e with e|e
  ·exact sU s a b m x e
  ·obtain rfl:=List.mem_singleton.1 e;exact⟨rfl,rfl⟩
theorem m_ (E:List S83):∀k,k<=E.length->∀x∈a6 E k,∃e∈E,x.2.1=e.f0/\x.2.2=e.f1
 |0,_,x,a=>by cases a
 |k+1,hk,x,a=>by
  rcases List.mem_append.1 a with a|a
  ·exact m_ E k (by omega) x a
  ·have h:=sU _ _ _ _ x a
   have e:ab E k=E[k]:=by simp[ab,aN,br (show k<E.length by omega)]
   exact⟨ab E k,by rw[e];exact List.getElem_mem _,h.1,h.2⟩
theorem zq (g:Nat) (N:Int) (A0:Option Addr) (c0:Nat) (E:List S83) (w0 W:World) (an:Kd.C aQ w0 A0 E.length E) (O:cJ E=true) (hB:Below w0.heap.size w0 W)
  (v:W.heap[g]? =some (.cells #[.int .i64 N,.slice A0 E.length c0] 24 (0,0))):
  gD (σ:=Unit) Fence.wide 9 Tryz.prog 140 #[.pointer (some ⟨g,0,none⟩)] (fun x:Nat×Int×Int=>#[.int .i64 x.1,.agg #[.int .i64 x.2.1,.int .i64 x.2.2]]) (fun _ W W1=>W1=W) (fun _ A B=>Below A.heap.size A B) (fun _ x A B=>x∈a6 E E.length/\Below A.heap.size A B)
   (fun _ X Y=>sR w0.heap.size X Y)
   (fun _ xs W'=>xs=a6 E E.length) (fun _ _ _=>True) (fun pre=>pre.length<2000) W:=by
 intro lp J Jx P Q R S;have ap:=zA P;have bi:=zA Q;have hY:=zA S;have av:=R () W rfl;clear P Q R S;have hu:=Tryz.underlying24;have bk:=Tryz.underlying83;obtain⟨hlen,hm⟩:=pc O;have aG:=fun i hi=>mW hm i hi
 have HM:=zA hm;have HS:=zA aG;clear hm aG O;refine callsIn_of_wp Tryz.func140 rfl trivial ?_ rfl;simp only[Tryz.ntmps140,List.size_toArray,List.length_cons,List.length_nil,Nat.reduceAdd,Nat.reduceSub,Array.replicate_succ,Array.replicate_zero,List.push_toArray,List.append_toArray,List.nil_append,List.cons_append];have bn:W.cell? ⟨g,1,none⟩=some (.slice A0 E.length c0):=(ah v 1).trans rfl;have aL:=zA v;clear v;gi_wp2;gi_loopg [3,9] (E.length) (fun w s i wr=>∃k:Nat,i= .int .i64 k/\s= .int .i64 (bN E k:Nat)/\k<=E.length/\Aside0 (J () (a6 E k) wr)/\Aside0 (wr.heap[g]? =some (.cells #[.int .i64 N,.slice A0 E.length c0] 24 (0,0)))/\Aside0 (Below w0.heap.size w0 wr)/\Aside0 (w=E.length-k))
 case atStart=>exact⟨0,rfl,rfl,Nat.zero_le _,⟨av⟩,aL,⟨hB⟩,⟨rfl⟩⟩
 case round=>
  obtain⟨k,rfl,rfl,hk,T,HX,p,HK⟩:=hrel;by_cases aS:k<E.length
  ·have y:=HM.out k aS
   have z:=Lib.hid (show bN E (k+1)=bN E k+(ab E k).f2.toNat from rfl);have D:=Lib.hid (show a6 E (k+1)=a6 E k++eK (bN E k) (ab E k).f0 (ab E k).f1 (ab E k).f2.toNat from rfl);have a0:=HS.out (k+1) (by omega);have F:=z.out;obtain⟨ad,rfl,l,n,o⟩:=fa an k (by omega) (by omega);rw[aq] at l n o;generalize ab E k=x at y l n o z D F;obtain⟨a,b,m⟩:=x;simp only at y l n o;obtain⟨m,rfl⟩:=Int.eq_ofNat_of_zero_le (show 0<=m by omega);simp only[aq] at F;have bo:bN E k+m<=2000:=by omega
   have bq:m<=50:=by omega
   have bv:(0:Int)<=(k:Int):=by omega
   have bw:(k:Int)<(E.length:Int):=by omega
   have l:=gj p.out l;have n:=gj p.out n;have o:=gj p.out o;have G:=zA (ap.out () _ _ _ T.out (af (ai wr.heap.size wr) (.cells #[.int .i64 a,.int .i64 b,.int .i64 m] 83)));have H:=zA (aj HX.out (.cells #[.int .i64 a,.int .i64 b,.int .i64 m] 83));have I:=zA (af p.out (.cells #[.int .i64 a,.int .i64 b,.int .i64 m] 83));have q:=zA (show (wr.alloc (.cells #[.int .i64 a,.int .i64 b,.int .i64 m] 83)).heap[wr.heap.size]? =some (.cells #[.int .i64 a,.int .i64 b,.int .i64 m] 83 (0,0)) from aU _ _);clear F a0 y;gi_wp2;clear l n o;generalize (wr.alloc (.cells #[.int .i64 a,.int .i64 b,.int .i64 m] 83))=W1 at G H I q⊢;generalize wr.heap.size=r at q⊢;gi_loopg [3,15] (m) (fun w s i wi=>∃j:Nat,i= .int .i64 j/\s= .int .i64 (bN E k+j:Nat)/\j<=m/\Aside0 (J () (a6 E k++eK (bN E k) a b j) wi)/\Aside0 (wi.heap[g]? =some (.cells #[.int .i64 N,.slice (some ad) E.length c0] 24 (0,0)))/\Aside0 (wi.heap[r]? =some (.cells #[.int .i64 a,.int .i64 b,.int .i64 m] 83 (0,0)))/\Aside0 (Below w0.heap.size w0 wi)/\Aside0 (w=m-j))
   case atStart=>exact⟨0,rfl,rfl,Nat.zero_le _,⟨by simpa [eK] using G.out⟩,H,q,I,⟨rfl⟩⟩
   case round=>
    clear G H I q;obtain⟨j,rfl,rfl,hj,U,V,K,L,a1⟩:=hrel;by_cases a2:j<m
    ·have a3:=lP E k
     have a4:=pj (bN E k) a b j;obtain⟨fn,tmps,b1,b2,M,Z⟩:=hY.out () (a6 E k++eK (bN E k) a b j) (bN E k+j,a,b) wr wr U.out ⟨by have h:=sT E (E.length- (k+1)) (k+1) (bN E k+j,a,b) (by rw[D.out];exact List.mem_append.2 (.inr (sS _ _ _ j _ (by rw[aq];exact a2))));rw[show k+1+(E.length- (k+1))=E.length by omega] at h;exact h,ai _ _⟩ (by rw[List.length_append];omega);have a5:=zA Z;simp only[Int.natCast_add] at M;have aa:wr.cell? ⟨r,0,none⟩=some (.int .i64 a):=(ah K.out 0).trans rfl;have ag:wr.cell? ⟨r,1,none⟩=some (.int .i64 b):=(ah K.out 1).trans rfl;clear Z a3 a4;gi_wp2;refine a5.out.mono ?_;rintro e W3 (⟨rfl,ak,u⟩|⟨rfl,am⟩)
     ·have a9:=zA ak
      have bb:=zA (u.2 g _ _ (.inl rfl) V.out);have bd:=zA (u.2 r _ _ (.inr rfl) K.out);have be:=zA (L.out.trans (u.1 L.out.size));clear ak u M aa ag;gi_wp2;gi_roundg (m- (j+1))
      case measure=>rw[a1.out];omega
      case rel=>exact⟨j+1,by go_num,by go_num,by omega,⟨by simpa [eK] using a9.out⟩,bb,bd,be,⟨rfl⟩⟩
     ·have bf:=zA am
      clear am M aa ag;gi_wp2;refine bodyPost_ret (results_none rfl _ _ _) rfl ?_;exact⟨⟨_,rfl⟩,.inr ⟨(),_,trivial,bf.out⟩⟩
    ·obtain rfl:j=m:=by omega
     gi_wp2;gi_roundg (E.length- (k+1))
     case measure=>rw[HK.out];omega
     case rel=>exact⟨k+1,by go_num,by rw[z.out,aq],by omega,⟨by rw[D.out,aq];exact U.out⟩,V,L,⟨rfl⟩⟩
  ·obtain rfl:k=E.length:=by omega
   gi_wp2;go_end0;exact⟨⟨_,rfl⟩,.inl ⟨(),_,rfl,T.out⟩⟩
theorem zr (b:Nat) (N:Int) (A0:Option Addr) (c0:Nat) (E:List S83) (w0 W:World) (g:Kd.C aQ w0 A0 E.length E) (h:cJ E=true) (i:Below w0.heap.size w0 W)
  (j:W.heap[b]? =some (.cells #[.int .i64 N,.slice A0 E.length c0] 24 (0,0))):
  gD (σ:=Unit) Fence.wide 9 Tryz.prog 140 #[.pointer (some ⟨b,0,none⟩)] (fun x:Nat×Int×Int=>#[.int .i64 x.1,.agg #[.int .i64 x.2.1,.int .i64 x.2.2]]) (fun _ W W1=>W1=W) (fun _ A B=>Below A.heap.size A B) (fun _ _ A B=>Below A.heap.size A B)
   (fun _ X Y=>sR w0.heap.size X Y)
   (fun _ xs W'=>xs=a6 E E.length) (fun _ _ _=>True) (fun pre=>pre.length<2000) W:=fun k J Jx l m n o=>zq b N A0 c0 E w0 W g h i j k J Jx (fun s pre A B a e=>l s pre A B a e) (fun s pre A B a e=>m s pre A B a e) n (fun s pre x p W1 a q r=>o s pre x p W1 a q.2 r)
end
end Go.Proofs.YtffdiakgjakngaaGreat.P
namespace Go.Proofs.YtffdiakgjakngaaGreat.P
open Go Go.RowKit
set_option linter.unusedVariables false
set_option linter.unusedSimpArgs false
set_option maxHeartbeats 8000000
set_option maxRecDepth 100000
section
variable {F:Fence} {n:Nat} {P:Program}
theorem zt {σ α:Type} {g:Operand} {ps:Array Tmp} {assign body:Code} {Q:Exit->Act->World->Prop} {a:Act} {w:World}
  (aS:F.round=none) (h1:1<=n) {gf:Nat} {lb:Array Value} (hg:a.eval g= .func (.func gf) #[] lb) (a1:F.fn gf) (eg:∀args w,(callFunc gf args).run P w= .ok (.enter gf args) w)
  {bu:α->Array Value} {Start:σ->World->World->Prop} {M:σ->World->World->Prop} {T:σ->α->World->World->Prop} {z:σ->World->World->Prop} {S Sp:σ->List α->World->Prop} {Bd:List α->Prop}
  (a4:∀o,gD F (n-1) P gf lb bu Start M T z S Sp Bd ((w.alloc (.deferred (some []))).alloc (.loop o))) (a5:∀x,(bu x).size=ps.size)
  (m:σ->Prop) (a9:∀o s W1,Start s ((w.alloc (.deferred (some []))).alloc (.loop o)) W1->m s/\bI w.heap.size ((w.alloc (.deferred (some []))).alloc (.loop o)) W1)
  (N:∀s A B,m s->M s A B->bI w.heap.size A B) (bb:∀s x A B,m s->T s x A B->bI w.heap.size A B)
  (I:σ->List α->World->Prop) (u:Code->σ->List α->World->Prop)
  (bd:∀s pre A B,m s->I s pre A->M s A B->I s pre B) (be:∀c s pre A B,m s->u c s pre A->M s A B->u c s pre B)
  (bf:∀s pre A B,I s pre A->Bk (w.heap.size+1) A B->I s pre B) (bg:∀c s pre A B,u c s pre A->Bk (w.heap.size+1) A B->u c s pre B)
  (bi:∀s A B C D,Bk (w.heap.size+1) A B->z s B C->Bk (w.heap.size+1) C D->z s A D)
  (h0:∀o s W1,Start s ((w.alloc (.deferred (some []))).alloc (.loop o)) W1->I s [] W1) (a₁:α->World->Act) (J:α->World->World)
  (bn:∀x W,bI w.heap.size W (J x W)) (bo:∀s x A D,z s (J x A) D->z s A D)
  (bq:∀(l:Nat) (x:α) (W:World) (K:Act->World->Prop),K (a₁ x W) (J x W)->
   assign.wpIn (F.inRound l) (n-1-1) P (Exit.then K (fun _ _ _=>False)) {tmps:=(ps.zip (bu x)).foldl (fun t (p,v)=>t.setIfInBounds p v) a.tmps,defers:=[]} W)
  (bv:∀(l:Nat) (s:σ) (pre:List α) (x:α) (L W1 W:World),m s->I s pre L->T s x L W1->Bd pre->Bk (w.heap.size+1) (J x W1) W->body.wpIn (F.inRound l) (n-1-1) P (sM (σ:=σ) w.heap.size (z s) (I s) (fun c=>u c s) (pre++[x]) W) (a₁ x W1) W)
  (bw:∀(s:σ) (xs:List α) (W W':World),m s->S s xs W->I s xs W->Bk (w.heap.size+1) W W'->W'.heap[w.heap.size]? =some (.deferred (some []))->Q .normal {a with defers:={target:=.collected w.heap.size,args:=#[]}::a.defers} W')
  (bx:∀(c:Code) (s:σ) (pre:List α) (W W':World),m s->Sp s pre W->u c s pre W->Bk (w.heap.size+1) W W'->W'.heap[w.heap.size]? =some (.deferred (some []))->c.wpIn F n P Q {a with defers:={target:=.collected w.heap.size,args:=#[]}::a.defers} W'):
  (Code.rangeFunc g ps assign body).wpIn F n P Q a w:=by
 refine wpIn_rangeFunc ?_;intro fn b0;rw[aS];obtain⟨rec,q⟩:∃rec:LoopState->Option Code->Loop,rec=fun st pe=>{state:=st,pending:=pe,fn,tmps:=a.tmps,params:=ps,assign,body,defers:=w.heap.size}:=⟨_,rfl⟩
 obtain⟨W1,E⟩:∃W1,(w.alloc (.deferred (some []))).alloc (.loop (rec .ready none))=W1:=⟨_,rfl⟩;have b2:W1.heap[w.heap.size+1]? =some (.loop (rec .ready none)):=by
  rw[<-E];have:=World.alloc_heap_new (w.alloc (.deferred (some []))) (.loop (rec .ready none));rwa [World.size_alloc] at this
 have b3:W1.heap[w.heap.size]? =some (.deferred (some [])):=by
  rw[<-E];exact(Below.heap_alloc _ _ _ (by simp)).trans (World.alloc_heap_new w _)
 refine⟨w.heap.size+1,[{target:=.collected w.heap.size,args:=#[]}],W1,{target:=.fn (.func gf) lb,args:=#[.func (.yield (w.heap.size+1)) #[] #[]]},W1,gf,
  #[.func (.yield (w.heap.size+1)) #[] #[]]++lb,W1,?_,?_,?_,?_,fun _=>h1,?_⟩
 ·rw[<-E,q];exact run_enterLoop_outer _ _ _ _ _
 ·simp only[resolve,hg]
  simp[go_sem]
 ·intro f' aB;simp[Target.leads] at aB;subst aB;exact a1
 ·simp[invoke,go_sem,eg]
 ·have hs:=a4 (rec .ready none)
  rw[E] at hs;have ld:∀{A B:World} {r:Loop},bI w.heap.size A B->A.heap[w.heap.size+1]? =some (.loop r)->B.heap[w.heap.size+1]? =some (.loop r):=fun h U=>h _ _ (by omega) (by omega) U rfl
  have G:∀{A B:World},bI w.heap.size A B->A.heap[w.heap.size]? =some (.deferred (some []))->B.heap[w.heap.size]? =some (.deferred (some [])):=fun h U=>h _ _ (by omega) (by omega) U rfl
  refine(hs (w.heap.size+1)
   (fun s pre W=>m s/\I s pre W/\W.heap[w.heap.size+1]? =some (.loop (rec .ready none))/\W.heap[w.heap.size]? =some (.deferred (some [])))
   (fun s pre W=>m s/\∃c,u c s pre W/\W.heap[w.heap.size+1]? =some (.loop (rec .done (some c)))/\W.heap[w.heap.size]? =some (.deferred (some [])))
   (fun s pre A B h j=>⟨h.1,bd s pre A B h.1 h.2.1 j,ld (N s A B h.1 j) h.2.2.1,G (N s A B h.1 j) h.2.2.2⟩)
   (fun s pre A B h j=>by
    obtain⟨i,c,hc,b,hk⟩:=h;exact⟨i,c,be c s pre A B i hc j,ld (N s A B i j) b,G (N s A B i j) hk⟩)
   (fun s W2 j=>by
    rw[<-E] at j;have hk:=a9 (rec .ready none) s W2 j;have y:=hk.2;rw[E] at y;exact⟨hk.1,h0 _ s W2 j,ld y b2,G y b3⟩)
   ?_).mono ?_
  ·rintro s pre x L W ⟨i,hi,aL,aO⟩ V b5
   have y:=bb s x L W i V;have b:=ld y aL;have hk:=G y aO;have X:=run_yield (P:=P) (args:=bu x) b (by rw[q];exact a5 x);rw[q] at X;obtain⟨Y,b6⟩:∃Y,Y=W:=⟨_,rfl⟩;have O:=bn x W;have b:=ld O b;have hk:=G O hk;have Z:=fun D=>bo s x W D
   have aa:=bv (w.heap.size+1) s pre x L W;have ad:=bq (w.heap.size+1) x W;clear y aL aO;rw[<-b6] at X ad Z aa b hk O V⊢;generalize ce:J x Y=W at b hk O Z aa ad;have b_:w.heap.size+1<W.heap.size:=(Array.getElem?_eq_some_iff.1 b).1;have aP:Bk (w.heap.size+1) W (W.putObj (w.heap.size+1) (.loop {rec .ready none with state:=.busy})):=⟨_,_,b,rfl,rfl⟩;refine⟨fn,_,assign,body,X,roundIn_of_wpIn b0 (ad _ ⟨_,run_beginRound b (by rw[q]),?_⟩)⟩;have b':(W.putObj (w.heap.size+1) (.loop {rec .ready none with state:=.busy})).heap[w.heap.size+1]? =some (.loop {rec .ready none with state:=.busy}):=World.putObj_heap_same b_;have ca:(W.putObj (w.heap.size+1) (.loop {rec .ready none with state:=.busy})).heap[w.heap.size]? =some (.deferred (some [])):=(World.putObj_heap_other (by omega)).trans hk;refine wpIn_mono (aa _ i hi V b5 aP) ?_;have fin:∀(jump:Option Code) (k:World),bI w.heap.size (W.putObj (w.heap.size+1) (.loop {rec .ready none with state:=.busy})) k->
     (Instr.endRound (w.heap.size+1) jump).run P k= .ok (.bool jump.isNone) (k.putObj (w.heap.size+1) (.loop (rec (if jump.isNone then .ready else .done) jump)))/\
     Bk (w.heap.size+1) k (k.putObj (w.heap.size+1) (.loop (rec (if jump.isNone then .ready else .done) jump)))/\
     (k.putObj (w.heap.size+1) (.loop (rec (if jump.isNone then .ready else .done) jump))).heap[w.heap.size+1]? =some (.loop (rec (if jump.isNone then .ready else .done) jump))/\
     (k.putObj (w.heap.size+1) (.loop (rec (if jump.isNone then .ready else .done) jump))).heap[w.heap.size]? =some (.deferred (some [])):=fun jump k H=>by
    have ag:=ld H b';have:=run_endRound (P:=P) jump ag;rw[q] at this⊢;exact⟨this,⟨_,_,ag,rfl,rfl⟩,World.putObj_heap_same (Array.getElem?_eq_some_iff.1 ag).1,(World.putObj_heap_other (by omega)).trans (G H ca)⟩
   rintro e a3 k hp;cases e with
   |normal=>
    obtain⟨H,cb,ak⟩:=hp;obtain⟨hr,R,an,ao⟩:=fin none k H;exact⟨_,_,hr,.inl ⟨rfl,⟨i,bf s _ _ _ ak R,an,ao⟩,Z _ (bi s _ _ _ _ aP cb R)⟩⟩
   |ret=>
    obtain⟨H,ak⟩:=hp;obtain⟨hr,R,an,ao⟩:=fin (some .ret) k H;exact⟨_,_,hr,.inr ⟨rfl,i,.ret,bg _ s _ _ _ ak R,an,ao⟩⟩
   |exit id=>exact hp.elim
   |goto t=>exact hp.elim
   |panic ch=>exact hp.elim
   |outgrown=>exact hp.elim
  ·rintro e W2 ⟨⟨v,rfl⟩,(⟨s,xs,hS,i,hi,b,hk⟩|⟨s,pre,cc,i,c,hi,b,hk⟩)⟩
   ·exact⟨none,_,by have:=run_endLoop (P:=P) b (by rw[q];simp);rw[q] at this;exact this,bw s xs W2 _ i hS hi ⟨_,_,b,rfl,rfl⟩ ((World.putObj_heap_other (by omega)).trans hk)⟩
   ·exact⟨some c,_,by have:=run_endLoop (P:=P) b (by rw[q];simp);rw[q] at this;exact this,bx c s pre W2 _ i cc hi ⟨_,_,b,rfl,rfl⟩ ((World.putObj_heap_other (by omega)).trans hk)⟩
end
end Go.Proofs.YtffdiakgjakngaaGreat.P
namespace Go.Proofs.YtffdiakgjakngaaGreat.P
open Go.RowKit Go.Proofs.YtffdiakgjakngaaGreatW.PrintWords Go.Proofs.YtffdiakgjakngaaGreatW.PrintLast Go.Proofs.YtffdiakgjakngaaGreatW.PrintMore
set_option linter.unusedVariables false
set_option linter.unusedSimpArgs false
set_option maxHeartbeats 8000000
set_option maxRecDepth 100000
section
attribute [local go_sem] Oper.semAt_some
def ez (xs:List (Nat×Int×Int)):List (List Value):=xs.map fun x=>[.int .i64 x.2.1,.int .i64 x.2.2]
theorem pk (k:Nat) (N:Int) (A0:Option Addr) (c0:Nat) (E:List S83) (w:World) (T:Kd.C aQ w A0 E.length E) (an:E.length<=c0) (m:aW.f k N E=some 0) (U:cJ E=true):
  Calls Tryz.prog 178 #[.agg #[.int .i64 N,.slice A0 E.length c0]] w fun e w'=>∃v,e= .returned (.tuple #[v,.int .i64 0])/\(Kd.raw 2).R 205 w' w.heap.size (fun _=>True) v (ez (a6 E E.length))/\Below w.heap.size w w':=by
 have hu:=Tryz.underlying24;have Ht:=zA m;have HE:=zA U;clear m U;refine(callsIn_wide (n:=10)).1 ?_;refine callsIn_of_wp_marks Tryz.func178 rfl trivial ?_ rfl;simp only[Tryz.ntmps178,List.size_toArray,List.length_cons,List.length_nil,Nat.reduceAdd,Nat.reduceSub,Array.replicate_succ,Array.replicate_zero,List.push_toArray,List.append_toArray,List.nil_append,List.cons_append];gi_wp2_with (first|(refine⟨trivial,?_⟩;gi_at_call 64;refine(callsIn_wide.2 (aW.calls k N A0 c0 E 0 _ (Kd.bp T _) an Ht.out)).mono ?_;rintro e w1 ⟨rfl,hb⟩;have r:=zA (au (aU w (.cells #[.int .i64 N,.slice A0 E.length c0] 24)) hb);have av:w1.cell? ⟨w.heap.size,0,none⟩=some (.int .i64 N):=(ah r.out 0).trans rfl;have aB:w1.cell? ⟨w.heap.size,1,none⟩=some (.slice A0 E.length c0):=(ah r.out 1).trans rfl;have aF:(w1.alloc (.cells #[.slice none 0 0] 156)).cell? ⟨w.heap.size,0,none⟩=some (.int .i64 N):=(ah (aj r.out _) 0).trans rfl;have aL:(w1.alloc (.cells #[.slice none 0 0] 156)).cell? ⟨w.heap.size,1,none⟩=some (.slice A0 E.length c0):=(ah (aj r.out _) 1).trans rfl;have V:=zA (aC (af (ai w.heap.size w) _) hb);clear hb)|(refine⟨trivial,?_⟩;gi_at_call 85;refine(callsIn_wide.2 (zp N A0 c0 E _)).mono ?_;rintro e w3 ⟨rfl,rfl⟩))
 have aO:w.heap.size<w1.heap.size:=ay r.out;have z:=zA (show ((w1.alloc (.cells #[.slice none 0 0] 156)).alloc (.cells #[.int .i64 N,.slice A0 E.length c0] 24)).heap[w1.heap.size]? =some (.cells #[.slice none 0 0] 156 (0,0)) from aj (aU w1 _) _);have H:=zA (show ((w1.alloc (.cells #[.slice none 0 0] 156)).alloc (.cells #[.int .i64 N,.slice A0 E.length c0] 24)).heap[w1.heap.size+1]? =some (.cells #[.int .i64 N,.slice A0 E.length c0] 24 (0,0)) from heap_alloc2_new w1 _ _);have I:=zA (af (af V.out (.cells #[.slice none 0 0] 156)) (.cells #[.int .i64 N,.slice A0 E.length c0] 24));clear av aB aF aL r V;generalize ((w1.alloc (.cells #[.slice none 0 0] 156)).alloc (.cells #[.int .i64 N,.slice A0 E.length c0] 24))=u at z H I⊢;have aP:=ay z.out;have aS:=ay H.out;generalize a0:w1.heap.size+1=X at H aS⊢;generalize w1.heap.size=bo at z aO aP a0⊢;have bg:=I.out.size;refine zt (σ:=Unit) (α:=Nat×Int×Int) (F:=Fence.wide) (n:=10) rfl (by decide) (gf:=140) (lb:=#[.pointer (some ⟨X,0,none⟩)]) rfl trivial (enters_of Tryz.func140 (by kernel_rfl) rfl)
  (fun o=>zr X N A0 c0 E w _ T HE.out (af (af I.out _) _) (aj (aj H.out _) _)) (fun _=>rfl)
  (fun _=>True) ?dT ?st ?ar
  (fun _ pre W=>u.heap.size<=W.heap.size/\∃v,W.heap[bo]? =some (.cells #[v] 156 (0,0))/\(Kd.raw 2).R 205 W w.heap.size (fun _=>True) v (ez pre)/\Below w.heap.size w W) (fun _ _ _ _=>False)
  ?is (fun _ _ _ _ _ _ h _=>h) ?ib (fun _ _ _ _ _ h _=>h) ?kt ?h0 ?a1 (fun x W=>W.alloc (.cells #[.int .i64 x.2.1,.int .i64 x.2.2] 116)) ?hw ?FF ?assign ?body ?done (fun _ _ _ _ _ _ _ h=>h.elim)
 case assign=>
  intro l x W K hK;gi_wp2;exact hK
 case dT=>
  intro o s W1 h;exact⟨trivial,by rw[h];exact bI.refl _ _⟩
 case st=>intro s A B _ h k o h1 y g _;exact(h.block k (Array.getElem?_eq_some_iff.1 g).1).trans g
 case ar=>intro s x A B _ h k o h1 y g _;exact(h.block k (Array.getElem?_eq_some_iff.1 g).1).trans g
 case hw=>intro x W k o h1 y g _;exact aj g _
 case FF=>
  intro s x A D h;exact⟨fun aG=>((ai w.heap.size A).alloc aG _).trans (h.1 (by simp;omega)),fun k cs t m hk=>h.2 k cs t m (aj hk _)⟩
 case is=>
  rintro s pre A B _ ⟨q,v,h1,y,g⟩ J;exact⟨Nat.le_trans q J.size,v,au h1 J,Kd.b7 y J,aC g J⟩
 case ib=>
  rintro s pre A B ⟨q,v,h1,y,g⟩ hb;exact⟨by rw[hb.size];exact q,v,hb.cells h1,cC y hb,g.trans (hb.below w.heap.size (by omega))⟩
 case kt=>
  intro s A B C D O Y Z;exact⟨fun aG=>((O.below w.heap.size (by omega)).trans (Y.1 (by rw[O.size];exact aG))).trans (Z.below w.heap.size (by omega)),fun k cs t m hk=>Z.cells (Y.2 k cs t m (O.cells hk))⟩
 case h0=>
  rintro o s W1 rfl;exact⟨by simp;omega,_,aj (aj z.out _) _,Kd.c_ _ _ _ _ _,af (af I.out _) _⟩
 case body=>
  rintro l s pre ⟨i,a,b⟩ Wb W1 W _ ⟨q,v,i1,i2,i3⟩ G bk j;have c1:=au i1 G;have c2:=Kd.b7 i2 G;have c3:=aC i3 G;have a3:u.heap.size<=W1.heap.size:=Nat.le_trans q G.size;have b1:=zA (j.cells (aj c1 (.cells #[.int .i64 a,.int .i64 b] 116)));have p:=zA (cC (Kd.aK c2 (.cells #[.int .i64 a,.int .i64 b] 116)) j);have b3:=zA ((af c3 (.cells #[.int .i64 a,.int .i64 b] 116)).trans (j.below w.heap.size (by omega)));have b4:=zA (j.cells (aU W1 (.cells #[.int .i64 a,.int .i64 b] 116)));have aG:W.heap.size=W1.heap.size+1:=by rw[j.size];simp
  have bn:u.heap.size<=W.heap.size:=by omega
  clear i1 i2 i3 G j c1 c2 c3 aG a3 q;generalize W1.heap.size=pb at b4⊢;obtain⟨Ar,cr,rfl⟩:=Kd.bE p.out;have ad:(ez pre).length=pre.length:=by simp[ez]
  rw[ad] at b1 p;have hc:=cB b1.out;have hf:=bc b1.out 0;have bv:W.cell? ⟨pb,0,none⟩=some (.int .i64 a):=(ah b4.out 0).trans rfl;have bw:W.cell? ⟨pb,1,none⟩=some (.int .i64 b):=(ah b4.out 1).trans rfl;have LN:Aside0 (((ez pre).length+1)*16<=140737488355328):=⟨by rw[ad];omega⟩;have b0:=Tryz.underlying116;gi_wp2_with (gi_at_builtin;go_loud (refine jd (Kd.raw 2) (w0:=w) w.heap.size rfl (.tmp 17) (.tmp 23) 156 205 (.agg #[.int .i64 0,.int .i64 0]) 16 rfl Tryz.underlying156 sJ rfl (by decide) (by omega) _ _ [.int .i64 a,.int .i64 b] [.int .i64 a,.int .i64 b] (fun _=>True) (fun _=>False) rfl rfl ⟨rfl,rfl,by simp[Value.oneCell']⟩ (fun _ hk=>hk.elim) (fun _ _=>trivial) p.out b3.out b3.out.size LN.out ?_;intro v1 b5 P hb Q a9;obtain⟨S,c1,rfl⟩:=Kd.bE P;have L:=zA ((Q.block bo (ay b1.out) (Kd.cW p.out b1.out (by decide))).trans b1.out);have b6:=cB L.out;have b_:=bc L.out 0;have bb:=zA P;have bd:=zA hb;have M:=zA Q;clear P hb Q a9))
  have be:(ez pre++[[Value.int .i64 a,Value.int .i64 b]]).length=pre.length+1:=by simp[ez]
  refine⟨(lN p.out M.out).trans (eu _ _ (ay z.out)),⟨fun aG=>Below.setCell ((ai w.heap.size W).grown M.out aG (Kd.ee p.out)) (by show w.heap.size<=bo;omega) _,fun k cs t m hk=>?_⟩,by have:=M.out.size;simp;omega,.slice S (pre.length+1) c1,by simpa using bB L.out 0 (.slice S (pre.length+1) c1),?_,dz bd.out (by show w.heap.size<=bo;omega)⟩
  ·have bf:k≠bo:=by
    rintro rfl;have h1:=hk.symm.trans b1.out;injection h1 with h1
    injection h1 with _ h1 _
    rcases m with rfl|rfl<;>exact absurd h1 (by decide)
   rw[Below.heap_setCell _ _ _ _ bf];exact(M.out.block k (ay hk) (Kd.cW p.out hk (by rcases m with rfl|rfl<;>decide))).trans hk
  ·have h:=Kd.ep bb.out L.out (by decide) 0 (.slice S (pre.length+1) c1)
   rw[be] at h;simpa [ez] using h
 case done=>
  rintro s xs W W' _ rfl ⟨q,v,i1,i2,i3⟩ j ag;have b1:=zA (j.cells i1);have p:=zA (cC i2 j);have b3:=zA (i3.trans (j.below w.heap.size (by omega)));have ak:=zA ag;clear i1 i2 i3 ag;have hc:=cB b1.out;gi_wp2_with fail
  have am:Bk u.heap.size W' (W'.putObj u.heap.size (.deferred none)):=⟨_,_,ak.out,rfl,rfl⟩;exact iB (D:=u.heap.size) rfl ak.out (results_tmp2 rfl _ _ _) ⟨_,rfl,cC p.out am,b3.out.trans (am.below w.heap.size (by omega))⟩
end
section
theorem lQ (L:List (Nat×Int×Int)):(ez L).length=L.length:=by simp[ez]
theorem sV {s:Nat} {a b:Int}:∀{j:Nat} {x:Nat×Int×Int},x∈eK s a b j->x.2.1=a/\x.2.2=b
 |0,x,h=>absurd h (by simp[eK])
 |j+1,x,h=>by
  simp only[eK,List.mem_append,List.mem_singleton] at h;rcases h with h|rfl
  ·exact sV h
  ·exact⟨rfl,rfl⟩
theorem sW {n:Nat} {E:List S83} (h:∀k,k<E.length->0<=(ab E k).f0/\(ab E k).f0<n/\0<=(ab E k).f1/\(ab E k).f1<n/\1<=(ab E k).f2/\(ab E k).f2<=50):
  ∀k,k<=E.length->∀x∈a6 E k,0<=x.2.1/\x.2.1<n/\0<=x.2.2/\x.2.2<n
 |0,_=>fun x a=>absurd a (by simp[a6])
 |k+1,hk=>fun x a=>by
  simp only[a6,List.mem_append] at a;rcases a with a|a
  ·exact sW h k (by omega) x a
  ·obtain⟨h1,b⟩:=sV a
   have:=h k (by omega);omega
theorem zu {n:Nat} {E:List S83} (h:∀k,k<E.length->0<=(ab E k).f0/\(ab E k).f0<n/\0<=(ab E k).f1/\(ab E k).f1<n/\1<=(ab E k).f2/\(ab E k).f2<=50):
  ∀x∈a6 E E.length,0<=x.2.1/\x.2.1<n/\0<=x.2.2/\x.2.2<n:=sW h _ (aM _)
theorem sX {E:List S83} (h:cJ E=true):(a6 E E.length).length<=2000:=by
 obtain⟨h1,a⟩:=pc h;have:=mW a E.length (aM _);rw[lP];omega
def gE (l:List Int) (v:Nat):List Int:=l.set v (rd l v+1)
def fE (l:List Int) (x:Nat×Int×Int):List Int:=if x.2.1=x.2.2 then l else gE (gE l x.2.1.toNat) x.2.2.toNat
def dh (n:Nat) (L:List (Nat×Int×Int)) (k:Nat):List Int:=(L.take k).foldl fE (List.replicate n 0)
theorem zv (l:List Int) (v:Nat):(gE l v).length=l.length:=by simp[gE]
theorem zw (l:List Int) (x:Nat×Int×Int):(fE l x).length=l.length:=by
 unfold fE;split<;>simp[zv]
theorem sY:∀(L:List (Nat×Int×Int)) (l:List Int),(L.foldl fE l).length=l.length
 |[],l=>rfl
 |x::L,l=>by rw[List.foldl_cons,sY L,zw]
theorem sZ (n:Nat) (L:List (Nat×Int×Int)) (k:Nat):(dh n L k).length=n:=by simp[dh,sY]
theorem zx (n:Nat) (L:List (Nat×Int×Int)) (k:Nat) (hk:k<L.length):dh n L (k+1)=fE (dh n L k) L[k]:=by
 unfold dh;rw[List.take_succ_eq_append_getElem hk,List.foldl_append];rfl
theorem zy {l:List Int} {v:Nat} {B:Int} {x:Int} (h:∀i:Nat,0<=rd l i/\rd l i<=B) (a:0<=x/\x<=B+1) (i:Nat):0<=rd (l.set v x) i/\rd (l.set v x) i<=B+1:=by
 have hi:=h i;simp only[rd,aq,aN,List.getElem?_set] at hi⊢;split
 ·split
  ·simpa using a
  ·simp;omega
 ·omega
theorem pn {l:List Int} {v:Nat} {B:Int} (h:∀i:Nat,0<=rd l i/\rd l i<=B) (i:Nat):0<=rd (gE l v) i/\rd (gE l v) i<=B+1:=
 zy h (by have:=h v;omega) i
theorem zz {l:List Int} {x:Nat×Int×Int} {B:Int} (h:∀i:Nat,0<=rd l i/\rd l i<=B) (i:Nat):0<=rd (fE l x) i/\rd (fE l x) i<=B+2:=by
 unfold fE;split
 ·have:=h i;omega
 ·have:=pn (v:=x.2.2.toNat) (pn (v:=x.2.1.toNat) h) i;omega
theorem s6:∀(L:List (Nat×Int×Int)) (l:List Int) (B:Int),(∀i:Nat,0<=rd l i/\rd l i<=B)->∀i:Nat,0<=rd (L.foldl fE l) i/\rd (L.foldl fE l) i<=B+2*L.length
 |[],l,B,h=>fun i=>by have:=h i;simpa using this
 |x::L,l,B,h=>fun i=>by
  have:=s6 L (fE l x) (B+2) (zz h) i;simp only[List.foldl_cons,List.length_cons];omega
theorem s7 (n:Nat) (L:List (Nat×Int×Int)) (k:Nat) (i:Nat):0<=rd (dh n L k) i/\rd (dh n L k) i<=2*L.length:=by
 have h:=s6 (L.take k) (List.replicate n 0) 0 (fun i=>by simp[rd,aN,List.getElem?_replicate];split<;>simp) i;have a:(L.take k).length<=L.length:=by simp;omega
 unfold dh;omega
theorem zD {W:World} {gb n:Nat} {ok:Nat->Prop} {g0 len cap:Nat} {rows:List (List Int)} (h:Kd.S (Kd.slice 3 (Kd.int .i64)) 25 W gb ok (.slice (some ⟨g0,0,none⟩) len cap) rows) (s:rows.length=len) (m:∀y∈rows,y.length=n) (a b:Nat) (C:a<len) (hb:b<n):
  ∃(gi ci:Nat) (z:Int),W.cell? ⟨g0,a,none⟩=some (.slice (some ⟨gi,0,none⟩) n ci)/\W.cell? ⟨gi,b,none⟩=some (.int .i64 z)/\W.frozen? ⟨gi,b,none⟩=false/\ok gi/\gb<=gi/\(∃cells,W.heap[gi]? =some (.cells cells 3 (0,0)))/\
   ∀x:Int,∃i:List (List Int),i.length=len/\(∀y∈i,y.length=n)/\Kd.S (Kd.slice 3 (Kd.int .i64)) 25 (W.setCell ⟨gi,b,none⟩ (.int .i64 x)) gb ok (.slice (some ⟨g0,0,none⟩) len cap) i:=by
 obtain⟨oki,c,D,⟨ev,rfl,g⟩,j,u,l⟩:=Kd.xZ h [] (a:Int) (by omega) (by omega);rw[aq] at g j l;have o:(rows.getD a []).length=n:=by
  rw[aN,br (by omega)];exact m _ (List.getElem_mem (by omega))
 obtain⟨gi,ci,rfl,v,E,cells,w⟩:=Kd.fB g (by omega);rw[o] at g l j;obtain⟨p,q⟩:=Kd.bG (0:Int) g (b:Int) (by omega) (by omega);rw[aq] at p q;have r:=j 0 _ rfl;refine⟨gi,ci,_,?_,p,q,(u gi (g.1 gi rfl)).1,v,⟨cells,w⟩,fun x=>⟨rows.set a ((rows.getD a []).set b x),by simp[s],?_,?_⟩⟩
 ·rw[show (⟨g0,0,none⟩:Addr).add (a*(Kd.slice 3 (Kd.int .i64)).sz+0)=⟨g0,a,none⟩ from by simp[Kd.slice,Addr.add];intro e;exact e.symm] at r
  exact r
 ·intro y B
  rcases List.mem_or_eq_of_mem_set B with h1|h1
  ·exact m y h1
  ·subst h1;simpa using o
 ·have hp:=Kd.cY g (b:Int) x
  rw[aq] at hp;exact l hp.2 (fun k hk=>by cases hk;exact g.1 gi rfl) ⟨_,rfl,hp.1⟩
theorem s8 {w:World} {A:Option Addr} {n:Nat} {L:List (Nat×Int×Int)} (h:Kd.C (Kd.raw 2) w A n (ez L)) (j:Nat) (m:j<n) (i:j<L.length):∃ad,A=some ad/\w.cell? (ad.add (j*2))=some (.int .i64 L[j].2.1)/\w.cell? ⟨(ad.add (j*2)).block,(ad.add (j*2)).off+1,none⟩=some (.int .i64 L[j].2.2):=by
 obtain⟨ad,c,e,_,a,b⟩:=Kd.ou h [] (j:Int) (by omega) (by omega);rw[aq] at a b;have l:(ez L).getD j []=[.int .i64 L[j].2.1,.int .i64 L[j].2.2]:=by
  rw[aN,br (by simpa [ez] using i)];simp[ez]
 rw[l] at a;obtain rfl:=a.1;have g:∀k u,[Value.int .i64 L[j].2.1,.int .i64 L[j].2.2][k]? =some u->w.cell? (ad.add (j*2+k))=some u:=b;exact⟨ad,e,g 0 _ rfl,by rw[<-om _ _ 1 (by omega)];exact g 1 _ rfl⟩
structure PS (w:World) (gb n gp bv g0 cr:Nat) (q:Int) (dv:Value) (dl:List Int) (ev:Value) (L:List (Nat×Int×Int)) (W:World) (rows:List (List Int)) (vl:List Int):Prop where
 len:rows.length=n
 all:∀y∈rows,y.length=n
 gF:cf W gp dv q (.slice (some ⟨g0,0,none⟩) n cr) (.slice (some ⟨bv,0,none⟩) n n) (fun _=>false)
 d:(Kd.int .i64).R 3 W gb (fun k=>k≠bv) dv dl
 val:(Kd.int .i64).R 3 W gb (fun k=>some k≠dv.ownBlock) (.slice (some ⟨bv,0,none⟩) n n) vl
 rows:Kd.S (Kd.slice 3 (Kd.int .i64)) 25 W gb (fun k=>some k≠dv.ownBlock/\k≠bv) (.slice (some ⟨g0,0,none⟩) n cr) rows
 ends:(Kd.raw 2).R 205 W gb (fun _=>True) ev (ez L)
 below:Below gb w W
namespace PS
variable {w:World} {gb n gp bv g0 cr:Nat} {q:Int} {dv:Value} {dl:List Int} {ev:Value} {L:List (Nat×Int×Int)} {W:World} {rows:List (List Int)} {vl:List Int}
theorem drewN (h:PS w gb n gp bv g0 cr q dv dl ev L W rows vl) (m:Nat):PS w gb n gp bv g0 cr q dv dl ev L (W.drewN m) rows vl:=
 ⟨h.len,h.all,h.gF,Kd.cO h.d m,Kd.cO h.val m,Kd.xO h.rows m,Kd.cO h.ends m,cz h.below m⟩
theorem row (h:PS w gb n gp bv g0 cr q dv dl ev L W rows vl) (a b:Nat) (k:a<n) (hb:b<n):∃(gi ci:Nat) (z:Int),W.cell? ⟨g0,a,none⟩=some (.slice (some ⟨gi,0,none⟩) n ci)/\W.cell? ⟨gi,b,none⟩=some (.int .i64 z)/\W.frozen? ⟨gi,b,none⟩=false/\
  ∀x:Int,∃g,PS w gb n gp bv g0 cr q dv dl ev L (W.setCell ⟨gi,b,none⟩ (.int .i64 x)) g vl:=by
 obtain⟨gi,ci,z,h1,l,m,⟨o,p⟩,r,⟨cells,j⟩,s⟩:=zD h.rows h.len h.all a b k hb;refine⟨gi,ci,z,h1,l,m,fun x=>?_⟩;obtain⟨g,l1,l2,u⟩:=s x;have i:W.grownBy (W.setCell ⟨gi,b,none⟩ (.int .i64 x)) (some gi):=sF (ai _ _);refine⟨g,l1,l2,h.gF.grown i (fun e=>?_),Kd.gA h.d rfl i o,Kd.gA h.val rfl i (fun e=>p (by simpa [Value.ownBlock] using e)),u,Kd.ep h.ends j (by decide) _ _,Below.setCell h.below r _⟩;obtain⟨cs,hp,_⟩:=h.gF;injection e with e
 subst e;rw[j] at hp;injection hp with hp
 injection hp with _ hp _
 exact absurd hp (by decide)
theorem s9 (h:PS w gb n gp bv g0 cr q dv dl ev L W rows vl) (a:Nat) (j:a<n):W.cell? ⟨bv,a,none⟩=some (.int .i64 (rd vl a))/\W.frozen? ⟨bv,a,none⟩=false/\
  ∀x:Int,PS w gb n gp bv g0 cr q dv dl ev L (W.setCell ⟨bv,a,none⟩ (.int .i64 x)) rows (vl.set a x):=by
 obtain⟨h1,i⟩:=Kd.bG (0:Int) h.val (a:Int) (by omega) (by omega);rw[aq] at h1 i;obtain⟨cells,hb⟩:=Kd.fP h.val bv rfl;refine⟨h1,i,fun x=>?_⟩;have hp:=Kd.cY h.val (a:Int) x;rw[aq] at hp;have g:=hp.2;refine⟨h.len,h.all,h.gF.grown g (fun e=>?_),Kd.gA h.d rfl g (fun e=>h.d.1 bv e.symm rfl),hp.1,Kd.rW h.rows g (fun k hk e=>hk.2 (by injection e)),Kd.ep h.ends hb (by decide) _ _,Below.setCell h.below (Kd.ee h.val bv rfl) _⟩;obtain⟨cs,b,_⟩:=h.gF;injection e with e
 subst e;rw[hb] at b;injection b with b
 injection b with _ b _
 exact absurd b (by decide)
end PS
def fe (n:Nat) (E:List S83):List Int:=dh n (a6 E E.length) (a6 E E.length).length
theorem zF (g v n:Nat) (q:Int) (a b:Option Addr) (cd h:Nat) (dl vl:List Int) (rows:Value) (waits:Nat->Bool) (w:World) (i:v<12) (k:v<dl.length) (l:vl.length=n) (m:v<n)
  (hw:cf w g (.slice a dl.length cd) q rows (.slice b n h) waits) (hd:Kd.C (Kd.int .i64) w a dl.length dl) (o:Kd.C (Kd.int .i64) w b n vl):
  Calls Tryz.prog 218 #[.pointer (some ⟨g,0,none⟩),.int .i64 v] w fun e w'=>e= .returned (.tuple #[])/\cf w' g (.slice a dl.length cd) q rows (.slice b n h) (fun j=>if j=v then gB q vl dl v else waits j)/\w.grownBy w' (some g):=by
 subst l;exact yU g v q a b cd h dl vl rows waits w i k m hw hd o
theorem zH (q:Int) (vl dl:List Int) (v:Nat):(fun j=>if j=v then gB q vl dl v else(if j<v then gB q vl dl j else false))=fun j=>if j<v+1 then gB q vl dl j else false:=by
 funext j
 by_cases e:j=v
 ·subst e;simp
 ·by_cases h:j<v
  ·rw[if_neg e,if_pos h,if_pos (by omega)]
  ·rw[if_neg e,if_neg h,if_neg (by omega)]
end
end Go.Proofs.YtffdiakgjakngaaGreat.P


namespace Go.Proofs.YtffdiakgjakngaaGreat.P
open Go.RowKit Go.Proofs.YtffdiakgjakngaaGreatW.PrintWords Go.Proofs.YtffdiakgjakngaaGreatW.PrintLast Go.Proofs.YtffdiakgjakngaaGreatW.PrintMore
set_option linter.unusedVariables false
set_option linter.unusedSimpArgs false
set_option maxHeartbeats 8000000
set_option maxRecDepth 100000
theorem kL (t:TypeId) (g:Tryz.prog.underlying t=some (.slice 3)) (n:Nat) (hn:n<=1000):∃zs:Array Value,(∀W:World,(Instr.makeSlice t (.int .i64 n) (.int .i64 n)).run Tryz.prog W= .ok (.slice (some ⟨W.heap.size,0,none⟩) n n) (W.alloc (.cells zs 3)))/\
  ∀(W:World) (ok:Nat->Prop),ok W.heap.size->(Kd.int .i64).R 3 (W.alloc (.cells zs 3)) W.heap.size ok (.slice (some ⟨W.heap.size,0,none⟩) n n) (List.replicate n 0):=by
 obtain⟨i0,hi,b⟩:=Option.map_eq_some_iff.1 fC;simp only[Prod.mk.injEq] at b;obtain⟨i,j,l⟩:=b;refine⟨madeCells (Value.int .i64 0).cells (n*1),fun W=>?_,fun W ok m=>⟨fun k hk=>?_,(madeCells (Value.int .i64 0).cells (n*1)).toList,?_,?_⟩⟩
 ·have a:=run_make (P:=Tryz.prog) W t 3 i0 (.int .i64 0) g hi i .i64 .i64 (n:Int) (n:Int) (by omega) (by omega) (by rw[l];omega) (by omega)
  simp only[aq] at a;rw[j] at a;exact a
 ·have:W.heap.size=k:=by simpa [Value.ownBlock] using hk
  subst this;exact m
 ·have h:=World.ownsRow_lit (base:=W.heap.size) (e:=3) (size:=1) W (madeCells (Value.int .i64 0).cells (n*1)) n (aM _) (by simp only[maxLen];omega) (size_madeCells _ _)
  rw[List.length_replicate];exact h
 ·exact Kd.oF (R:=(Kd.int .i64).M (W.alloc (.cells (madeCells (Value.int .i64 0).cells (n*1)) 3)) W.heap.size (fun k=>ok k/\some k≠(Value.slice (some ⟨W.heap.size,0,none⟩) n n).ownBlock)) (size:=1) (z:=Value.int .i64 0) (z0:=(0:Int)) rfl (by decide) rfl n
theorem zI {w W:World} {gb:Nat} {v:Value} {cs:Array Value} {t:TypeId} (h1:W.heap[gb]? =some (.cells cs t (0,0))) (a:W.cell? ⟨gb,0,none⟩=some v) (b:Below gb w W):W.drew.heap[gb]? =some (.cells cs t (0,0))/\W.drew.cell? ⟨gb,0,none⟩=some v/\Below gb w W.drew:=⟨h1,a,bC b⟩
theorem zJ {w W:World} {gb:Nat} {v:Value} {cs:Array Value} {t:TypeId} {o:Obj} (h1:W.heap[gb]? =some (.cells cs t (0,0))) (a:W.cell? ⟨gb,0,none⟩=some v) (b:Below gb w W):(W.alloc o).heap[gb]? =some (.cells cs t (0,0))/\(W.alloc o).cell? ⟨gb,0,none⟩=some v/\Below gb w (W.alloc o):=
 ⟨aj h1 _,by rw[ah (aj h1 _) 0,<-ah h1 0];exact a,b.alloc (Nat.le_of_lt (ay h1)) _⟩
theorem zM {w W W1:World} {gb:Nat} {v:Value} {cs:Array Value} {t:TypeId} (h1:W.heap[gb]? =some (.cells cs t (0,0))) (a:W.cell? ⟨gb,0,none⟩=some v) (b:Below gb w W) (hb:Below W.heap.size W W1):W1.heap[gb]? =some (.cells cs t (0,0))/\W1.cell? ⟨gb,0,none⟩=some v/\Below gb w W1:=
 ⟨au h1 hb,by rw[ah (au h1 hb) 0,<-ah h1 0];exact a,b.trans ⟨hb.os,hb.tape,hb.output,hb.size,fun k hk=>hb.block k (by have:=ay h1;omega)⟩⟩
theorem kM {W:World} {o:Obj} {g:Nat} (h:g=W.heap.size):(W.alloc o).heap[g]? =some o:=by rw[h];exact aU W o
theorem kN {a w1 W':World} {gb bv:Nat} {v:Value} {dl:List Int} (b:(Kd.int .i64).R 3 w1 a.heap.size (fun _=>True) v dl) (e:gb<=a.heap.size)
  (g:∀{ok:Nat->Prop},(Kd.int .i64).R 3 w1 gb ok v dl->(Kd.int .i64).R 3 W' gb ok v dl) (h:bv<a.heap.size\/w1.heap.size<=bv):(Kd.int .i64).R 3 W' gb (fun k=>k≠bv) v dl:=
 g (Kd.bt (Kd.bj (Kd.dy b) (fun k hk=>by have i:=hk.2.1;have a2:=hk.2.2.1;omega)) e)
theorem dp {a w1 W' Y:World} {gb bv n:Nat} {v:Value} {dl:List Int} {zs:Array Value} (g:(Kd.int .i64).R 3 (Y.alloc (.cells zs 3)) Y.heap.size (fun k=>k=Y.heap.size) (.slice (some ⟨Y.heap.size,0,none⟩) n n) (List.replicate n 0)) (h:bv=Y.heap.size)
  (hb:Below (Y.alloc (.cells zs 3)).heap.size (Y.alloc (.cells zs 3)) W') (b:(Kd.int .i64).R 3 w1 a.heap.size (fun _=>True) v dl) (i:gb<=bv) (j:bv<a.heap.size\/w1.heap.size<=bv):
  (Kd.int .i64).R 3 W' gb (fun k=>some k≠v.ownBlock) (.slice (some ⟨bv,0,none⟩) n n) (List.replicate n 0):=by
 subst h;refine Kd.bt (Kd.bj (Kd.b7 g hb) (fun k hk e=>?_)) i;have h1:=Kd.ee b k e.symm;have l:=Kd.cF b k e.symm;omega
theorem zO (k n:Nat) (A0:Option Addr) (c0:Nat) (E:List S83) (q:Int) (Ad:Option Addr) (cd:Nat) (dl:List Int) (w:World) (eb:Kd.C aQ w A0 E.length E) (eg:E.length<=c0) (hd:Kd.C (Kd.int .i64) w Ad dl.length dl) (ek:dl.length<=cd)
  (hn:n<=12) (b4:dl.length=n) (ht:aW.f k n E=some 0) (hE:cJ E=true) (b_:dN n E):
  Calls Tryz.prog 212 #[.agg #[.int .i64 n,.slice A0 E.length c0],.int .i64 q,.slice Ad dl.length cd] w fun e w'=>∃(gp:Nat) (o b':Option Addr) (r ca:Nat) (rv:Value),e= .returned (.tuple #[.pointer (some ⟨gp,0,none⟩),.int .i64 0])/\cf w' gp (.slice o dl.length r) q rv (.slice b' n ca) (fun x=>if x<dl.length then gB q (fe n E) dl x else false)/\(Kd.int .i64).R 3 w' w.heap.size (fun _=>True) (.slice b' n ca) (fe n E)/\Below w.heap.size w w':=by
 have hu:=Tryz.underlying24;have go:=Tryz.underlying236;have gq:=Tryz.underlying234;have gr:=Tryz.underlying205;have gs:dl.length<=12:=by omega
 have el:=zA b4;clear b4;have Ht:=zA ht;have HE:=zA hE;have HI:=zA b_.get;clear ht hE b_;have HC:=zA (fun W h=>lI.calls Ad cd dl dl W h ek (by unfold lI.f clone.f;rw[if_pos (by omega)]));obtain⟨zs,gt,ce⟩:=kL 25 Tryz.underlying25 n (by omega);have s:=zA ce;clear ce;go_enter Tryz.func212,Tryz.ntmps212
 go_wp2_with fail
 have Z:=zA (show (w.alloc (.cells #[.int .i64 n,.slice A0 E.length c0] 24)).heap[w.heap.size]? =some (.cells #[.int .i64 n,.slice A0 E.length c0] 24 (0,0)) from aU w _);have I:(w.alloc (.cells #[.int .i64 n,.slice A0 E.length c0] 24)).cell? ⟨w.heap.size,0,none⟩=some (.int .i64 n):=(ah Z.out 0).trans rfl;have B:=zA (af (ai w.heap.size w) (.cells #[.int .i64 n,.slice A0 E.length c0] 24));generalize (w.alloc (.cells #[.int .i64 n,.slice A0 E.length c0] 24))=W0 at I Z B⊢;have cg:=ay Z.out;have ch:=fun W h=>Kd.al (w:=w) (w1:=W) hd h
 have a2:=zA ch;clear ch;generalize a3:w.heap.size=gb at I Z cg B a2⊢;refine Code.wp_mono (Q:=fun e a W'=>e=Exit.normal/\∃(gp bv bf r:Nat) (o:Option Addr) (u16 u17 u18 u19 u20 u21 u22 u23 u24 u25 u26:Value),a={tmps:=#[.agg #[.int .i64 n,.slice A0 E.length c0],.int .i64 q,.slice Ad dl.length cd,.pointer (some ⟨gb,0,none⟩),undef,undef,.pointer none,.int .i64 0,.pointer (some ⟨gp,0,none⟩),undef,undef,undef,undef,undef,undef,undef,u16,u17,u18,u19,u20,u21,u22,u23,u24,u25,u26,undef,undef,undef,undef,undef,undef,undef,undef,undef,undef,undef,undef,undef,undef,undef,undef,undef,undef,undef,undef,undef,undef,undef,undef,undef,undef,undef,undef,undef,undef,undef,undef,undef,undef,undef,undef,undef,undef,undef,undef,undef,undef,undef,undef,undef,undef,undef,undef,undef,undef,undef,undef,undef,undef,undef,undef,undef,undef,undef,undef,undef,undef,undef,undef,undef,undef,undef,undef,undef,undef,undef,undef,undef,undef,undef,undef,undef,undef,undef,undef,undef,undef,undef,undef,undef,undef,undef,undef,undef,undef,undef,undef,undef,undef],defers:=[]}/\gb<gp/\W'.heap[gp]? =some (.cells #[.slice o dl.length r,.int .i64 q,.slice none 0 0,.slice (some ⟨bv,0,none⟩) n n,.slice (some ⟨bf,0,none⟩) n n,.int .i64 0,.bool false,.bool false,.bool false,.bool false,.bool false,.bool false,.bool false,.bool false,.bool false,.bool false,.bool false,.bool false] 236 (0,0))/\(Kd.int .i64).R 3 W' gb (fun k=>k≠bv) (.slice o dl.length r) dl/\(Kd.int .i64).R 3 W' gb (fun k=>some k≠(Value.slice o dl.length r).ownBlock) (.slice (some ⟨bv,0,none⟩) n n) (List.replicate n 0)/\W'.heap[gb]? =some (.cells #[.int .i64 n,.slice A0 E.length c0] 24 (0,0))/\Below gb w W') ?_ ?_
 ·rintro e a W' ⟨rfl,gp,bv,bf,r,o,u16,u17,u18,u19,u20,u21,u22,u23,u24,u25,u26,rfl,gu,ck,cl,cn,a4,hB⟩
  dsimp only;have u:=zA (show cf W' gp (.slice o dl.length r) q (.slice none 0 0) (.slice (some ⟨bv,0,none⟩) n n) (fun _=>false) from⟨_,ck,rfl,rfl,rfl,rfl,rfl,fun i hi=>by match i,hi with|0,_=>rfl|1,_=>rfl|2,_=>rfl|3,_=>rfl|4,_=>rfl|5,_=>rfl|6,_=>rfl|7,_=>rfl|8,_=>rfl|9,_=>rfl|10,_=>rfl|11,_=>rfl⟩);have P:=zA cl;have T:=zA cn;have F:=zA a4;have cq:=zA hB;have aB:W'.cell? ⟨gb,0,none⟩=some (.int .i64 n):=(ah a4 0).trans rfl;clear ck cl cn a4 hB I Z B cg HC a2;clear W0;go_wp2;go_loopw [29] (fun i wr=>∃(j:Nat) (rv:Value) (rows:List (List Int)),j<=n/\i= .int .i64 j/\Aside0 (rows.length=j)/\Aside0 (∀y∈rows,y.length=n)/\Aside0 (cf wr gp (.slice o dl.length r) q rv (.slice (some ⟨bv,0,none⟩) n n) (fun _=>false))/\Aside0 ((Kd.int .i64).R 3 wr gb (fun k=>k≠bv) (.slice o dl.length r) dl)/\Aside0 ((Kd.int .i64).R 3 wr gb (fun k=>some k≠(Value.slice o dl.length r).ownBlock) (.slice (some ⟨bv,0,none⟩) n n) (List.replicate n 0))/\Aside0 (Kd.S (Kd.slice 3 (Kd.int .i64)) 25 wr gb (fun k=>some k≠(Value.slice o dl.length r).ownBlock/\k≠bv) rv rows)/\Aside0 (wr.heap[gb]? =some (.cells #[.int .i64 n,.slice A0 E.length c0] 24 (0,0)))/\Aside0 (Below gb w wr)) (fun i _=>n- (intOf i).toNat)
  case atStart=>exact⟨0,_,[],by omega,rfl,⟨rfl⟩,⟨fun y hy=>absurd hy (by simp)⟩,u,P,T,⟨Kd.ja _ _ _ _ _⟩,F,cq⟩
  case round=>
   clear u P T F cq aB;obtain⟨j,rv,rows,hj,rfl,J,U,u,P,T,G,F,B⟩:=hrel;by_cases gv:j<n
   ·have aG:=ay F.out
    obtain⟨M,cr,rfl⟩:=Kd.kB G.out;have es:=(ah F.out 0).trans (show _=some (.int .i64 n) from rfl);have ev:(wr.alloc (.cells zs 3)).drew.cell? ⟨gb,0,none⟩=some (.int .i64 n):=(ah (aj F.out _) 0).trans rfl;have ew:=u.out.kJ;have ex:(wr.alloc (.cells zs 3)).drew.cell? ⟨gp,2,none⟩=some (.slice M rows.length cr):=(u.out.below (af (ai _ _) _)).kJ;have ey:((wr.alloc (.cells zs 3)).alloc (.cells #[.slice (some ⟨wr.heap.size,0,none⟩) n n] 25)).drew.cell? ⟨gp,2,none⟩=some (.slice M rows.length cr):=(u.out.below (af (af (ai _ _) _) _)).kJ;have gx:rows.length<=12:=by have:=J.out;omega
    have bb:∀k,wr.heap.size<=k->some k≠(Value.slice o dl.length r).ownBlock/\k≠bv:=fun k hk=>⟨fun e=>by have:=Kd.cF P.out k e.symm;omega,fun e=>by have:=Kd.cF T.out bv (by simp[Value.ownBlock]);omega⟩
    have e0:=zA (Kd.kr (Kd.bR (Kd.bt (s.out wr (fun k=>k=wr.heap.size) rfl) (Nat.le_of_lt aG))));have e1:=zA (Kd.rV (Kd.oO (Kd.jH (ok':=fun k=>(some k≠(Value.slice o dl.length r).ownBlock/\k≠bv)/\¬k=wr.heap.size) (Kd.lA G.out) (fun k hk=>⟨hk.1,by have:=hk.2.2.1;omega⟩)) (.cells zs 3)));have e2:=zA (bC (B.out.alloc (Nat.le_of_lt aG) (.cells zs 3)));have e3:Aside0 (∀k,k=wr.heap.size->(some k≠(Value.slice o dl.length r).ownBlock/\k≠bv)/\some k≠(Value.slice M rows.length cr).ownBlock):=⟨fun k hk=>⟨bb k (by omega),fun e=>by have:=Kd.xR G.out k e.symm;omega⟩⟩;have e4:Aside0 (∀k,(wr.alloc (.cells zs 3)).drew.heap.size<=k->some k≠(Value.slice o dl.length r).ownBlock/\k≠bv):=⟨fun k hk=>bb k (by have h1:(wr.alloc (.cells zs 3)).drew.heap.size=wr.heap.size+1:=World.size_alloc wr _;omega)⟩;have e5:Aside0 (gb<=(wr.alloc (.cells zs 3)).drew.heap.size):=⟨by have h1:(wr.alloc (.cells zs 3)).drew.heap.size=wr.heap.size+1:=World.size_alloc wr _;omega⟩;have cs:=zA (show cf (wr.alloc (.cells zs 3)).drew gp (.slice o dl.length r) q (.slice M rows.length cr) (.slice (some ⟨bv,0,none⟩) n n) (fun _=>false) from(u.out.below (af (ai wr.heap.size wr) (.cells zs 3))).drew);have cv:=zA (show (wr.alloc (.cells zs 3)).drew.heap[gb]? =some (.cells #[.int .i64 n,.slice A0 E.length c0] 24 (0,0)) from aj F.out _);have aF:=zA (Kd.rV (Kd.oO G.out (.cells zs 3)));have e6:=zA (Kd.bR (Kd.aK P.out (.cells zs 3)));have e_:=zA (Kd.bR (Kd.aK T.out (.cells zs 3)));clear bb;have e':=zA (show (wr.alloc (.cells zs 3)).drew.heap.size=wr.heap.size+1 from World.size_alloc wr _);go_wp2;go_region_law ((refine Kd.xV (Kd.slice 3 (Kd.int .i64)) (w0:=w) (W:=(wr.alloc (.cells zs 3)).drew) gb (by rfl) (.tmp 35) (.tmp 39) 73 25 (.slice none 0 0) 24 (by rfl) Tryz.underlying73 sB rfl (by decide) (by omega) _ rows (List.replicate n 0) [.slice (some ⟨wr.heap.size,0,none⟩) n n] (fun k=>some k≠(Value.slice o dl.length r).ownBlock/\k≠bv) (fun k=>k=wr.heap.size) (by rfl) (by rw[e'.out];rfl) e0.out e3.out e4.out e1.out e2.out e5.out (by omega) ?_;intro v4 w4 bd cx am fn;obtain⟨V,c4,cy⟩:=Kd.kB bd;rw[show (rows++[List.replicate n (0:Int)]).length=rows.length+1 by simp] at cy;subst cy;have c1:=zA bd;have c2:=zA cx;have X:=zA (cs.out.grown am (cs.out.pa (Kd.mG aF.out) (by decide)));have c3:=zA (cZ cv.out am (Kd.xT aF.out cv.out (by decide)));have c5:=zA (Kd.rJ e6.out (Kd.mG aF.out) (by decide) am);have c6:=zA (Kd.rJ e_.out (Kd.mG aF.out) (by decide) am);have fo:=X.out.kJ;have fq:=X.out.frozen 2;clear bd cx am fn))
    all_goals have n0:=zA (X.out.yS (.slice V (rows.length+1) c4))
    all_goals have n1:=zA (X.out.ep c5.out (by decide) 2 (.slice V (rows.length+1) c4))
    all_goals have n2:=zA (X.out.ep c6.out (by decide) 2 (.slice V (rows.length+1) c4))
    all_goals have n3:=zA (X.out.oP c1.out (by decide) 2 (.slice V (rows.length+1) c4))
    all_goals have n4:=zA (aH (p:=⟨gp,2,none⟩) c3.out (show gb≠gp by omega) (.slice V (rows.length+1) c4))
    all_goals have n5:=zA (c2.out.setCell (p:=⟨gp,2,none⟩) (by show gb<=gp;omega) (.slice V (rows.length+1) c4))
    all_goals clear fo fq es ev ew ex ey X c3 c5 c6 c2 c1
    all_goals generalize (w4.setCell ⟨gp,2,none⟩ (.slice V (rows.length+1) c4))=w5 at n0 n1 n2 n3 n4 n5⊢
    all_goals go_wp2
    all_goals exact⟨⟨j+1,_,_,by omega,by go_num,⟨by simp[J.out]⟩,⟨fun y hy=>by rcases List.mem_append.1 hy with h|h;exact U.out y h;(simp at h;subst h;simp)⟩,n0,n1,n2,n3,n4,n5⟩,(show n- ((j:Int)+1).toNat<n- ((j:Int)).toNat by omega)⟩
   ·obtain rfl:n=j:=by omega
    have aB:wr.cell? ⟨gb,0,none⟩=some (.int .i64 n):=(ah F.out 0).trans rfl;have g:wr.cell? ⟨gb,1,none⟩=some (.slice A0 E.length c0):=(ah F.out 1).trans rfl;have aG:=ay F.out;have ds:=zA (pk k n A0 c0 E wr (Kd.al eb (by rw[a3];exact B.out)) eg Ht.out HE.out);go_wp2_with (first|(go_at_call 178;refine ds.out.mono ?_;rintro e w1 ⟨v9,rfl,be,aa⟩;obtain⟨A9,c9,dv⟩:=Kd.bE be;rw[lQ] at dv;subst dv;have an:=zA be;have dx:=zA (u.out.below aa);have bg:=zA (Kd.mF G.out aa);have d0:=zA (Kd.b7 P.out aa);have bi:=zA (Kd.b7 T.out aa);have d1:=zA (B.out.trans (aa.mono (Nat.le_of_lt aG)));clear be aa))
    all_goals go_wp2
    have bk:=zA (zu (n:=n) HI.out);have bn:=zA (sX HE.out);obtain⟨M,cr,ag⟩:=Kd.kB bg.out;rw[J.out] at ag;subst ag;replace an:=zA (Kd.bt (Kd.mH an.out) (Nat.le_of_lt aG));have aL:=zA (show fe n E=dh n (a6 E E.length) (a6 E E.length).length from rfl);generalize a6 E E.length=L at an bk bn aL⊢;have f1:=bn.out;have d2:List.replicate n (0:Int)=dh n L 0:=rfl;rw[d2] at bi;clear d2 ds u G P T B F aB g aG;go_loopw [54] (fun i wr=>∃(j:Nat) (rows:List (List Int)),j<=L.length/\i= .int .i64 j/\Aside0 (rows.length=n)/\Aside0 (∀y∈rows,y.length=n)/\Aside0 (cf wr gp (.slice o dl.length r) q (.slice M n cr) (.slice (some ⟨bv,0,none⟩) n n) (fun _=>false))/\Aside0 ((Kd.int .i64).R 3 wr gb (fun k=>k≠bv) (.slice o dl.length r) dl)/\Aside0 ((Kd.int .i64).R 3 wr gb (fun k=>some k≠(Value.slice o dl.length r).ownBlock) (.slice (some ⟨bv,0,none⟩) n n) (dh n L j))/\Aside0 (Kd.S (Kd.slice 3 (Kd.int .i64)) 25 wr gb (fun k=>some k≠(Value.slice o dl.length r).ownBlock/\k≠bv) (.slice M n cr) rows)/\Aside0 ((Kd.raw 2).R 205 wr gb (fun _=>True) (.slice A9 L.length c9) (ez L))/\Aside0 (Below gb w wr)) (fun i _=>L.length- (intOf i).toNat)
    case atStart=>exact⟨0,_,by omega,rfl,J,U,dx,d0,bi,bg,an,d1⟩
    case round=>
     clear dx d0 bi bg an d1 J U;obtain⟨j,rows,hj,rfl,J,U,u,N,K,G,HR,B⟩:=hrel;by_cases ao:j<L.length
     ·obtain⟨-, -,d3⟩:=Kd.a8 HR.out
      obtain⟨ad,rfl,I,ap⟩:=s8 d3 j (by rw[lQ];exact ao) ao;have O:=bk.out _ (List.getElem_mem ao);have bo:=Lib.hid (zx n L j ao);generalize L[j]=x at I ap O bo;obtain⟨i,a,b⟩:=x;simp only at I ap O;obtain⟨a,rfl⟩:=Int.eq_ofNat_of_zero_le O.1;obtain⟨b,rfl⟩:=Int.eq_ofNat_of_zero_le O.2.2.1;have ha:a<n:=by omega
      have hb:b<n:=by omega
      have g1:(0:Int)<=(j:Int):=by omega
      have g2:(j:Int)<(L.length:Int):=by omega
      clear O d3;have HO:=zA (show (wr.alloc (.cells #[.int .i64 a,.int .i64 b] 205)).heap[wr.heap.size]? =some (.cells #[.int .i64 a,.int .i64 b] 205 (0,0)) from aU wr _);obtain⟨g0,f2,ag, -, -, -⟩:=Kd.oQ G.out (by have:=J.out;omega);injection ag with ag _ f3
      subst ag;have D:=zA (PS.mk (L:=L) J.out U.out (u.out.below (af (ai _ _) (.cells #[.int .i64 a,.int .i64 b] 205))) (Kd.aK N.out (.cells #[.int .i64 a,.int .i64 b] 205)) (Kd.aK K.out (.cells #[.int .i64 a,.int .i64 b] 205)) (Kd.oO G.out (.cells #[.int .i64 a,.int .i64 b] 205)) (Kd.aK HR.out (.cells #[.int .i64 a,.int .i64 b] 205)) (B.out.alloc (by have:=B.out.size;omega) (.cells #[.int .i64 a,.int .i64 b] 205)));go_wp2;clear u N K G HR B I ap J U f3 f2;generalize (wr.alloc (.cells #[.int .i64 a,.int .i64 b] 205))=W1 at HO D⊢;generalize wr.heap.size=ob at HO⊢;have I:W1.cell? ⟨ob,0,none⟩=some (.int .i64 a):=(ah HO.out 0).trans rfl;have ap:W1.cell? ⟨ob,1,none⟩=some (.int .i64 b):=(ah HO.out 1).trans rfl;go_quiet (fail)
      replace D:=zA (D.out.drewN nq);clear I ap HO;generalize W1.drewN nq=W2 at D⊢;clear W1;have g3:(0:Int)<=(a:Int):=by omega
      have g4:(a:Int)<(n:Int):=by omega
      have aB:(0:Int)<=(b:Int):=by omega
      have g:(b:Int)<(n:Int):=by omega
      by_cases O:a=b
      ·subst O
       have d5:dh n L j=dh n L (j+1):=by rw[bo.out];unfold fE;rw[if_pos rfl]
       rw[d5] at D;clear d5;go_wp2;exact⟨⟨j+1,rows,by omega,by go_num,⟨D.out.len⟩,⟨D.out.all⟩,⟨D.out.gF⟩,⟨D.out.d⟩,⟨D.out.val⟩,⟨D.out.rows⟩,⟨D.out.ends⟩,⟨D.out.below⟩⟩,(show L.length- ((j:Int)+1).toNat<L.length- ((j:Int)).toNat by omega)⟩
      ·have g5:((a:Int) != (b:Int))=true:=by simp;omega
       have g6:=D.out.gF.kJ;have bw:=s7 n L j;have f4:=bw a;obtain⟨gi,ci,z,g7,g8,g9,d6⟩:=D.out.row a b ha hb;obtain⟨g',h3⟩:=d6 (wrap64 (z+1));have H3:=zA h3;have hc:=h3.gF.kJ;obtain⟨he,hf,z3,hg,hh,hl,d7⟩:=h3.row b a hb ha;obtain⟨f6,h4⟩:=d7 (wrap64 (z3+1));have H4:=zA h4;have hm:=h4.gF.mV;obtain⟨f8,ho,d8⟩:=h4.s9 a ha;have h5:=d8 (rd (dh n L j) a+1);have H5:=zA h5;have f':=h5.gF.mV;obtain⟨bx,ga,b0⟩:=h5.s9 b hb;have d9:=pn (v:=a) bw b;rw[show (dh n L j).set a (rd (dh n L j) a+1)=gE (dh n L j) a from rfl] at bx b0;have H:=zA (b0 (rd (gE (dh n L j) a) b+1));rw[show (gE (dh n L j) a).set b (rd (gE (dh n L j) a) b+1)=dh n L (j+1) from by rw[bo.out];unfold fE;rw[if_neg (show ¬((i,(a:Int),(b:Int)).2.1=(i,(a:Int),(b:Int)).2.2) from fun e=>O (Int.ofNat.inj e))];rfl] at H;clear d6 d7 d8 b0 h3 h4 h5 bw H3 H4 H5;generalize rd (dh n L j) a=va at f4 f8 f' bx ga d9 H;generalize rd (gE (dh n L j) a) b=vb at d9 bx H;go_wp2;exact⟨⟨j+1,f6,by omega,by go_num,⟨H.out.len⟩,⟨H.out.all⟩,⟨H.out.gF⟩,⟨H.out.d⟩,⟨H.out.val⟩,⟨H.out.rows⟩,⟨H.out.ends⟩,⟨H.out.below⟩⟩,(show L.length- ((j:Int)+1).toNat<L.length- ((j:Int)).toNat by omega)⟩
     ·obtain rfl:j=L.length:=by omega
      have gc:=u.out.sG;go_wp2;have b1:=zA (sZ n L L.length);generalize dh n L L.length=vl at K b1 aL⊢;clear G HR J U gc f1 bk bn ao hj;go_loopw [113] (fun i wr=>∃(j:Nat),j<=dl.length/\i= .int .i64 j/\Aside0 (cf wr gp (.slice o dl.length r) q (.slice M n cr) (.slice (some ⟨bv,0,none⟩) n n) (fun x=>if x<j then gB q vl dl x else false))/\Aside0 ((Kd.int .i64).R 3 wr gb (fun k=>k≠bv) (.slice o dl.length r) dl)/\Aside0 ((Kd.int .i64).R 3 wr gb (fun k=>some k≠(Value.slice o dl.length r).ownBlock) (.slice (some ⟨bv,0,none⟩) n n) vl)/\Aside0 (Below gb w wr)) (fun i _=>dl.length- (intOf i).toNat)
      case atStart=>exact⟨0,by omega,rfl,⟨by simpa using u.out⟩,N,K,B⟩
      case round=>
       clear u N K B;obtain⟨j,hj,rfl,u,N,K,B⟩:=hrel;by_cases gd:j<dl.length
       ·obtain⟨-, -,ea⟩:=Kd.a8 N.out
        obtain⟨-, -,b2⟩:=Kd.a8 K.out;rw[b1.out] at b2;have HW:=zA (zF gp j n q o (some ⟨bv,0,none⟩) r n dl vl (.slice M n cr) _ wr (by omega) gd b1.out (by have:=el.out;omega) u.out ea b2);clear ea b2;go_wp2_with (go_at_call 218;refine HW.out.mono ?_;rintro e w5 ⟨rfl,b3,a1⟩;rw[zH] at b3;have gf:=zA b3;have gg:=zA (Kd.gA N.out rfl a1 (u.out.pa (Kd.fP N.out) (by decide)));have gl:=zA (Kd.gA K.out rfl a1 (u.out.pa (Kd.fP K.out) (by decide)));have gm:=zA (ir B.out (some gp) (by have:=B.out.size;omega) a1 (fun k e=>by cases e;omega));clear b3 a1)
        all_goals go_wp2
        all_goals go_roundw
        case rel=>exact⟨j+1,by omega,by go_num,gf,gg,gl,gm⟩
        case measure=>exact(show dl.length- ((j:Int)+1).toNat<dl.length- ((j:Int)).toNat by omega)
       ·obtain rfl:j=dl.length:=by omega
        go_wp2;go_ret2;exact⟨gp,o,_,r,n,_,rfl,by rw[aL.out];exact u.out,by rw[aL.out,a3];exact Kd.bj K.out (fun _ _=>trivial),by rw[a3];exact B.out⟩
 ·go_region_held3 (fun w'=>w'.heap[gb]? =some (.cells #[.int .i64 n,.slice A0 E.length c0] 24 (0,0))/\w'.cell? ⟨gb,0,none⟩=some (.int .i64 n)/\Below gb w w')
   (first
    |exact zI Z.out I B.out
    |((try go_split_ands);refine⟨by assumption,by assumption,by assumption⟩)
    |((try go_split_ands);exact zJ (by assumption) (by assumption) (by assumption))
    |((try go_split_ands);exact zM (by assumption) (by assumption) (by assumption) (by assumption))
    |fail)
   ((go_at_call 217;refine(HC.out _ (a2.out _ (by go_split_ands;assumption))).mono ?_;rintro e w1 ⟨v1,rfl,m,g⟩;obtain⟨o,r,rfl⟩:=Kd.bE m))
  ·refine⟨rfl,?Il,?Gz,?Ik,?Ij,?IB,?H_,?Hx,?GU,?GY,?Ho,?GG,?Iu,?Hc,?Ia,?Gy,?GI,?FJ,?FL,?FT,?FX,?F7,by(go_split_ands;assumption),by(go_split_ands;assumption)⟩
   case FJ=>rfl
   case FT=>(refine kM ?_;first|rfl|(simp;done))
   case FL=>(have h1:=g.size;first|omega|(simp at h1⊢;done)|(simp at h1⊢;omega)|(have l:W0.drew.heap.size=W0.heap.size:=rfl;simp[World.drew] at h1⊢;omega))
   case FX=>
    refine kN m ?_ ?_ ?_
    ·(have h1:=g.size;first|omega|(simp at h1⊢;done)|(simp at h1⊢;omega)|(have l:W0.drew.heap.size=W0.heap.size:=rfl;simp[World.drew] at h1⊢;omega))
    ·(first|exact fun h=>h|exact fun h=>Kd.aK h _|exact fun h=>Kd.aK (Kd.aK h _) _|exact fun h=>Kd.aK (Kd.aK (Kd.aK h _) _) _)
    ·(have h1:=g.size;first|omega|(simp at h1⊢;done)|(simp at h1⊢;omega)|(have l:W0.drew.heap.size=W0.heap.size:=rfl;simp[World.drew] at h1⊢;omega))
   case F7=>
    first
     |(refine dp (Y:=w1) (s.out _ _ rfl) ?_ ?_ m ?_ ?_;(focus (first|rfl|(simp;done)));(focus ((repeat(first|exact ai _ _|apply af|apply bC|refine aC ?_ g));done));(focus (have h1:=g.size;first|omega|(simp at h1⊢;done)|(simp at h1⊢;omega)|(have l:W0.drew.heap.size=W0.heap.size:=rfl;simp[World.drew] at h1⊢;omega)));(focus (have h1:=g.size;first|omega|(simp at h1⊢;done)|(simp at h1⊢;omega)|(have l:W0.drew.heap.size=W0.heap.size:=rfl;simp[World.drew] at h1⊢;omega))))
     |(refine dp (Y:=(w1.alloc (.cells zs 3))) (s.out _ _ rfl) ?_ ?_ m ?_ ?_;(focus (first|rfl|(simp;done)));(focus ((repeat(first|exact ai _ _|apply af|apply bC|refine aC ?_ g));done));(focus (have h1:=g.size;first|omega|(simp at h1⊢;done)|(simp at h1⊢;omega)|(have l:W0.drew.heap.size=W0.heap.size:=rfl;simp[World.drew] at h1⊢;omega)));(focus (have h1:=g.size;first|omega|(simp at h1⊢;done)|(simp at h1⊢;omega)|(have l:W0.drew.heap.size=W0.heap.size:=rfl;simp[World.drew] at h1⊢;omega))))
     |(refine dp (Y:=W0) (s.out _ _ rfl) ?_ ?_ m ?_ ?_;(focus (first|rfl|(simp;done)));(focus ((repeat(first|exact ai _ _|apply af|apply bC|refine aC ?_ g));done));(focus (have h1:=g.size;first|omega|(simp at h1⊢;done)|(simp at h1⊢;omega)|(have l:W0.drew.heap.size=W0.heap.size:=rfl;simp[World.drew] at h1⊢;omega)));(focus (have h1:=g.size;first|omega|(simp at h1⊢;done)|(simp at h1⊢;omega)|(have l:W0.drew.heap.size=W0.heap.size:=rfl;simp[World.drew] at h1⊢;omega))))
     |(refine dp (Y:=(W0.alloc (.cells zs 3))) (s.out _ _ rfl) ?_ ?_ m ?_ ?_;(focus (first|rfl|(simp;done)));(focus ((repeat(first|exact ai _ _|apply af|apply bC|refine aC ?_ g));done));(focus (have h1:=g.size;first|omega|(simp at h1⊢;done)|(simp at h1⊢;omega)|(have l:W0.drew.heap.size=W0.heap.size:=rfl;simp[World.drew] at h1⊢;omega)));(focus (have h1:=g.size;first|omega|(simp at h1⊢;done)|(simp at h1⊢;omega)|(have l:W0.drew.heap.size=W0.heap.size:=rfl;simp[World.drew] at h1⊢;omega))))
     |fail
  ·refine⟨rfl,?Ip,?Hd,?Ih,?Hi,?Ir,?IS,?IE,?G2,?Im,?IF,?Iy,?He,?GJ,?IK,?IT,?GZ,?eq_1,?FW,?FZ,?F5,?F2,by(go_split_ands;assumption),by(go_split_ands;assumption)⟩
   case eq_1=>rfl
   case FZ=>(refine kM ?_;first|rfl|(simp;done))
   case FW=>(have h1:=g.size;first|omega|(simp at h1⊢;done)|(simp at h1⊢;omega)|(have l:W0.drew.heap.size=W0.heap.size:=rfl;simp[World.drew] at h1⊢;omega))
   case F5=>
    refine kN m ?_ ?_ ?_
    ·(have h1:=g.size;first|omega|(simp at h1⊢;done)|(simp at h1⊢;omega)|(have l:W0.drew.heap.size=W0.heap.size:=rfl;simp[World.drew] at h1⊢;omega))
    ·(first|exact fun h=>h|exact fun h=>Kd.aK h _|exact fun h=>Kd.aK (Kd.aK h _) _|exact fun h=>Kd.aK (Kd.aK (Kd.aK h _) _) _)
    ·(have h1:=g.size;first|omega|(simp at h1⊢;done)|(simp at h1⊢;omega)|(have l:W0.drew.heap.size=W0.heap.size:=rfl;simp[World.drew] at h1⊢;omega))
   case F2=>
    first
     |(refine dp (Y:=w1) (s.out _ _ rfl) ?_ ?_ m ?_ ?_;(focus (first|rfl|(simp;done)));(focus ((repeat(first|exact ai _ _|apply af|apply bC|refine aC ?_ g));done));(focus (have h1:=g.size;first|omega|(simp at h1⊢;done)|(simp at h1⊢;omega)|(have l:W0.drew.heap.size=W0.heap.size:=rfl;simp[World.drew] at h1⊢;omega)));(focus (have h1:=g.size;first|omega|(simp at h1⊢;done)|(simp at h1⊢;omega)|(have l:W0.drew.heap.size=W0.heap.size:=rfl;simp[World.drew] at h1⊢;omega))))
     |(refine dp (Y:=(w1.alloc (.cells zs 3))) (s.out _ _ rfl) ?_ ?_ m ?_ ?_;(focus (first|rfl|(simp;done)));(focus ((repeat(first|exact ai _ _|apply af|apply bC|refine aC ?_ g));done));(focus (have h1:=g.size;first|omega|(simp at h1⊢;done)|(simp at h1⊢;omega)|(have l:W0.drew.heap.size=W0.heap.size:=rfl;simp[World.drew] at h1⊢;omega)));(focus (have h1:=g.size;first|omega|(simp at h1⊢;done)|(simp at h1⊢;omega)|(have l:W0.drew.heap.size=W0.heap.size:=rfl;simp[World.drew] at h1⊢;omega))))
     |(refine dp (Y:=W0) (s.out _ _ rfl) ?_ ?_ m ?_ ?_;(focus (first|rfl|(simp;done)));(focus ((repeat(first|exact ai _ _|apply af|apply bC|refine aC ?_ g));done));(focus (have h1:=g.size;first|omega|(simp at h1⊢;done)|(simp at h1⊢;omega)|(have l:W0.drew.heap.size=W0.heap.size:=rfl;simp[World.drew] at h1⊢;omega)));(focus (have h1:=g.size;first|omega|(simp at h1⊢;done)|(simp at h1⊢;omega)|(have l:W0.drew.heap.size=W0.heap.size:=rfl;simp[World.drew] at h1⊢;omega))))
     |(refine dp (Y:=(W0.alloc (.cells zs 3))) (s.out _ _ rfl) ?_ ?_ m ?_ ?_;(focus (first|rfl|(simp;done)));(focus ((repeat(first|exact ai _ _|apply af|apply bC|refine aC ?_ g));done));(focus (have h1:=g.size;first|omega|(simp at h1⊢;done)|(simp at h1⊢;omega)|(have l:W0.drew.heap.size=W0.heap.size:=rfl;simp[World.drew] at h1⊢;omega)));(focus (have h1:=g.size;first|omega|(simp at h1⊢;done)|(simp at h1⊢;omega)|(have l:W0.drew.heap.size=W0.heap.size:=rfl;simp[World.drew] at h1⊢;omega))))
     |fail
  ·refine⟨rfl,?GN,?G_,?Iv,?Ic,?G9,?IQ,?Io,?GD,?IL,?Ha,?G4,?IH,?Iq,?Iw,?IC,?GX,?eq_2,?F6,?FV,?FG,?FM,by(go_split_ands;assumption),by(go_split_ands;assumption)⟩
   case eq_2=>rfl
   case FV=>(refine kM ?_;first|rfl|(simp;done))
   case F6=>(have h1:=g.size;first|omega|(simp at h1⊢;done)|(simp at h1⊢;omega)|(have l:W0.drew.heap.size=W0.heap.size:=rfl;simp[World.drew] at h1⊢;omega))
   case FG=>
    refine kN m ?_ ?_ ?_
    ·(have h1:=g.size;first|omega|(simp at h1⊢;done)|(simp at h1⊢;omega)|(have l:W0.drew.heap.size=W0.heap.size:=rfl;simp[World.drew] at h1⊢;omega))
    ·(first|exact fun h=>h|exact fun h=>Kd.aK h _|exact fun h=>Kd.aK (Kd.aK h _) _|exact fun h=>Kd.aK (Kd.aK (Kd.aK h _) _) _)
    ·(have h1:=g.size;first|omega|(simp at h1⊢;done)|(simp at h1⊢;omega)|(have l:W0.drew.heap.size=W0.heap.size:=rfl;simp[World.drew] at h1⊢;omega))
   case FM=>
    first
     |(refine dp (Y:=w1) (s.out _ _ rfl) ?_ ?_ m ?_ ?_;(focus (first|rfl|(simp;done)));(focus ((repeat(first|exact ai _ _|apply af|apply bC|refine aC ?_ g));done));(focus (have h1:=g.size;first|omega|(simp at h1⊢;done)|(simp at h1⊢;omega)|(have l:W0.drew.heap.size=W0.heap.size:=rfl;simp[World.drew] at h1⊢;omega)));(focus (have h1:=g.size;first|omega|(simp at h1⊢;done)|(simp at h1⊢;omega)|(have l:W0.drew.heap.size=W0.heap.size:=rfl;simp[World.drew] at h1⊢;omega))))
     |(refine dp (Y:=(w1.alloc (.cells zs 3))) (s.out _ _ rfl) ?_ ?_ m ?_ ?_;(focus (first|rfl|(simp;done)));(focus ((repeat(first|exact ai _ _|apply af|apply bC|refine aC ?_ g));done));(focus (have h1:=g.size;first|omega|(simp at h1⊢;done)|(simp at h1⊢;omega)|(have l:W0.drew.heap.size=W0.heap.size:=rfl;simp[World.drew] at h1⊢;omega)));(focus (have h1:=g.size;first|omega|(simp at h1⊢;done)|(simp at h1⊢;omega)|(have l:W0.drew.heap.size=W0.heap.size:=rfl;simp[World.drew] at h1⊢;omega))))
     |(refine dp (Y:=W0) (s.out _ _ rfl) ?_ ?_ m ?_ ?_;(focus (first|rfl|(simp;done)));(focus ((repeat(first|exact ai _ _|apply af|apply bC|refine aC ?_ g));done));(focus (have h1:=g.size;first|omega|(simp at h1⊢;done)|(simp at h1⊢;omega)|(have l:W0.drew.heap.size=W0.heap.size:=rfl;simp[World.drew] at h1⊢;omega)));(focus (have h1:=g.size;first|omega|(simp at h1⊢;done)|(simp at h1⊢;omega)|(have l:W0.drew.heap.size=W0.heap.size:=rfl;simp[World.drew] at h1⊢;omega))))
     |(refine dp (Y:=(W0.alloc (.cells zs 3))) (s.out _ _ rfl) ?_ ?_ m ?_ ?_;(focus (first|rfl|(simp;done)));(focus ((repeat(first|exact ai _ _|apply af|apply bC|refine aC ?_ g));done));(focus (have h1:=g.size;first|omega|(simp at h1⊢;done)|(simp at h1⊢;omega)|(have l:W0.drew.heap.size=W0.heap.size:=rfl;simp[World.drew] at h1⊢;omega)));(focus (have h1:=g.size;first|omega|(simp at h1⊢;done)|(simp at h1⊢;omega)|(have l:W0.drew.heap.size=W0.heap.size:=rfl;simp[World.drew] at h1⊢;omega))))
     |fail
  ·refine⟨rfl,?II,?Hu,?G6,?G3,?G5,?GM,?ID,?GF,?Ii,?GV,?Hh,?H9,?Ib,?Hv,?Hp,?GK,?eq_3,?FN,?F4,?FY,?FO,by(go_split_ands;assumption),by(go_split_ands;assumption)⟩
   case eq_3=>rfl
   case F4=>(refine kM ?_;first|rfl|(simp;done))
   case FN=>(have h1:=g.size;first|omega|(simp at h1⊢;done)|(simp at h1⊢;omega)|(have l:W0.drew.heap.size=W0.heap.size:=rfl;simp[World.drew] at h1⊢;omega))
   case FY=>
    refine kN m ?_ ?_ ?_
    ·(have h1:=g.size;first|omega|(simp at h1⊢;done)|(simp at h1⊢;omega)|(have l:W0.drew.heap.size=W0.heap.size:=rfl;simp[World.drew] at h1⊢;omega))
    ·(first|exact fun h=>h|exact fun h=>Kd.aK h _|exact fun h=>Kd.aK (Kd.aK h _) _|exact fun h=>Kd.aK (Kd.aK (Kd.aK h _) _) _)
    ·(have h1:=g.size;first|omega|(simp at h1⊢;done)|(simp at h1⊢;omega)|(have l:W0.drew.heap.size=W0.heap.size:=rfl;simp[World.drew] at h1⊢;omega))
   case FO=>
    first
     |(refine dp (Y:=w1) (s.out _ _ rfl) ?_ ?_ m ?_ ?_;(focus (first|rfl|(simp;done)));(focus ((repeat(first|exact ai _ _|apply af|apply bC|refine aC ?_ g));done));(focus (have h1:=g.size;first|omega|(simp at h1⊢;done)|(simp at h1⊢;omega)|(have l:W0.drew.heap.size=W0.heap.size:=rfl;simp[World.drew] at h1⊢;omega)));(focus (have h1:=g.size;first|omega|(simp at h1⊢;done)|(simp at h1⊢;omega)|(have l:W0.drew.heap.size=W0.heap.size:=rfl;simp[World.drew] at h1⊢;omega))))
     |(refine dp (Y:=(w1.alloc (.cells zs 3))) (s.out _ _ rfl) ?_ ?_ m ?_ ?_;(focus (first|rfl|(simp;done)));(focus ((repeat(first|exact ai _ _|apply af|apply bC|refine aC ?_ g));done));(focus (have h1:=g.size;first|omega|(simp at h1⊢;done)|(simp at h1⊢;omega)|(have l:W0.drew.heap.size=W0.heap.size:=rfl;simp[World.drew] at h1⊢;omega)));(focus (have h1:=g.size;first|omega|(simp at h1⊢;done)|(simp at h1⊢;omega)|(have l:W0.drew.heap.size=W0.heap.size:=rfl;simp[World.drew] at h1⊢;omega))))
     |(refine dp (Y:=W0) (s.out _ _ rfl) ?_ ?_ m ?_ ?_;(focus (first|rfl|(simp;done)));(focus ((repeat(first|exact ai _ _|apply af|apply bC|refine aC ?_ g));done));(focus (have h1:=g.size;first|omega|(simp at h1⊢;done)|(simp at h1⊢;omega)|(have l:W0.drew.heap.size=W0.heap.size:=rfl;simp[World.drew] at h1⊢;omega)));(focus (have h1:=g.size;first|omega|(simp at h1⊢;done)|(simp at h1⊢;omega)|(have l:W0.drew.heap.size=W0.heap.size:=rfl;simp[World.drew] at h1⊢;omega))))
     |(refine dp (Y:=(W0.alloc (.cells zs 3))) (s.out _ _ rfl) ?_ ?_ m ?_ ?_;(focus (first|rfl|(simp;done)));(focus ((repeat(first|exact ai _ _|apply af|apply bC|refine aC ?_ g));done));(focus (have h1:=g.size;first|omega|(simp at h1⊢;done)|(simp at h1⊢;omega)|(have l:W0.drew.heap.size=W0.heap.size:=rfl;simp[World.drew] at h1⊢;omega)));(focus (have h1:=g.size;first|omega|(simp at h1⊢;done)|(simp at h1⊢;omega)|(have l:W0.drew.heap.size=W0.heap.size:=rfl;simp[World.drew] at h1⊢;omega))))
     |fail
  ·refine⟨rfl,?IM,?GO,?Ie,?IG,?IA,?GL,?G8,?G7,?Gx,?Hm,?H7,?IP,?Ig,?G',?Hq,?GH,?eq_4,?F3,?FQ,?F1,?F0,by(go_split_ands;assumption),by(go_split_ands;assumption)⟩
   case eq_4=>rfl
   case FQ=>(refine kM ?_;first|rfl|(simp;done))
   case F3=>(have h1:=g.size;first|omega|(simp at h1⊢;done)|(simp at h1⊢;omega)|(have l:W0.drew.heap.size=W0.heap.size:=rfl;simp[World.drew] at h1⊢;omega))
   case F1=>
    refine kN m ?_ ?_ ?_
    ·(have h1:=g.size;first|omega|(simp at h1⊢;done)|(simp at h1⊢;omega)|(have l:W0.drew.heap.size=W0.heap.size:=rfl;simp[World.drew] at h1⊢;omega))
    ·(first|exact fun h=>h|exact fun h=>Kd.aK h _|exact fun h=>Kd.aK (Kd.aK h _) _|exact fun h=>Kd.aK (Kd.aK (Kd.aK h _) _) _)
    ·(have h1:=g.size;first|omega|(simp at h1⊢;done)|(simp at h1⊢;omega)|(have l:W0.drew.heap.size=W0.heap.size:=rfl;simp[World.drew] at h1⊢;omega))
   case F0=>
    first
     |(refine dp (Y:=w1) (s.out _ _ rfl) ?_ ?_ m ?_ ?_;(focus (first|rfl|(simp;done)));(focus ((repeat(first|exact ai _ _|apply af|apply bC|refine aC ?_ g));done));(focus (have h1:=g.size;first|omega|(simp at h1⊢;done)|(simp at h1⊢;omega)|(have l:W0.drew.heap.size=W0.heap.size:=rfl;simp[World.drew] at h1⊢;omega)));(focus (have h1:=g.size;first|omega|(simp at h1⊢;done)|(simp at h1⊢;omega)|(have l:W0.drew.heap.size=W0.heap.size:=rfl;simp[World.drew] at h1⊢;omega))))
     |(refine dp (Y:=(w1.alloc (.cells zs 3))) (s.out _ _ rfl) ?_ ?_ m ?_ ?_;(focus (first|rfl|(simp;done)));(focus ((repeat(first|exact ai _ _|apply af|apply bC|refine aC ?_ g));done));(focus (have h1:=g.size;first|omega|(simp at h1⊢;done)|(simp at h1⊢;omega)|(have l:W0.drew.heap.size=W0.heap.size:=rfl;simp[World.drew] at h1⊢;omega)));(focus (have h1:=g.size;first|omega|(simp at h1⊢;done)|(simp at h1⊢;omega)|(have l:W0.drew.heap.size=W0.heap.size:=rfl;simp[World.drew] at h1⊢;omega))))
     |(refine dp (Y:=W0) (s.out _ _ rfl) ?_ ?_ m ?_ ?_;(focus (first|rfl|(simp;done)));(focus ((repeat(first|exact ai _ _|apply af|apply bC|refine aC ?_ g));done));(focus (have h1:=g.size;first|omega|(simp at h1⊢;done)|(simp at h1⊢;omega)|(have l:W0.drew.heap.size=W0.heap.size:=rfl;simp[World.drew] at h1⊢;omega)));(focus (have h1:=g.size;first|omega|(simp at h1⊢;done)|(simp at h1⊢;omega)|(have l:W0.drew.heap.size=W0.heap.size:=rfl;simp[World.drew] at h1⊢;omega))))
     |(refine dp (Y:=(W0.alloc (.cells zs 3))) (s.out _ _ rfl) ?_ ?_ m ?_ ?_;(focus (first|rfl|(simp;done)));(focus ((repeat(first|exact ai _ _|apply af|apply bC|refine aC ?_ g));done));(focus (have h1:=g.size;first|omega|(simp at h1⊢;done)|(simp at h1⊢;omega)|(have l:W0.drew.heap.size=W0.heap.size:=rfl;simp[World.drew] at h1⊢;omega)));(focus (have h1:=g.size;first|omega|(simp at h1⊢;done)|(simp at h1⊢;omega)|(have l:W0.drew.heap.size=W0.heap.size:=rfl;simp[World.drew] at h1⊢;omega))))
     |fail
  ·refine⟨rfl,?IN,?Hn,?Is,?IJ,?Hy,?Iz,?Hk,?It,?GC,?Hl,?G0,?GA,?GQ,?GR,?Hz,?H8,?eq_5,?FP,?FH,?F8,?FU,by(go_split_ands;assumption),by(go_split_ands;assumption)⟩
   case eq_5=>rfl
   case FH=>(refine kM ?_;first|rfl|(simp;done))
   case FP=>(have h1:=g.size;first|omega|(simp at h1⊢;done)|(simp at h1⊢;omega)|(have l:W0.drew.heap.size=W0.heap.size:=rfl;simp[World.drew] at h1⊢;omega))
   case F8=>
    refine kN m ?_ ?_ ?_
    ·(have h1:=g.size;first|omega|(simp at h1⊢;done)|(simp at h1⊢;omega)|(have l:W0.drew.heap.size=W0.heap.size:=rfl;simp[World.drew] at h1⊢;omega))
    ·(first|exact fun h=>h|exact fun h=>Kd.aK h _|exact fun h=>Kd.aK (Kd.aK h _) _|exact fun h=>Kd.aK (Kd.aK (Kd.aK h _) _) _)
    ·(have h1:=g.size;first|omega|(simp at h1⊢;done)|(simp at h1⊢;omega)|(have l:W0.drew.heap.size=W0.heap.size:=rfl;simp[World.drew] at h1⊢;omega))
   case FU=>
    first
     |(refine dp (Y:=w1) (s.out _ _ rfl) ?_ ?_ m ?_ ?_;(focus (first|rfl|(simp;done)));(focus ((repeat(first|exact ai _ _|apply af|apply bC|refine aC ?_ g));done));(focus (have h1:=g.size;first|omega|(simp at h1⊢;done)|(simp at h1⊢;omega)|(have l:W0.drew.heap.size=W0.heap.size:=rfl;simp[World.drew] at h1⊢;omega)));(focus (have h1:=g.size;first|omega|(simp at h1⊢;done)|(simp at h1⊢;omega)|(have l:W0.drew.heap.size=W0.heap.size:=rfl;simp[World.drew] at h1⊢;omega))))
     |(refine dp (Y:=(w1.alloc (.cells zs 3))) (s.out _ _ rfl) ?_ ?_ m ?_ ?_;(focus (first|rfl|(simp;done)));(focus ((repeat(first|exact ai _ _|apply af|apply bC|refine aC ?_ g));done));(focus (have h1:=g.size;first|omega|(simp at h1⊢;done)|(simp at h1⊢;omega)|(have l:W0.drew.heap.size=W0.heap.size:=rfl;simp[World.drew] at h1⊢;omega)));(focus (have h1:=g.size;first|omega|(simp at h1⊢;done)|(simp at h1⊢;omega)|(have l:W0.drew.heap.size=W0.heap.size:=rfl;simp[World.drew] at h1⊢;omega))))
     |(refine dp (Y:=W0) (s.out _ _ rfl) ?_ ?_ m ?_ ?_;(focus (first|rfl|(simp;done)));(focus ((repeat(first|exact ai _ _|apply af|apply bC|refine aC ?_ g));done));(focus (have h1:=g.size;first|omega|(simp at h1⊢;done)|(simp at h1⊢;omega)|(have l:W0.drew.heap.size=W0.heap.size:=rfl;simp[World.drew] at h1⊢;omega)));(focus (have h1:=g.size;first|omega|(simp at h1⊢;done)|(simp at h1⊢;omega)|(have l:W0.drew.heap.size=W0.heap.size:=rfl;simp[World.drew] at h1⊢;omega))))
     |(refine dp (Y:=(W0.alloc (.cells zs 3))) (s.out _ _ rfl) ?_ ?_ m ?_ ?_;(focus (first|rfl|(simp;done)));(focus ((repeat(first|exact ai _ _|apply af|apply bC|refine aC ?_ g));done));(focus (have h1:=g.size;first|omega|(simp at h1⊢;done)|(simp at h1⊢;omega)|(have l:W0.drew.heap.size=W0.heap.size:=rfl;simp[World.drew] at h1⊢;omega)));(focus (have h1:=g.size;first|omega|(simp at h1⊢;done)|(simp at h1⊢;omega)|(have l:W0.drew.heap.size=W0.heap.size:=rfl;simp[World.drew] at h1⊢;omega))))
     |fail
end Go.Proofs.YtffdiakgjakngaaGreat.P
namespace Go.Proofs.YtffdiakgjakngaaGreat.P
open Go Go.RowKit Go.Proofs.YtffdiakgjakngaaGreatW.PrintWords Go.Proofs.YtffdiakgjakngaaGreatW.PrintLast Go.Proofs.YtffdiakgjakngaaGreatW.PrintMore
set_option linter.unusedVariables false
set_option linter.unusedSimpArgs false
set_option maxHeartbeats 8000000
set_option maxRecDepth 100000
def bO (b0 b:Nat) (ds:List Deferred) (w:World):Prop:=∃a:List Nat,ds=a.map (fun D=>{target:=.collected D,args:=#[]})/\a.Nodup/\∀D,D∈a->b0<=D/\D<b/\w.heap[D]? =some (.deferred (some []))
theorem bO.nil (b0 b:Nat) (w:World):bO b0 b [] w:=⟨[],rfl,List.nodup_nil,fun _ h=>by cases h⟩
theorem bO.je {b0 b:Nat} {ds:List Deferred} {w w':World} (h:bO b0 b ds w) (hk:∀D,D<b->w.heap[D]? =some (.deferred (some []))->w'.heap[D]? =some (.deferred (some []))):bO b0 b ds w':=by
 obtain⟨g,h1,i,a⟩:=h;exact⟨g,h1,i,fun D e=>⟨(a D e).1,(a D e).2.1,hk D (a D e).2.1 (a D e).2.2⟩⟩
theorem bO.below {b0 b:Nat} {ds:List Deferred} {w w':World} (h:bO b0 b ds w) (hb:Below w.heap.size w w'):bO b0 b ds w':=
 h.je fun D _ a=>(hb.block D (Array.getElem?_eq_some_iff.1 a).1).trans a
theorem bO.bk {b0 b l:Nat} {ds:List Deferred} {w w':World} (h:bO b0 b ds w) (hb:Bk l w w') (a:b<=l):bO b0 b ds w':=
 h.je fun D e hd=>(hb.heap D (by omega)).trans hd
theorem bO.set {b0 b:Nat} {ds:List Deferred} {w:World} (h:bO b0 b ds w) {p:Addr} {cs:Array Value} {t:TypeId} {fr:Nat×Nat} (hp:w.heap[p.block]? =some (.cells cs t fr)) (v:Value):bO b0 b ds (w.setCell p v):=
 h.je fun D _ hd=>by
  rw[Below.heap_setCell _ _ _ _ (fun e=>by rw[e,hp] at hd;cases hd)];exact hd
theorem bO.push {b0 b D:Nat} {ds:List Deferred} {w:World} (h:bO b0 b ds w) (e:b0<=D) (hb:b<=D) (hd:w.heap[D]? =some (.deferred (some []))):bO b0 (D+1) ({target:=.collected D,args:=#[]}::ds) w:=by
 obtain⟨g,h1,i,a⟩:=h;refine⟨D::g,by rw[h1];rfl,List.nodup_cons.2 ⟨fun hm=>by have:=(a D hm).2.1;omega,i⟩,fun j k=>?_⟩;rcases List.mem_cons.1 k with rfl|hm
 ·exact⟨e,by omega,hd⟩
 ·have:=a j hm
  exact⟨this.1,by omega,this.2.2⟩
inductive eZ (b:Nat):World->World->Prop
 |refl (w:World):eZ b w w
 |step {w w':World} (D:Nat) (h:w.heap[D]? =some (.deferred (some []))) (hb:b<=D) (a:eZ b (w.putObj D (.deferred none)) w'):eZ b w w'
theorem eZ.eA {b:Nat} {w w':World} (h:eZ b w w'):Below b w w':=by
 induction h with
 |refl w=>exact ai _ _
 |step D h hb _ a=>exact(Bk.below (l:=D) ⟨_,_,h,rfl,rfl⟩ b hb).trans a
theorem eZ.cells {b:Nat} {w w':World} (h:eZ b w w') {k:Nat} {cs:Array Value} {t:TypeId} {fr:Nat×Nat} (hk:w.heap[k]? =some (.cells cs t fr)):w'.heap[k]? =some (.cells cs t fr):=by
 induction h with
 |refl w=>exact hk
 |step D h hb _ a=>exact a (Bk.cells (l:=D) ⟨_,_,h,rfl,rfl⟩ hk)
theorem eZ.size {b:Nat} {w w':World} (h:eZ b w w'):w'.heap.size=w.heap.size:=by
 induction h with
 |refl w=>rfl
 |step D h hb _ a=>rw[a];simp[World.putObj]
theorem eZ.R {α:Type} {d:Kd α} {e base b:Nat} {ok:Nat->Prop} {v:Value} {xs:List α} {A B:World} (h:eZ b A B) (g:d.R e A base ok v xs):d.R e B base ok v xs:=
 Kd.bj (Kd.eX (Kd.dy g) (fun k hk=>by obtain⟨_,_,_,q,_,cells,a⟩:=hk;exact(h.cells a).trans a.symm)) (fun k hk=>hk.1)
theorem s_ {F:Fence} {n:Nat} {P:Program} {fn:Func} {R:Ending->World->Prop} {tm:Array Value} {b0:Nat}:∀(a:List Nat) (w:World),a.Nodup->(∀D,D∈a->b0<=D/\w.heap[D]? =some (.deferred (some [])))->
  (∀w',eZ b0 w w'->∃v,(results fn tm).run P w'= .ok v w'/\R (.returned v) w')->LeavesInM F n P fn tm R (a.map (fun D=>{target:=.collected D,args:=#[]})) .returning w
 |[],w,_,_,h=>by
  obtain⟨v,h1,k⟩:=h w (eZ.refl w);exact⟨_,h1,k⟩
 |D::a,w,hn,g,h=>by
  have b:=g D (List.mem_cons_self ..);have i:=List.nodup_cons.1 hn;refine⟨by simp,.inl ⟨_,_,rfl,run_takeDeferred b.2,s_ a _ i.2 (fun l j=>?_) fun w' m=>h w' (eZ.step D b.2 b.1 m)⟩⟩;have h1:=g l (List.mem_cons_of_mem _ j);exact⟨h1.1,(World.putObj_heap_other (fun e=>i.1 (by rw[<-e];exact j))).trans h1.2⟩
theorem na {F:Fence} {n:Nat} {P:Program} {fn:Func} {R:Ending->World->Prop} {tm:Array Value} {ds:List Deferred} {b0 b:Nat} {w:World} (g:bO b0 b ds w)
  (h:∀w',eZ b0 w w'->∃v,(results fn tm).run P w'= .ok v w'/\R (.returned v) w'):bodyPostM F n P fn R .ret {tmps:=tm,defers:=ds} w/\bodyPostM F n P fn R .normal {tmps:=tm,defers:=ds} w:=by
 obtain⟨i,rfl,j,a⟩:=g;have:=s_ (F:=F) (n:=n) (P:=P) (fn:=fn) (R:=R) (tm:=tm) i w j (fun D e=>⟨(a D e).1,(a D e).2.2⟩) h;exact⟨this,this⟩
def jf (b0:Nat) (J:Nat->Array Value->World->Prop) (n:Nat) (a:Act) (w:World):Prop:=(∃n',n'<n/\J n' a.tmps w)/\∃b,b<=w.heap.size/\bO b0 b a.defers w
theorem jf.intro {b0:Nat} {J:Nat->Array Value->World->Prop} {n:Nat} {tm:Array Value} {ds:List Deferred} {w:World} (k:Nat) (h1:k<n) (a:J k tm w) (b:Nat) (hb:b<=w.heap.size) (e:bO b0 b ds w):jf b0 J n {tmps:=tm,defers:=ds} w:=⟨⟨k,h1,a⟩,b,hb,e⟩
theorem po {F:Fence} {g:Nat} {P:Program} {Q:Exit->Act->World->Prop} {tm:Array Value} {ds:List Deferred} {w:World} {c:Code} (b0:Nat) (I:Nat->Array Value->World->Prop) (h:Nat) (j:I h tm w) (b:Nat) (hb:b<=w.heap.size) (e:bO b0 b ds w)
  (round:∀n tm w,I n tm w->∀ds b,b<=w.heap.size->bO b0 b ds w->∀(J:Nat->Array Value->World->Prop) (K:Act->World->Prop),(∀k i w',I k i w'->J k i w')->(∀a' w',jf b0 J n a' w'->K a' w')->c.wpIn F g P (Exit.then K Q) {tmps:=tm,defers:=ds} w):
  (Code.loop c).wpIn F g P Q {tmps:=tm,defers:=ds} w:=by
 refine wpIn_loop_ghost (fun k a w=>I k a.tmps w/\∃b,b<=w.heap.size/\bO b0 b a.defers w) h ⟨j,b,hb,e⟩ ?_;rintro n ⟨tm,ds⟩ w ⟨l,b,hb,e⟩;exact round n tm w l ds b hb e I _ (fun _ _ _ q=>q) fun a' w' ⟨⟨n',h1,m⟩,o⟩=>⟨n',h1,m,o⟩
end Go.Proofs.YtffdiakgjakngaaGreat.P
namespace Go.Proofs.YtffdiakgjakngaaGreat.P
open Go.RowKit Go.Proofs.YtffdiakgjakngaaGreatW.PrintWords Go.Proofs.YtffdiakgjakngaaGreatW.PrintLast Go.Proofs.YtffdiakgjakngaaGreatW.PrintMore
set_option linter.unusedVariables false
set_option linter.unusedSimpArgs false
set_option maxHeartbeats 8000000
set_option maxRecDepth 100000
theorem pq:Tryz.zeroCells252=((List.replicate 145 (Value.int .i64 0))++[Value.slice none 0 0]++List.replicate 12 (Value.bool false)).toArray:=by kernel_rfl
theorem mX.new (n:Int) (chips:Value):mX ((Tryz.zeroCells252.setIfInBounds 0 (.int .i64 n)).setIfInBounds 145 chips) n (fun _ _=>0) chips (fun _=>false):=by
 have a:Tryz.zeroCells252.size=158:=by rw[pq];simp
 refine⟨by simp[a],?_,?_,?_,?_⟩
 ·rw[Array.getElem?_setIfInBounds_ne (by omega),Array.getElem?_setIfInBounds_self_of_lt (by omega)]
 ·intro i j hi b
  rw[Array.getElem?_setIfInBounds_ne (by omega),Array.getElem?_setIfInBounds_ne (by omega),pq];rw[List.getElem?_toArray,List.getElem?_append_left (by simp;omega),List.getElem?_append_left (by simp;omega),List.getElem?_replicate,if_pos (by omega)]
 ·rw[Array.getElem?_setIfInBounds_self_of_lt (by simp[a])]
 ·intro i hi
  rw[Array.getElem?_setIfInBounds_ne (by omega),Array.getElem?_setIfInBounds_ne (by omega),pq];rw[List.getElem?_toArray,List.getElem?_append_right (by simp),List.getElem?_replicate,if_pos (by simp;omega)]
theorem zP (n q:Nat) (A0:Option Addr) (c0:Nat) (E:List S83) (L:Option Addr) (c2:Nat) (l:List Int) (w:World) (T:Kd.C aQ w A0 E.length E) (a0:E.length<=c0) (an:Kd.C (Kd.int .i64) w L l.length l) (ao:l.length<=c2) (hn:n<=12) (hq:q<n) (hE:dN n E) (a2:l.length<=n) (a3:n<=l.length):
  Calls Tryz.prog 220 #[.agg #[.int .i64 n,.slice A0 E.length c0],.int .i64 q,.slice L l.length c2] w (fun e w'=>∃g h o,e= .returned (.pointer (some ⟨g,0,none⟩))/\b8 w' g n (ae E) (.slice h l.length o) (fun i=>if i=q then true else false)/\Kd.R (Kd.int .i64) 3 w' w.heap.size (fun _=>True) (.slice h l.length o) l/\Below w.heap.size w w'/\w.heap.size<=g):=by
 have hu:=Tryz.underlying24;go_enter Tryz.func220,Tryz.ntmps220
 go_wp2_with fail
 go_region_held3 (fun w'=>w'.cell? ⟨w.heap.size,0,none⟩=some (.int .i64 n)/\w'.cell? ⟨w.heap.size,1,none⟩=some (.slice A0 E.length c0)) (first|go_keep|(go_split_ands;exact⟨(G.cell (p:=⟨w.heap.size,0,none⟩) (by simp)).trans (by go_simp),(G.cell (p:=⟨w.heap.size,1,none⟩) (by simp)).trans (by go_simp)⟩))
  (first|(go_at_call 57;refine(fb.calls L c2 l l _ (Kd.al an (fN (af (ai _ _) _))) ao (by unfold fb.f clone.f;rw[if_pos (by omega)])).mono ?_;rintro e w1 ⟨v0,rfl,M,G⟩;obtain⟨h,o,rfl⟩:=Kd.bE M))
 rename_i hHeld;have N:b8 (w1.alloc (.cells ((Tryz.zeroCells252.setIfInBounds 0 (.int .i64 n)).setIfInBounds 145 (.slice h l.length o)) 252)) w1.heap.size n (fun _ _=>0) (.slice h l.length o) (fun _=>false):=⟨_,by simpa using aU w1 _,mX.new _ _⟩;have U:Below w.heap.size w (w1.alloc (.cells ((Tryz.zeroCells252.setIfInBounds 0 (.int .i64 n)).setIfInBounds 145 (.slice h l.length o)) 252)):=af (kn (fN (af (ai _ _) _)) (by simp) G) _;have V:Kd.R (Kd.int .i64) 3 (w1.alloc (.cells ((Tryz.zeroCells252.setIfInBounds 0 (.int .i64 n)).setIfInBounds 145 (.slice h l.length o)) 252)) w.heap.size (fun _=>True) (.slice h l.length o) l:=Kd.bt (Kd.aK M _) (by simp);have hg:w.heap.size<w1.heap.size:=by have:=G.size;simp at this;omega
 clear G M;generalize av:w1.heap.size=g at N hg⊢;generalize (w1.alloc (.cells ((Tryz.zeroCells252.setIfInBounds 0 (.int .i64 n)).setIfInBounds 145 (.slice h l.length o)) 252))=W0 at N hHeld U V⊢;clear av;obtain⟨a4,a5⟩:=hHeld;go_wp2;go_loopw [19] (fun u wr=>∃k:Nat,k<=E.length/\u= .int .i64 k/\Aside0 (b8 wr g n (ae (E.take k)) (.slice h l.length o) (fun _=>false))/\Aside0 (Kd.R (Kd.int .i64) 3 wr w.heap.size (fun _=>True) (.slice h l.length o) l)/\Aside0 (Below w.heap.size w wr)) (fun u _=>E.length- (intOf u).toNat)
 case atStart=>exact⟨0,Nat.zero_le _,rfl,⟨by simpa [ae] using N⟩,⟨V⟩,⟨U⟩⟩
 case round=>
  obtain⟨k,hk,rfl,y,O,z⟩:=hrel;have a9:=T.2.1;by_cases W:k<E.length
  ·obtain⟨P,X,e2,Y,Z,e5⟩:=hE.get k W
   have ag:=sH E k W;have Q:=Lib.hid ag;clear ag;obtain⟨ad,rfl,B,D,F⟩:=fa T k (by omega) (by omega);rw[aq] at B D F;replace B:=(z.out.cell (bS w _ B)).trans B;replace D:=(z.out.cell (bS w _ D)).trans D;replace F:=(z.out.cell (bS w _ F)).trans F;generalize ab E k=x at P X e2 Y Z e5 B D F Q;obtain⟨a,b,m⟩:=x;simp only at P X e2 Y Z e5 B D F;obtain⟨a,rfl⟩:=Int.eq_ofNat_of_zero_le P;obtain⟨b,rfl⟩:=Int.eq_ofNat_of_zero_le e2;have a12:a<12:=by omega
   have s:b<12:=by omega
   by_cases H:a=b
   ·have aB:((a:Int) != (b:Int))=false:=by rw[H];simp
    have S:=Lib.hid H;clear H;go_wp2;go_roundw
    case rel=>exact⟨k+1,by omega,by go_num,⟨by rw[Q.out];simp only[ct];rw[if_pos (by rw[S.out])];exact y.out.below (af (ai _ _) _)⟩,⟨Kd.aK O.out _⟩,⟨af z.out _⟩⟩
    case measure=>simp[intOf];omega
   ·have aB:((a:Int) != (b:Int))=true:=by rw[bne_iff_ne];omega
    have bb:1+a*12+b≠1+b*12+a:=by omega
    have bd:1+b*12+a≠1+a*12+b:=by omega
    have S:=Lib.hid H;clear H;have be:=y.out.lt;have r:=zA (y.out.below (af (ai _ _) (.cells #[.int .i64 a,.int .i64 b,.int .i64 m] 83)));have f1:=r.out.frozen (1+a*12+b);have f2:=r.out.frozen (1+b*12+a);have c1:=r.out.lJ a b a12 s;have c2:=r.out.lJ b a s a12;go_wp2;have s0:(wr.alloc (.cells #[.int .i64 a,.int .i64 b,.int .i64 m] 83)).cell? ⟨wr.heap.size,0,none⟩=some (.int .i64 a):=by go_simp
    have s1:(wr.alloc (.cells #[.int .i64 a,.int .i64 b,.int .i64 m] 83)).cell? ⟨wr.heap.size,1,none⟩=some (.int .i64 b):=by go_simp
    have s2:(wr.alloc (.cells #[.int .i64 a,.int .i64 b,.int .i64 m] 83)).cell? ⟨wr.heap.size,2,none⟩=some (.int .i64 m):=by go_simp
    have ak:=zA (Kd.aK O.out (.cells #[.int .i64 a,.int .i64 b,.int .i64 m] 83));have am:=zA (af z.out (.cells #[.int .i64 a,.int .i64 b,.int .i64 m] 83));have aF:g≠wr.heap.size:=by omega
    have aL:wr.heap.size≠g:=by omega
    generalize (wr.alloc (.cells #[.int .i64 a,.int .i64 b,.int .i64 m] 83))=W2 at s0 s1 s2 r ak am f1 f2 c1 c2⊢;generalize wr.heap.size=eb at aF aL s0 s1 s2⊢;have d1:=(r.out.lK b a s a12 m).lJ a b a12 s;have d2:=(r.out.lK a b a12 s m).lJ b a s a12;go_region
    have I:=(r.out.lK a b a12 s m).lK b a s a12 m;have J:=(r.out.lK a b a12 s m).ep (r.out.ep ak.out (by decide) (1+a*12+b) (.int .i64 m)) (by decide) (1+b*12+a) (.int .i64 m);have K:=dz (dz am.out (g:=g) (j:=1+a*12+b) (v:=.int .i64 m) (by omega)) (g:=g) (j:=1+b*12+a) (v:=.int .i64 m) (by omega);generalize ((W2.setCell ⟨g,1+a*12+b,none⟩ (.int .i64 m)).setCell ⟨g,1+b*12+a,none⟩ (.int .i64 m))=W3 at I J K⊢;replace I:=zA I;replace J:=zA J;replace K:=zA K;go_wp2;go_roundw
    case rel=>exact⟨k+1,by omega,by go_num,⟨by rw[Q.out];simp only[ct];rw[if_neg (by have:=S.out;omega)];exact I.out.drew⟩,⟨Kd.bR J.out⟩,⟨fN K.out⟩⟩
    case measure=>simp[intOf];omega
  ·obtain rfl:k=E.length:=by omega
   have fq:=y.out.frozen (146+q);have cq:=y.out.kK q (by omega);have aO:=zA (y.out.sK q (by omega) true);have aP:=zA (y.out.ep O.out (by decide) (146+q) (.bool true));have aS:=zA (dz z.out (g:=g) (j:=146+q) (v:=.bool true) (by omega));go_wp2;go_ret;exact⟨g,h,o,rfl,by simpa using aO.out,aP.out,aS.out,by omega⟩
def gG.f (a0:Int):Option (Bool):=if a0>=(-1048576) then(some (decide (a0<=1048576))) else(some false)
theorem gG.calls (a0:Int) (r:Bool) (w:World) (h:gG.f a0=some r):
  Calls Tryz.prog 119 #[.int .i64 a0] w fun e w'=>e= .returned (.bool r)/\aJ w w':=by
 have H:(if a0>=(-1048576) then(some (decide (a0<=1048576))) else(some false))=some r:=h;clear h;by_cases c2:a0>=(-1048576)
 ·rw[if_pos c2] at H
  have a:=aA c2;clear c2;obtain rfl:=aR H;go_enter Tryz.func119,Tryz.ntmps119
  go_wp2;go_ret;exact⟨zT,by repeat(first|exact aJ.refl _|apply aJ.step)⟩
 ·rw[if_neg c2] at H
  have a:=aY c2;clear c2;obtain rfl:=aR H;go_enter Tryz.func119,Tryz.ntmps119
  go_wp2;go_ret;exact⟨zT,by repeat(first|exact aJ.refl _|apply aJ.step)⟩
def gV.f (a0:Int):Option (Int):=if a0<1 then(some 2) else(if a0>12 then(some 2) else(some 0))
theorem gV.calls (a0:Int) (r:Int) (w:World) (h:gV.f a0=some r):
  Calls Tryz.prog 141 #[.int .i64 a0] w fun e w'=>e= .returned (.int .i64 r)/\aJ w w':=by
 have H:(if a0<1 then(some 2) else(if a0>12 then(some 2) else(some 0)))=some r:=h;clear h;by_cases c2:a0<1
 ·rw[if_pos c2] at H
  have a:=aA c2;clear c2;obtain rfl:=aR H;go_enter Tryz.func141,Tryz.ntmps141
  go_wp2;go_ret;exact⟨zT,by repeat(first|exact aJ.refl _|apply aJ.step)⟩
 ·rw[if_neg c2] at H
  have a:=aY c2;clear c2;by_cases c3:a0>12
  ·rw[if_pos c3] at H
   have b:=aA c3;clear c3;obtain rfl:=aR H;go_enter Tryz.func141,Tryz.ntmps141
   go_wp2;go_ret;exact⟨zT,by repeat(first|exact aJ.refl _|apply aJ.step)⟩
  ·rw[if_neg c3] at H
   have b:=aY c3;clear c3;obtain rfl:=aR H;go_enter Tryz.func141,Tryz.ntmps141
   go_wp2;go_ret;exact⟨zT,by repeat(first|exact aJ.refl _|apply aJ.step)⟩
def cu.l0:Nat->List Int->Int->Int->Option (Int)
 |0,_,_,_=>none
 |k+1,b,e,a=>if a<e then(if 0<=a then(if a<(b.length:Int) then((gG.f (rd b a)).bind fun t192=>(if t192=true then(cu.l0 k b e (wrap64 (a+1))) else(some 2))) else(none)) else(none)) else(some 0)
def cu.f (k:Nat) (l0:List Int) (a:Int):Option (Int):=(gV.f a).bind fun t190=>(if t190=0 then(if(l0.length:Int)=a then(cu.l0 k l0 (l0.length:Int) 0) else(some 8)) else(some t190))
theorem cu.calls (k:Nat) (A0:Option Addr) (c0:Nat) (l0:List Int) (b:Int) (r:Int) (w:World) (v:Kd.C (Kd.int .i64) w A0 l0.length l0) (x:l0.length<=c0) (h:cu.f k l0 b=some r):
  Calls Tryz.prog 87 #[.slice A0 l0.length c0,.int .i64 b] w fun e w'=>e= .returned (.int .i64 r)/\aJ w w':=by
 have y:=zA v;have O:=zA x;clear v x;unfold cu.f at h;have H:=h;clear h;obtain⟨t190,q,H⟩:=zo H;by_cases c4:t190=0
 ·rw[if_pos c4] at H
  obtain⟨z,B⟩:=da c4;clear c4;by_cases l:(l0.length:Int)=b
  ·rw[if_pos l] at H
   obtain⟨D,E⟩:=da l;clear l;have m:=zA H;clear H;go_enter Tryz.func87,Tryz.ntmps87
   go_wp2_with (first|((with_reducible refine aT (f:=141) rfl ?_);refine zL (some 9) Tryz.func141 #[.int .i64 b] ?_;(with_reducible refine(gV.calls b t190 _ q.out).mono ?_);rintro e w' ⟨rfl,⟨nd,rfl⟩⟩;refine⟨_,rfl,?_⟩))
   go_loopg [19] k (fun F J w'=>∃(a:Int),J= .int .i64 a/\Aside0 (cu.l0 F l0 (l0.length:Int) a=some r)/\Aside0 (F<=k)/\aJ w w')
   case atStart=>exact⟨(0),zT,m,⟨aM _⟩,by repeat(first|exact aJ.refl _|apply aJ.step)⟩
   case round=>
    clear m;clear z B D E;obtain⟨a,rfl,s,G,⟨m1,rfl⟩⟩:=hrel;cases gk with
    |zero=>exact absurd s.out (by simp[cu.l0])
    |succ K=>
     have H:=s.out;clear s;simp only[cu.l0] at H;by_cases j:a<(l0.length:Int)
     ·rw[if_pos j] at H
      have L:=aA j;clear j;by_cases n:0<=a
      ·rw[if_pos n] at H
       have P:=aA n;clear n;by_cases o:a<(l0.length:Int)
       ·rw[if_pos o] at H
        have Q:=aA o;clear o;obtain⟨t192,I,H⟩:=zo H;by_cases p:t192=true
        ·subst p
         replace H:=zi H;have m:=zA H;clear H;have g:0<=(a:Int):=aD ‹_›;have i:a<(l0.length:Int):=aD ‹_›;obtain⟨M,u,N⟩:=Kd.cP y.out a g i;cases u;replace g:=eq_true g;replace i:=eq_true i;go_wp2_with (first|((with_reducible refine aT (f:=119) rfl ?_);refine zL (some 24) Tryz.func119 #[.int .i64 (rd l0 a)] ?_;(with_reducible refine(gG.calls (rd l0 a) true _ I.out).mono ?_);rintro e w' ⟨rfl,⟨nd,rfl⟩⟩;refine⟨_,rfl,?_⟩))
         go_roundg K
         case measure=>have:=G.out;omega
         case rel=>exact⟨(wrap64 (a+1)),zT,m,⟨by have:=G.out;omega⟩,by repeat(first|exact aJ.refl _|apply aJ.step)⟩
        ·replace p:=Bool.eq_false_iff.mpr p
         subst p;replace H:=zj H;obtain rfl:=aR H;have g:0<=(a:Int):=aD ‹_›;have i:a<(l0.length:Int):=aD ‹_›;obtain⟨M,u,N⟩:=Kd.cP y.out a g i;cases u;replace g:=eq_true g;replace i:=eq_true i;go_wp2_with (first|((with_reducible refine aT (f:=119) rfl ?_);refine zL (some 24) Tryz.func119 #[.int .i64 (rd l0 a)] ?_;(with_reducible refine(gG.calls (rd l0 a) false _ I.out).mono ?_);rintro e w' ⟨rfl,⟨nd,rfl⟩⟩;refine⟨_,rfl,?_⟩))
         go_ret;exact⟨zT,by repeat(first|exact aJ.refl _|apply aJ.step)⟩
       ·rw[if_neg o] at H
        exact absurd H (by simp)
      ·rw[if_neg n] at H
       exact absurd H (by simp)
     ·rw[if_neg j] at H
      have L:=aY j;clear j;obtain rfl:=aR H;go_wp2;go_ret;exact⟨zT,by repeat(first|exact aJ.refl _|apply aJ.step)⟩
  ·rw[if_neg l] at H
   obtain⟨D,E⟩:=db l;obtain rfl:=aR H;go_enter Tryz.func87,Tryz.ntmps87
   go_wp2_with (first|((with_reducible refine aT (f:=141) rfl ?_);refine zL (some 9) Tryz.func141 #[.int .i64 b] ?_;(with_reducible refine(gV.calls b t190 _ q.out).mono ?_);rintro e w' ⟨rfl,⟨nd,rfl⟩⟩;refine⟨_,rfl,?_⟩))
   go_ret;exact⟨zT,by repeat(first|exact aJ.refl _|apply aJ.step)⟩
 ·rw[if_neg c4] at H
  obtain⟨z,B⟩:=db c4;obtain rfl:=aR H;go_enter Tryz.func87,Tryz.ntmps87
  go_wp2_with (first|((with_reducible refine aT (f:=141) rfl ?_);refine zL (some 9) Tryz.func141 #[.int .i64 b] ?_;(with_reducible refine(gV.calls b t190 _ q.out).mono ?_);rintro e w' ⟨rfl,⟨nd,rfl⟩⟩;refine⟨_,rfl,?_⟩))
  go_ret;exact⟨zT,by repeat(first|exact aJ.refl _|apply aJ.step)⟩
section
theorem jU (w:World) (g j:Nat) (v:Value):w.grownBy (w.setCell ⟨g,j,none⟩ v) (some g):=⟨rfl,rfl,rfl,by simp,fun k _ hk=>Below.heap_setCell w _ v k (fun e=>hk (by rw[e]))⟩
def dC (w:World) (g:Nat) (p:Nat->Nat):Prop:=∃cs:Array Value,w.heap[g]? =some (.cells cs 217 (0,0))/\cs.size=12/\∀i,i<12->cs[i]? =some (.int .i64 (p i:Nat))
namespace dC
variable {w w':World} {g:Nat} {p:Nat->Nat}
theorem lt (h:dC w g p):g<w.heap.size:=by
 obtain⟨cs,hb,_⟩:=h;exact ay hb
theorem cell (h:dC w g p) (i:Nat) (hi:i<12):w.cell? ⟨g,i,none⟩=some (.int .i64 (p i:Nat)):=by
 obtain⟨cs,hb,_,a⟩:=h;exact(ah hb i).trans (a i hi)
theorem frozen (h:dC w g p) (k:Nat):w.frozen? ⟨g,k,none⟩=false:=by
 obtain⟨cs,hb,_⟩:=h;exact bc hb k
theorem below (h:dC w g p) (hb:Below w.heap.size w w'):dC w' g p:=by
 obtain⟨cs,a,b⟩:=h;exact⟨cs,au a hb,b⟩
theorem alloc (h:dC w g p) (o:Obj):dC (w.alloc o) g p:=h.below (af (ai _ _) o)
theorem set (h:dC w g p) (i:Nat) (hi:i<12) (x:Nat):dC (w.setCell ⟨g,i,none⟩ (.int .i64 x)) g (fun j=>if j=i then x else p j):=by
 obtain⟨cs,a,b,l⟩:=h;refine⟨cs.setIfInBounds i (.int .i64 x),by simpa using bB a i (.int .i64 x),by simp[b],?_⟩;intro k hk;by_cases e:k=i
 ·subst e
  rw[Array.getElem?_setIfInBounds_self_of_lt (by omega)];simp
 ·rw[Array.getElem?_setIfInBounds_ne (by omega),l k hk];simp[e]
theorem congr {q:Nat->Nat} (h:dC w g p) (he:∀i,i<12->q i=p i):dC w g q:=by
 obtain⟨cs,a,b,e⟩:=h;exact⟨cs,a,b,fun i hi=>by rw[he i hi];exact e i hi⟩
end dC
def jg (p:Nat->Nat):Prop:=∀i,p i<=i
def rootOf (p:Nat->Nat) (v:Nat):Nat:=if h:p v<v then rootOf p (p v) else v
termination_by v
theorem iD (p:Nat->Nat) (v:Nat):rootOf p v<=v:=by
 induction v using Nat.strongRecOn with
 |ind v a=>
  rw[rootOf];split
  ·rename_i h
   exact Nat.le_trans (a _ h) (Nat.le_of_lt h)
  ·exact aM _
def dJ (p:Nat->Nat) (a b:Nat):Nat->Nat:=fun j=>if j=max (rootOf p a) (rootOf p b) then min (rootOf p a) (rootOf p b) else p j
theorem zQ {p:Nat->Nat} (h:jg p) (a b:Nat):jg (dJ p a b):=fun i=>by
 unfold dJ;split
 ·subst_vars;omega
 ·exact h i
def az (E:List S83):Nat->Nat:=E.foldl (fun p x=>dJ p x.f0.toNat x.f1.toNat) id
theorem zU (E:List S83) (k:Nat) (h:k<E.length):az (E.take (k+1))=dJ (az (E.take k)) (ab E k).f0.toNat (ab E k).f1.toNat:=by
 unfold az;rw[List.take_succ_eq_append_getElem h,List.foldl_append];simp[ab,aN,br h]
theorem ta (E:List S83):jg (az E):=by
 suffices h:∀(E:List S83) p,jg p->jg (E.foldl (fun p x=>dJ p x.f0.toNat x.f1.toNat) p) from h E id (fun i=>aM _)
 intro E;induction E with
 |nil=>exact fun p h=>h
 |cons x E a=>exact fun p h=>a _ (zQ h _ _)
theorem zV {k:IntKind} {a b:Int} (h:a=b):Ending.returned (.int k a)= .returned (.int k b):=by rw[h]
theorem pr (g v:Nat) (p:Nat->Nat) (w:World) (hf:jg p) (m:v<12) (hw:dC w g p):
  Calls Tryz.prog 210 #[.pointer (some ⟨g,0,none⟩),.int .i64 v] w fun e w'=>e= .returned (.int .i64 (rootOf p v:Nat))/\w=w':=by
 go_enter Tryz.func210,Tryz.ntmps210
 go_wp2;go_loop [1] (fun u=>∃k:Nat,k<12/\u= .int .i64 k/\rootOf p k=rootOf p v) (fun u=>(intOf u).toNat)
 case atStart=>exact⟨v,m,rfl,rfl⟩
 case round=>
  obtain⟨k,hk,rfl,h⟩:=hrel;have i:=Lib.hid h;clear h;have n:=hw.cell k hk;have o:(0:Int)<=(k:Int):=by omega
  have q:(k:Int)<12:=by omega
  have hle:=hf k;by_cases j:p k<k
  ·have a:rootOf p k=rootOf p (p k):=by rw[rootOf,dif_pos j]
   have b:=Lib.hid a;clear a;have r:((p k:Nat):Int)≠(k:Int):=by omega
   go_wp2;go_round
   case rel=>exact⟨p k,by omega,rfl,by rw[<-i.out,b.out]⟩
   case measure=>simp[intOf];omega
  ·have a:rootOf p k=k:=by rw[rootOf,dif_neg j]
   have b:=Lib.hid a;clear a;have l:p k=k:=by omega
   rw[l] at n;clear l;go_wp2;go_ret;exact⟨zV (by rw[<-i.out,b.out]),rfl⟩
theorem zW (g a b:Nat) (p:Nat->Nat) (w:World) (hf:jg p) (u:a<12) (hb:b<12) (hw:dC w g p):
  Calls Tryz.prog 209 #[.pointer (some ⟨g,0,none⟩),.int .i64 a,.int .i64 b] w fun e w'=>e= .returned (.tuple #[])/\dC w' g (dJ p a b)/\w.grownBy w' (some g):=by
 have h1:=iD p a;have q:=iD p b;generalize k:rootOf p a=h at h1;generalize l:rootOf p b=i at q;have m:=pr g a p w hf u hw;have cb:=pr g b p w hf hb hw;rw[k] at m;rw[l] at cb;have n:=zA m;have o:=zA cb;have j:Aside0 (dC (w.setCell ⟨g,max h i,none⟩ (.int .i64 (min h i:Nat))) g (dJ p a b)):=⟨by unfold dJ;rw[k,l];exact hw.set _ (by omega) _⟩;have Hg:Aside0 (w.grownBy (w.setCell ⟨g,max h i,none⟩ (.int .i64 (min h i:Nat))) (some g)):=⟨jU ..⟩;clear k l m cb;have r:h<12:=by omega
 have s:i<12:=by omega
 have G:(0:Int)<=(h:Int):=by omega
 have H:(h:Int)<12:=by omega
 have v:(0:Int)<=(i:Int):=by omega
 have x:(i:Int)<12:=by omega
 have I:=hw.cell h r;have J:=hw.frozen h;have y:=hw.cell i s;have z:=hw.frozen i;have K:=zA hw;clear hw h1 q r s;rcases Nat.lt_trichotomy h i with B|heq|B
 ·rw[show max h i=i from by omega,show min h i=h from by omega] at j Hg
  have C:(h:Int)<(i:Int):=by omega
  have D:¬(i:Int)<(h:Int):=by omega
  have E:(h:Int)<=(i:Int):=by omega
  have F:¬(i:Int)<=(h:Int):=by omega
  go_enter Tryz.func209,Tryz.ntmps209
  go_wp2_with (first|(go_at_call 210;(first|(with_reducible refine n.out.mono ?_)|(with_reducible refine o.out.mono ?_));rintro e w1 ⟨rfl,rfl⟩))
  go_end0;exact⟨rfl,j.out,Hg.out⟩
 ·subst heq
  rw[Nat.max_self,Nat.min_self] at j Hg;clear y z v x;go_enter Tryz.func209,Tryz.ntmps209
  go_wp2_with (first|(go_at_call 210;(first|(with_reducible refine n.out.mono ?_)|(with_reducible refine o.out.mono ?_));rintro e w1 ⟨rfl,rfl⟩))
  go_end0;exact⟨rfl,j.out,Hg.out⟩
 ·rw[show max h i=h from by omega,show min h i=i from by omega] at j Hg
  have C:(i:Int)<(h:Int):=by omega
  have D:¬(h:Int)<(i:Int):=by omega
  have E:(i:Int)<=(h:Int):=by omega
  have F:¬(h:Int)<=(i:Int):=by omega
  go_enter Tryz.func209,Tryz.ntmps209
  go_wp2_with (first|(go_at_call 210;(first|(with_reducible refine n.out.mono ?_)|(with_reducible refine o.out.mono ?_));rintro e w1 ⟨rfl,rfl⟩))
  go_end0;exact⟨rfl,j.out,Hg.out⟩
theorem zY (w:World):Calls Tryz.prog 208 #[] w fun e w'=>e= .returned (.agg #[.int .i64 0,.int .i64 1,.int .i64 2,.int .i64 3,.int .i64 4,.int .i64 5,.int .i64 6,.int .i64 7,.int .i64 8,.int .i64 9,.int .i64 10,.int .i64 11])/\Below w.heap.size w w':=by
 go_enter Tryz.func208,Tryz.ntmps208
 go_wp2;have g:=af (af (ai w.heap.size w) (.cells #[.int .i64 0,.int .i64 0,.int .i64 0,.int .i64 0,.int .i64 0,.int .i64 0,.int .i64 0,.int .i64 0,.int .i64 0,.int .i64 0,.int .i64 0,.int .i64 0] 217)) (.cells #[.int .i64 0,.int .i64 0,.int .i64 0,.int .i64 0,.int .i64 0,.int .i64 0,.int .i64 0,.int .i64 0,.int .i64 0,.int .i64 0,.int .i64 0,.int .i64 0] 217);have h:((w.alloc (.cells #[.int .i64 0,.int .i64 0,.int .i64 0,.int .i64 0,.int .i64 0,.int .i64 0,.int .i64 0,.int .i64 0,.int .i64 0,.int .i64 0,.int .i64 0,.int .i64 0] 217)).alloc (.cells #[.int .i64 0,.int .i64 0,.int .i64 0,.int .i64 0,.int .i64 0,.int .i64 0,.int .i64 0,.int .i64 0,.int .i64 0,.int .i64 0,.int .i64 0,.int .i64 0] 217)).heap[w.heap.size]? =some (.cells #[.int .i64 0,.int .i64 0,.int .i64 0,.int .i64 0,.int .i64 0,.int .i64 0,.int .i64 0,.int .i64 0,.int .i64 0,.int .i64 0,.int .i64 0,.int .i64 0] 217 (0,0)):=aj (aU w _) _;have h1:dC ((w.alloc (.cells #[.int .i64 0,.int .i64 0,.int .i64 0,.int .i64 0,.int .i64 0,.int .i64 0,.int .i64 0,.int .i64 0,.int .i64 0,.int .i64 0,.int .i64 0,.int .i64 0] 217)).alloc (.cells #[.int .i64 0,.int .i64 0,.int .i64 0,.int .i64 0,.int .i64 0,.int .i64 0,.int .i64 0,.int .i64 0,.int .i64 0,.int .i64 0,.int .i64 0,.int .i64 0] 217)) (w.heap.size+1) (fun i=>if i<0 then i else 0):=by
  refine⟨#[.int .i64 0,.int .i64 0,.int .i64 0,.int .i64 0,.int .i64 0,.int .i64 0,.int .i64 0,.int .i64 0,.int .i64 0,.int .i64 0,.int .i64 0,.int .i64 0],by simpa using aU (w.alloc (.cells #[.int .i64 0,.int .i64 0,.int .i64 0,.int .i64 0,.int .i64 0,.int .i64 0,.int .i64 0,.int .i64 0,.int .i64 0,.int .i64 0,.int .i64 0,.int .i64 0] 217)) (.cells #[.int .i64 0,.int .i64 0,.int .i64 0,.int .i64 0,.int .i64 0,.int .i64 0,.int .i64 0,.int .i64 0,.int .i64 0,.int .i64 0,.int .i64 0,.int .i64 0] 217),rfl,fun i hi=>?_⟩;match i,hi with|0,_=>rfl|1,_=>rfl|2,_=>rfl|3,_=>rfl|4,_=>rfl|5,_=>rfl|6,_=>rfl|7,_=>rfl|8,_=>rfl|9,_=>rfl|10,_=>rfl|11,_=>rfl
 generalize n:w.heap.size=gb at h h1 g⊢;generalize ((w.alloc (.cells #[.int .i64 0,.int .i64 0,.int .i64 0,.int .i64 0,.int .i64 0,.int .i64 0,.int .i64 0,.int .i64 0,.int .i64 0,.int .i64 0,.int .i64 0,.int .i64 0] 217)).alloc (.cells #[.int .i64 0,.int .i64 0,.int .i64 0,.int .i64 0,.int .i64 0,.int .i64 0,.int .i64 0,.int .i64 0,.int .i64 0,.int .i64 0,.int .i64 0,.int .i64 0] 217))=W0 at h h1 g⊢;go_loopw [2,3] (fun _ i wr=>∃k:Nat,k<=12/\i= .int .i64 k/\Aside0 (wr.heap[gb]? =some (.cells #[.int .i64 0,.int .i64 0,.int .i64 0,.int .i64 0,.int .i64 0,.int .i64 0,.int .i64 0,.int .i64 0,.int .i64 0,.int .i64 0,.int .i64 0,.int .i64 0] 217 (0,0)))/\Aside0 (dC wr (gb+1) (fun i=>if i<k then i else 0))/\Aside0 (Below gb w wr)) (fun _ i _=>12- (intOf i).toNat)
 case atStart=>exact⟨0,by omega,rfl,⟨h⟩,⟨h1⟩,⟨g⟩⟩
 case round=>
  obtain⟨k,hk,rfl,a,H1,l⟩:=hrel;by_cases m:k<12
  ·have r:=H1.out.cell k m
   have hf:=H1.out.frozen k;have s:(0:Int)<=(k:Int):=by omega
   have u:(k:Int)<12:=by omega
   have o:=zA (cZ a.out (jU wr (gb+1) k (.int .i64 k)) (by simp));have n1:=zA ((H1.out.set k m k).congr (q:=fun i=>if i<k+1 then i else 0) (fun i hi=>by(try dsimp only);split<;>split<;>(try split)<;>omega));have p:=zA (l.out.grown (jU wr (gb+1) k (.int .i64 k)) (by have:=H1.out.lt;omega) (fun j e=>by cases e;omega));go_wp2;go_roundw
   case rel=>exact⟨k+1,by omega,by go_num,o,n1,p⟩
   case measure=>(show 12- ((k:Int)+1).toNat<12- ((k:Int)).toNat;omega)
  ·obtain rfl:k=12:=by omega
   have x:wr.cell? ⟨gb+1,0,none⟩=some (.int .i64 0):=H1.out.cell 0 (by omega);have y:wr.cell? ⟨gb,0,none⟩=some (.int .i64 0):=(ah a.out 0).trans rfl;have z:=bc a.out 0;have B:wr.cell? ⟨gb+1,1,none⟩=some (.int .i64 1):=H1.out.cell 1 (by omega);have C:wr.cell? ⟨gb,1,none⟩=some (.int .i64 0):=(ah a.out 1).trans rfl;have D:=bc a.out 1;have E:wr.cell? ⟨gb+1,2,none⟩=some (.int .i64 2):=H1.out.cell 2 (by omega);have F:wr.cell? ⟨gb,2,none⟩=some (.int .i64 0):=(ah a.out 2).trans rfl;have G:=bc a.out 2;have H:wr.cell? ⟨gb+1,3,none⟩=some (.int .i64 3):=H1.out.cell 3 (by omega);have I:wr.cell? ⟨gb,3,none⟩=some (.int .i64 0):=(ah a.out 3).trans rfl;have J:=bc a.out 3;have K:wr.cell? ⟨gb+1,4,none⟩=some (.int .i64 4):=H1.out.cell 4 (by omega);have L:wr.cell? ⟨gb,4,none⟩=some (.int .i64 0):=(ah a.out 4).trans rfl;have M:=bc a.out 4;have N:wr.cell? ⟨gb+1,5,none⟩=some (.int .i64 5):=H1.out.cell 5 (by omega);have O:wr.cell? ⟨gb,5,none⟩=some (.int .i64 0):=(ah a.out 5).trans rfl;have P:=bc a.out 5;have Q:wr.cell? ⟨gb+1,6,none⟩=some (.int .i64 6):=H1.out.cell 6 (by omega);have R:wr.cell? ⟨gb,6,none⟩=some (.int .i64 0):=(ah a.out 6).trans rfl;have S:=bc a.out 6;have T:wr.cell? ⟨gb+1,7,none⟩=some (.int .i64 7):=H1.out.cell 7 (by omega);have U:wr.cell? ⟨gb,7,none⟩=some (.int .i64 0):=(ah a.out 7).trans rfl;have V:=bc a.out 7;have W:wr.cell? ⟨gb+1,8,none⟩=some (.int .i64 8):=H1.out.cell 8 (by omega);have X:wr.cell? ⟨gb,8,none⟩=some (.int .i64 0):=(ah a.out 8).trans rfl;have Y:=bc a.out 8;have Z:wr.cell? ⟨gb+1,9,none⟩=some (.int .i64 9):=H1.out.cell 9 (by omega);have aa:wr.cell? ⟨gb,9,none⟩=some (.int .i64 0):=(ah a.out 9).trans rfl;have ad:=bc a.out 9;have ag:wr.cell? ⟨gb+1,10,none⟩=some (.int .i64 10):=H1.out.cell 10 (by omega);have ak:wr.cell? ⟨gb,10,none⟩=some (.int .i64 0):=(ah a.out 10).trans rfl;have am:=bc a.out 10;have an:wr.cell? ⟨gb+1,11,none⟩=some (.int .i64 11):=H1.out.cell 11 (by omega);have ao:wr.cell? ⟨gb,11,none⟩=some (.int .i64 0):=(ah a.out 11).trans rfl;have ap:=bc a.out 11;go_wp2;have b:=a.out;replace b:=bB b 0 (.int .i64 0);replace b:=bB b 1 (.int .i64 1);replace b:=bB b 2 (.int .i64 2);replace b:=bB b 3 (.int .i64 3);replace b:=bB b 4 (.int .i64 4);replace b:=bB b 5 (.int .i64 5);replace b:=bB b 6 (.int .i64 6);replace b:=bB b 7 (.int .i64 7);replace b:=bB b 8 (.int .i64 8);replace b:=bB b 9 (.int .i64 9);replace b:=bB b 10 (.int .i64 10);replace b:=bB b 11 (.int .i64 11);simp only[List.setIfInBounds_toArray,List.set_cons_zero,List.set_cons_succ] at b;refine bodyPost_ret (v:=.agg #[.int .i64 0,.int .i64 1,.int .i64 2,.int .i64 3,.int .i64 4,.int .i64 5,.int .i64 6,.int .i64 7,.int .i64 8,.int .i64 9,.int .i64 10,.int .i64 11]) (results_cell_row rfl _ _ gb 217 #[.int .i64 0,.int .i64 1,.int .i64 2,.int .i64 3,.int .i64 4,.int .i64 5,.int .i64 6,.int .i64 7,.int .i64 8,.int .i64 9,.int .i64 10,.int .i64 11] (0,0) _ rfl b Tryz.underlying217 rfl rfl) rfl ⟨rfl,?_⟩;iterate 12 (refine dz ?_ (by omega))
   rw[n];exact l.out
end
theorem zZ (N:Int) (A0:Option Addr) (c0:Nat) (E:List S83) (w:World) (G:Kd.C aQ w A0 E.length E) (H:dN 12 E):
  Calls Tryz.prog 196 #[.agg #[.int .i64 N,.slice A0 E.length c0]] w fun e w'=>e= .returned (.agg #[.int .i64 (az E 0:Nat),.int .i64 (az E 1:Nat),.int .i64 (az E 2:Nat),.int .i64 (az E 3:Nat),.int .i64 (az E 4:Nat),.int .i64 (az E 5:Nat),.int .i64 (az E 6:Nat),.int .i64 (az E 7:Nat),.int .i64 (az E 8:Nat),.int .i64 (az E 9:Nat),.int .i64 (az E 10:Nat),.int .i64 (az E 11:Nat)])/\Below w.heap.size w w':=by
 have hu:=Tryz.underlying24;have W:=Tryz.underlying83;have M:=zA H.get;clear H;go_enter Tryz.func196,Tryz.ntmps196
 go_wp2_with (first|(go_at_call 208;refine(zY _).mono ?_;rintro e w1 ⟨rfl,hb⟩;have z:w1.heap[w.heap.size]? =some (.cells #[.int .i64 N,.slice A0 E.length c0] 24 (0,0)):=au (aj (aU w _) _) hb;have B:w1.heap[w.heap.size+1]? =some (.cells #[.int .i64 0,.int .i64 0,.int .i64 0,.int .i64 0,.int .i64 0,.int .i64 0,.int .i64 0,.int .i64 0,.int .i64 0,.int .i64 0,.int .i64 0,.int .i64 0] 217 (0,0)):=au (heap_alloc2_new w _ _) hb;have I:=zA (aC (af (af (ai w.heap.size w) _) _) hb);clear hb;have J:(w1.alloc (.cells #[.int .i64 0,.int .i64 1,.int .i64 2,.int .i64 3,.int .i64 4,.int .i64 5,.int .i64 6,.int .i64 7,.int .i64 8,.int .i64 9,.int .i64 10,.int .i64 11] 217)).cell? ⟨w.heap.size,1,none⟩=some (.slice A0 E.length c0):=(ah (aj z _) 1).trans rfl))
 have o:=zA (aj z (.cells #[.int .i64 0,.int .i64 1,.int .i64 2,.int .i64 3,.int .i64 4,.int .i64 5,.int .i64 6,.int .i64 7,.int .i64 8,.int .i64 9,.int .i64 10,.int .i64 11] 217));have g:=zA (aj B (.cells #[.int .i64 0,.int .i64 1,.int .i64 2,.int .i64 3,.int .i64 4,.int .i64 5,.int .i64 6,.int .i64 7,.int .i64 8,.int .i64 9,.int .i64 10,.int .i64 11] 217));have n:=zA (af I.out (.cells #[.int .i64 0,.int .i64 1,.int .i64 2,.int .i64 3,.int .i64 4,.int .i64 5,.int .i64 6,.int .i64 7,.int .i64 8,.int .i64 9,.int .i64 10,.int .i64 11] 217));have l:Aside0 (dC (w1.alloc (.cells #[.int .i64 0,.int .i64 1,.int .i64 2,.int .i64 3,.int .i64 4,.int .i64 5,.int .i64 6,.int .i64 7,.int .i64 8,.int .i64 9,.int .i64 10,.int .i64 11] 217)) w1.heap.size (az (E.take 0))):=⟨⟨#[.int .i64 0,.int .i64 1,.int .i64 2,.int .i64 3,.int .i64 4,.int .i64 5,.int .i64 6,.int .i64 7,.int .i64 8,.int .i64 9,.int .i64 10,.int .i64 11],aU _ _,rfl,fun i hi=>by
  match i,hi with|0,_=>rfl|1,_=>rfl|2,_=>rfl|3,_=>rfl|4,_=>rfl|5,_=>rfl|6,_=>rfl|7,_=>rfl|8,_=>rfl|9,_=>rfl|10,_=>rfl|11,_=>rfl⟩⟩
 have O:w.heap.size+1<w1.heap.size:=ay B;clear z B I J;generalize (w1.alloc (.cells #[.int .i64 0,.int .i64 1,.int .i64 2,.int .i64 3,.int .i64 4,.int .i64 5,.int .i64 6,.int .i64 7,.int .i64 8,.int .i64 9,.int .i64 10,.int .i64 11] 217))=W0 at o g n l⊢;generalize w1.heap.size=gf at l O⊢;clear w1;go_loopw [10] (fun i wr=>∃k:Nat,k<=E.length/\i= .int .i64 k/\Aside0 (wr.heap[w.heap.size]? =some (.cells #[.int .i64 N,.slice A0 E.length c0] 24 (0,0)))/\Aside0 (wr.heap[w.heap.size+1]? =some (.cells #[.int .i64 0,.int .i64 0,.int .i64 0,.int .i64 0,.int .i64 0,.int .i64 0,.int .i64 0,.int .i64 0,.int .i64 0,.int .i64 0,.int .i64 0,.int .i64 0] 217 (0,0)))/\Aside0 (dC wr gf (az (E.take k)))/\Aside0 (Below w.heap.size w wr)) (fun i _=>E.length- (intOf i).toNat)
 case atStart=>exact⟨0,by omega,rfl,o,g,l,n⟩
 case round=>
  clear o g l n;obtain⟨k,hk,rfl,o,g,l,p⟩:=hrel;by_cases K:k<E.length
  ·obtain⟨h1,D,u,F, -, -⟩:=M.out k K
   have L:=Lib.hid (zU E k K);obtain⟨ad,rfl,q,r,s⟩:=fa G k (by omega) (by omega);rw[aq] at q r s;generalize ab E k=x at h1 D u F q r s L;obtain⟨a,b,m⟩:=x;simp only at h1 D u F q r s;obtain⟨a,rfl⟩:=Int.eq_ofNat_of_zero_le h1;obtain⟨b,rfl⟩:=Int.eq_ofNat_of_zero_le u;have q:=gj p.out q;have r:=gj p.out r;have s:=gj p.out s;have X:(0:Int)<=(k:Int):=by omega
   have Y:(k:Int)<(E.length:Int):=by omega
   have Z:=G.2.1;have aa:wrap64 ((k:Int)+1)=(k:Int)+1:=by unfold wrap64;omega
   have P:=zA (l.out.alloc (.cells #[.int .i64 a,.int .i64 b,.int .i64 m] 83));have Q:=zA (aj o.out (.cells #[.int .i64 a,.int .i64 b,.int .i64 m] 83));have R:=zA (aj g.out (.cells #[.int .i64 a,.int .i64 b,.int .i64 m] 83));have n:=zA (af p.out (.cells #[.int .i64 a,.int .i64 b,.int .i64 m] 83));have S:a<12:=by omega
   have hb:b<12:=by omega
   clear h1 D u F;go_wp2_with (first|(go_at_call 209;refine(zW gf a b _ _ (ta _) S hb P.out).mono ?_;rintro e w2 ⟨rfl,hf,y⟩;have T:=zA hf;have n1:=zA (cZ Q.out y (by simp;omega));have U:=zA (cZ R.out y (by simp;omega));have V:=zA (Below.grown n.out y n.out.size (fun j e=>by cases e;omega));clear hf y))
   go_roundw
   case rel=>exact⟨k+1,by omega,by go_num,n1,U,⟨by rw[L.out];exact T.out⟩,V⟩
   case measure=>(show E.length- ((k:Int)+1).toNat<E.length- ((k:Int)).toNat;omega)
  ·obtain rfl:k=E.length:=by omega
   rw[List.take_length] at l;have ag:=l.out.cell 0 (by omega);have ak:wr.cell? ⟨w.heap.size+1,0,none⟩=some (.int .i64 0):=(ah g.out 0).trans rfl;have am:=bc g.out 0;have J:=l.out.cell 1 (by omega);have an:wr.cell? ⟨w.heap.size+1,1,none⟩=some (.int .i64 0):=(ah g.out 1).trans rfl;have ao:=bc g.out 1;have ap:=l.out.cell 2 (by omega);have ar:wr.cell? ⟨w.heap.size+1,2,none⟩=some (.int .i64 0):=(ah g.out 2).trans rfl;have av:=bc g.out 2;have aB:=l.out.cell 3 (by omega);have aF:wr.cell? ⟨w.heap.size+1,3,none⟩=some (.int .i64 0):=(ah g.out 3).trans rfl;have aL:=bc g.out 3;have aO:=l.out.cell 4 (by omega);have aP:wr.cell? ⟨w.heap.size+1,4,none⟩=some (.int .i64 0):=(ah g.out 4).trans rfl;have aS:=bc g.out 4;have a0:=l.out.cell 5 (by omega);have a1:wr.cell? ⟨w.heap.size+1,5,none⟩=some (.int .i64 0):=(ah g.out 5).trans rfl;have a2:=bc g.out 5;have a3:=l.out.cell 6 (by omega);have a4:wr.cell? ⟨w.heap.size+1,6,none⟩=some (.int .i64 0):=(ah g.out 6).trans rfl;have a5:=bc g.out 6;have a9:=l.out.cell 7 (by omega);have bb:wr.cell? ⟨w.heap.size+1,7,none⟩=some (.int .i64 0):=(ah g.out 7).trans rfl;have bd:=bc g.out 7;have be:=l.out.cell 8 (by omega);have bf:wr.cell? ⟨w.heap.size+1,8,none⟩=some (.int .i64 0):=(ah g.out 8).trans rfl;have bg:=bc g.out 8;have bi:=l.out.cell 9 (by omega);have bk:wr.cell? ⟨w.heap.size+1,9,none⟩=some (.int .i64 0):=(ah g.out 9).trans rfl;have bn:=bc g.out 9;have bo:=l.out.cell 10 (by omega);have bq:wr.cell? ⟨w.heap.size+1,10,none⟩=some (.int .i64 0):=(ah g.out 10).trans rfl;have bv:=bc g.out 10;have bw:=l.out.cell 11 (by omega);have bx:wr.cell? ⟨w.heap.size+1,11,none⟩=some (.int .i64 0):=(ah g.out 11).trans rfl;have b0:=bc g.out 11;go_wp2;have h:=g.out;replace h:=bB h 0 (.int .i64 (az E 0:Nat));replace h:=bB h 1 (.int .i64 (az E 1:Nat));replace h:=bB h 2 (.int .i64 (az E 2:Nat));replace h:=bB h 3 (.int .i64 (az E 3:Nat));replace h:=bB h 4 (.int .i64 (az E 4:Nat));replace h:=bB h 5 (.int .i64 (az E 5:Nat));replace h:=bB h 6 (.int .i64 (az E 6:Nat));replace h:=bB h 7 (.int .i64 (az E 7:Nat));replace h:=bB h 8 (.int .i64 (az E 8:Nat));replace h:=bB h 9 (.int .i64 (az E 9:Nat));replace h:=bB h 10 (.int .i64 (az E 10:Nat));replace h:=bB h 11 (.int .i64 (az E 11:Nat));simp only[List.setIfInBounds_toArray,List.set_cons_zero,List.set_cons_succ] at h;refine bodyPost_ret (v:=.agg #[.int .i64 (az E 0:Nat),.int .i64 (az E 1:Nat),.int .i64 (az E 2:Nat),.int .i64 (az E 3:Nat),.int .i64 (az E 4:Nat),.int .i64 (az E 5:Nat),.int .i64 (az E 6:Nat),.int .i64 (az E 7:Nat),.int .i64 (az E 8:Nat),.int .i64 (az E 9:Nat),.int .i64 (az E 10:Nat),.int .i64 (az E 11:Nat)]) (results_cell_row rfl _ _ (w.heap.size+1) 217 #[.int .i64 (az E 0:Nat),.int .i64 (az E 1:Nat),.int .i64 (az E 2:Nat),.int .i64 (az E 3:Nat),.int .i64 (az E 4:Nat),.int .i64 (az E 5:Nat),.int .i64 (az E 6:Nat),.int .i64 (az E 7:Nat),.int .i64 (az E 8:Nat),.int .i64 (az E 9:Nat),.int .i64 (az E 10:Nat),.int .i64 (az E 11:Nat)] (0,0) _ rfl h Tryz.underlying217 rfl rfl) rfl ⟨rfl,?_⟩;iterate 12 (refine dz ?_ (by simp))
   exact p.out
end Go.Proofs.YtffdiakgjakngaaGreat.P


namespace Go.Proofs.YtffdiakgjakngaaGreat.P
open Go.RowKit Go.Maps Go.Proofs.YtffdiakgjakngaaGreatW.PrintWords Go.Proofs.YtffdiakgjakngaaGreatW.PrintLast Go.Proofs.YtffdiakgjakngaaGreatW.PrintMore
set_option linter.unusedVariables false
set_option linter.unusedSimpArgs false
set_option maxHeartbeats 8000000
set_option maxRecDepth 100000
def bD (p:Nat->Nat):Nat->Nat
 |0=>0
 |u+1=>bD p u+(if rootOf p u=u then 1 else 0)
theorem lR (p:Nat->Nat):∀u,bD p u<=u
 |0=>aM _
 |u+1=>by
  have:=lR p u;simp only[bD];split<;>omega
theorem kO (p:Nat->Nat) (v:Nat):rootOf p (rootOf p v)=rootOf p v:=by
 induction v using Nat.strongRecOn with
 |ind v a=>
  by_cases h:p v<v
  ·rw[show rootOf p v=rootOf p (p v) by rw[rootOf,dif_pos h]]
   exact a _ h
  ·have e:rootOf p v=v:=by rw[rootOf,dif_neg h]
   rw[e,e]
theorem tb (w:World):(zeroValue 3).run Tryz.prog w= .ok (.int .i64 0) w:=by kernel_rfl
theorem pv:Keyed Tryz.prog 3:=int_keyed Tryz.underlying3
theorem pw {a:Nat} (h:a<=1000):keyOf Tryz.prog 3 (.int .i64 a)=some (.int .i64 a):=keyOf_int_mk Tryz.underlying3 (WalkArith.wf_i64 (by omega))
def jV (p:Nat->Nat) (k m:Nat) (D:DataW Unit):Prop:=IsMap D/\∀r,r<k->rootOf p r=r->∃c:Nat,c<m/\D.atKey (.int .i64 r) (.lit (.int .i64 0))= .lit (.int .i64 c)
theorem jV.skip {p:Nat->Nat} {k m:Nat} {D:DataW Unit} (h:jV p k m D) (b:rootOf p k≠k):jV p (k+1) m D:=by
 refine⟨h.1,fun r g a=>?_⟩;by_cases e:r=k
 ·subst e;exact absurd a b
 ·exact h.2 r (by omega) a
theorem jV.put {p:Nat->Nat} {k m:Nat} {D:DataW Unit} (h:jV p k m D) (hk:k<=1000):jV p (k+1) (m+1) (D.put (.int .i64 k) (.lit (.int .i64 m))):=by
 refine⟨h.1.put _ _,fun r g a=>?_⟩;by_cases e:r=k
 ·subst e
  exact⟨m,by omega,atKey_put_same h.1 (by simp[WideAt.IsKeyLit]) _ _⟩
 ·obtain⟨c,i,b⟩:=h.2 r (by omega) a
  refine⟨c,by omega,?_⟩;rw[atKey_put_other (fun e2=>e (by injection e2;omega))];exact b
theorem tc {W a:World} {b g0 cap c:Nat} {X:List (List Int)} {oki:Nat->Prop} {ev s:Value} {e:List Int} (hH:Kd.H (Kd.slice 3 (Kd.int .i64)) 25 W b (fun q=>True/\¬W.heap.size<=q) (.slice (some ⟨g0,0,none⟩) X.length cap) X (c:Int) oki [ev]) (m:c<X.length)
  (i:W.drew.grownBy a ev.ownBlock) (k:∀q,ev.ownBlock=some q->oki q) (l:(Kd.int .i64).R 3 a b (fun q=>oki q\/W.heap.size<=q) s e) (n:g0<W.heap.size):
  Kd.S (Kd.slice 3 (Kd.int .i64)) 25 (a.setCell ⟨g0,c,none⟩ s) b (fun _=>True) (.slice (some ⟨g0,0,none⟩) X.length cap) (X.set c e):=by
 have h:=(Kd.yb (d:=Kd.slice 3 (Kd.int .i64)) (okg:=fun q=>W.heap.size<=q) (ok:=fun _=>True) (okp:=fun q=>oki q\/W.heap.size<=q) (seg:=[s]) (j:=0) (x':=e) (Kd.r8 (Kd.xX hH) i k) (by omega) (by omega) (by simp[Kd.slice]) (Kd.kr l) (fun q g=>g) (fun q g=>⟨trivial,by omega⟩)).1;rw[aq] at h;simpa [Kd.slice,World.setCells] using h
theorem td {X:List (List Int)} {c k:Nat} {y:List Int} {x:Int} (h:∀z∈X,z.length<=k) (b:y.length<=k):∀z∈X.set c (y++[x]),z.length<=k+1:=fun z a=>by
 rcases List.mem_or_eq_of_mem_set a with h1|h1
 ·exact Nat.le_succ_of_le (h z h1)
 ·subst h1;simp;omega
theorem z8 (g n:Nat) (p:Nat->Nat) (w:World) (hn:n<=12) (hf:jg p) (hw:dC w g p):
  Calls Tryz.prog 197 #[.pointer (some ⟨g,0,none⟩),.int .i64 n] w fun e w'=>∃A c,e= .returned (.slice A (bD p n) c)/\Below w.heap.size w w':=by
 have c1:=@run_makeMap Tryz.prog;have d2:=hw.lt;go_enter Tryz.func197,Tryz.ntmps197
 go_wp2;have hB:=af (ai w.heap.size w) (.map #[] 0);have hM:=World.ownsMap_made (H:=Unit) w Tryz.prog 3 (plainElem Tryz.prog 3);generalize ch:w.heap.size=b at hM hB⊢;generalize (w.alloc (.map #[] 0))=W0 at hM hB⊢;clear c1;go_loopw [5,11] (fun v i wr=>∃(k:Nat) (xs:List (List Int)) (D:DataW Unit),k<=n/\i= .int .i64 k/\Aside0 (xs.length=bD p k)/\Aside0 (∀y∈xs,y.length<=k)/\Aside0 (Kd.S (Kd.slice 3 (Kd.int .i64)) 25 wr b (fun _=>True) v xs)/\Aside0 (wr.ownsMap Tryz.prog 3 (plainElem Tryz.prog 3) b k D)/\Aside0 (jV p k (bD p k) D)/\Aside0 (Below b w wr)) (fun _ i _=>n- (intOf i).toNat)
 case atStart=>exact⟨0,[],_,by omega,rfl,⟨rfl⟩,⟨fun y hy=>absurd hy (by simp)⟩,⟨Kd.ja _ _ _ _ _⟩,⟨hM⟩,⟨isMap_empty,fun r hr=>absurd hr (by omega)⟩,⟨hB⟩⟩
 case round=>
  clear hM hB;obtain⟨k,xs,D,hk,rfl,Y,HY,Z,HM,HP,HB⟩:=hrel;by_cases d3:k<n
  ·have hle:=iD p k
   have d4:=lR p k;have CR:=zA (pr g k p wr hf (by omega) (hw.below (by rw[ch];exact HB.out)));have ci:=Lib.hid (kO p k);have Hs:Hid (bD p (k+1)=bD p k+(if rootOf p k=k then 1 else 0)):=Lib.hid rfl;by_cases F:rootOf p k=k
   ·have cl:=Lib.hid F
    rw[F] at CR;clear F hle;obtain⟨Ao,co,rfl⟩:=Kd.kB Z.out;have d5:xs.length<=12:=by have:=Y.out;omega
    obtain⟨es,ck,s, -⟩:=HM.out;have c3:some b≠(Value.slice Ao xs.length co).ownBlock:=fun e=>by
     obtain⟨cs,u⟩:=Kd.mG Z.out b e.symm;rw[s] at u;cases u
    have c4:=zA (Kd.jH (ok':=fun q=>q≠b) (Kd.lA Z.out) (fun q m e=>by obtain⟨t,_,cs,u⟩:=m.2.2.2;subst e;rw[s] at u;cases u));clear s es ck;have bn:=HP.out.put (by omega);have G:bD p (k+1)=bD p k+1:=by rw[Hs.out,if_pos cl.out]
    rw[<-G,<-Y.out] at bn;have bf:bD p (k+1)=xs.length+1:=by rw[G,Y.out]
    have c5:=zA bf;clear G bf;have c6:=zA bn;clear bn;go_wp2_with (first|(go_at_call 210;refine CR.out.mono ?_;rintro e w1 ⟨rfl,rfl⟩)|(at_mapUpdate;refine wpList_mapUpdate_own _ rfl _ _ _ 229 rfl 3 3 pv Tryz.underlying229 _ b k _ rfl HM.out (by unfold maxLen;omega) _ _ _ rfl rfl (pw (by omega)) _ [] (plainElem_int Tryz.underlying3 (WalkArith.wf_i64 (by omega))) ?_;intro w2 cq bo;have cr:=zA cq;have c7:=zA (Kd.rW c4.out bo (fun q m e=>m (by injection e)));have c8:=zA (HB.out.grown bo (by have:=HM.out.lt;omega) (fun q e=>by injection e with e;omega));clear cq bo)|(at_builtin;refine Kd.xU (Kd.slice 3 (Kd.int .i64)) (w0:=w) b rfl (.tmp 24) (.tmp 25) 73 25 (.slice none 0 0) 24 rfl Tryz.underlying73 sB rfl (by decide) (by omega) _ xs [] [.slice none 0 0] (fun _=>True) (fun _=>False) rfl rfl (Kd.kr (Kd.c_ _ _ _ _ _)) (fun _ hk=>hk.elim) (fun _ _=>trivial) (Kd.jH c7.out (fun q _=>⟨trivial,fun h=>h⟩)) c8.out (by have:=cr.out.lt;omega) (by omega) ?_;intro v3 W cv cx cy c9;have I:=zA cv;have an:=zA cx;have l:=zA (cr.out.kept cy c3);have J:=c6;clear cv cx cy c9))
    generalize d6:D.put (.int .i64 k) (.lit (.int .i64 xs.length))=K at l J;have aa:Aside0 ((xs++[[]]).length=bD p (k+1)):=⟨by rw[c5.out];simp⟩;have ad:Aside0 (∀y∈xs++[[]],y.length<=k):=⟨fun y hy=>by
     rcases List.mem_append.1 hy with h|h
     ·exact HY.out y h
     ·simp at h;subst h;simp⟩
    generalize hX:xs++[[]]=X at I aa ad;obtain⟨c,bq,ao⟩:=J.out.2 k (by omega) cl.out;have C:∀w':World,w'.ownsMap Tryz.prog 3 (plainElem Tryz.prog 3) b (k+1) K->(Instr.lookup 229 (.map (some b)) (.int .i64 (k:Nat)) false).run Tryz.prog w'= .ok (.int .i64 c) w':=fun w' h=>by
     obtain⟨c',bv,o,_⟩:=h.lookup_int pv Tryz.underlying229 Tryz.underlying3 (tb _) (pw (a:=k) (by omega));rw[ao] at o;injection o with o
     injection o with _ o
     rw[bv,o]
    have bw:=aa.out;have bx:=lR p (k+1);obtain⟨g0,cap,hv,dd,L,cells,M⟩:=Kd.oQ I.out (by omega)
    (first|subst hv|(injection hv with b0 _ b1;subst b0;subst b1))
    obtain⟨oki,cc,b2,⟨ev,rfl,j⟩,ar,av,N,hH⟩:=Kd.r9 (Kd.jH (ok':=fun q=>True/\¬W.heap.size<=q) (Kd.lA I.out) (fun q m=>⟨trivial,by have:=m.2.2.1;omega⟩)) [] (c:Int) (by omega) (by omega);have O:(X.getD (c:Int).toNat []).length<=k:=by
     have P:c<X.length:=by omega
     rw[aq,aN,br P];exact ad.out _ (List.getElem_mem P)
    have aB:W.cell? ⟨g0,c,none⟩=some ev:=by have h1:=ar 0 _ rfl;rw[aq] at h1;simpa [Kd.slice] using h1
    have aF:W.frozen? ⟨g0,c,none⟩=false:=by have h1:=av 0;rw[aq] at h1;simpa [Kd.slice] using h1
    rw[aq] at j O;have b3:=Lib.hid (show (X.getD (c:Int).toNat [])=X.getD c [] by rw[aq]);generalize X.getD c []=y at j O b3;obtain⟨Q,ce,rfl⟩:=Kd.bE j;have aL:some b≠(Value.slice Q y.length ce).ownBlock:=fun e=>by
     obtain⟨cs,u⟩:=Kd.fP j b e.symm;obtain⟨es,ck,s, -⟩:=l.out;rw[s] at u;cases u
    have dl:g0≠b:=fun e=>by
     subst e;obtain⟨es,ck,s, -⟩:=l.out;rw[s] at M;cases M
    have aO:some g0≠(Value.slice Q y.length ce).ownBlock:=fun e=>(N g0 (j.1 g0 e.symm)).2 rfl
    have HR:=zA (Kd.bR (Kd.bj (ok':=fun q=>oki q\/W.heap.size<=q) j (fun q m=>.inl m)));have aS:=zA hH;have a0:=zA j.1;have b4:=zA N;clear hH ar av j N M cells b2;have b5:=C _ l.out.drew;have b6:=C _ ((l.out.alloc (.cells #[.int .i64 k] 3)).drew);have ds:(0:Int)<=(c:Int):=by omega
    have dv:(c:Int)<(X.length:Int):=by omega
    have a1:=zA C;have dx:c<12:=by omega
    have bf:X.length<=12:=by omega
    have P:c<X.length:=by omega
    clear C ao bq bw bx;go_region_law ((refine Kd.oB (Kd.int .i64) (w0:=w) (W:=W.drew) b (by rfl) (.tmp 36) (.tmp 38) 25 3 (.int .i64 0) 8 (by rfl) Tryz.underlying25 fC rfl (by decide) (by omega) _ y (k:Int) [.int .i64 k] (fun q=>oki q\/W.heap.size<=q) (fun _=>False) (by rfl) (by rfl) rfl (fun _ hk=>hk.elim) (fun q m=>.inr m) HR.out (bC an.out) (by have:=an.out.size;show b<=W.heap.size;omega) (by omega) ?_;intro v4 x R a2 B b_;obtain⟨T,U,a3⟩:=Kd.bE R;rw[show (y++[(k:Int)]).length=y.length+1 by simp] at a3;subst a3;have a4:=zA R;have V:=zA a2;have E:=zA B;have b':=a1.out _ (l.out.drew.kept B aL);have ca:x.cell? ⟨g0,c,none⟩=some (.slice Q y.length ce):=(B.cell_far ⟨g0,c,none⟩ L aO).trans aB;have cb:x.frozen? ⟨g0,c,none⟩=false:=(B.frozen_far ⟨g0,c,none⟩ L aO).trans aF;clear R a2 B b_))
    all_goals have n0:=zA (tc aS.out (by omega) E.out a0.out a4.out L)
    all_goals have n1:=zA ((l.out.drew.kept E.out aL).kept (jU x g0 c (.slice T (y.length+1) U)) (by simp;omega))
    all_goals have n2:=zA (V.out.grown (jU x g0 c (.slice T (y.length+1) U)) (by have:=V.out.size;have:=l.out.lt;have:W.drew.heap.size=W.heap.size:=rfl;have:=E.out.size;omega) (fun q e=>by injection e with e;omega))
    all_goals have n3:=zA (J.out)
    all_goals have n4:Aside0 (∀z∈X.set c (y++[(k:Int)]),z.length<=k+1):=⟨td ad.out O⟩
    all_goals have n5:Aside0 ((X.set c (y++[(k:Int)])).length=X.length):=⟨List.length_set⟩
    all_goals clear b5 b6 b' aB aF ca cb E V a4 a1 aS a0 b4 HR
    all_goals generalize (x.setCell ⟨g0,c,none⟩ (.slice T (y.length+1) U))=w5 at n0 n1 n2⊢
    all_goals go_wp2
    all_goals exact⟨⟨k+1,_,K,by omega,by go_num,⟨by rw[n5.out];exact aa.out⟩,n4,n0,n1,n3,n2⟩,(show n- ((k:Int)+1).toNat<n- ((k:Int)).toNat by omega)⟩
   ·have d1:rootOf p k<k:=by omega
    have d8:=Lib.hid F;have J:=zA (HP.out.skip F);have G:bD p (k+1)=bD p k:=by rw[Hs.out,if_neg F];rfl
    have aa:=zA (Y.out.trans G.symm);rw[<-G] at J;clear G F hle;have ad:=HY;have l:=zA (HM.out.mono (Nat.le_succ k));have I:=Z;have an:=HB;clear HM Z HB HP Y HY;obtain⟨Ao,co,rfl⟩:=Kd.kB I.out;obtain⟨W,rfl⟩:∃W,W=wr:=⟨_,rfl⟩;obtain⟨X,rfl⟩:∃X,X=xs:=⟨_,rfl⟩;obtain⟨K,rfl⟩:∃K,K=D:=⟨_,rfl⟩;generalize c0:rootOf p k=r at d1 CR ci;have d9:=Lib.hid c0;clear c0;have ea:((r:Nat):Int)≠(k:Int):=by omega
    go_wp2_with (first|(go_at_call 210;refine CR.out.mono ?_;rintro e w1 ⟨rfl,rfl⟩))
    obtain⟨c,bq,ao⟩:=J.out.2 r (by omega) ci.out;have C:∀w':World,w'.ownsMap Tryz.prog 3 (plainElem Tryz.prog 3) b (k+1) K->(Instr.lookup 229 (.map (some b)) (.int .i64 (r:Nat)) false).run Tryz.prog w'= .ok (.int .i64 c) w':=fun w' h=>by
     obtain⟨c',bv,o,_⟩:=h.lookup_int pv Tryz.underlying229 Tryz.underlying3 (tb _) (pw (a:=r) (by omega));rw[ao] at o;injection o with o
     injection o with _ o
     rw[bv,o]
    have bw:=aa.out;have bx:=lR p (k+1);obtain⟨g0,cap,hv,dd,L,cells,M⟩:=Kd.oQ I.out (by omega)
    (first|subst hv|(injection hv with b0 _ b1;subst b0;subst b1))
    obtain⟨oki,cc,b2,⟨ev,rfl,j⟩,ar,av,N,hH⟩:=Kd.r9 (Kd.jH (ok':=fun q=>True/\¬W.heap.size<=q) (Kd.lA I.out) (fun q m=>⟨trivial,by have:=m.2.2.1;omega⟩)) [] (c:Int) (by omega) (by omega);have O:(X.getD (c:Int).toNat []).length<=k:=by
     have P:c<X.length:=by omega
     rw[aq,aN,br P];exact ad.out _ (List.getElem_mem P)
    have aB:W.cell? ⟨g0,c,none⟩=some ev:=by have h1:=ar 0 _ rfl;rw[aq] at h1;simpa [Kd.slice] using h1
    have aF:W.frozen? ⟨g0,c,none⟩=false:=by have h1:=av 0;rw[aq] at h1;simpa [Kd.slice] using h1
    rw[aq] at j O;have b3:=Lib.hid (show (X.getD (c:Int).toNat [])=X.getD c [] by rw[aq]);generalize X.getD c []=y at j O b3;obtain⟨Q,ce,rfl⟩:=Kd.bE j;have aL:some b≠(Value.slice Q y.length ce).ownBlock:=fun e=>by
     obtain⟨cs,u⟩:=Kd.fP j b e.symm;obtain⟨es,ck,s, -⟩:=l.out;rw[s] at u;cases u
    have dl:g0≠b:=fun e=>by
     subst e;obtain⟨es,ck,s, -⟩:=l.out;rw[s] at M;cases M
    have aO:some g0≠(Value.slice Q y.length ce).ownBlock:=fun e=>(N g0 (j.1 g0 e.symm)).2 rfl
    have HR:=zA (Kd.bR (Kd.bj (ok':=fun q=>oki q\/W.heap.size<=q) j (fun q m=>.inl m)));have aS:=zA hH;have a0:=zA j.1;have b4:=zA N;clear hH ar av j N M cells b2;have b5:=C _ l.out.drew;have b6:=C _ ((l.out.alloc (.cells #[.int .i64 k] 3)).drew);have ds:(0:Int)<=(c:Int):=by omega
    have dv:(c:Int)<(X.length:Int):=by omega
    have a1:=zA C;have dx:c<12:=by omega
    have bf:X.length<=12:=by omega
    have P:c<X.length:=by omega
    clear C ao bq bw bx;go_region_law ((refine Kd.oB (Kd.int .i64) (w0:=w) (W:=W.drew) b (by rfl) (.tmp 36) (.tmp 38) 25 3 (.int .i64 0) 8 (by rfl) Tryz.underlying25 fC rfl (by decide) (by omega) _ y (k:Int) [.int .i64 k] (fun q=>oki q\/W.heap.size<=q) (fun _=>False) (by rfl) (by rfl) rfl (fun _ hk=>hk.elim) (fun q m=>.inr m) HR.out (bC an.out) (by have:=an.out.size;show b<=W.heap.size;omega) (by omega) ?_;intro v4 x R a2 B b_;obtain⟨T,U,a3⟩:=Kd.bE R;rw[show (y++[(k:Int)]).length=y.length+1 by simp] at a3;subst a3;have a4:=zA R;have V:=zA a2;have E:=zA B;have b':=a1.out _ (l.out.drew.kept B aL);have ca:x.cell? ⟨g0,c,none⟩=some (.slice Q y.length ce):=(B.cell_far ⟨g0,c,none⟩ L aO).trans aB;have cb:x.frozen? ⟨g0,c,none⟩=false:=(B.frozen_far ⟨g0,c,none⟩ L aO).trans aF;clear R a2 B b_))
    all_goals have n0:=zA (tc aS.out (by omega) E.out a0.out a4.out L)
    all_goals have n1:=zA ((l.out.drew.kept E.out aL).kept (jU x g0 c (.slice T (y.length+1) U)) (by simp;omega))
    all_goals have n2:=zA (V.out.grown (jU x g0 c (.slice T (y.length+1) U)) (by have:=V.out.size;have:=l.out.lt;have:W.drew.heap.size=W.heap.size:=rfl;have:=E.out.size;omega) (fun q e=>by injection e with e;omega))
    all_goals have n3:=zA (J.out)
    all_goals have n4:Aside0 (∀z∈X.set c (y++[(k:Int)]),z.length<=k+1):=⟨td ad.out O⟩
    all_goals have n5:Aside0 ((X.set c (y++[(k:Int)])).length=X.length):=⟨List.length_set⟩
    all_goals clear b5 b6 b' aB aF ca cb E V a4 a1 aS a0 b4 HR
    all_goals generalize (x.setCell ⟨g0,c,none⟩ (.slice T (y.length+1) U))=w5 at n0 n1 n2⊢
    all_goals go_wp2
    all_goals exact⟨⟨k+1,_,K,by omega,by go_num,⟨by rw[n5.out];exact aa.out⟩,n4,n0,n1,n3,n2⟩,(show n- ((k:Int)+1).toNat<n- ((k:Int)).toNat by omega)⟩
  ·obtain rfl:k=n:=by omega
   go_wp2;go_ret;obtain⟨A,c,rfl⟩:=Kd.kB Z.out;exact⟨A,c,by rw[Y.out];rfl,by rw[ch];exact HB.out⟩
end Go.Proofs.YtffdiakgjakngaaGreat.P
namespace Go.Proofs.YtffdiakgjakngaaGreat.P
open Go.RowKit Go.Proofs.YtffdiakgjakngaaGreatW.PrintWords Go.Proofs.YtffdiakgjakngaaGreatW.PrintLast Go.Proofs.YtffdiakgjakngaaGreatW.PrintMore
set_option linter.unusedVariables false
set_option linter.unusedSimpArgs false
set_option maxHeartbeats 8000000
set_option maxRecDepth 100000
def jh (N:Int) (E:List S83):Bool:=decide (0<=N/\N<=12)&&gC 12 E
def cD.f (k:Nat) (N:Int) (E:List S83):Option (Bool×Int):=
 (aW.f k N E).bind fun t=>if t=0 then(if jh N E=true then some (decide (bD (az E) N.toNat=1),0) else none) else some (false,t)
theorem cD.mono:∀a b k,bl (cD.f k a b) (cD.f (k+1) a b):=by
 intro a b k;unfold cD.f;exact bl.bind (aW.mono _ _ _) (fun _=>bl.refl _)
theorem z_ (k:Nat) (N:Int) (A0:Option Addr) (c0:Nat) (E:List S83) (t:Int) (w:World) (b:Kd.C aQ w A0 E.length E) (g:E.length<=c0) (a:aW.f k N E=some t) (j:t≠0):
  Calls Tryz.prog 172 #[.agg #[.int .i64 N,.slice A0 E.length c0]] w fun e w'=>e= .returned (.tuple #[.slice none 0 0,.int .i64 t])/\Below w.heap.size w w':=by
 have hu:=Tryz.underlying24;have h:=zA a;clear a;go_enter Tryz.func172,Tryz.ntmps172
 go_wp2_with (first|(go_at_call 64;refine(aW.calls k N A0 c0 E t _ (Kd.bp b _) g h.out).mono ?_;rintro e w1 ⟨rfl,hb⟩;have i:=zA (aC (af (ai w.heap.size w) _) hb);clear hb))
 go_ret2;exact⟨rfl,i.out⟩
theorem z' (E:List S83):∀i,i<12->(#[.int .i64 (az E 0:Nat),.int .i64 (az E 1:Nat),.int .i64 (az E 2:Nat),.int .i64 (az E 3:Nat),.int .i64 (az E 4:Nat),.int .i64 (az E 5:Nat),.int .i64 (az E 6:Nat),.int .i64 (az E 7:Nat),.int .i64 (az E 8:Nat),.int .i64 (az E 9:Nat),.int .i64 (az E 10:Nat),.int .i64 (az E 11:Nat)]:Array Value)[i]? =some (.int .i64 (az E i:Nat)):=fun i hi=>by
 match i,hi with|0,_=>rfl|1,_=>rfl|2,_=>rfl|3,_=>rfl|4,_=>rfl|5,_=>rfl|6,_=>rfl|7,_=>rfl|8,_=>rfl|9,_=>rfl|10,_=>rfl|11,_=>rfl
theorem Ab (k:Nat) (n:Nat) (A0:Option Addr) (c0:Nat) (E:List S83) (w:World) (b:Kd.C aQ w A0 E.length E) (j:E.length<=c0) (g:aW.f k n E=some 0) (hn:n<=12) (h:dN 12 E):
  Calls Tryz.prog 172 #[.agg #[.int .i64 n,.slice A0 E.length c0]] w fun e w'=>∃A c,e= .returned (.tuple #[.slice A (bD (az E) n) c,.int .i64 0])/\Below w.heap.size w w':=by
 have hu:=Tryz.underlying24;have l:=zA g;clear g;have m:=zA h;clear h;go_enter Tryz.func172,Tryz.ntmps172
 go_wp2_with (first|(go_at_call 64;refine(aW.calls k n A0 c0 E 0 _ (Kd.bp b _) j l.out).mono ?_;rintro e w1 ⟨rfl,hb⟩;have a:w1.heap[w.heap.size]? =some (.cells #[.int .i64 n,.slice A0 E.length c0] 24 (0,0)):=au (aU w _) hb;have o:=zA (Kd.al b (aC (af (ai w.heap.size w) _) hb));have p:=zA (aC (af (ai w.heap.size w) _) hb);clear hb;have v:w1.cell? ⟨w.heap.size,0,none⟩=some (.int .i64 n):=(ah a 0).trans rfl;have x:w1.cell? ⟨w.heap.size,1,none⟩=some (.slice A0 E.length c0):=(ah a 1).trans rfl)|(go_at_call 196;(with_reducible refine(zZ _ _ _ E _ o.out m.out).mono ?_);rintro e w2 ⟨rfl,hb⟩;have i:=aj (au a hb) (.cells #[.int .i64 (az E 0:Nat),.int .i64 (az E 1:Nat),.int .i64 (az E 2:Nat),.int .i64 (az E 3:Nat),.int .i64 (az E 4:Nat),.int .i64 (az E 5:Nat),.int .i64 (az E 6:Nat),.int .i64 (az E 7:Nat),.int .i64 (az E 8:Nat),.int .i64 (az E 9:Nat),.int .i64 (az E 10:Nat),.int .i64 (az E 11:Nat)] 217);have y:(w2.alloc (.cells #[.int .i64 (az E 0:Nat),.int .i64 (az E 1:Nat),.int .i64 (az E 2:Nat),.int .i64 (az E 3:Nat),.int .i64 (az E 4:Nat),.int .i64 (az E 5:Nat),.int .i64 (az E 6:Nat),.int .i64 (az E 7:Nat),.int .i64 (az E 8:Nat),.int .i64 (az E 9:Nat),.int .i64 (az E 10:Nat),.int .i64 (az E 11:Nat)] 217)).cell? ⟨w.heap.size,0,none⟩=some (.int .i64 n):=(ah i 0).trans rfl;have q:=zA (af (aC p.out hb) (.cells #[.int .i64 (az E 0:Nat),.int .i64 (az E 1:Nat),.int .i64 (az E 2:Nat),.int .i64 (az E 3:Nat),.int .i64 (az E 4:Nat),.int .i64 (az E 5:Nat),.int .i64 (az E 6:Nat),.int .i64 (az E 7:Nat),.int .i64 (az E 8:Nat),.int .i64 (az E 9:Nat),.int .i64 (az E 10:Nat),.int .i64 (az E 11:Nat)] 217));have r:=zA (show dC (w2.alloc (.cells #[.int .i64 (az E 0:Nat),.int .i64 (az E 1:Nat),.int .i64 (az E 2:Nat),.int .i64 (az E 3:Nat),.int .i64 (az E 4:Nat),.int .i64 (az E 5:Nat),.int .i64 (az E 6:Nat),.int .i64 (az E 7:Nat),.int .i64 (az E 8:Nat),.int .i64 (az E 9:Nat),.int .i64 (az E 10:Nat),.int .i64 (az E 11:Nat)] 217)) w2.heap.size (az E) from⟨_,aU _ _,rfl,z' E⟩);clear hb i)|(go_at_call 197;(with_reducible refine(z8 _ n (az E) _ hn (ta E) r.out).mono ?_);rintro e w3 ⟨s,c3,rfl,hb⟩;have u:=zA (aC q.out hb);clear hb))
 go_ret2;exact⟨s,c3,rfl,u.out⟩
theorem cD.calls (k:Nat) (p:Int) (j:Option Addr) (l:Nat) (a:List (S83)) (v:Bool) (x:Int) (w:World) (q:Kd.C aQ w j a.length a) (y:a.length<=l) (h:cD.f k p a=some (v,x)):
  Calls Tryz.prog 113 #[.agg #[.int .i64 p,.slice j a.length l]] w fun e w'=>e= .returned (.tuple #[.bool v,.int .i64 x])/\Below w.heap.size w w':=by
 unfold cD.f at h;obtain⟨t,o,h⟩:=Option.bind_eq_some_iff.1 h;split at h
 ·rename_i r
  subst r;split at h
  case isFalse=>cases h
  rename_i z;simp only[jh,Bool.and_eq_true,decide_eq_true_eq] at z;obtain⟨⟨D,H⟩,B⟩:=z;obtain⟨n,rfl⟩:=Int.eq_ofNat_of_zero_le D;injection h with h
  injection h with h1 s
  subst s;rw[aq] at h1;have b:=fun W u=>Ab k n j l a W u y o (by omega) (iy (n:=12) B)
  have g:=zA b;have H1:=zA h1;clear b o B h1;have E:=lR (az a) n;generalize bD (az a) n=m at g H1 E;by_cases hm:m=1
  ·subst hm
   go_enter Tryz.func113,Tryz.ntmps113
   go_wp2_with (first|(go_at_call 172;refine(g.out _ (Kd.bp q _)).mono ?_;rintro e w1 ⟨F,c1,rfl,hb⟩;have i:=zA (aC (af (ai w.heap.size w) _) hb);clear hb))
   go_ret2;exact⟨by rw[<-H1.out];rfl,i.out⟩
  ·have G:((m:Nat):Int)≠1:=by omega
   go_enter Tryz.func113,Tryz.ntmps113
   go_wp2_with (first|(go_at_call 172;refine(g.out _ (Kd.bp q _)).mono ?_;rintro e w1 ⟨F,c1,rfl,hb⟩;have i:=zA (aC (af (ai w.heap.size w) _) hb);clear hb))
   go_ret2;exact⟨by rw[<-H1.out,aY hm,<-(beq_eq_false_iff_ne.2 G:((m:Int)==1)=false)];rfl,i.out⟩
 ·rename_i r
  injection h with h
  injection h with h1 s
  subst h1;subst s;have b:=fun W u=>z_ k p j l a t W u y o r
  have g:=zA b;clear b o;go_enter Tryz.func113,Tryz.ntmps113
  go_wp2_with (first|(go_at_call 172;refine(g.out _ (Kd.bp q _)).mono ?_;rintro e w1 ⟨rfl,hb⟩;have i:=zA (aC (af (ai w.heap.size w) _) hb);clear hb))
  go_ret2;exact⟨rfl,i.out⟩
def dc.f (k:Nat) (b:Int) (g:List (S83)) (e:Int):Option (Int):=(cD.f k b g).bind fun a=>(if a.2=0 then(if a.1=true then(if e<0 then(some 2) else(if e>=b then(some 2) else(some 0))) else(some 13)) else(some a.2))
theorem dc.mono:∀a0 a a2 k,bl (dc.f k a0 a a2) (dc.f (k+1) a0 a a2):=by
 intro a0 a a2 k;unfold dc.f;with_reducible repeat' first|exact cD.mono _ _ _|exact bl.refl _|exact bl.none _|refine bl.ite ?_ ?_|refine bl.bind ?_ (fun _=>?_)
theorem dc.calls (k:Nat) (j:Int) (m:Option Addr) (n:Nat) (g:List (S83)) (x:Int) (r:Int) (w:World) (E:Kd.C aQ w m g.length g) (F:g.length<=n) (h:dc.f k j g x=some r):
  Calls Tryz.prog 211 #[.agg #[.int .i64 j,.slice m g.length n],.int .i64 x] w fun e w'=>e= .returned (.int .i64 r)/\Below w.heap.size w w':=by
 have M:=Tryz.underlying24;have s:=zA E;have u:=zA F;clear E F;have a:=zA (ai w.heap.size w);unfold dc.f at h;have H:=h;clear h;obtain⟨⟨G,o⟩,v,H⟩:=zo H;dsimp only at H;by_cases c4:o=0
 ·rw[if_pos c4] at H
  obtain⟨I,J⟩:=da c4;clear c4;by_cases y:G=true
  ·subst y
   replace H:=zi H;by_cases p:x<0
   ·rw[if_pos p] at H
    have K:=aA p;clear p;obtain rfl:=aR H;go_enter Tryz.func211,Tryz.ntmps211
    go_wp2_with (first|((with_reducible refine aX (N:=2) rfl ?_);refine zX 2 #[.int .i64 j,.slice m g.length n] 24 ?_;intro z i O l hb;have b:=zA (l);have B:=zG a i;have D:=zG a i;replace a:=zS a hb;clear hb l i;obtain⟨P,Q,R,S⟩:=aE b)|((with_reducible refine aT (f:=113) rfl ?_);refine zL (some 9) Tryz.func113 #[.agg #[.int .i64 j,.slice m g.length n]] ?_;(with_reducible refine(cD.calls k j _ _ g true o _ ?aw ?ax v.out).mono ?_);(case aw=>exact Kd.al s.out zB);(case ax=>exact u.out);rintro e T ⟨rfl,hb⟩;refine⟨_,rfl,?_⟩;replace b:=zb b hb;replace a:=zS a hb;(try clear hb)))
    go_ret;exact⟨zE,zB⟩
   ·rw[if_neg p] at H
    have K:=aY p;clear p;by_cases q:x>=j
    ·rw[if_pos q] at H
     have L:=aA q;clear q;obtain rfl:=aR H;go_enter Tryz.func211,Tryz.ntmps211
     go_wp2_with (first|((with_reducible refine aX (N:=2) rfl ?_);refine zX 2 #[.int .i64 j,.slice m g.length n] 24 ?_;intro z i U l hb;have b:=zA (l);have B:=zG a i;have D:=zG a i;replace a:=zS a hb;clear hb l i;obtain⟨V,W,X,Y⟩:=aE b)|((with_reducible refine aT (f:=113) rfl ?_);refine zL (some 9) Tryz.func113 #[.agg #[.int .i64 j,.slice m g.length n]] ?_;(with_reducible refine(cD.calls k j _ _ g true o _ ?aw ?ax v.out).mono ?_);(case aw=>exact Kd.al s.out zB);(case ax=>exact u.out);rintro e Z ⟨rfl,hb⟩;refine⟨_,rfl,?_⟩;replace b:=zb b hb;replace a:=zS a hb;(try clear hb);obtain⟨aa,ad,ag,ak⟩:=aE b))
     go_ret;exact⟨zE,zB⟩
    ·rw[if_neg q] at H
     have L:=aY q;clear q;obtain rfl:=aR H;go_enter Tryz.func211,Tryz.ntmps211
     go_wp2_with (first|((with_reducible refine aX (N:=2) rfl ?_);refine zX 2 #[.int .i64 j,.slice m g.length n] 24 ?_;intro z i am l hb;have b:=zA (l);have B:=zG a i;have D:=zG a i;replace a:=zS a hb;clear hb l i;obtain⟨an,ao,ap,ar⟩:=aE b)|((with_reducible refine aT (f:=113) rfl ?_);refine zL (some 9) Tryz.func113 #[.agg #[.int .i64 j,.slice m g.length n]] ?_;(with_reducible refine(cD.calls k j _ _ g true o _ ?aw ?ax v.out).mono ?_);(case aw=>exact Kd.al s.out zB);(case ax=>exact u.out);rintro e av ⟨rfl,hb⟩;refine⟨_,rfl,?_⟩;replace b:=zb b hb;replace a:=zS a hb;(try clear hb);obtain⟨aB,aF,aL,aO⟩:=aE b))
     go_ret;exact⟨zE,zB⟩
  ·replace y:=Bool.eq_false_iff.mpr y
   subst y;replace H:=zj H;obtain rfl:=aR H;go_enter Tryz.func211,Tryz.ntmps211
   go_wp2_with (first|((with_reducible refine aX (N:=2) rfl ?_);refine zX 2 #[.int .i64 j,.slice m g.length n] 24 ?_;intro z i aP l hb;have b:=zA (l);have B:=zG a i;have D:=zG a i;replace a:=zS a hb;clear hb l i;obtain⟨aS,a0,a2,a3⟩:=aE b)|((with_reducible refine aT (f:=113) rfl ?_);refine zL (some 9) Tryz.func113 #[.agg #[.int .i64 j,.slice m g.length n]] ?_;(with_reducible refine(cD.calls k j _ _ g false o _ ?aw ?ax v.out).mono ?_);(case aw=>exact Kd.al s.out zB);(case ax=>exact u.out);rintro e a4 ⟨rfl,hb⟩;refine⟨_,rfl,?_⟩;replace b:=zb b hb;replace a:=zS a hb;(try clear hb)))
   go_ret;exact⟨zE,zB⟩
 ·rw[if_neg c4] at H
  obtain⟨I,J⟩:=db c4;obtain rfl:=aR H;go_enter Tryz.func211,Tryz.ntmps211
  go_wp2_with (first|((with_reducible refine aX (N:=2) rfl ?_);refine zX 2 #[.int .i64 j,.slice m g.length n] 24 ?_;intro z i a5 l hb;have b:=zA (l);have B:=zG a i;have D:=zG a i;replace a:=zS a hb;clear hb l i;obtain⟨a9,bb,bd,be⟩:=aE b)|((with_reducible refine aT (f:=113) rfl ?_);refine zL (some 9) Tryz.func113 #[.agg #[.int .i64 j,.slice m g.length n]] ?_;(with_reducible refine(cD.calls k j _ _ g G o _ ?aw ?ax v.out).mono ?_);(case aw=>exact Kd.al s.out zB);(case ax=>exact u.out);rintro e bf ⟨rfl,hb⟩;refine⟨_,rfl,?_⟩;replace b:=zb b hb;replace a:=zS a hb;(try clear hb)))
  go_ret;exact⟨zE,zB⟩
def dq.l0:Nat->Int->List Int->Int->Int->Option (Int)
 |0,_,_,_,_=>none
 |k+1,x1,b,e,a=>if a<e then(if 0<=a then(if a<(b.length:Int) then(if a=x1 then(dq.l0 k x1 b e (wrap64 (a+1))) else(if(rd b a)<0 then(some 2) else(dq.l0 k x1 b e (wrap64 (a+1))))) else(none)) else(none)) else(some 0)
def dq.f (k:Nat) (a:Int) (h:List (S83)) (b:Int) (l2:List Int):Option (Int):=(dc.f k a h b).bind fun e=>(if e=0 then((cu.f k l2 a).bind fun g=>(if g=0 then(dq.l0 k b l2 (l2.length:Int) 0) else(some g))) else(some e))
theorem dq.calls (k:Nat) (i:Int) (q:Option Addr) (s:Nat) (j:List (S83)) (p:Int) (G:Option Addr) (c2:Nat) (l2:List Int) (r:Int) (w:World) (T:Kd.C aQ w q j.length j) (U:j.length<=s) (V:Kd.C (Kd.int .i64) w G l2.length l2) (W:l2.length<=c2) (h:dq.f k i j p l2=some r):
  Calls Tryz.prog 224 #[.agg #[.int .i64 i,.slice q j.length s],.int .i64 p,.slice G l2.length c2] w fun e w'=>e= .returned (.int .i64 r)/\Below w.heap.size w w':=by
 have a5:=Tryz.underlying24;have M:=zA T;have O:=zA U;clear T U;have z:=zA V;have X:=zA W;clear V W;have a:=zA (ai w.heap.size w);unfold dq.f at h;have H:=h;clear h;obtain⟨I,P,H⟩:=zo H;by_cases B:I=0
 ·rw[if_pos B] at H
  obtain⟨Y,Z⟩:=da B;clear B;obtain⟨Q,A6,H⟩:=zo H;by_cases D:Q=0
  ·rw[if_pos D] at H
   obtain⟨ad,ag⟩:=da D;clear D;have v:=zA H;clear H;go_enter Tryz.func224,Tryz.ntmps224
   go_wp2_with (first|((with_reducible refine aX (N:=3) rfl ?_);refine zX 3 #[.int .i64 i,.slice q j.length s] 24 ?_;intro R l w8 u hb;have g:=zA (u);have ak:=zG a l;have am:=zG a l;replace a:=zS a hb;clear hb u l;obtain⟨ar,av,aB,aF⟩:=aE g)|((with_reducible refine aT (f:=211) rfl ?_);refine zL (some 13) Tryz.func211 #[.agg #[.int .i64 i,.slice q j.length s],.int .i64 p] ?_;(with_reducible refine(dc.calls k i _ _ j p I _ ?aw ?ax P.out).mono ?_);(case aw=>exact Kd.al M.out zB);(case ax=>exact O.out);rintro e bb ⟨rfl,hb⟩;refine⟨_,rfl,?_⟩;replace g:=zb g hb;replace a:=zS a hb;(try clear hb);obtain⟨aL,aO,aP,aS⟩:=aE g)|((with_reducible refine aT (f:=87) rfl ?_);refine zL (some 20) Tryz.func87 #[.slice G l2.length c2,.int .i64 i] ?_;(with_reducible refine(cu.calls k _ _ l2 i Q _ ?aw ?ax A6.out).mono ?_);(case aw=>exact Kd.al z.out zB);(case ax=>exact X.out);rintro e w' ⟨rfl,⟨nd,rfl⟩⟩;refine⟨_,rfl,?_⟩))
   go_loopg [26] k (fun kq v26 w'=>∃(b:Int),v26= .int .i64 b/\Aside0 (dq.l0 kq p l2 (l2.length:Int) b=some r)/\Aside0 (kq<=k)/\Aside0 (w'.heap[R]? =some (.cells #[.int .i64 i,(.slice q j.length s)] 24 (0,0)))/\Aside0 (Below w.heap.size w w'))
   case atStart=>exact⟨(0),zT,v,⟨aM _⟩,⟨zK g⟩,⟨zB⟩⟩
   case round=>
    clear v;clear Y Z ad ag aL aO ar av aP aS aB aF;obtain⟨b,rfl,S,J,g,a⟩:=hrel;cases gk with
    |zero=>exact absurd S.out (by simp[dq.l0])
    |succ k1=>
     have H:=S.out;clear S;simp only[dq.l0] at H;by_cases x:b<(l2.length:Int)
     ·rw[if_pos x] at H
      have a0:=aA x;clear x;by_cases K:0<=b
      ·rw[if_pos K] at H
       have bd:=aA K;clear K;by_cases L:b<(l2.length:Int)
       ·rw[if_pos L] at H
        have be:=aA L;clear L;by_cases E:b=p
        ·rw[if_pos E] at H
         obtain⟨a2,a3⟩:=da E;clear E;have v:=zA H;clear H;have m:0<=(b:Int):=aD ‹_›;have n:b<(l2.length:Int):=aD ‹_›;obtain⟨ap,F,o⟩:=Kd.cP z.out b m n;cases F;replace o:=(a.out.cell (bS w _ o)).trans o;replace m:=eq_true m;replace n:=eq_true n;go_wp2;go_roundg k1
         case measure=>have:=J.out;omega
         case rel=>exact⟨(wrap64 (b+1)),zT,v,⟨by have:=J.out;omega⟩,⟨zK g⟩,⟨zB⟩⟩
        ·rw[if_neg E] at H
         obtain⟨a2,a3⟩:=db E;by_cases y:(rd l2 b)<0
         ·rw[if_pos y] at H
          have a4:=aA y;clear y;obtain rfl:=aR H;have m:0<=(b:Int):=aD ‹_›;have n:b<(l2.length:Int):=aD ‹_›;obtain⟨ap,F,o⟩:=Kd.cP z.out b m n;cases F;replace o:=(a.out.cell (bS w _ o)).trans o;replace m:=eq_true m;replace n:=eq_true n;go_wp2;go_ret;exact⟨zE,zB⟩
         ·rw[if_neg y] at H
          have a4:=aY y;clear y;have v:=zA H;clear H;have m:0<=(b:Int):=aD ‹_›;have n:b<(l2.length:Int):=aD ‹_›;obtain⟨ap,F,o⟩:=Kd.cP z.out b m n;cases F;replace o:=(a.out.cell (bS w _ o)).trans o;replace m:=eq_true m;replace n:=eq_true n;go_wp2;go_roundg k1
          case measure=>have:=J.out;omega
          case rel=>exact⟨(wrap64 (b+1)),zT,v,⟨by have:=J.out;omega⟩,⟨zK g⟩,⟨zB⟩⟩
       ·rw[if_neg L] at H
        exact absurd H (by simp)
      ·rw[if_neg K] at H
       exact absurd H (by simp)
     ·rw[if_neg x] at H
      have a0:=aY x;clear x;obtain rfl:=aR H;go_wp2;go_ret;exact⟨zE,zB⟩
  ·rw[if_neg D] at H
   obtain⟨ad,ag⟩:=db D;obtain rfl:=aR H;go_enter Tryz.func224,Tryz.ntmps224
   go_wp2_with (first|((with_reducible refine aX (N:=3) rfl ?_);refine zX 3 #[.int .i64 i,.slice q j.length s] 24 ?_;intro R l bf u hb;have g:=zA (u);have ak:=zG a l;have am:=zG a l;replace a:=zS a hb;clear hb u l;obtain⟨bg,bi,bk,bn⟩:=aE g)|((with_reducible refine aT (f:=211) rfl ?_);refine zL (some 13) Tryz.func211 #[.agg #[.int .i64 i,.slice q j.length s],.int .i64 p] ?_;(with_reducible refine(dc.calls k i _ _ j p I _ ?aw ?ax P.out).mono ?_);(case aw=>exact Kd.al M.out zB);(case ax=>exact O.out);rintro e bo ⟨rfl,hb⟩;refine⟨_,rfl,?_⟩;replace g:=zb g hb;replace a:=zS a hb;(try clear hb);obtain⟨bq,bv,bw,bx⟩:=aE g)|((with_reducible refine aT (f:=87) rfl ?_);refine zL (some 20) Tryz.func87 #[.slice G l2.length c2,.int .i64 i] ?_;(with_reducible refine(cu.calls k _ _ l2 i Q _ ?aw ?ax A6.out).mono ?_);(case aw=>exact Kd.al z.out zB);(case ax=>exact X.out);rintro e w' ⟨rfl,⟨nd,rfl⟩⟩;refine⟨_,rfl,?_⟩))
   go_ret;exact⟨zE,zB⟩
 ·rw[if_neg B] at H
  obtain⟨Y,Z⟩:=db B;obtain rfl:=aR H;go_enter Tryz.func224,Tryz.ntmps224
  go_wp2_with (first|((with_reducible refine aX (N:=3) rfl ?_);refine zX 3 #[.int .i64 i,.slice q j.length s] 24 ?_;intro R l b0 u hb;have g:=zA (u);have ak:=zG a l;have am:=zG a l;replace a:=zS a hb;clear hb u l;obtain⟨b1,b2,b3,b4⟩:=aE g)|((with_reducible refine aT (f:=211) rfl ?_);refine zL (some 13) Tryz.func211 #[.agg #[.int .i64 i,.slice q j.length s],.int .i64 p] ?_;(with_reducible refine(dc.calls k i _ _ j p I _ ?aw ?ax P.out).mono ?_);(case aw=>exact Kd.al M.out zB);(case ax=>exact O.out);rintro e b5 ⟨rfl,hb⟩;refine⟨_,rfl,?_⟩;replace g:=zb g hb;replace a:=zS a hb;(try clear hb)))
  go_ret;exact⟨zE,zB⟩
def gW.f (k:Nat) (e:Int) (g:List (S83)) (a:Int) (l2:List Int):Option (Int):=(dq.f k e g a l2).bind fun b=>(if b=0 then(if 0<=a then(if a<(l2.length:Int) then(if(rd l2 a)=0 then(some 0) else(some 3)) else(none)) else(none)) else(some b))
theorem gW.calls (k:Nat) (i:Int) (m:Option Addr) (n:Nat) (g:List (S83)) (b:Int) (u:Option Addr) (c2:Nat) (l2:List Int) (r:Int) (w:World) (K:Kd.C aQ w m g.length g) (L:g.length<=n) (M:Kd.C (Kd.int .i64) w u l2.length l2) (O:l2.length<=c2) (h:gW.f k i g b l2=some r):
  Calls Tryz.prog 219 #[.agg #[.int .i64 i,.slice m g.length n],.int .i64 b,.slice u l2.length c2] w fun e w'=>e= .returned (.int .i64 r)/\Below w.heap.size w w':=by
 have X:=Tryz.underlying24;have E:=zA K;have F:=zA L;clear K L;have v:=zA M;have G:=zA O;clear M O;have a:=zA (ai w.heap.size w);unfold gW.f at h;have H:=h;clear h;obtain⟨z,I,H⟩:=zo H;by_cases x:z=0
 ·rw[if_pos x] at H
  obtain⟨S,T⟩:=da x;clear x;by_cases B:0<=b
  ·rw[if_pos B] at H
   have Y:=aA B;clear B;by_cases D:b<(l2.length:Int)
   ·rw[if_pos D] at H
    have Z:=aA D;clear D;by_cases y:(rd l2 b)=0
    ·rw[if_pos y] at H
     obtain⟨U,V⟩:=da y;clear y;obtain rfl:=aR H;go_enter Tryz.func219,Tryz.ntmps219
     go_wp2_with (first|((with_reducible refine aX (N:=3) rfl ?_);refine zX 3 #[.int .i64 i,.slice m g.length n] 24 ?_;intro P j w9 o hb;have l:=zA (o);have Q:=zG a j;have R:=zG a j;replace a:=zS a hb;clear hb o j;obtain⟨ad,ag,ak,am⟩:=aE l)|((with_reducible refine aT (f:=224) rfl ?_);refine zL (some 11) Tryz.func224 #[.agg #[.int .i64 i,.slice m g.length n],.int .i64 b,.slice u l2.length c2] ?_;(with_reducible refine(dq.calls k i _ _ g b _ _ l2 z _ ?aw ?ax ?dk ?dm I.out).mono ?_);(case aw=>exact Kd.al E.out zB);(case ax=>exact F.out);(case dk=>exact Kd.al v.out zB);(case dm=>exact G.out);rintro e an ⟨rfl,hb⟩;refine⟨_,rfl,?_⟩;replace l:=zb l hb;replace a:=zS a hb;(try clear hb);have p:0<=(b:Int):=aD ‹_›;have q:b<(l2.length:Int):=aD ‹_›;obtain⟨W,J,s⟩:=Kd.cP v.out b p q;cases J;replace s:=(a.out.cell (bS w _ s)).trans s;replace p:=eq_true p;replace q:=eq_true q))
     go_ret;exact⟨zE,zB⟩
    ·rw[if_neg y] at H
     obtain⟨U,V⟩:=db y;obtain rfl:=aR H;go_enter Tryz.func219,Tryz.ntmps219
     go_wp2_with (first|((with_reducible refine aX (N:=3) rfl ?_);refine zX 3 #[.int .i64 i,.slice m g.length n] 24 ?_;intro P j ao o hb;have l:=zA (o);have Q:=zG a j;have R:=zG a j;replace a:=zS a hb;clear hb o j;obtain⟨ap,ar,av,aB⟩:=aE l)|((with_reducible refine aT (f:=224) rfl ?_);refine zL (some 11) Tryz.func224 #[.agg #[.int .i64 i,.slice m g.length n],.int .i64 b,.slice u l2.length c2] ?_;(with_reducible refine(dq.calls k i _ _ g b _ _ l2 z _ ?aw ?ax ?dk ?dm I.out).mono ?_);(case aw=>exact Kd.al E.out zB);(case ax=>exact F.out);(case dk=>exact Kd.al v.out zB);(case dm=>exact G.out);rintro e aF ⟨rfl,hb⟩;refine⟨_,rfl,?_⟩;replace l:=zb l hb;replace a:=zS a hb;(try clear hb);have p:0<=(b:Int):=aD ‹_›;have q:b<(l2.length:Int):=aD ‹_›;obtain⟨W,J,s⟩:=Kd.cP v.out b p q;cases J;replace s:=(a.out.cell (bS w _ s)).trans s;replace p:=eq_true p;replace q:=eq_true q))
     go_ret;exact⟨zE,zB⟩
   ·rw[if_neg D] at H
    exact absurd H (by simp)
  ·rw[if_neg B] at H
   exact absurd H (by simp)
 ·rw[if_neg x] at H
  obtain⟨S,T⟩:=db x;obtain rfl:=aR H;go_enter Tryz.func219,Tryz.ntmps219
  go_wp2_with (first|((with_reducible refine aX (N:=3) rfl ?_);refine zX 3 #[.int .i64 i,.slice m g.length n] 24 ?_;intro P j aL o hb;have l:=zA (o);have Q:=zG a j;have R:=zG a j;replace a:=zS a hb;clear hb o j;obtain⟨aO,aP,aS,a0⟩:=aE l)|((with_reducible refine aT (f:=224) rfl ?_);refine zL (some 11) Tryz.func224 #[.agg #[.int .i64 i,.slice m g.length n],.int .i64 b,.slice u l2.length c2] ?_;(with_reducible refine(dq.calls k i _ _ g b _ _ l2 z _ ?aw ?ax ?dk ?dm I.out).mono ?_);(case aw=>exact Kd.al E.out zB);(case ax=>exact F.out);(case dk=>exact Kd.al v.out zB);(case dm=>exact G.out);rintro e a2 ⟨rfl,hb⟩;refine⟨_,rfl,?_⟩;replace l:=zb l hb;replace a:=zS a hb;(try clear hb)))
  go_ret;exact⟨zE,zB⟩
section
theorem b8.bk {l:Nat} {A B:World} {g:Nat} {n:Int} {times:Nat->Nat->Int} {chips:Value} {burnt:Nat->Bool} (h:b8 A g n times chips burnt) (hb:Bk l A B):b8 B g n times chips burnt:=by
 obtain⟨cs,a,b⟩:=h;exact⟨cs,hb.cells a,b⟩
attribute [local go_sem] Oper.semAt_some
theorem Af (g:Nat) (w:World):Calls Tryz.prog 221 #[.pointer (some ⟨g,0,none⟩)] w fun e w'=>e= .returned (.func (.func 225) #[] #[.pointer (some ⟨w.heap.size,0,none⟩)])/\w'=w.alloc (.cells #[.pointer (some ⟨g,0,none⟩)] 245):=by
 go_enter Tryz.func221,Tryz.ntmps221
 go_wp2;go_ret;exact⟨rfl,rfl⟩
def kP (N:Int) (E:List S83) (q:Int) (c:List Int):Bool:=decide (0<=q/\q<N/\N<=12/\(c.length:Int)=N)&&gC N E
def bT (q:Nat):Nat->Bool:=fun i=>if i=q then true else false
def iE (n:Nat) (E:List S83) (q:Nat) (c:List Int):List Nat:=dO n (bM n (ae E) c) (bT q)
def jW.f (k:Nat) (N:Int) (E:List S83) (q:Int) (c:List Int):Option (List Int×List Int×Int):=
 (gW.f k N E q c).bind fun t=>if t=0 then(if kP N E q c=true then
  some (q::(iE N.toNat E q.toNat c).map Int.ofNat,fc (bX (bT q.toNat) (iE N.toNat E q.toNat c)) N.toNat,0) else none) else some ([],[],t)
theorem jW.calls (k:Nat) (M:Int) (a9:Option Addr) (N:Nat) (a:List (S83)) (a1:Int) (A2:Option Addr) (c2:Nat) (l2:List Int) (r1:List Int) (r2:List Int) (r3:Int) (w:World) (ak:Kd.C aQ w a9 a.length a) (am:a.length<=N) (an:Kd.C (Kd.int .i64) w A2 l2.length l2) (ao:l2.length<=c2) (h:jW.f k M a a1 l2=some (r1,r2,r3)):
  Calls Tryz.prog 213 #[.agg #[.int .i64 M,.slice a9 a.length N],.int .i64 a1,.slice A2 l2.length c2] w fun e w'=>∃ap av:Value,e= .returned (.tuple #[ap,av,.int .i64 r3])/\Kd.R (Kd.int .i64) 3 w' w.heap.size (fun z=>some z≠(av:Value).ownBlock) ap r1/\Kd.R (Kd.int .i64) 3 w' w.heap.size (fun z=>some z≠(ap:Value).ownBlock) av r2/\Below w.heap.size w w':=by
 have hu:=Tryz.underlying24;obtain⟨t,ht,H⟩:=Option.bind_eq_some_iff.mp h;clear h;by_cases h0:t=0
 ·subst h0
  rw[if_pos rfl] at H;by_cases U:kP M a a1 l2=true
  ·rw[if_pos U] at H
   simp only[Option.some.injEq,Prod.mk.injEq] at H;obtain⟨rfl,rfl,rfl⟩:=H;simp only[kP,Bool.and_eq_true,decide_eq_true_eq] at U;obtain⟨⟨q0,qn,n12,hlen⟩,hE⟩:=U;obtain⟨n,rfl⟩:=Int.eq_ofNat_of_zero_le (show 0<=M by omega);obtain⟨q,rfl⟩:=Int.eq_ofNat_of_zero_le q0;simp only[aq];have bi:=zA (iy hE);have cj:l2.length<=n:=by omega
   have bn:n<=l2.length:=by omega
   have Ht:=zA ht;clear hlen hE ht;refine(callsIn_wide (n:=10)).1 ?_;refine callsIn_of_wp_marks Tryz.func213 rfl trivial ?_ rfl;simp only[Tryz.ntmps213,List.size_toArray,List.length_cons,List.length_nil,Nat.reduceAdd,Nat.reduceSub,Array.replicate_succ,Array.replicate_zero,List.push_toArray,List.append_toArray,List.nil_append,List.cons_append];gi_wp2_with (first|(refine⟨trivial,?_⟩;gi_at_call 219;refine(callsIn_wide.2 (gW.calls k _ _ N a _ _ c2 l2 0 _ (Kd.bp ak _) am (Kd.bp an _) ao Ht.out)).mono ?_;rintro e w1 ⟨rfl,hb⟩;have hx:=(hb.cell (p:=⟨w.heap.size,0,none⟩) (by simp));have hy:=(hb.cell (p:=⟨w.heap.size,1,none⟩) (by simp));have y:=zA (kn (af (ai _ _) _) (by simp) hb);clear hb)|(refine⟨trivial,?_⟩;gi_at_call 220;refine(callsIn_wide.2 (zP n q _ N a _ c2 l2 _ (Kd.al ak y.out) am (Kd.al an y.out) ao (by omega) (by omega) bi.out cj bn)).mono ?_;rintro e w2 ⟨g,m,r,rfl,hW,hR,hB,hg⟩;have aF:=zA hW;have aL:=zA hR;have aO:=zA (kn y.out y.out.size hB);clear hW hR hB)|(refine⟨trivial,?_⟩;gi_at_call 221;refine(callsIn_wide.2 (Af g _)).mono ?_;rintro e w3 ⟨rfl,rfl⟩))
   have ck:=aF.out.lt;have ds:w.heap.size<=w1.heap.size:=y.out.size;have cl:w.heap.size<=w2.heap.size:=aO.out.size;have aP:∀k,some k=(Value.slice m l2.length r).ownBlock->k<w2.heap.size:=fun k hk=>Kd.cF aL.out k hk.symm
   have G:=zA (aF.out.below (af (af (af (ai _ _) (.cells #[.int .i64 q] 3)) (.cells #[.slice (some ⟨w2.heap.size,0,none⟩) 1 1] 25)) (.cells #[.pointer (some ⟨g,0,none⟩)] 245)));have O:=zA (Kd.aK (Kd.aK (Kd.aK (Kd.fm rfl aL.out) (.cells #[.int .i64 q] 3)) (.cells #[.slice (some ⟨w2.heap.size,0,none⟩) 1 1] 25)) (.cells #[.pointer (some ⟨g,0,none⟩)] 245));have I:=zA (af (af (af aO.out (.cells #[.int .i64 q] 3)) (.cells #[.slice (some ⟨w2.heap.size,0,none⟩) 1 1] 25)) (.cells #[.pointer (some ⟨g,0,none⟩)] 245));have b5:Aside0 (Kd.R (Kd.int .i64) 3 (((w2.alloc (.cells #[.int .i64 q] 3)).alloc (.cells #[.slice (some ⟨w2.heap.size,0,none⟩) 1 1] 25)).alloc (.cells #[.pointer (some ⟨g,0,none⟩)] 245)) w.heap.size (fun k=>k≠g/\some k≠(Value.slice m l2.length r).ownBlock) (.slice (some ⟨w2.heap.size,0,none⟩) 1 1) [(q:Int)]):=by
    refine⟨Kd.aK (Kd.aK (Kd.lq (enc:=Value.int .i64) (h1:=fun _=>rfl) ?_ ?_) _) _⟩
    ·simpa [bu] using World.ownsRow_lit (base:=w.heap.size) (e:=3) (size:=1) w2 #[.int .i64 q] 1 cl (by decide) rfl
    ·intro k hk
     have e:w2.heap.size=k:=by simpa [Value.ownBlock] using hk
     refine⟨by omega,fun e2=>?_⟩;have:=aP k e2;omega
   have V:Aside0 ((((w2.alloc (.cells #[.int .i64 q] 3)).alloc (.cells #[.slice (some ⟨w2.heap.size,0,none⟩) 1 1] 25)).alloc (.cells #[.pointer (some ⟨g,0,none⟩)] 245)).heap[w2.heap.size+1]? =some (.cells #[.slice (some ⟨w2.heap.size,0,none⟩) 1 1] 25 (0,0))):=
    ⟨by have h:=aU (w2.alloc (.cells #[.int .i64 q] 3)) (.cells #[.slice (some ⟨w2.heap.size,0,none⟩) 1 1] 25);rw[World.size_alloc] at h;exact aj h _⟩
   have P:Aside0 ((((w2.alloc (.cells #[.int .i64 q] 3)).alloc (.cells #[.slice (some ⟨w2.heap.size,0,none⟩) 1 1] 25)).alloc (.cells #[.pointer (some ⟨g,0,none⟩)] 245)).heap[w2.heap.size+1+1]? =some (.cells #[.pointer (some ⟨g,0,none⟩)] 245 (0,0))):=
    ⟨by have h:=aU ((w2.alloc (.cells #[.int .i64 q] 3)).alloc (.cells #[.slice (some ⟨w2.heap.size,0,none⟩) 1 1] 25)) (.cells #[.pointer (some ⟨g,0,none⟩)] 245);simpa using h⟩
   have X:w2.heap.size+1≠g:=by omega
   have Y:w2.heap.size+1+1≠g:=by omega
   have Z:w2.heap.size+1+1≠w2.heap.size+1:=by omega
   have b6:some (w2.heap.size+1)≠(Value.slice m l2.length r).ownBlock:=fun e=>by have:=aP _ e;omega
   have b_:w.heap.size<=w2.heap.size+1:=by omega
   have b':w.heap.size<=g:=by omega
   clear aP aF aL aO y;generalize (((w2.alloc (.cells #[.int .i64 q] 3)).alloc (.cells #[.slice (some ⟨w2.heap.size,0,none⟩) 1 1] 25)).alloc (.cells #[.pointer (some ⟨g,0,none⟩)] 245))=E at G O I b5 V P⊢;generalize w2.heap.size+1+1=J at P Y Z⊢;generalize w2.heap.size+1=bo at V X Z b6 b_⊢;refine fR (σ:=Unit) (α:=Nat) (F:=Fence.wide) (n:=10) rfl (by decide) (gf:=225) (lb:=#[.pointer (some ⟨J,0,none⟩)]) rfl trivial (enters_of Tryz.func225 (by kernel_rfl) rfl)
    (fun o=>zl g J n (ae a) m r l2 (bT q) _ w1.heap.size (by omega) bn ?ht Y (G.out.below (af (af (ai _ _) _) _)) (aj (aj P.out _) _) (Kd.bj (Kd.aK (Kd.aK O.out _) _) (fun _ h=>h))) (fun _=>rfl)
    (fun _=>True) ?dT ?st ?ar
    (fun _ pre W=>E.heap.size<=W.heap.size/\∃v,W.heap[J]? =some (.cells #[.pointer (some ⟨g,0,none⟩)] 245 (0,0))/\W.heap[bo]? =some (.cells #[v] 25 (0,0))/\Kd.R (Kd.int .i64) 3 W w.heap.size (fun k=>k≠g/\some k≠(Value.slice m l2.length r).ownBlock) v ((q:Int)::pre.map Int.ofNat)/\Below w.heap.size w W) (fun _ _ _ _=>False)
    ?is (fun _ _ _ _ _ _ h _=>h) ?ib (fun _ _ _ _ _ h _=>h) ?kt ?h0 ?a1 ?assign ?body ?done (fun _ _ _ _ _ _ _ h=>h.elim)
   case assign=>
    intro l x W K hK;gi_wp2;exact hK
   case ht=>exact bi.out.times
   case dT=>
    intro o s W1 h;exact⟨trivial,by rw[h];exact bI.refl _ _⟩
   case st=>intro s A B _ h k o h1 u i _;exact(h.block k (Array.getElem?_eq_some_iff.1 i).1 (fun e=>by cases e;have:=G.out.lt;omega)).trans i
   case ar=>intro s x A B _ h k o h1 u i _;exact(h.block k (Array.getElem?_eq_some_iff.1 i).1 (fun e=>by cases e;have:=G.out.lt;omega)).trans i
   case is=>
    rintro s pre A B _ ⟨Q,v,h0,h1,u,i⟩ S;exact⟨Nat.le_trans Q S.size,v,(S.block J (ay h0) (fun e=>by cases e;exact Y rfl)).trans h0,(S.block bo (ay h1) (fun e=>by cases e;exact X rfl)).trans h1,Kd.fO u S (fun k hk e=>hk.1 (by cases e;rfl)),ir i (some g) i.size S (fun k e=>by cases e;exact b')⟩
   case ib=>
    rintro s pre A B ⟨Q,v,h0,h1,u,i⟩ hb;exact⟨by rw[hb.size];exact Q,v,hb.cells h0,hb.cells h1,cC u hb,i.trans (hb.below w.heap.size (by have:=I.out.size;omega))⟩
   case kt=>
    intro s A B C D co cq cs k hk;have ca:k≠E.heap.size+1:=by
     rcases hk with rfl|rfl|hk
     ·have:=G.out.lt;omega
     ·have:=ay P.out;omega
     ·have:=Kd.cF O.out k hk.symm;omega
    exact(cs.heap k ca).trans ((cq k hk).trans (co.heap k ca))
   case h0=>
    rintro o s W1 rfl;exact⟨by simp;omega,_,aj (aj P.out _) _,aj (aj V.out _) _,Kd.aK (Kd.aK b5.out _) _,af (af I.out _) _⟩
   case body=>
    rintro l s pre x Wb W1 W _ ⟨Q,v,i0,i1,i2,i3⟩ L dx j;have b0:=zA (j.cells ((L.block J (ay i0) (fun e=>by cases e;exact Y rfl)).trans i0));have b1:=zA (j.cells ((L.block bo (ay i1) (fun e=>by cases e;exact X rfl)).trans i1));have b:=zA (cC (Kd.fO i2 L (fun k hk e=>hk.1 (by cases e;rfl))) j);have b3:=zA ((ir i3 (some g) i3.size L (fun k e=>by cases e;exact b')).trans (j.below w.heap.size (by have:=I.out.size;omega)));have ck:E.heap.size<=W.heap.size:=by have:=j.size;have:=L.size;omega
    have d0:=G.out.lt;clear i0 i1 i2 i3 L;obtain⟨Ar,cr,rfl⟩:=Kd.bE b.out;replace b:=zA (show Kd.R (Kd.int .i64) 3 W w.heap.size (fun k=>k≠g/\some k≠(Value.slice m l2.length r).ownBlock) (.slice Ar (pre.length+1) cr) ((q:Int)::pre.map Int.ofNat) from by have h:=b.out;rw[show ((q:Int)::pre.map Int.ofNat).length=pre.length+1 from by simp] at h;exact h);rw[show ((q:Int)::pre.map Int.ofNat).length=pre.length+1 from by simp] at b1;have hc:=cB b1.out;have hf:=bc b1.out 0;have FR:Aside0 (∀k,W.heap.size<=k->k≠g/\some k≠(Value.slice m l2.length r).ownBlock):=⟨fun k hk=>⟨by omega,fun e=>by have:=Kd.cF O.out k e.symm;omega⟩⟩;have LN:Aside0 ((((q:Int)::pre.map Int.ofNat).length+1)*8<=140737488355328):=⟨by simp;omega⟩;gi_wp2_with (gi_at_builtin;go_loud (refine jd (Kd.int .i64) (w0:=w) w.heap.size rfl (.tmp 29) (.tmp 31) 25 3 (.int .i64 0) 8 rfl Tryz.underlying25 fC rfl (by decide) (by omega) _ _ (x:Int) [.int .i64 x] (fun k=>k≠g/\some k≠(Value.slice m l2.length r).ownBlock) (fun _=>False) rfl rfl rfl (fun _ hk=>hk.elim) FR.out b.out b3.out b3.out.size LN.out ?_;intro v1 d1 aS hb ad c0;obtain⟨A1,c1,rfl⟩:=Kd.bE aS;have X1:=zA ((ad.block bo (ay b1.out) (Kd.cW b.out b1.out (by decide))).trans b1.out);have X0:=zA ((ad.block J (ay b0.out) (Kd.cW b.out b0.out (by decide))).trans b0.out);have d2:=cB X1.out;have d3:=bc X1.out 0;have c4:=zA aS;have c5:=zA hb;have T:=zA ad;clear aS hb ad c0))
    refine⟨(lN b.out T.out).trans (eu _ _ (ay V.out)),fun k hk=>?_,by have:=T.out.size;simp;omega,_,aH X0.out Z _,by simpa using bB X1.out 0 (.slice A1 (pre.length+1+1) c1),?_,dz c5.out b_⟩
    ·have c6:k≠bo:=by
      rcases hk with rfl|rfl|hk
      ·exact fun e=>X e.symm
      ·exact Z
      ·rintro rfl;exact b6 hk
     rw[Below.heap_setCell _ _ _ _ c6];rcases hk with rfl|rfl|hk
     ·exact T.out.block k (by omega) (fun e=>(b.out.1 k e.symm).1 rfl)
     ·exact T.out.block k (ay b0.out) (Kd.cW b.out b0.out (by decide))
     ·exact T.out.block k (by have:=Kd.cF O.out k hk.symm;omega) (fun e=>(b.out.1 k e.symm).2 hk)
    ·have h:=Kd.ep c4.out X1.out (by decide) 0 (.slice A1 (pre.length+1+1) c1)
     simpa using h
   case done=>
    rintro s xs W W' _ ⟨rfl,cd⟩ ⟨Q,v,i0,i1,i2,i3⟩ j ce;have b1:=zA (j.cells i1);have b:=zA (cC i2 j);have b3:=zA (i3.trans (j.below w.heap.size (by have:=I.out.size;omega)));have b4:=zA (cd.bk j);have cg:=zA ce;clear i0 i1 i2 i3 cd ce;have hc:=cB b1.out;obtain⟨Ar,cr,rfl⟩:=Kd.bE b.out;have c7:=ay b1.out;gi_wp2_with fail
    refine zm ?_;gi_region_with (refine⟨trivial,?_⟩;gi_at_call 222;refine(callsIn_wide.2 (zc g n (ae a) _ _ _ (by omega) b4.out.drew)).mono ?_;rintro e w5 ⟨v1,rfl,ch,a2⟩;have d4:=(a2.cell (p:=⟨bo,0,none⟩) c7).trans hc;have a3:=zA ch;have a4:=zA a2;clear ch a2)
    all_goals gi_wp2
    all_goals
     have ci:w5.heap[E.heap.size]? =some (.deferred (some [])):=(a4.out.block _ (Array.getElem?_eq_some_iff.1 cg.out).1).trans cg.out;have a5:Bk E.heap.size w5 (w5.putObj E.heap.size (.deferred none)):=⟨_,_,ci,rfl,rfl⟩;have c8:=Kd.b7 (w:=W'.drew) b.out a4.out;refine iB (D:=E.heap.size) rfl ci (results_tmp3 rfl _ _ _) ⟨_,_,rfl,cC (ok:=fun z=>some z≠v1.ownBlock) (v:=.slice Ar ((dO n (bM n (ae a) l2) (bT q)).length+1) cr) ?_ a5,cC (ok:=fun z=>some z≠(Value.slice Ar ((dO n (bM n (ae a) l2) (bT q)).length+1) cr).ownBlock) (v:=v1) ?_ a5,?_⟩
     ·refine Kd.se rfl (ok1:=fun k=>k≠g/\some k≠(Value.slice m l2.length r).ownBlock) ?_ (fun k hk e=>?_)
      ·have h:=c8
       rw[show ((q:Int)::(dO n (bM n (ae a) l2) (bT q)).map Int.ofNat).length=(dO n (bM n (ae a) l2) (bT q)).length+1 from by simp] at h;exact h
      ·have h1:=Kd.cF b.out k ((sQ _ _ _ _).trans hk)
       have u:=Kd.ee a3.out k e.symm;exact absurd h1 (Nat.not_lt.2 u)
     ·refine Kd.se rfl (ok1:=fun _=>True) (Kd.bt a3.out b3.out.size) (fun k hk e=>?_)
      have h1:=Kd.cF b.out k ((sQ _ _ _ _).trans e.symm);have u:=Kd.ee a3.out k hk;exact absurd h1 (Nat.not_lt.2 u)
     ·exact(kn (fN b3.out) b3.out.size a4.out).trans (a5.below w.heap.size I.out.size)
  ·rw[if_neg U] at H
   cases H
 ·rw[if_neg h0] at H
  simp only[Option.some.injEq,Prod.mk.injEq] at H;obtain⟨rfl,rfl,rfl⟩:=H;have Ht:=zA ht;have d5:(t != 0)=true:=by simpa using h0
  clear ht h0;go_enter Tryz.func213,Tryz.ntmps213
  go_wp2_with (go_at_call 219;refine(gW.calls k M _ N a a1 _ c2 l2 t _ (Kd.bp ak _) am (Kd.bp an _) ao Ht.out).mono ?_;rintro e w1 ⟨rfl,hb⟩;have y:=zA (kn (af (ai _ _) _) (by simp) hb);clear hb)
  go_ret3
  exact⟨_,_,rfl,Kd.c_ _ _ _ _ _,Kd.c_ _ _ _ _ _,y.out⟩
end
section
attribute [local go_sem] Oper.semAt_some
def fF (w:World) (g:Nat) (N:Int) (ev:Value) (q:Int) (dv a:Value) (e:Int):Prop:=w.heap[g]? =some (.cells #[.int .i64 N,ev,.int .i64 q,dv,a,.int .i64 e] 188 (0,0))
theorem kQ (g:Nat) (v:Int) (w:World):Calls Tryz.prog 194 #[.pointer (some ⟨g,0,none⟩),.int .i64 v] w fun e w'=>e= .returned (.func (.func 207) #[] #[.pointer (some ⟨w.heap.size,0,none⟩),.pointer (some ⟨w.heap.size+1,0,none⟩)])/\w'=(w.alloc (.cells #[.pointer (some ⟨g,0,none⟩)] 135)).alloc (.cells #[.int .i64 v] 3):=by
 go_enter Tryz.func194,Tryz.ntmps194
 go_wp2;go_ret;exact⟨rfl,rfl⟩
def bU (E:List S83) (v:Int):Nat->List (Int×Int)
 |0=>[]
 |k+1=>bU E v k++(if(ab E k).f0≠(ab E k).f1/\((ab E k).f0=v\/(ab E k).f1=v) then[((ab E k).f0+(ab E k).f1-v,(ab E k).f2)] else[])
def te (base a b c:Nat) (X Y:World):Prop:=(base<=X.heap.size->Below base X Y)/\∀k,(k=a\/k=b\/k=c)->k<X.heap.size->Y.heap[k]? =X.heap[k]?
theorem tf (E:List S83) (v:Int):∀(m k:Nat),∀x∈bU E v k,x∈bU E v (k+m)
 |0,k,x,a=>a
 |m+1,k,x,a=>List.mem_append.2 (.inl (tf E v m k x a))
theorem px (l bv g n:Nat) (A0:Option Addr) (c0:Nat) (E:List S83) (q:Int) (dv V:Value) (Z:Int) (v:Nat) (w0 W:World) (aa:Kd.C aQ w0 A0 E.length E) (hE:dN n E) (hn:n<=1000) (hv:v<n) (hB:Below w0.heap.size w0 W)
  (M:W.heap[l]? =some (.cells #[.pointer (some ⟨g,0,none⟩)] 135 (0,0))) (z:W.heap[bv]? =some (.cells #[.int .i64 v] 3 (0,0))) (N:fF W g n (.slice A0 E.length c0) q dv V Z):
  gD (σ:=Unit) Fence.wide 9 Tryz.prog 207 #[.pointer (some ⟨l,0,none⟩),.pointer (some ⟨bv,0,none⟩)] (fun x:Int×Int=>#[.int .i64 x.1,.int .i64 x.2]) (fun _ W W1=>W1=W) (fun _ A B=>Below A.heap.size A B) (fun _ x A B=>((0<=x.1/\x.1<n/\1<=x.2/\x.2<=50)/\x∈bU E v E.length)/\Below A.heap.size A B)
   (fun _ X Y=>te w0.heap.size l bv g X Y)
   (fun _ xs W'=>xs=bU E v E.length) (fun _ _ _=>True) (fun pre=>∃k,k<E.length/\pre=bU E v k) W:=by
 intro lp J Jx ak am ao ap;have a9:=zA ak;have b6:=zA am;have hY:=zA ap;have ar:=ao () W rfl;clear ak am ao ap;have b_:=Tryz.underlying188;have hu:=Tryz.underlying24;have b':=Tryz.underlying83;refine callsIn_of_wp Tryz.func207 rfl trivial ?_ rfl;simp only[Tryz.ntmps207,List.size_toArray,List.length_cons,List.length_nil,Nat.reduceAdd,Nat.reduceSub,Array.replicate_succ,Array.replicate_zero,List.push_toArray,List.append_toArray,List.nil_append,List.cons_append];have b0:W.cell? ⟨l,0,none⟩=some (.pointer (some ⟨g,0,none⟩)):=(ah M 0).trans rfl;have s1:W.cell? ⟨g,1,none⟩=some (.slice A0 E.length c0):=(ah N 1).trans rfl;have av:=zA M;have aB:=zA z;have p:=zA N;clear M z N;gi_wp2;clear b0 s1;gi_loopg [13] (E.length) (fun kq i wr=>∃k:Nat,i= .int .i64 k/\k<=E.length/\Aside0 (J () (bU E v k) wr)/\Aside0 (wr.heap[l]? =some (.cells #[.pointer (some ⟨g,0,none⟩)] 135 (0,0)))/\Aside0 (wr.heap[bv]? =some (.cells #[.int .i64 v] 3 (0,0)))/\Aside0 (fF wr g n (.slice A0 E.length c0) q dv V Z)/\Aside0 (Below w0.heap.size w0 wr)/\Aside0 (kq=E.length-k))
 case atStart=>exact⟨0,rfl,Nat.zero_le _,⟨ar⟩,av,aB,p,⟨hB⟩,⟨rfl⟩⟩
 case round=>
  clear ar hB av aB p;have ca:E.length<=9223372036854775807:=Kd.lr aa;obtain⟨k,rfl,hk,O,HX,P,p,r,Q⟩:=hrel;by_cases aL:k<E.length
  ·obtain⟨e0,D,e2,F,e4,e5⟩:=hE.get k aL
   have G:=Lib.hid (show bU E v (k+1)=bU E v k++(if(ab E k).f0≠(ab E k).f1/\((ab E k).f0=v\/(ab E k).f1=v) then[((ab E k).f0+(ab E k).f1-v,(ab E k).f2)] else[]) from rfl);obtain⟨ad,rfl,s,u,w⟩:=fa aa k (by omega) (by omega);rw[aq] at s u w;generalize ab E k=x at e0 D e2 F e4 e5 s u w G;obtain⟨a,b,m⟩:=x;simp only at e0 D e2 F e4 e5 s u w;have cb:(0:Int)<=(k:Int):=by omega
   have cc:(k:Int)<(E.length:Int):=by omega
   have cd:(0:Int)<=(v:Int):=by omega
   have ce:(v:Int)<=1000:=by omega
   have s:=gj r.out s;have u:=gj r.out u;have w:=gj r.out w;have v0:(wr.alloc (.cells #[.int .i64 a,.int .i64 b,.int .i64 m] 83)).cell? ⟨bv,0,none⟩=some (.int .i64 v):=(ah (aj P.out _) 0).trans rfl;have R:=zA (a9.out () _ _ _ O.out (af (ai wr.heap.size wr) (.cells #[.int .i64 a,.int .i64 b,.int .i64 m] 83)));have H:=zA (aj HX.out (.cells #[.int .i64 a,.int .i64 b,.int .i64 m] 83));have I:=zA (aj P.out (.cells #[.int .i64 a,.int .i64 b,.int .i64 m] 83));have K:=zA (aj p.out (.cells #[.int .i64 a,.int .i64 b,.int .i64 m] 83));have L:=zA (af r.out (.cells #[.int .i64 a,.int .i64 b,.int .i64 m] 83));have an:a<=1000:=by omega
   have bn:b<=1000:=by omega
   have HE:=zA (And.intro D F);clear D F O HX P p r;by_cases o:a=b
   ·have bf:(a != b)=false:=by simpa using o
    have S:=zA o;clear o;gi_wp2;refine⟨(fun _ h=>(by cases h)),?_⟩;gi_wp2;gi_roundg (E.length- (k+1))
    case measure=>rw[Q.out];omega
    case rel=>exact⟨k+1,by go_num,by omega,⟨by rw[G.out,if_neg (fun h=>h.1 S.out),List.append_nil];exact R.out⟩,H,I,K,L,⟨rfl⟩⟩
   ·have bf:(a != b)=true:=by simpa using o
    have S:=zA o;clear o;by_cases j:a=v\/b=v
    ·have a0:=zA (show bU E v (k+1)=bU E v k++[(a+b-v,m)] from by rw[G.out,if_pos ⟨S.out,j⟩])
     obtain⟨fn,tmps,ci,cj,T,a1⟩:=hY.out () (bU E v k) (a+b-v,m) _ _ R.out ⟨⟨by have:=HE.out;show 0<=a+b- (v:Int)/\a+b- (v:Int)<n/\1<=m/\m<=50;omega,by have h:=tf E v (E.length- (k+1)) (k+1) (a+b-v,m) (by rw[a0.out];simp);rw[show k+1+(E.length- (k+1))=E.length by omega] at h;exact h⟩,ai _ _⟩ ⟨k,aL,rfl⟩;have bg:=zA a1;simp only at T;clear a1;have bi:(a==(v:Int))=true\/((a==(v:Int))=false/\(b==(v:Int))=true):=by
      by_cases h:a=v
      ·left;simpa using h
      ·right;refine⟨by simpa using h,?_⟩
       rcases j with U|U
       ·exact absurd U h
       ·simpa using U
     clear j;rcases bi with a2|⟨a2,z⟩
     all_goals
      gi_wp2;refine bg.out.mono ?_;rintro e W3 (⟨rfl,a3,y⟩|⟨rfl,a4⟩)
      ·have bk:=zA a3
       have bo:=zA ((y.2 l (.inl rfl) (ay H.out)).trans H.out);have bq:=zA ((y.2 bv (.inr (.inl rfl)) (ay I.out)).trans I.out);have bw:=zA ((y.2 g (.inr (.inr rfl)) (ay K.out)).trans K.out);have b1:=zA (L.out.trans (y.1 L.out.size));clear a3 y T v0;gi_wp2;gi_roundg (E.length- (k+1))
       case measure=>rw[Q.out];omega
       case rel=>exact⟨k+1,by go_num,by omega,⟨by rw[a0.out];exact bk.out⟩,bo,bq,bw,b1,⟨rfl⟩⟩
      ·have b2:=zA a4
       clear a4 T v0;gi_wp2;refine bodyPost_ret (results_none rfl _ _ _) rfl ?_;exact⟨⟨_,rfl⟩,.inr ⟨(),_,trivial,b2.out⟩⟩
    ·have a2:(a==(v:Int))=false:=by simp;exact fun h=>j (.inl h)
     have z:(b==(v:Int))=false:=by simp;exact fun h=>j (.inr h)
     have b3:=zA j;clear j;gi_wp2;refine⟨(fun _ h=>(by cases h)),?_⟩;gi_wp2;gi_roundg (E.length- (k+1))
     case measure=>rw[Q.out];omega
     case rel=>exact⟨k+1,by go_num,by omega,⟨by rw[G.out,if_neg (fun h=>b3.out h.2),List.append_nil];exact R.out⟩,H,I,K,L,⟨rfl⟩⟩
  ·obtain rfl:k=E.length:=by omega
   gi_wp2;go_end0;exact⟨⟨_,rfl⟩,.inl ⟨(),_,rfl,O.out⟩⟩
theorem nc (b bv g n:Nat) (A0:Option Addr) (c0:Nat) (E:List S83) (q:Int) (dv h:Value) (i:Int) (v:Nat) (w0 W:World) (l:Kd.C aQ w0 A0 E.length E) (m:dN n E) (hn:n<=1000) (o:v<n) (p:Below w0.heap.size w0 W)
  (r:W.heap[b]? =some (.cells #[.pointer (some ⟨g,0,none⟩)] 135 (0,0))) (u:W.heap[bv]? =some (.cells #[.int .i64 v] 3 (0,0))) (w:fF W g n (.slice A0 E.length c0) q dv h i):
  gD (σ:=Unit) Fence.wide 9 Tryz.prog 207 #[.pointer (some ⟨b,0,none⟩),.pointer (some ⟨bv,0,none⟩)] (fun x:Int×Int=>#[.int .i64 x.1,.int .i64 x.2]) (fun _ W W1=>W1=W) (fun _ A B=>Below A.heap.size A B) (fun _ x A B=>(0<=x.1/\x.1<n/\1<=x.2/\x.2<=50)/\Below A.heap.size A B)
   (fun _ X Y=>te w0.heap.size b bv g X Y)
   (fun _ xs W'=>xs=bU E v E.length) (fun _ _ _=>True) (fun pre=>∃k,k<E.length/\pre=bU E v k) W:=fun y J Jx z D F G=>px b bv g n A0 c0 E q dv h i v w0 W l m hn o p r u w y J Jx (fun s pre A B a e=>z s pre A B a e) (fun s pre A B a e=>D s pre A B a e) F (fun s pre x H W1 a j I=>G s pre x H W1 a ⟨j.1.1,j.2⟩ I)
end
section
attribute [local go_sem] Oper.semAt_some
end
def fS (a:Nat->Nat):Nat->List Int->List (List Int)
 |0,p=>[p]
 |k+1,p=>(List.range (a p.length+1)).flatMap fun (x:Nat)=>fS a k (p++[(x:Int)])
def cU (q B:Nat) (calm:List Int->Bool):Nat->List Int->List (List Int)
 |0,p=>[p]
 |k+1,p=>if p.length=q then cU q B calm k (p++[0]) else((List.range B).takeWhile fun (x:Nat)=>calm (p++(x:Int)::List.replicate k 0)).flatMap fun (x:Nat)=>cU q B calm k (p++[(x:Int)])
def di:List Int->List Int->Prop
 |[],[]=>True
 |x::a,y::b=>x<=y/\di a b
 |_,_=>False
theorem di.refl:∀l,di l l
 |[]=>trivial
 |x::l=>⟨Int.le_refl x,di.refl l⟩
theorem di.append {a b c d:List Int} (h:di a b) (e:di c d):di (a++c) (b++d):=by
 induction a generalizing b with
 |nil=>cases b with|nil=>exact e|cons=>exact h.elim
 |cons x a g=>cases b with|nil=>exact h.elim|cons y b=>exact⟨h.1,g h.2⟩
theorem di.trans {a b c:List Int} (h:di a b) (e:di b c):di a c:=by
 induction a generalizing b c with
 |nil=>cases b with|nil=>exact e|cons=>exact h.elim
 |cons x a g=>cases b with
  |nil=>exact h.elim
  |cons y b=>cases c with|nil=>exact e.elim|cons z c=>exact⟨Int.le_trans h.1 e.1,g h.2 e.2⟩
theorem di.length {a b:List Int} (h:di a b):a.length=b.length:=by
 induction a generalizing b with
 |nil=>cases b with|nil=>rfl|cons=>exact h.elim
 |cons x a e=>cases b with|nil=>exact h.elim|cons y b=>simp[e h.2]
theorem Ag (a:Nat->Nat):∀(k:Nat) (p l:List Int),l∈fS a k p->di (p++List.replicate k 0) l:=by
 intro k;induction k with
 |zero=>intro p l h;simp[fS] at h;subst h;simpa using di.refl l
 |succ k b=>
  intro p l h;simp only[fS,List.mem_flatMap] at h;obtain⟨x,g,e⟩:=h;refine di.trans ?_ (b _ _ e);rw[List.replicate_succ,List.append_assoc];exact(di.refl p).append ⟨by omega,di.refl _⟩
theorem range_split {B m:Nat} (h:m<=B):List.range B=List.range m++(List.range (B-m)).map (m+ ·):=by
 conv=>lhs;rw[show B=m+(B-m) by omega,List.range_add]
theorem Ah {α:Type} (P:Nat->Bool) (F:Nat->List α) (g:∀x y,y<=x->P x=true->P y=true):∀(B:Nat),((List.range B).takeWhile P).flatMap F=(List.range B).flatMap fun x=>if P x then F x else[]:=by
 intro B;induction B with
 |zero=>rfl
 |succ B i=>
  rw[List.range_succ,List.flatMap_append,<-i];by_cases h:∀x∈List.range B,P x=true
  ·rw[List.takeWhile_append_of_pos h,List.flatMap_append]
   have j:(List.range B).takeWhile P=List.range B:=by
    have:=List.takeWhile_append_of_pos (l₂:=[]) h;simpa using this
   rw[j];congr 1
   cases a:P B<;>simp[a]
  ·have a:P B=false:=by
    cases a:P B with
    |false=>rfl
    |true=>exact absurd (fun x b=>g B x (by have:=List.mem_range.1 b;omega) a) h
   rw[List.takeWhile_append,if_neg ?_]
   ·simp[a]
   ·intro e
    refine h fun x b=>?_
    have k:(List.range B).takeWhile P=List.range B:=(List.takeWhile_prefix P).eq_of_length e;rw[<-k] at b;exact List.all_eq_true.1 (List.all_takeWhile) x b
theorem Ai {α:Type} (P:Nat->Bool) (F:Nat->List α) (M B:Nat) (a:M<=B) (b:∀x,P x=true->x<M):((List.range B).flatMap fun x=>if P x then F x else[])=(List.range M).flatMap fun x=>if P x then F x else[]:=by
 rw[range_split a,List.flatMap_append];rw[show ((List.range (B-M)).map (M+ ·)).flatMap (fun x=>if P x then F x else[])=[] from ?_]
 ·simp
 ·rw[List.flatMap_eq_nil_iff]
  intro x e;obtain⟨y,_,rfl⟩:=List.mem_map.1 e;cases h:P (M+y) with
  |false=>simp
  |true=>have:=b _ h;omega
theorem Ak (q B:Nat) (calm:List Int->Bool) (g:Nat->Nat) (n:Nat) (j:∀a b,a.length=n->di a b->calm b=true->calm a=true) (u:∀l v,l.length=n->v<n->v≠q->calm l=true->rd l v<=(g v:Int)) (w:g q=0) (z:∀v,v<n->g v+1<=B):
  ∀(k:Nat) (p:List Int),p.length+k=n->(calm (p++List.replicate k 0)=true\/∃v,p.length<=v/\v<n/\v≠q)->cU q B calm k p=(fS g k p).filter calm:=by
 intro k;induction k with
 |zero=>
  rintro p hp (h|⟨v,h1,m,_⟩)
  ·simp at h;simp[cU,fS,h]
  ·omega
 |succ k o=>
  intro p hp h;have H:(p++[(0:Int)]).length=p.length+1:=by simp
  by_cases e:p.length=q
  ·rw[cU,if_pos e,fS,e,w]
   simp only[Nat.zero_add,List.range_one,List.flatMap_cons,List.flatMap_nil,List.append_nil,Int.natCast_zero,Int.ofNat_zero];refine o (p++[0]) (by simp;omega) ?_;rcases h with h|⟨v,h1,m,C⟩
   ·left;rw[List.append_assoc];simpa [List.replicate_succ] using h
   ·right;exact⟨v,by simp;omega,m,C⟩
  ·rw[cU,if_neg e,fS,List.filter_flatMap]
   have D:∀x y:Nat,y<=x->calm (p++(x:Int)::List.replicate k 0)=true->calm (p++(y:Int)::List.replicate k 0)=true:=fun x y I i=>j _ _ (by simp;omega) ((di.refl p).append (show di ((y:Int)::List.replicate k 0) ((x:Int)::List.replicate k 0) from⟨by omega,di.refl _⟩)) i
   rw[Ah (fun x:Nat=>calm (p++(x:Int)::List.replicate k 0)) _ D];rw[Ai (fun x:Nat=>calm (p++(x:Int)::List.replicate k 0)) _ (g p.length+1) B (z _ (by omega)) (fun x i=>by
    have:=u _ p.length (by simp;omega) (by omega) e i;have E:rd (p++(x:Int)::List.replicate k 0) p.length=x:=by simp[rd,aN]
    rw[E] at this;omega)]
   congr 1
   funext x
   have r:(p++[(x:Int)])++List.replicate k 0=p++(x:Int)::List.replicate k 0:=by simp
   cases s:calm (p++(x:Int)::List.replicate k 0) with
   |true=>
    rw[if_pos rfl];exact o _ (by simp;omega) (.inl (by rw[r];exact s))
   |false=>
    rw[if_neg (by simp)];symm
    rw[List.filter_eq_nil_iff];intro l F;have h1:=Ag g k _ l F;rw[r] at h1;cases G:calm l with
    |false=>simp
    |true=>have:=j _ _ (by simp;omega) h1 G;rw[s] at this;cases this
def ji (a:Nat->Nat) (v:Nat) (L:List (List Int)):List (List Int):=L.flatMap fun p=>(List.range (a v+1)).map fun (x:Nat)=>p++[(x:Int)]
def dr (a:Nat->Nat):Nat->List (List Int)
 |0=>[[]]
 |v+1=>ji a v (dr a v)
theorem kR (a:Nat->Nat):∀(v:Nat) (l:List Int),l∈dr a v->l.length=v
 |0,l,h=>by simp[dr] at h;subst h;rfl
 |v+1,l,h=>by
  simp only[dr,ji,List.mem_flatMap,List.mem_map] at h;obtain⟨p,hp,x,_,rfl⟩:=h;simp[kR a v p hp]
theorem tg {α β:Type} {f g:α->List β}:∀(l:List α),(∀x∈l,f x=g x)->l.flatMap f=l.flatMap g
 |[],_=>rfl
 |x::l,h=>by simp only[List.flatMap_cons];rw[h x (by simp),tg l (fun y a=>h y (by simp[a]))]
theorem Am (a:Nat->Nat) (k:Nat):∀v,(dr a v).flatMap (fS a k)=dr a (v+k):=by
 induction k with
 |zero=>intro v;simp only[Nat.add_zero];rw[show fS a 0=fun p=>[p] from rfl];simp
 |succ k b=>
  intro v;rw[show v+(k+1)=(v+1)+k by omega,<-b (v+1),dr,ji,List.flatMap_assoc];refine tg _ fun p hp=>?_
  rw[fS,kR a v p hp,List.flatMap_map]
theorem Ap (a:Nat->Nat) (n:Nat):dr a n=fS a n []:=by
 have h:=Am a n 0;simpa [dr] using h.symm
def gX.f (k:Nat) (b:Int) (e:List (S83)) (g:Int) (l2:List Int):Option (Bool×Int):=(jW.f k b e g l2).bind fun a=>(if a.2.2=0 then(some (((a.2.1.length:Int)==0),a.2.2)) else(some (false,a.2.2)))
theorem gX.calls (k:Nat) (g:Int) (l:Option Addr) (m:Nat) (b:List (S83)) (n:Int) (s:Option Addr) (c2:Nat) (l2:List Int) (v:Bool) (x:Int) (w:World) (y:Kd.C aQ w l b.length b) (z:b.length<=m) (B:Kd.C (Kd.int .i64) w s l2.length l2) (D:l2.length<=c2) (h:gX.f k g b n l2=some (v,x)):
  Calls Tryz.prog 201 #[.agg #[.int .i64 g,.slice l b.length m],.int .i64 n,.slice s l2.length c2] w fun e w'=>e= .returned (.tuple #[.bool v,.int .i64 x])/\Below w.heap.size w w':=by
 have X:=Tryz.underlying24;have E:=zA y;have F:=zA z;clear y z;have G:=zA B;have I:=zA D;clear B D;have a:=zA (ai w.heap.size w);unfold gX.f at h;have H:=h;clear h;obtain⟨⟨J,K,u⟩,L,H⟩:=zo H;dsimp only at H;by_cases o:u=0
 ·rw[if_pos o] at H
  obtain⟨O,P⟩:=da o;clear o;simp only[Option.some.injEq,Prod.mk.injEq] at H;obtain⟨rfl,rfl⟩:=H;go_enter Tryz.func201,Tryz.ntmps201
  go_wp2_with (first|((with_reducible refine aX (N:=3) rfl ?_);(try(refine kI (by rfl) ?_;dsimp only));refine zX 3 #[.int .i64 g,.slice l b.length m] 24 ?_;intro Q i Y p hb;have j:=zA (p);have R:=zG a i;have S:=zG a i;replace a:=zS a hb;clear hb p i;obtain⟨Z,aa,ad,ag⟩:=aE j)|((with_reducible refine aT (f:=213) rfl ?_);refine zL (some 15) Tryz.func213 #[.agg #[.int .i64 g,.slice l b.length m],.int .i64 n,.slice s l2.length c2] ?_;(with_reducible refine(jW.calls k g _ _ b n _ _ l2 J K u _ ?aw ?ax ?dk ?dm L.out).mono ?_);(case aw=>exact Kd.al E.out zB);(case ax=>exact F.out);(case dk=>exact Kd.al G.out zB);(case dm=>exact I.out);rintro e w8 ⟨T,U,rfl,q,r,hb⟩;refine⟨_,rfl,?_⟩;have V:=zA (Kd.bt q (cX zB));have M:=zA (Kd.bt r (cX zB));replace j:=zb j hb;replace a:=zS a hb;(try clear hb);(try clear q);(try clear r);obtain⟨am,an,W⟩:=Kd.bE M.out;subst W))
  go_ret2;exact⟨zE,zB⟩
 ·rw[if_neg o] at H
  obtain⟨O,P⟩:=db o;simp only[Option.some.injEq,Prod.mk.injEq] at H;obtain⟨rfl,rfl⟩:=H;go_enter Tryz.func201,Tryz.ntmps201
  go_wp2_with (first|((with_reducible refine aX (N:=3) rfl ?_);(try(refine kI (by rfl) ?_;dsimp only));refine zX 3 #[.int .i64 g,.slice l b.length m] 24 ?_;intro Q i ao p hb;have j:=zA (p);have R:=zG a i;have S:=zG a i;replace a:=zS a hb;clear hb p i;obtain⟨ap,ar,av,aB⟩:=aE j)|((with_reducible refine aT (f:=213) rfl ?_);refine zL (some 15) Tryz.func213 #[.agg #[.int .i64 g,.slice l b.length m],.int .i64 n,.slice s l2.length c2] ?_;(with_reducible refine(jW.calls k g _ _ b n _ _ l2 J K u _ ?aw ?ax ?dk ?dm L.out).mono ?_);(case aw=>exact Kd.al E.out zB);(case ax=>exact F.out);(case dk=>exact Kd.al G.out zB);(case dm=>exact I.out);rintro e aF ⟨T,U,rfl,q,r,hb⟩;refine⟨_,rfl,?_⟩;have V:=zA (Kd.bt q (cX zB));have M:=zA (Kd.bt r (cX zB));replace j:=zb j hb;replace a:=zS a hb;(try clear hb);(try clear q);(try clear r)))
  go_ret2;exact⟨zE,zB⟩
def fp.f (k:Nat) (b:Int) (e:List (S83)) (g:Int) (l2:List Int):Option (Bool):=(gX.f k b e g l2).bind fun a=>(if a.1=true then(some (a.2==0)) else(some false))
theorem fp.calls (k:Nat) (g:Int) (l:Option Addr) (m:Nat) (b:List (S83)) (n:Int) (p:Option Addr) (c2:Nat) (l2:List Int) (r:Bool) (w:World) (s:Kd.C aQ w l b.length b) (u:b.length<=m) (v:Kd.C (Kd.int .i64) w p l2.length l2) (x:l2.length<=c2) (h:fp.f k g b n l2=some r):
  Calls Tryz.prog 176 #[.agg #[.int .i64 g,.slice l b.length m],.int .i64 n,.slice p l2.length c2] w fun e w'=>e= .returned (.bool r)/\Below w.heap.size w w':=by
 have L:=Tryz.underlying24;have y:=zA s;have z:=zA u;clear s u;have B:=zA v;have D:=zA x;clear v x;have a:=zA (ai w.heap.size w);unfold fp.f at h;have H:=h;clear h;obtain⟨⟨G,E⟩,F,H⟩:=zo H;dsimp only at H;by_cases q:G=true
 ·subst q
  replace H:=zi H;obtain rfl:=aR H;go_enter Tryz.func176,Tryz.ntmps176
  go_wp2_with (first|((with_reducible refine aX (N:=3) rfl ?_);refine zX 3 #[.int .i64 g,.slice l b.length m] 24 ?_;intro I i M o hb;have j:=zA (o);have J:=zG a i;have K:=zG a i;replace a:=zS a hb;clear hb o i;obtain⟨O,P,Q,R⟩:=aE j)|((with_reducible refine aT (f:=201) rfl ?_);refine zL (some 13) Tryz.func201 #[.agg #[.int .i64 g,.slice l b.length m],.int .i64 n,.slice p l2.length c2] ?_;(with_reducible refine(gX.calls k g _ _ b n _ _ l2 true E _ ?aw ?ax ?dk ?dm F.out).mono ?_);(case aw=>exact Kd.al y.out zB);(case ax=>exact z.out);(case dk=>exact Kd.al B.out zB);(case dm=>exact D.out);rintro e S ⟨rfl,hb⟩;refine⟨_,rfl,?_⟩;replace j:=zb j hb;replace a:=zS a hb;(try clear hb)))
  go_ret;exact⟨zE,zB⟩
 ·replace q:=Bool.eq_false_iff.mpr q
  subst q;replace H:=zj H;obtain rfl:=aR H;go_enter Tryz.func176,Tryz.ntmps176
  go_wp2_with (first|((with_reducible refine aX (N:=3) rfl ?_);refine zX 3 #[.int .i64 g,.slice l b.length m] 24 ?_;intro I i T o hb;have j:=zA (o);have J:=zG a i;have K:=zG a i;replace a:=zS a hb;clear hb o i;obtain⟨U,V,W,X⟩:=aE j)|((with_reducible refine aT (f:=201) rfl ?_);refine zL (some 13) Tryz.func201 #[.agg #[.int .i64 g,.slice l b.length m],.int .i64 n,.slice p l2.length c2] ?_;(with_reducible refine(gX.calls k g _ _ b n _ _ l2 false E _ ?aw ?ax ?dk ?dm F.out).mono ?_);(case aw=>exact Kd.al y.out zB);(case ax=>exact z.out);(case dk=>exact Kd.al B.out zB);(case dm=>exact D.out);rintro e Y ⟨rfl,hb⟩;refine⟨_,rfl,?_⟩;replace j:=zb j hb;replace a:=zS a hb;(try clear hb)))
  go_ret;exact⟨zE,zB⟩
end Go.Proofs.YtffdiakgjakngaaGreat.P


namespace Go.Proofs.YtffdiakgjakngaaGreat.P
open Go.RowKit Go.Proofs.YtffdiakgjakngaaGreatW.PrintWords Go.Proofs.YtffdiakgjakngaaGreatW.PrintLast Go.Proofs.YtffdiakgjakngaaGreatW.PrintMore
set_option linter.unusedVariables false
set_option linter.unusedSimpArgs false
set_option maxHeartbeats 8000000
set_option maxRecDepth 100000
section
attribute [local go_sem] Oper.semAt_some
def iF {α:Type} (P:Nat->Bool) (F:Nat->List α):Nat->Nat->List α
 |0,_=>[]
 |f+1,x=>if P x then F x++iF P F f (x+1) else[]
theorem th {α:Type} (P:Nat->Bool) (F:Nat->List α):∀f x,iF P F f x=((List.range' x f).takeWhile P).flatMap F
 |0,x=>by simp[iF]
 |f+1,x=>by
  rw[iF,List.range'_succ,List.takeWhile_cons];cases P x with
  |true=>simp[th P F f (x+1)]
  |false=>simp
theorem Aq (q B:Nat) (calm:List Int->Bool) (k:Nat) (p:List Int) (h:p.length≠q):cU q B calm (k+1) p=iF (fun (x:Nat)=>calm (p++(x:Int)::List.replicate k 0)) (fun (x:Nat)=>cU q B calm k (p++[(x:Int)])) B 0:=by
 rw[cU,if_neg h,th,List.range_eq_range']
def gH (n q:Nat) (c:List Int):Prop:=c.length=n/\(∀i:Nat,0<=rd c i/\rd c i<=1000)/\rd c q=0
structure CS (w0:World) (n:Nat) (A0:Option Addr) (c0:Nat) (E:List S83) (q gx qx s l:Nat) (W:World) (c:List Int):Prop where
 g:W.heap[gx]? =some (.cells #[.int .i64 n,.slice A0 E.length c0] 24 (0,0))
 q:W.heap[qx]? =some (.cells #[.int .i64 q] 3 (0,0))
 y:W.heap[s]? =some (.cells #[.func (.yield l) #[] #[]] 141 (0,0))
 c:(Kd.int .i64).R 3 W w0.heap.size (fun k=>k=s+1) (.slice (some ⟨s+1,0,none⟩) n n) c
 cb:W.heap[s+2]? =some (.cells #[.slice (some ⟨s+1,0,none⟩) n n] 26 (0,0))
 f:W.heap[s+3]? =some (.cells #[.func (.func 200) #[] #[.pointer (some ⟨gx,0,none⟩),.pointer (some ⟨s,0,none⟩),.pointer (some ⟨s+2,0,none⟩),.pointer (some ⟨qx,0,none⟩),.pointer (some ⟨s+3,0,none⟩)]] 121 (0,0))
 below:Below w0.heap.size w0 W
namespace CS
variable {w0:World} {n:Nat} {A0:Option Addr} {c0:Nat} {E:List S83} {q gx qx s l:Nat} {W W':World} {c:List Int}
theorem je (h:CS w0 n A0 c0 E q gx qx s l W c) (hk:∀k,(k=gx\/k=qx\/s<=k/\k<s+4)->W'.heap[k]? =W.heap[k]?) (hb:Below w0.heap.size w0 W'):CS w0 n A0 c0 E q gx qx s l W' c:=
 ⟨(hk gx (.inl rfl)).trans h.g,(hk qx (.inr (.inl rfl))).trans h.q,(hk s (.inr (.inr ⟨by omega,by omega⟩))).trans h.y,Kd.eX h.c (fun k e=>hk k (.inr (.inr (by subst e;omega)))),(hk (s+2) (.inr (.inr ⟨by omega,by omega⟩))).trans h.cb,(hk (s+3) (.inr (.inr ⟨by omega,by omega⟩))).trans h.f,hb⟩
theorem lt (h:CS w0 n A0 c0 E q gx qx s l W c):s+3<W.heap.size/\gx<W.heap.size/\qx<W.heap.size:=⟨ay h.f,ay h.g,ay h.q⟩
theorem stay (h:CS w0 n A0 c0 E q gx qx s l W c) (hb:Below W.heap.size W W'):CS w0 n A0 c0 E q gx qx s l W' c:=
 h.je (fun k hk=>hb.block k (by have:=h.lt;rcases hk with rfl|rfl|hk<;>omega)) (h.below.trans (hb.mono h.below.size))
theorem size (h:CS w0 n A0 c0 E q gx qx s l W c):w0.heap.size<=W.heap.size:=h.below.size
end CS
def py (s:Nat) (x:List Int×Value) (A B:World):Prop:=A.grownBy B (some (s+1))/\(Kd.int .i64).R 3 B A.heap.size (fun _=>True) x.2 x.1/\s+4<=A.heap.size
def pz (w0:World) (gx qx s:Nat) (X Y:World):Prop:=(w0.heap.size<=X.heap.size->Below w0.heap.size X Y)/\∀k,(k=gx\/k=qx\/s<=k/\k<s+4)->k<X.heap.size->Y.heap[k]? =X.heap[k]?
def pA (w0:World) (B n:Nat) (A0:Option Addr) (c0:Nat) (E:List S83) (q gx qx s l:Nat) (calm:List Int->Bool) (J Jx:List (List Int×Value)->World->Prop) (a:Nat) (p:List Int) (pre:List (List Int×Value)) (e:Ending) (W':World):Prop:=
 (∃b,e= .returned (.bool true)/\J (pre++b) W'/\b.map Prod.fst=cU q B calm a p/\CS w0 n A0 c0 E q gx qx s l W' (p++List.replicate a 0))\/(e= .returned (.bool false)/\∃g,Jx g W')
theorem ti {e:Ending} {A B:Prop} (h:(e= .returned (.bool true)/\A)\/(e= .returned (.bool false)/\B)):∃b:Bool,e= .returned (.bool b)/\Aside0 ((b=true/\A)\/(b=false/\B)):=by
 rcases h with⟨h,a⟩|⟨h,hb⟩
 ·exact⟨true,h,⟨.inl ⟨rfl,a⟩⟩⟩
 ·exact⟨false,h,⟨.inr ⟨rfl,hb⟩⟩⟩
theorem Au {w0:World} {B n:Nat} {A0:Option Addr} {c0:Nat} {E:List S83} {q gx qx s l:Nat} {calm:List Int->Bool} {J Jx:List (List Int×Value)->World->Prop} {g:Nat} {p:List Int} {pre:List (List Int×Value)} {e:Ending} {W':World} (h:pA w0 B n A0 c0 E q gx qx s l calm J Jx g p pre e W'):
  ∃b:Bool,e= .returned (.bool b)/\Aside0 ((b=true/\∃a,J (pre++a) W'/\a.map Prod.fst=cU q B calm g p/\CS w0 n A0 c0 E q gx qx s l W' (p++List.replicate g 0))\/(b=false/\∃i,Jx i W')):=by
 rcases h with⟨a,h,j⟩|⟨h,hb⟩
 ·exact⟨true,h,⟨.inl ⟨rfl,a,j⟩⟩⟩
 ·exact⟨false,h,⟨.inr ⟨rfl,hb⟩⟩⟩
theorem Aw {w0:World} {B n:Nat} {A0:Option Addr} {c0:Nat} {E:List S83} {q gx qx s l:Nat} {calm:List Int->Bool} {J Jx:List (List Int×Value)->World->Prop} (hn:n<=12)
  (m:∀pre x A C,J pre A->py s x A C->pre.length<16384->YieldAt Fence.wide 8 Tryz.prog l #[x.2] C fun e W'=>(e= .returned (.bool true)/\J (pre++[x]) W'/\pz w0 gx qx s C W')\/(e= .returned (.bool false)/\Jx (pre++[x]) W'))
  (p:List Int) (pre:List (List Int×Value)) (W:World) (hp:p.length=n) (hC:CS w0 n A0 c0 E q gx qx s l W p) (o:J pre W) (hlen:pre.length<16384):
  CallsIn Fence.wide 9 Tryz.prog 200 #[.int .i64 n,.pointer (some ⟨gx,0,none⟩),.pointer (some ⟨s,0,none⟩),.pointer (some ⟨s+2,0,none⟩),.pointer (some ⟨qx,0,none⟩),.pointer (some ⟨s+3,0,none⟩)] W (pA w0 B n A0 c0 E q gx qx s l calm J Jx 0 p pre):=by
 have G:=zA m;have H:=zA o;have j:=zA hC;have N:W.cell? ⟨gx,0,none⟩=some (.int .i64 n):=(ah hC.g 0).trans rfl;have O:W.cell? ⟨s,0,none⟩=some (.func (.yield l) #[] #[]):=(ah hC.y 0).trans rfl;have P:W.cell? ⟨s+2,0,none⟩=some (.slice (some ⟨s+1,0,none⟩) n n):=(ah hC.cb 0).trans rfl;have Q:=zA hp;obtain⟨-, -,r⟩:=Kd.a8 hC.c;have S:=hC.below.size;have I:=zA (show CallsIn Fence.wide 8 Tryz.prog 57 #[.slice (some ⟨s+1,0,none⟩) n n] W.drew (fun e w'=>∃u:Value,e= .returned (u)/\Kd.R (Kd.int .i64) 3 w' W.heap.size (fun _=>True) u p/\Below W.heap.size W w'/\Below W.heap.size W.drew w') from callsIn_wide.2 (by
  subst hp;refine(fb.calls (some ⟨s+1,0,none⟩) p.length p p W.drew (Kd.gn r) (aM _) (by unfold fb.f clone.f;rw[if_pos (by omega)])).mono ?_;rintro e w' ⟨v,rfl,h1,w⟩;exact⟨v,rfl,h1,(fN (ai _ _)).trans w,w⟩))
 clear m o hC r hp;refine callsIn_of_wp Tryz.func200 rfl trivial ?_ rfl;simp only[Tryz.ntmps200,List.size_toArray,List.length_cons,List.length_nil,Nat.reduceAdd,Nat.reduceSub,Array.replicate_succ,Array.replicate_zero,List.push_toArray,List.append_toArray,List.nil_append,List.cons_append];gi_wp2;gi_region_with (first|(refine⟨trivial,?_⟩;gi_at_call 57;refine I.out.mono ?_;rintro e w1 ⟨v,rfl,z,h,K⟩;have T:w1.cell? ⟨s,0,none⟩=some (.func (.yield l) #[] #[]):=(ah (au j.out.y h) 0).trans rfl;have i:=zA (j.out.stay h);obtain⟨fn,tmps,U,V,X,D⟩:=G.out pre (p,v) W w1 H.out ⟨gh h _,z,j.out.lt.1⟩ hlen;have L:=zA D;clear D z h K)|(refine L.out.mono ?_;rintro e w3 a;obtain⟨b,rfl,M⟩:=ti a;clear a))
 all_goals gi_wp2
 all_goals go_ret
 all_goals
  rcases M.out with⟨rfl,a,F⟩|⟨rfl,a⟩
  ·exact .inl ⟨[(p,v)],rfl,a,rfl,by simpa using i.out.je (fun k hk=>F.2 k hk (by have:=i.out.lt;rcases hk with rfl|rfl|hk<;>omega)) (i.out.below.trans (F.1 i.out.size))⟩
  ·exact .inr ⟨rfl,_,a⟩
theorem Az {n q a:Nat} {p:List Int} {x:Nat} (h:gH n q (p++List.replicate (a+1) 0)) (b:p.length≠q) (g:x<=1000):gH n q (p++(x:Int)::List.replicate a 0):=by
 have e:p++(x:Int)::List.replicate a 0=(p++List.replicate (a+1) 0).set p.length x:=by
  rw[List.replicate_succ,List.set_append_right _ _ (aM _),Nat.sub_self];rfl
 rw[e];refine⟨by rw[List.length_set];exact h.1,fun i=>?_,?_⟩
 ·have hi:=h.2.1 i
  simp only[rd,aq,aN,List.getElem?_set] at hi⊢;split
  ·split<;>simp<;>omega
  ·exact hi
 ·have hi:=h.2.2
  simp only[rd,aq,aN,List.getElem?_set] at hi⊢;rw[if_neg b];exact hi
theorem CS.set {w0:World} {n:Nat} {A0:Option Addr} {c0:Nat} {E:List S83} {q gx qx s l:Nat} {W:World} {p:List Int} {a:Nat} {x:Int} (h:CS w0 n A0 c0 E q gx qx s l W (p++x::List.replicate a 0)) (b:gx<s) (i:qx<s) (j:w0.heap.size<=s) (y:Int):
  CS w0 n A0 c0 E q gx qx s l (W.setCell ⟨s+1,p.length,none⟩ (.int .i64 y)) (p++y::List.replicate a 0)/\W.grownBy (W.setCell ⟨s+1,p.length,none⟩ (.int .i64 y)) (some (s+1)):=by
 have hp:=Kd.cY h.c (p.length:Int) y;rw[aq] at hp;have iP:∀k,k≠s+1->(W.setCell ⟨s+1,p.length,none⟩ (.int .i64 y)).heap[k]? =W.heap[k]? :=fun k hk=>Below.heap_setCell _ _ _ _ (by simpa using hk)
 refine⟨⟨(iP gx (by omega)).trans h.g,(iP qx (by omega)).trans h.q,(iP s (by omega)).trans h.y,?_,(iP (s+2) (by omega)).trans h.cb,(iP (s+3) (by omega)).trans h.f,h.below.setCell (by show w0.heap.size<=s+1;omega) _⟩,hp.2⟩;have e:(p++x::List.replicate a 0).set p.length y=p++y::List.replicate a 0:=by
  rw[List.set_append_right _ _ (aM _),Nat.sub_self];rfl
 rw[<-e];exact hp.1
theorem CS.cell {w0:World} {n:Nat} {A0:Option Addr} {c0:Nat} {E:List S83} {q gx qx s l:Nat} {W:World} {p:List Int} {b:Nat} {x:Int} (h:CS w0 n A0 c0 E q gx qx s l W (p++x::List.replicate b 0)) (hn:p.length<n):
  W.cell? ⟨s+1,p.length,none⟩=some (.int .i64 x)/\W.frozen? ⟨s+1,p.length,none⟩=false:=by
 obtain⟨h1,a⟩:=Kd.bG (0:Int) h.c (p.length:Int) (by omega) (by omega);rw[aq] at h1 a;refine⟨?_,a⟩;rw[h1];simp[bs,aN]
theorem AA (k m:Nat) (b:Int) (g:Option Addr) (i:Nat) (a:List (S83)) (j:Int) (l:Option Addr) (c2:Nat) (l2:List Int) (r:Bool) (w:World) (n:Kd.C aQ w g a.length a) (o:a.length<=i) (p:l2.length=m) (q:Kd.C (Kd.int .i64) w l m l2) (s:m<=c2) (h:fp.f k b a j l2=some r):
  Calls Tryz.prog 176 #[.agg #[.int .i64 b,.slice g a.length i],.int .i64 j,.slice l m c2] w fun e w'=>e= .returned (.bool r)/\Below w.heap.size w w':=by
 subst p;exact fp.calls k b g i a j l c2 l2 r w n o q s h
theorem AB {w0:World} {B K n:Nat} {A0:Option Addr} {c0:Nat} {E:List S83} {q gx qx s l:Nat} {calm:List Int->Bool} {J Jx:List (List Int×Value)->World->Prop} (hn:n<=12) (aL:Kd.C aQ w0 A0 E.length E) (aO:E.length<=c0) (X:gx<s) (Y:qx<s) (Z:w0.heap.size<=s)
  (aa:∀c,gH n q c->fp.f K n E q c=some (calm c)) (ad:∀(p:List Int) (x a:Nat),calm (p++(x:Int)::List.replicate a 0)=true->p.length+1+a=n->p.length≠q->x+1<B) (hB:B<=1000) (aP:0<B)
  (ag:∀pre A C,J pre A->A.grownBy C (some (s+1))->J pre C)
  (hY:∀pre x A C,J pre A->py s x A C->pre.length<16384->YieldAt Fence.wide 8 Tryz.prog l #[x.2] C fun e W'=>(e= .returned (.bool true)/\J (pre++[x]) W'/\pz w0 gx qx s C W')\/(e= .returned (.bool false)/\Jx (pre++[x]) W')):
  ∀(a v:Nat) (p:List Int) (pre:List (List Int×Value)) (W:World),p.length=v->v+a=n->CS w0 n A0 c0 E q gx qx s l W (p++List.replicate a 0)->gH n q (p++List.replicate a 0)->J pre W->pre.length+(cU q B calm a p).length<=16384->
  CallsIn Fence.wide 9 Tryz.prog 200 #[.int .i64 v,.pointer (some ⟨gx,0,none⟩),.pointer (some ⟨s,0,none⟩),.pointer (some ⟨s+2,0,none⟩),.pointer (some ⟨qx,0,none⟩),.pointer (some ⟨s+3,0,none⟩)] W (pA w0 B n A0 c0 E q gx qx s l calm J Jx a p pre):=by
 intro a;induction a with
 |zero=>
  intro v p pre W hp hv hC hO H hlen;obtain rfl:v=n:=by omega
  exact Aw hn hY p pre W hp (by simpa using hC) H (by simp[cU] at hlen;omega)
 |succ a ih=>
  intro v p pre W hp hv hC hO H hlen;have I:W.cell? ⟨gx,0,none⟩=some (.int .i64 n):=(ah hC.g 0).trans rfl;have L:W.cell? ⟨qx,0,none⟩=some (.int .i64 q):=(ah hC.q 0).trans rfl;have a0:W.cell? ⟨s+3,0,none⟩=some (.func (.func 200) #[] #[.pointer (some ⟨gx,0,none⟩),.pointer (some ⟨s,0,none⟩),.pointer (some ⟨s+2,0,none⟩),.pointer (some ⟨qx,0,none⟩),.pointer (some ⟨s+3,0,none⟩)]):=(ah hC.f 0).trans rfl;have a1:((v:Int)==(n:Int))=false:=by simp;omega
  have hu:=Tryz.underlying24;have an:=zA ih;have i:=zA hC;have HO:=zA hO;have w:=zA H;have HL:=zA hlen;have k:=zA hp;have R:=zA ag;have a2:=zA aa;have a3:=zA ad;have b0:v<12:=by omega
  clear ih hC hO H hlen hY ag aa ad hp;refine callsIn_of_wp Tryz.func200 rfl trivial ?_ rfl;simp only[Tryz.ntmps200,List.size_toArray,List.length_cons,List.length_nil,Nat.reduceAdd,Nat.reduceSub,Array.replicate_succ,Array.replicate_zero,List.push_toArray,List.append_toArray,List.nil_append,List.cons_append];by_cases F:v=q
  ·have r:=an.out (v+1) (p++[0]) pre W (by simp[k.out]) (by omega) (by rw[List.append_assoc];exact i.out) (by rw[List.append_assoc];exact HO.out) w.out (by have h:=HL.out;rw[cU,if_pos (by rw[k.out];exact F)] at h;exact h)
   rw[Int.natCast_add,Int.natCast_one] at r;have S:=zA ((callsIn_wide (n:=8)).2 (callsIn_wide.1 r));clear r;have y:=zA F;clear F;have b1:((v:Int)==(q:Int))=true:=by simp[y.out]
   gi_wp2_with (refine⟨trivial,?_⟩;gi_at_call 200;refine S.out.mono ?_;rintro e w3 j;obtain⟨b,rfl,T⟩:=Au j;clear j)
   go_ret;rcases T.out with⟨rfl,m,j,M,z⟩|⟨rfl,j⟩
   ·exact .inl ⟨m,rfl,j,by rw[cU,if_pos (by rw[k.out];exact y.out)];exact M,by rw[List.append_assoc] at z;exact z⟩
   ·exact .inr ⟨rfl,j⟩
  ·have a4:((v:Int)==(q:Int))=false:=by simp;omega
   have y:=zA (show p.length≠q by rw[k.out];exact F);have a5:=zA (Aq q B calm a p y.out);clear F;gi_wp2;clear I L a0 a1 a4;gi_loopg [] (B) (fun kq wr=>∃(x:Nat) (m:List (List Int×Value)),x<B/\Aside0 (J (pre++m) wr)/\Aside0 (CS w0 n A0 c0 E q gx qx s l wr (p++(x:Int)::List.replicate a 0))/\Aside0 (cU q B calm (a+1) p=m.map Prod.fst++iF (fun (x:Nat)=>calm (p++(x:Int)::List.replicate a 0)) (fun (x:Nat)=>cU q B calm a (p++[(x:Int)])) (B-x) x)/\Aside0 (kq=B-x))
   case atStart=>exact⟨0,[],aP,⟨by simpa using w.out⟩,i,⟨by rw[a5.out];rfl⟩,⟨rfl⟩⟩
   case round=>
    clear w i;obtain⟨x,m,hx,w,i,HT,HK⟩:=hrel;have N:=zA (Az (x:=x) HO.out y.out (by omega));obtain⟨-, -,U⟩:=Kd.a8 i.out.c;rw[N.out.1] at U;have O:=zA ((callsIn_wide (n:=8)).2 (AA K n n A0 c0 E q (some ⟨s+1,0,none⟩) n _ _ wr (Kd.al aL i.out.below) aO N.out.1 U (aM _) (a2.out _ N.out)));have av:=zA (show iF (fun (x:Nat)=>calm (p++(x:Int)::List.replicate a 0)) (fun (x:Nat)=>cU q B calm a (p++[(x:Int)])) (B-x) x=if calm (p++(x:Int)::List.replicate a 0)=true then cU q B calm a (p++[(x:Int)])++iF (fun (x:Nat)=>calm (p++(x:Int)::List.replicate a 0)) (fun (x:Nat)=>cU q B calm a (p++[(x:Int)])) (B- (x+1)) (x+1) else[] from by rw[show B-x=(B- (x+1))+1 by omega];rfl);have I:wr.cell? ⟨gx,0,none⟩=some (.int .i64 n):=(ah i.out.g 0).trans rfl;have aB:wr.cell? ⟨gx,1,none⟩=some (.slice A0 E.length c0):=(ah i.out.g 1).trans rfl;have L:wr.cell? ⟨qx,0,none⟩=some (.int .i64 q):=(ah i.out.q 0).trans rfl;have aF:wr.cell? ⟨s+2,0,none⟩=some (.slice (some ⟨s+1,0,none⟩) n n):=(ah i.out.cb 0).trans rfl;have b3:(0:Int)<=(v:Int):=by omega
    have b4:(v:Int)<(n:Int):=by omega
    clear U;cases hb:calm (p++(x:Int)::List.replicate a 0) with
    |false=>
     rw[hb] at O;have P:=zA (show cU q B calm (a+1) p=m.map Prod.fst from by rw[HT.out,av.out,if_neg (by rw[hb];decide),List.append_nil]);clear hb;gi_wp2_with (refine⟨trivial,?_⟩;gi_at_call 176;refine O.out.mono ?_;rintro e w1 ⟨rfl,u⟩;have D:=zA (i.out.stay u);have Q:w1.cell? ⟨s+2,0,none⟩=some (.slice (some ⟨s+1,0,none⟩) n n):=(ah D.out.cb 0).trans rfl;have G:=D.out.cell (by rw[k.out];omega);rw[k.out] at G;obtain⟨q2,q3⟩:=G;have bf:=zA u;clear u)
     go_ret;have o:=D.out.set X Y Z 0;rw[k.out] at o;exact .inl ⟨m,rfl,R.out _ _ _ w.out (World.grownBy.trans (gh bf.out _) o.2),P.out.symm,o.1⟩
    |true=>
     rw[hb] at O;have HX:=zA (a3.out p x a hb (by rw[k.out];omega) y.out);have P:=zA (show cU q B calm (a+1) p=m.map Prod.fst++(cU q B calm a (p++[(x:Int)])++iF (fun (x:Nat)=>calm (p++(x:Int)::List.replicate a 0)) (fun (x:Nat)=>cU q B calm a (p++[(x:Int)])) (B- (x+1)) (x+1)) from by rw[HT.out,av.out,if_pos hb]);have bi:=zA (show (pre++m).length+(cU q B calm a (p++[(x:Int)])).length<=16384 from by have h1:=HL.out;rw[P.out] at h1;simp only[List.length_append,List.length_map] at h1⊢;omega);clear hb;gi_wp2_with (refine⟨trivial,?_⟩;gi_at_call 176;refine O.out.mono ?_;rintro e w1 ⟨rfl,u⟩;have D:=zA (i.out.stay u);have Q:w1.cell? ⟨s+3,0,none⟩=some (.func (.func 200) #[] #[.pointer (some ⟨gx,0,none⟩),.pointer (some ⟨s,0,none⟩),.pointer (some ⟨s+2,0,none⟩),.pointer (some ⟨qx,0,none⟩),.pointer (some ⟨s+3,0,none⟩)]):=(ah D.out.f 0).trans rfl;have r:=an.out (v+1) (p++[(x:Int)]) (pre++m) w1 (by simp[k.out]) (by omega) (by rw[List.append_assoc];exact D.out) (by rw[List.append_assoc];exact N.out) (R.out _ _ _ w.out (gh u _)) bi.out;rw[Int.natCast_add,Int.natCast_one] at r;have S:=zA ((callsIn_wide (n:=8)).2 (callsIn_wide.1 r));clear u r)
     refine⟨trivial,?_⟩;refine S.out.mono ?_;rintro e w3 (⟨bk,rfl,j,M,z⟩|⟨rfl,bn,j⟩)
     ·rw[List.append_assoc] at z
      have V:=zA (show CS w0 n A0 c0 E q gx qx s l w3 (p++(x:Int)::List.replicate a 0) from z);have bo:=zA j;have H4:=zA M;clear j M z Q I aB L aF;have Q:w3.cell? ⟨s+2,0,none⟩=some (.slice (some ⟨s+1,0,none⟩) n n):=(ah V.out.cb 0).trans rfl;have G:=V.out.cell (by rw[k.out];omega);have o:=V.out.set X Y Z ((x:Int)+1);rw[k.out] at G o;obtain⟨q2,q3⟩:=G;have bv:=zA o.1;have bw:=zA (R.out _ _ _ bo.out o.2);clear o;have b5:(x:Int)<=1000:=by omega
      gi_wp2;gi_roundg (B- (x+1))
      case measure=>rw[HK.out];omega
      case rel=>exact⟨x+1,m++bk,HX.out,⟨by rw[<-List.append_assoc];exact bw.out⟩,bv,⟨by rw[P.out,List.map_append,H4.out,List.append_assoc]⟩,⟨rfl⟩⟩
     ·have T:=zA j
      clear j Q I aB L aF;gi_wp2;go_ret;exact .inr ⟨rfl,bn,T.out⟩
end
section
attribute [local go_sem] Oper.semAt_some
theorem AD (a b:Int) (f:Bool) (w:World):Calls Tryz.prog 181 #[.agg #[.int .i64 a,.int .i64 b],.bool f] w fun e w'=>e= .returned (.tuple #[.int .i64 (if f=true then a else b),.int .i64 (if f=true then b else a)])/\Below w.heap.size w w':=by
 have hu:=Tryz.underlying205;have g:=aU w (.cells #[.int .i64 a,.int .i64 b] 205);have h:(w.alloc (.cells #[.int .i64 a,.int .i64 b] 205)).cell? ⟨w.heap.size,0,none⟩=some (.int .i64 a):=(ah g 0).trans rfl;have h1:(w.alloc (.cells #[.int .i64 a,.int .i64 b] 205)).cell? ⟨w.heap.size,1,none⟩=some (.int .i64 b):=(ah g 1).trans rfl;clear g;cases f with
 |true=>
  go_enter Tryz.func181,Tryz.ntmps181
  go_wp2;go_quiet (fail)
  go_wp2;go_ret2;exact⟨rfl,cz (af (ai _ _) _) _⟩
 |false=>
  go_enter Tryz.func181,Tryz.ntmps181
  go_wp2;go_quiet (fail)
  go_wp2;go_ret2;exact⟨rfl,cz (af (ai _ _) _) _⟩
theorem tj (N:Int) (ev:Value) (A:Option Addr) (m c:Nat) (w:World):Calls Tryz.prog 127 #[.agg #[.int .i64 N,ev],.slice A m c] w fun e w'=>e= .returned (.func (.func 180) #[] #[.pointer (some ⟨w.heap.size,0,none⟩),.pointer (some ⟨w.heap.size+1,0,none⟩)])/\w'=(w.alloc (.cells #[.int .i64 N,ev] 24)).alloc (.cells #[.slice A m c] 43):=by
 go_enter Tryz.func127,Tryz.ntmps127
 go_wp2;go_ret;exact⟨rfl,rfl⟩
def jk (x:Nat×Int×Int) (f:Bool):Int×Int:=(if f=true then x.2.1 else x.2.2,if f=true then x.2.2 else x.2.1)
def cV (S:List (Nat×Int×Int)) (o:List Bool) (j:Nat):List (Int×Int):=(List.range j).map fun i=>jk (S.getD i (0,0,0)) (o.getD i false)
theorem AE (S:List (Nat×Int×Int)) (o:List Bool) (j:Nat):cV S o (j+1)=cV S o j++[jk (S.getD j (0,0,0)) (o.getD j false)]:=by simp[cV,List.range_succ]
def AF (base a b s:Nat) (X Y:World):Prop:=(base<=X.heap.size->Below base X Y)/\∀k,(k=a\/k=b\/s<=k)->k<X.heap.size->Y.heap[k]? =X.heap[k]?
theorem tk (bg bo k s:Nat) (N:Int) (A0:Option Addr) (c0:Nat) (E:List S83) (r:Option Addr) (co:Nat) (o:List Bool) (S:List (Nat×Int×Int)) (w0 W:World) (bw:Kd.C aQ w0 A0 E.length E) (bx:E.length<=c0) (V:Kd.bool.C w0 r o.length o) (ht:aW.f k N E=some 0) (hE:cJ E=true) (hS:a6 E E.length=S) (c2:o.length=S.length) (c3:S.length<=1000000) (hs:s<=W.heap.size) (Z:Below w0.heap.size w0 W) (c5:w0.heap.size<=s)
  (u:W.heap[bg]? =some (.cells #[.int .i64 N,.slice A0 E.length c0] 24 (0,0))) (aa:W.heap[bo]? =some (.cells #[.slice r o.length co] 43 (0,0))):
  gD (σ:=Unit) Fence.wide 9 Tryz.prog 180 #[.pointer (some ⟨bg,0,none⟩),.pointer (some ⟨bo,0,none⟩)] (fun x:Int×Int=>#[.int .i64 x.1,.int .i64 x.2]) (fun _ W W1=>W1=W) (fun _ A B=>Below A.heap.size A B) (fun _ x A B=>(∃j:Nat,j<S.length/\x=jk (S.getD j (0,0,0)) (o.getD j false))/\Below A.heap.size A B)
   (fun _ X Y=>AF w0.heap.size bg bo s X Y)
   (fun _ xs W'=>xs=cV S o S.length) (fun _ _ _=>True) (fun pre=>pre.length<S.length) W:=by
 intro lp J Jx ag ak am an;have G:=zA ag;have c7:=zA ak;have hY:=zA an;have ap:=am () W rfl;clear ag ak am an;have hu:=Tryz.underlying24;have c8:=Tryz.underlying205;refine callsIn_of_wp Tryz.func180 rfl trivial ?_ rfl;simp only[Tryz.ntmps180,List.size_toArray,List.length_cons,List.length_nil,Nat.reduceAdd,Nat.reduceSub,Array.replicate_succ,Array.replicate_zero,List.push_toArray,List.append_toArray,List.nil_append,List.cons_append];have b0:W.cell? ⟨bg,0,none⟩=some (.int .i64 N):=(ah u 0).trans rfl;have b1:W.cell? ⟨bg,1,none⟩=some (.slice A0 E.length c0):=(ah u 1).trans rfl;have m:=zA u;have n:=zA aa;have H:=zA (pk k N A0 c0 E W (Kd.al bw Z) bx ht hE);rw[hS] at H;clear u aa;gi_wp2_with (refine⟨trivial,?_⟩;gi_at_call 178;refine(callsIn_wide.2 H.out).mono ?_;rintro e w3 ⟨v9,rfl,I,l⟩;obtain⟨A9,c9,av⟩:=Kd.bE I;rw[lQ] at av;subst av;have aB:=zA (Kd.bj (Kd.dy I) (ok':=fun k=>s<=k) (fun k hk=>by have:=hk.2.1;omega));have aF:=zA (G.out () _ _ _ ap l);have aL:=zA (au m.out l);have aO:=zA (au n.out l);have aP:=zA (aC Z l);have aS:=zA l.size;clear I l b0 b1)
 gi_loopg [15] (S.length) (fun kq i wr=>∃v:Nat,i= .int .i64 v/\v<=S.length/\Aside0 (J () (cV S o v) wr)/\Aside0 (wr.heap[bg]? =some (.cells #[.int .i64 N,.slice A0 E.length c0] 24 (0,0)))/\Aside0 (wr.heap[bo]? =some (.cells #[.slice r o.length co] 43 (0,0)))/\Aside0 ((Kd.raw 2).R 205 wr W.heap.size (fun k=>s<=k) (.slice A9 S.length c9) (ez S))/\Aside0 (Below w0.heap.size w0 wr)/\Aside0 (W.heap.size<=wr.heap.size)/\Aside0 (kq=S.length-v))
 case atStart=>exact⟨0,rfl,Nat.zero_le _,aF,aL,aO,aB,aP,aS,⟨rfl⟩⟩
 case round=>
  clear aF aL aO aB aP aS H m n ap;obtain⟨v,rfl,hv,K,m,n,L,M,HW,HK⟩:=hrel;by_cases w:v<S.length
  ·have b':(0:Int)<=(v:Int):=by omega
   have dd:(v:Int)<(S.length:Int):=by omega
   have ca:(v:Int)<(o.length:Int):=by omega
   obtain⟨-, -,a1⟩:=Kd.a8 L.out;obtain⟨ad,rfl,O,P⟩:=s8 a1 v (by rw[lQ];exact w) w;have q:=zA (AE S o v);have Q:S.getD v (0,0,0)=S[v]:=by rw[aN,br w];rfl
   rw[Q] at q;have a2:∃j:Nat,j<S.length/\jk S[v] (o.getD v false)=jk (S.getD j (0,0,0)) (o.getD j false):=⟨v,w,by rw[Q]⟩;have y:=zA a2;clear a2 Q a1;generalize S[v]=x at O P q y;obtain⟨i,a,b⟩:=x;simp only at O P;gi_wp2;have dl:=M.out.size;have g:=af (ai wr.heap.size wr) (.cells #[.int .i64 a,.int .i64 b] 205);have z:=zA (aU wr (.cells #[.int .i64 a,.int .i64 b] 205));have a3:=zA (G.out () _ _ _ K.out g);have a4:=zA (au m.out g);have T:=zA (au n.out g);have a5:=zA (Kd.b7 L.out g);have D:=zA (aC M.out g);have a9:=g.size;have bd:Aside0 (W.heap.size<=(wr.alloc (.cells #[.int .i64 a,.int .i64 b] 205)).heap.size):=⟨Nat.le_trans HW.out a9⟩;clear K m n L M HW g a9 O P;generalize wr.alloc (.cells #[.int .i64 a,.int .i64 b] 205)=W1 at z a3 a4 T a5 D bd⊢;generalize wr.heap.size=xb at z⊢;have y0:W1.cell? ⟨xb,0,none⟩=some (.int .i64 a):=(ah z.out 0).trans rfl;have y1:W1.cell? ⟨xb,1,none⟩=some (.int .i64 b):=(ah z.out 1).trans rfl;have y2:W1.cell? ⟨bo,0,none⟩=some (.slice r o.length co):=(ah T.out 0).trans rfl;obtain⟨ao,rfl, -⟩:=(Kd.al V D.out).2.2 (by omega);have U:=Kd.yD (Kd.al V D.out) (v:Int) b' ca;rw[show bs false o (v:Int)=o.getD v false by simp[bs]] at U;rw[aq] at U;generalize o.getD v false=f at U q y;obtain⟨p,hp⟩:∃p:Int×Int,p=jk (i,a,b) f:=⟨_,rfl⟩;have cb:Aside0 (∀W,Calls Tryz.prog 181 #[.agg #[.int .i64 a,.int .i64 b],.bool f] W fun e w'=>e= .returned (.tuple #[.int .i64 p.1,.int .i64 p.2])/\Below W.heap.size W w'):=⟨fun W=>by rw[hp];exact AD a b f W⟩;rw[<-hp] at q y;clear hp;have cc:(cV S o v).length<S.length:=by simp[cV];omega
   gi_region_with (first|(refine⟨trivial,?_⟩;gi_at_call 181;refine(callsIn_wide.2 (cb.out _)).mono ?_;rintro e w4 ⟨rfl,bf⟩;have h:Below W1.heap.size W1 w4:=(fN (ai _ _)).trans bf;have ce:=zA (G.out () _ _ _ a3.out h);have bi:=zA (au a4.out h);have bk:=zA (au T.out h);have cg:=zA (Kd.b7 a5.out h);have bn:=zA (aC D.out h);have ch:=zA (Nat.le_trans bd.out h.size);obtain⟨fn,tmps,d1,d2,hy,bq⟩:=hY.out () (cV S o v) p _ _ ce.out ⟨y.out,ai _ _⟩ cc;have cj:=zA bq;(try(simp only at hy));clear bq bf h)|(refine cj.out.mono ?_;rintro e W3 h3;obtain⟨bb,rfl,H3⟩:=ti h3;clear h3))
   all_goals gi_wp2
   all_goals rcases H3.out with⟨rfl,cn,F⟩|⟨rfl,cq⟩
   all_goals first
    |exact absurd ‹(!true)=true› (by decide)
    |exact absurd ‹(!false)=false› (by decide)
    |(refine bodyPost_ret (results_none rfl _ _ _) rfl ?_
      exact⟨⟨_,rfl⟩,.inr ⟨(),_,trivial,cq⟩⟩)
    |(have hk:=F.1 bn.out.size
      have cr:=zA ((F.2 bg (.inl rfl) (ay bi.out)).trans bi.out);have cs:=zA ((F.2 bo (.inr (.inl rfl)) (ay bk.out)).trans bk.out);have cv:=zA (bn.out.trans hk);have cx:=zA (Nat.le_trans ch.out hk.size);have cy:Aside0 ((Kd.raw 2).R 205 W3 W.heap.size (fun k=>s<=k) (.slice (some ad) S.length c9) (ez S)):=⟨Kd.iW cg.out (fun k h1 h2=>F.2 k (.inr (.inr h1)) h2)⟩;gi_roundg (S.length- (v+1))
      case measure=>rw[HK.out];omega
      case rel=>exact⟨v+1,by go_num,by omega,⟨by rw[q.out];exact cn⟩,cr,cs,cy,cv,cx,⟨rfl⟩⟩)
  ·obtain rfl:S.length=v:=by omega
   gi_wp2;go_end0;exact⟨⟨_,rfl⟩,.inl ⟨(),_,rfl,K.out⟩⟩
end
section
attribute [local go_sem] Oper.semAt_some
def eL (n:Nat) (pre:List (Int×Int)):List Int:=pre.foldl (fun l x=>l.set x.2.toNat (wrap64 (rd l x.2+1))) (List.replicate n 0)
theorem AG (n:Nat) (pre:List (Int×Int)) (x:Int×Int):eL n (pre++[x])=(eL n pre).set x.2.toNat (wrap64 (rd (eL n pre) x.2+1)):=by simp[eL,List.foldl_append]
theorem lS (n:Nat) (pre:List (Int×Int)):(eL n pre).length=n:=by
 unfold eL;have:∀(pre:List (Int×Int)) (l:List Int),(pre.foldl (fun l x=>l.set x.2.toNat (wrap64 (rd l x.2+1))) l).length=l.length:=by
  intro pre;induction pre with
  |nil=>intro l;rfl
  |cons x pre a=>intro l;rw[List.foldl_cons,a];simp
 rw[this];simp
def bz (n:Nat) (S:List (Nat×Int×Int)) (o:List Bool):List Int:=eL n (cV S o S.length)
def dY (n:Nat) (S:List (Nat×Int×Int)):Prop:=∀j:Nat,j<S.length->0<=(S.getD j (0,0,0)).2.1/\(S.getD j (0,0,0)).2.1<n/\0<=(S.getD j (0,0,0)).2.2/\(S.getD j (0,0,0)).2.2<n
theorem dY.arrow {n:Nat} {S:List (Nat×Int×Int)} (h:dY n S) {j:Nat} (k:j<S.length) (b:Bool):∃t v:Nat,t<n/\v<n/\jk (S.getD j (0,0,0)) b=((t:Int),(v:Int)):=by
 obtain⟨h1,l,e,m⟩:=h j k;generalize S.getD j (0,0,0)=x at*;obtain⟨i,a,c⟩:=x;simp only at h1 l e m;obtain⟨a',rfl⟩:=Int.eq_ofNat_of_zero_le h1;obtain⟨g,rfl⟩:=Int.eq_ofNat_of_zero_le e;cases b with
 |true=>exact⟨a',g,by omega,by omega,rfl⟩
 |false=>exact⟨g,a',by omega,by omega,rfl⟩
theorem pB (k n:Nat) (A0:Option Addr) (c0:Nat) (E:List S83) (a:Option Addr) (co:Nat) (o:List Bool) (S:List (Nat×Int×Int)) (w:World) (aS:Kd.C aQ w A0 E.length E) (a0:E.length<=c0) (a2:Kd.bool.C w a o.length o) (hn:n<=1000) (ht:aW.f k n E=some 0) (hE:cJ E=true) (hS:a6 E E.length=S) (O:o.length=S.length) (a5:S.length<=1000000) (P:dY n S):
  Calls Tryz.prog 71 #[.agg #[.int .i64 n,.slice A0 E.length c0],.slice a o.length co] w fun e w'=>∃go c,e= .returned (.slice (some ⟨go,0,none⟩) n c)/\(Kd.int .i64).R 3 w' w.heap.size (fun _=>True) (.slice (some ⟨go,0,none⟩) n c) (bz n S o)/\Below w.heap.size w w':=by
 have hu:=Tryz.underlying24;have a9:=zA P;have bb:=zA O;have b4:(0:Int)<=(n:Int):=by omega
 obtain⟨zs,bd,Q⟩:=kL 25 Tryz.underlying25 n hn;have T:=zA Q;clear P Q O;refine(callsIn_wide (n:=10)).1 ?_;refine callsIn_of_wp_marks Tryz.func71 rfl trivial ?_ rfl;simp only[Tryz.ntmps71,List.size_toArray,List.length_cons,List.length_nil,Nat.reduceAdd,Nat.reduceSub,Array.replicate_succ,Array.replicate_zero,List.push_toArray,List.append_toArray,List.nil_append,List.cons_append];gi_wp2_with (first|(refine⟨trivial,?_⟩;gi_at_call 127;refine(callsIn_wide.2 (tj n _ _ _ _ _)).mono ?_;rintro e w3 ⟨rfl,rfl⟩))
 have y:=aU ((w.alloc (.cells #[.int .i64 n,.slice A0 E.length c0] 24)).alloc (.cells zs 3)) (.cells #[.slice (some ⟨w.heap.size+1,0,none⟩) n n] 25);have G:=aU (((w.alloc (.cells #[.int .i64 n,.slice A0 E.length c0] 24)).alloc (.cells zs 3)).alloc (.cells #[.slice (some ⟨w.heap.size+1,0,none⟩) n n] 25)) (.cells #[.int .i64 n,.slice A0 E.length c0] 24);have hO:=aU ((((w.alloc (.cells #[.int .i64 n,.slice A0 E.length c0] 24)).alloc (.cells zs 3)).alloc (.cells #[.slice (some ⟨w.heap.size+1,0,none⟩) n n] 25)).alloc (.cells #[.int .i64 n,.slice A0 E.length c0] 24)) (.cells #[.slice a o.length co] 43);have H:=T.out (w.alloc (.cells #[.int .i64 n,.slice A0 E.length c0] 24)) (fun _=>True) trivial;simp only[World.size_alloc] at y G hO H;have U:=zA (aj (aj y (.cells #[.int .i64 n,.slice A0 E.length c0] 24)) (.cells #[.slice a o.length co] 43));have V:=zA (aj G (.cells #[.slice a o.length co] 43));have X:=zA hO;have I:=zA (af (af (af (af (af (ai w.heap.size w) (.cells #[.int .i64 n,.slice A0 E.length c0] 24)) (.cells zs 3)) (.cells #[.slice (some ⟨w.heap.size+1,0,none⟩) n n] 25)) (.cells #[.int .i64 n,.slice A0 E.length c0] 24)) (.cells #[.slice a o.length co] 43));have Y:Aside0 ((Kd.int .i64).R 3 (((((w.alloc (.cells #[.int .i64 n,.slice A0 E.length c0] 24)).alloc (.cells zs 3)).alloc (.cells #[.slice (some ⟨w.heap.size+1,0,none⟩) n n] 25)).alloc (.cells #[.int .i64 n,.slice A0 E.length c0] 24)).alloc (.cells #[.slice a o.length co] 43)) w.heap.size (fun _=>True) (.slice (some ⟨w.heap.size+1,0,none⟩) n n) (eL n [])):=⟨Kd.bt (Kd.aK (Kd.aK (Kd.aK H _) _) _) (by omega)⟩;have be:=Nat.le_of_eq (show (((((w.alloc (.cells #[.int .i64 n,.slice A0 E.length c0] 24)).alloc (.cells zs 3)).alloc (.cells #[.slice (some ⟨w.heap.size+1,0,none⟩) n n] 25)).alloc (.cells #[.int .i64 n,.slice A0 E.length c0] 24)).alloc (.cells #[.slice a o.length co] 43)).heap.size=w.heap.size+5 by simp);have bf:=Nat.le_of_eq (show w.heap.size+5=(((((w.alloc (.cells #[.int .i64 n,.slice A0 E.length c0] 24)).alloc (.cells zs 3)).alloc (.cells #[.slice (some ⟨w.heap.size+1,0,none⟩) n n] 25)).alloc (.cells #[.int .i64 n,.slice A0 E.length c0] 24)).alloc (.cells #[.slice a o.length co] 43)).heap.size by simp);clear y G hO H T bd;generalize (((((w.alloc (.cells #[.int .i64 n,.slice A0 E.length c0] 24)).alloc (.cells zs 3)).alloc (.cells #[.slice (some ⟨w.heap.size+1,0,none⟩) n n] 25)).alloc (.cells #[.int .i64 n,.slice A0 E.length c0] 24)).alloc (.cells #[.slice a o.length co] 43))=g at U V X I Y be bf⊢;refine fR (σ:=Unit) (α:=Int×Int) (F:=Fence.wide) (n:=10) rfl (by decide) (gf:=180) (lb:=#[.pointer (some ⟨w.heap.size+1+1+1,0,none⟩),.pointer (some ⟨w.heap.size+1+1+1+1,0,none⟩)]) rfl trivial (enters_of Tryz.func180 (by kernel_rfl) rfl)
  (fun dd=>tk (w.heap.size+1+1+1) (w.heap.size+1+1+1+1) k (g.heap.size+2) n A0 c0 E a co o S w _ aS a0 a2 ht hE hS bb.out a5 (by simp) (af (af I.out _) _) (by omega) (aj (aj V.out _) _) (aj (aj X.out _) _)) (fun _=>rfl)
  (fun _=>True) ?dT ?st ?ar
  (fun _ pre W=>g.heap.size<=W.heap.size/\(Kd.int .i64).R 3 W w.heap.size (fun _=>True) (.slice (some ⟨w.heap.size+1,0,none⟩) n n) (eL n pre)/\W.heap[w.heap.size+1+1]? =some (.cells #[.slice (some ⟨w.heap.size+1,0,none⟩) n n] 25 (0,0))/\Below w.heap.size w W) (fun _ _ _ _=>False)
  ?is (fun _ _ _ _ _ _ h _=>h) ?ib (fun _ _ _ _ _ h _=>h) ?kt ?h0 ?a1 ?assign ?body ?done (fun _ _ _ _ _ _ _ h=>h.elim)
 case assign=>
  intro l x W K hK;gi_wp2;exact hK
 case dT=>
  intro o s W1 h;exact⟨trivial,by rw[h];exact bI.refl _ _⟩
 case st=>intro s A B _ h;exact cQ h
 case ar=>intro s x A B _ h;exact cQ h.2
 case is=>
  rintro s pre A B _ ⟨i,h1,J,L⟩ q;exact⟨Nat.le_trans i q.size,Kd.b7 h1 q,au J q,aC L q⟩
 case ib=>
  rintro s pre A B ⟨i,h1,J,L⟩ hb;exact⟨by rw[hb.size];exact i,cC h1 hb,hb.cells J,L.trans (hb.below w.heap.size (by omega))⟩
 case kt=>
  intro s A B C D r Z aa;refine⟨fun aG=>((r.below w.heap.size (by omega)).trans (Z.1 (by rw[r.size];exact aG))).trans (aa.below w.heap.size (by omega)),fun u ad bi=>?_⟩;have ag:u≠g.heap.size+1:=by omega
  exact(aa.heap _ ag).trans ((Z.2 u ad (by rw[r.size];exact bi)).trans (r.heap _ ag))
 case h0=>
  rintro o s W1 rfl;exact⟨by simp;omega,Kd.aK (Kd.aK Y.out _) _,aj (aj U.out _) _,af (af I.out _) _⟩
 case body=>
  rintro l s' pre ⟨xv,xy⟩ Wb Wc W _ ⟨i,i1,i2,i3⟩ ⟨⟨j,hj,hx⟩,m⟩ bk b;obtain⟨tv,v,cb,cc,an⟩:=a9.out.arrow hj (o.getD j false);rw[an] at hx;injection hx with bo bq
  subst bo bq;have I1:=zA (cC (Kd.b7 i1 m) b);have I2:=zA (b.cells (au i2 m));have I3:=zA ((aC i3 m).trans (b.below w.heap.size (by omega)));have bw:g.heap.size<=W.heap.size:=by have:=b.size;have:=m.size;omega
  have av:=zA (AG n pre ((tv:Int),(v:Int)));have bx:=zA (lS n pre);clear i1 i2 i3 m b bk i an hj;have z1:=cB I2.out;obtain⟨z2,z3⟩:=Kd.bG 0 I1.out (v:Int) (by omega) (by first|omega|(rw[bx.out];omega));rw[aq] at z2 z3;rw[show bs 0 (eL n pre) (v:Int)=rd (eL n pre) (v:Int) from rfl] at z2;have M:=Kd.cY I1.out (v:Int) (wrap64 (rd (eL n pre) (v:Int)+1));rw[aq] at M;have aB:=zA M.1;have N:=av.out;simp only[aq] at N;have aF:=zA N;clear M av N;generalize rd (eL n pre) (v:Int)=z at z2 aB aF;replace z2:W.cell? ⟨w.heap.size+1,v,none⟩=some (.int .i64 z):=z2;have cd:(0:Int)<=(v:Int):=by omega
  have ce:(v:Int)<(n:Int):=by omega
  gi_wp2;refine⟨eu _ _ (by omega),⟨fun _=>Below.setCell (p:=⟨w.heap.size+1,v,none⟩) (ai _ _) (by show w.heap.size<=w.heap.size+1;omega) _,fun u ad _=>Below.heap_setCell _ _ _ _ (by show u≠w.heap.size+1;omega)⟩,by simpa using bw,?_,aH I2.out (by show w.heap.size+1+1≠w.heap.size+1;omega) _,Below.setCell (p:=⟨w.heap.size+1,v,none⟩) I3.out (by show w.heap.size<=w.heap.size+1;omega) _⟩;rw[aF.out];exact aB.out
 case done=>
  rintro s' xs W W' _ rfl ⟨i,i1,i2,i3⟩ b aL;have b1:=zA (cC i1 b);have b2:=zA (b.cells i2);have b3:=zA (i3.trans (b.below w.heap.size (by omega)));have aO:=zA aL;clear i1 i2 i3 aL;have hc:=cB b2.out;gi_wp2_with fail
  have aP:Bk g.heap.size W' (W'.putObj g.heap.size (.deferred none)):=⟨_,_,aO.out,rfl,rfl⟩;exact iB (D:=g.heap.size) rfl aO.out (results_tmp rfl _ _ _) ⟨_,_,rfl,cC b1.out aP,b3.out.trans (aP.below w.heap.size (by omega))⟩
end
section
attribute [local go_sem] Oper.semAt_some
def idxFrom (x:Int):List Int->Nat->Int
 |[],_=> -1
 |y::l,v=>if y=x then(v:Int) else idxFrom x l (v+1)
def idxOf (l:List Int) (x:Int):Int:=idxFrom x l 0
theorem tn {x:Int}:∀{l:List Int} {v k:Nat},v<l.length->rd l v=x->(∀u:Nat,u<v->rd l u≠x)->idxFrom x l k=((v+k:Nat):Int)
 |y::l,0,k,_,h,_=>by
  have:y=x:=by simpa [rd] using h
  simp[idxFrom,this]
 |y::l,v+1,k,a,h,hn=>by
  have b:y≠x:=by simpa [rd] using hn 0 (by omega)
  have e:∀u:Nat,rd (y::l) ((u+1:Nat):Int)=rd l (u:Int):=fun u=>by simp only[rd,aq,List.getD_cons_succ]
  rw[idxFrom,if_neg b,tn (v:=v) (k:=k+1) (by simpa using a) (by rw[<-e];exact h) (fun u hu=>by rw[<-e];exact hn (u+1) (by omega))];congr 1;omega
theorem tp {x:Int}:∀{l:List Int} {k:Nat},(∀u:Nat,u<l.length->rd l u≠x)->idxFrom x l k= -1
 |[],k,_=>rfl
 |y::l,k,hn=>by
  have a:y≠x:=by simpa [rd] using hn 0 (by simp)
  have e:∀u:Nat,rd (y::l) ((u+1:Nat):Int)=rd l (u:Int):=fun u=>by simp only[rd,aq,List.getD_cons_succ]
  rw[idxFrom,if_neg a,tp (k:=k+1) (fun u hu=>by rw[<-e];exact hn (u+1) (by simpa using hu))]
theorem tq {l:List Int} {x:Int} {v:Nat} (a:v<l.length) (h:rd l v=x) (hn:∀u:Nat,u<v->rd l u≠x):idxOf l x=v:=by
 unfold idxOf;rw[tn a h hn];rfl
theorem tr {l:List Int} {x:Int} (hn:∀u:Nat,u<l.length->rd l u≠x):idxOf l x= -1:=tp hn
theorem pC (l:List Int) (x:Int):(idxOf l x= -1/\∀u:Nat,u<l.length->rd l u≠x)\/∃v:Nat,v<l.length/\idxOf l x=v/\rd l v=x/\∀u:Nat,u<v->rd l u≠x:=by
 by_cases h:∃v:Nat,v<l.length/\rd l v=x
 ·have hm:∀v:Nat,v<l.length->rd l v=x->∃a:Nat,a<l.length/\rd l a=x/\∀u:Nat,u<a->rd l u≠x:=by
   intro v;induction v using Nat.strongRecOn with
   |_ v k=>
    intro e b;by_cases hu:∃u:Nat,u<v/\rd l u=x
    ·obtain⟨u,hu,g⟩:=hu;exact k u hu (by omega) g
    ·exact⟨v,e,b,fun u m g=>hu ⟨u,m,g⟩⟩
  obtain⟨v,e,b⟩:=h;obtain⟨a,h1,i,j⟩:=hm v e b;exact .inr ⟨a,h1,tq h1 i j,i,j⟩
 ·refine .inl ⟨tr ?_,?_⟩<;>exact fun u hu b=>h ⟨u,hu,b⟩
theorem AH (A:Option Addr) (c:Nat) (l:List Int) (x:Int) (w:World) (j:Kd.C (Kd.int .i64) w A l.length l) (B:l.length<=1000000):
  Calls Tryz.prog 126 #[.slice A l.length c,.int .i64 x] w fun e w'=>e= .returned (.int .i64 (idxOf l x))/\Below w.heap.size w w':=by
 have a:=zA j;clear j;refine(callsIn_wide (n:=10)).1 ?_;refine callsIn_of_wp Tryz.func126 rfl trivial ?_ rfl;simp only[Tryz.ntmps126,List.size_toArray,List.length_cons,List.length_nil,Nat.reduceAdd,Nat.reduceSub,Array.replicate_succ,Array.replicate_zero,List.push_toArray,List.append_toArray,List.nil_append,List.cons_append];gi_wp2;gi_loopg [8] (l.length) (fun p i wr=>∃v:Nat,i= .int .i64 v/\v<=l.length/\Aside0 (Kd.C (Kd.int .i64) wr A l.length l)/\Aside0 (Below w.heap.size w wr)/\Aside0 (∀u:Nat,u<v->rd l u≠x)/\Aside0 (p=l.length-v))
 case atStart=>exact⟨0,rfl,Nat.zero_le _,a,⟨ai _ _⟩,⟨fun u hu=>by omega⟩,⟨rfl⟩⟩
 case round=>
  clear a;obtain⟨v,rfl,D,a,b,g,q⟩:=hrel;by_cases r:v<l.length
  ·have s:(0:Int)<=(v:Int):=by omega
   have y:(v:Int)<(l.length:Int):=by omega
   obtain⟨ad,rfl, -⟩:=a.out.2.2 (by omega);have k:=Kd.oY a.out (v:Int) s y;rw[aq] at k;obtain⟨z,h⟩:∃z,z=rd l (v:Int):=⟨_,rfl⟩;rw[<-h] at k;have m:=zA h;clear h;by_cases o:x=z
   ·subst o
    gi_wp2;refine bodyPost_ret (results_tmp rfl _ _ _) rfl ?_;exact⟨by rw[tq r m.out.symm g.out];rfl,b.out⟩
   ·gi_wp2
    gi_roundg (l.length- (v+1))
    case measure=>rw[q.out];omega
    case rel=>exact⟨v+1,by go_num,by omega,a,b,⟨fun u hu=>by
     by_cases e:u=v
     ·subst e;rw[<-m.out];exact fun e=>o e.symm
     ·exact g.out u (by omega)⟩,⟨rfl⟩⟩
  ·obtain rfl:l.length=v:=by omega
   gi_wp2;refine bodyPost_ret (results_tmp rfl _ _ _) rfl ?_;exact⟨by rw[tr g.out];rfl,b.out⟩
theorem AI {l m:List Int} (h:l.length=m.length) (a:∀u:Nat,u<l.length->rd l u=rd m u):l=m:=by
 refine List.ext_getElem h fun i h1 b=>?_
 have:=a i h1;simp only[rd,aq,aN,br h1,br b,Option.getD_some] at this;exact this
theorem AJ (A:Option Addr) (c:Nat) (l:List Int) (h:Option Addr) (c2:Nat) (m:List Int) (w:World) (r:Kd.C (Kd.int .i64) w A l.length l) (s:Kd.C (Kd.int .i64) w h m.length m) (K:l.length<=1000000) (hm:m.length<=1000000):
  Calls Tryz.prog 68 #[.slice A l.length c,.slice h m.length c2] w fun e w'=>e= .returned (.bool (decide (l=m)))/\Below w.heap.size w w':=by
 have a:=zA r;have b:=zA s;clear r s;refine(callsIn_wide (n:=10)).1 ?_;refine callsIn_of_wp Tryz.func68 rfl trivial ?_ rfl;simp only[Tryz.ntmps68,List.size_toArray,List.length_cons,List.length_nil,Nat.reduceAdd,Nat.reduceSub,Array.replicate_succ,Array.replicate_zero,List.push_toArray,List.append_toArray,List.nil_append,List.cons_append];by_cases E:(l.length:Int)=m.length
 ·gi_wp2
  gi_loopg [13] (l.length) (fun F i wr=>∃v:Nat,i= .int .i64 v/\v<=l.length/\Aside0 (Kd.C (Kd.int .i64) wr A l.length l)/\Aside0 (Kd.C (Kd.int .i64) wr h m.length m)/\Aside0 (Below w.heap.size w wr)/\Aside0 (∀u:Nat,u<v->rd l u=rd m u)/\Aside0 (F=l.length-v))
  case atStart=>exact⟨0,rfl,Nat.zero_le _,a,b,⟨ai _ _⟩,⟨fun u hu=>by omega⟩,⟨rfl⟩⟩
  case round=>
   clear a b;obtain⟨v,rfl,L,a,b,g,j,G⟩:=hrel;by_cases H:v<l.length
   ·have x:(0:Int)<=(v:Int):=by omega
    have I:(v:Int)<(l.length:Int):=by omega
    have J:(v:Int)<(m.length:Int):=by omega
    obtain⟨ad,rfl, -⟩:=a.out.2.2 (by omega);obtain⟨M,rfl, -⟩:=b.out.2.2 (by omega);have y:=Kd.oY a.out (v:Int) x I;have B:=Kd.oY b.out (v:Int) x J;rw[aq] at y B;obtain⟨z,k⟩:∃z,z=rd l (v:Int):=⟨_,rfl⟩;obtain⟨z2,o⟩:∃z,z=rd m (v:Int):=⟨_,rfl⟩;rw[<-k] at y;rw[<-o] at B;have p:=zA k;have q:=zA o;have N:=zA H;clear k o;by_cases D:z=z2
    ·subst D
     gi_wp2;gi_region_with fail
     all_goals gi_wp2
     all_goals gi_roundg (l.length- (v+1))
     all_goals first
      |(rw[G.out];omega)
      |exact⟨v+1,by go_num,by omega,a,b,g,⟨fun u hu=>by
        by_cases e:u=v
        ·subst e;rw[<-p.out,<-q.out]
        ·exact j.out u (by omega)⟩,⟨rfl⟩⟩
      |exact⟨v+1,by go_num,by omega,⟨Kd.gn a.out⟩,⟨Kd.gn b.out⟩,⟨bC g.out⟩,⟨fun u hu=>by
        by_cases e:u=v
        ·subst e;rw[<-p.out,<-q.out]
        ·exact j.out u (by omega)⟩,⟨rfl⟩⟩
    ·gi_wp2
     gi_region_with fail
     all_goals gi_wp2
     all_goals refine bodyPost_ret (results_tmp rfl _ _ _) rfl ?_
     all_goals rw[aY (fun e=>D (by rw[p.out,q.out,e]))]
     all_goals first|exact⟨rfl,g.out⟩|exact⟨rfl,bC g.out⟩
   ·have O:v=l.length:=by omega
    gi_wp2;refine bodyPost_ret (results_tmp rfl _ _ _) rfl ?_;refine⟨?_,g.out⟩;rw[aA (AI (by omega) (fun u hu=>j.out u (by omega)))];rfl
 ·gi_wp2
  refine bodyPost_ret (results_tmp rfl _ _ _) rfl ?_;rw[aY (fun e=>E (by rw[e]))];exact⟨rfl,ai _ _⟩
end
section
attribute [local go_sem] Oper.semAt_some
def dD (v:Int) (L:List Int) (pre:List (Int×Int)):List Int:=pre.foldl (fun l x=>if x.1=v then l.set x.2.toNat (wrap64 (rd l x.2-1)) else l) L
theorem AK (v:Int) (L:List Int) (pre:List (Int×Int)) (x:Int×Int):dD v L (pre++[x])=if x.1=v then(dD v L pre).set x.2.toNat (wrap64 (rd (dD v L pre) x.2-1)) else dD v L pre:=by simp[dD,List.foldl_append]
theorem pD (v:Int) (L:List Int) (pre:List (Int×Int)):(dD v L pre).length=L.length:=by
 unfold dD;induction pre generalizing L with
 |nil=>rfl
 |cons x pre a=>
  rw[List.foldl_cons,a];split
  ·simp
  ·rfl
def e7 (a:List (Int×Int)) (L0:List Int):Nat->Option (List Int×List Int)
 |0=>some (L0,[])
 |i+1=>(e7 a L0 i).bind fun p=>if idxOf p.1 0<0 then none else some (dD (idxOf p.1 0) (p.1.set (idxOf p.1 0).toNat (-1)) a,p.2++[idxOf p.1 0])
theorem tt {b:List (Int×Int)} {L0:List Int}:∀{i:Nat} {p:List Int×List Int},e7 b L0 i=some p->p.1.length=L0.length/\p.2.length=i
 |0,p,h=>by injection h with h;subst h;exact⟨rfl,rfl⟩
 |i+1,p,h=>by
  obtain⟨q,h1,a⟩:=Option.bind_eq_some_iff.1 h;split at a
  ·cases a
  ·injection a with a
   subst a;have:=tt h1;exact⟨by simp[pD,this.1],by simp[this.2]⟩
theorem AL {a:List (Int×Int)} {L0:List Int} {i j:Nat} (h:e7 a L0 i=none) (b:i<=j):e7 a L0 j=none:=by
 induction b with
 |refl=>exact h
 |step _ e=>simp only[e7,e];rfl
structure SO (w:World) (n:Nat) (A0:Option Addr) (c0 m:Nat) (a go c:Nat) (L:List Int) (qv:Value) (out:List Int) (W:World):Prop where
 hb:Below w.heap.size w W
 g:W.heap[w.heap.size]? =some (.cells #[.int .i64 n,.slice A0 m c0] 24 (0,0))
 x:W.heap[a]? =some (.cells #[.slice (some ⟨go,0,none⟩) n c] 25 (0,0))
 r:(Kd.int .i64).R 3 W w.heap.size (fun k=>k=go) (.slice (some ⟨go,0,none⟩) n c) L
 o:(Kd.int .i64).R 3 W w.heap.size (fun k=>k≠go) qv out
 ne:a≠go/\w.heap.size<a/\w.heap.size<go
theorem SO.below {w:World} {n:Nat} {A0:Option Addr} {c0 m a go c:Nat} {L:List Int} {qv:Value} {out:List Int} {W W':World} (h:SO w n A0 c0 m a go c L qv out W) (hb:Below W.heap.size W W'):SO w n A0 c0 m a go c L qv out W':=
 ⟨aC h.hb hb,au h.g hb,au h.x hb,Kd.b7 h.r hb,Kd.b7 h.o hb,h.ne⟩
theorem SO.alloc {w:World} {n:Nat} {A0:Option Addr} {c0 m a go c:Nat} {L:List Int} {qv:Value} {out:List Int} {W:World} (h:SO w n A0 c0 m a go c L qv out W) (b:Obj):SO w n A0 c0 m a go c L qv out (W.alloc b):=h.below (af (ai _ _) b)
theorem SO.bk {w:World} {n:Nat} {A0:Option Addr} {c0 m a go c l:Nat} {L:List Int} {qv:Value} {out:List Int} {W W':World} (h:SO w n A0 c0 m a go c L qv out W) (hb:Bk l W W') (b:w.heap.size<=l):SO w n A0 c0 m a go c L qv out W':=
 ⟨h.hb.trans (hb.below w.heap.size b),hb.cells h.g,hb.cells h.x,cC h.r hb,cC h.o hb,h.ne⟩
theorem AM (k n:Nat) (A0:Option Addr) (c0:Nat) (E:List S83) (y:Option Addr) (co:Nat) (o:List Bool) (S:List (Nat×Int×Int)) (w:World) (b_:Kd.C aQ w A0 E.length E) (b':E.length<=c0) (ca:Kd.bool.C w y o.length o) (hn:n<=1000) (ht:aW.f k n E=some 0) (hE:cJ E=true) (hS:a6 E E.length=S) (X:o.length=S.length) (cd:S.length<=1000000) (a9:dY n S):
  Calls Tryz.prog 67 #[.agg #[.int .i64 n,.slice A0 E.length c0],.slice y o.length co] w fun e w'=>∃v,e= .returned (.tuple #[v,.bool (e7 (cV S o S.length) (bz n S o) n).isSome])/\(Kd.int .i64).R 3 w' w.heap.size (fun _=>True) v ((e7 (cV S o S.length) (bz n S o) n).elim [] Prod.snd)/\Below w.heap.size w w':=by
 have hu:=Tryz.underlying24;have ce:Aside0 (∀W,Below w.heap.size w W->Calls Tryz.prog 71 #[.agg #[.int .i64 n,.slice A0 E.length c0],.slice y o.length co] W fun e w'=>∃go c,e= .returned (.slice (some ⟨go,0,none⟩) n c)/\(Kd.int .i64).R 3 w' W.heap.size (fun _=>True) (.slice (some ⟨go,0,none⟩) n c) (bz n S o)/\Below W.heap.size W w'):=⟨fun W hW=>pB k n A0 c0 E y co o S W (Kd.al b_ hW) b' (Kd.al ca hW) hn ht hE hS X cd a9⟩;have bb:=zA (lS n (cV S o S.length));rw[show eL n (cV S o S.length)=bz n S o from rfl] at bb;have d8:=zA X;have d9:=zA a9;clear X a9;generalize bz n S o=L0 at ce bb⊢;refine(callsIn_wide (n:=10)).1 ?_;refine callsIn_of_wp_marks Tryz.func67 rfl trivial ?_ rfl;simp only[Tryz.ntmps67,List.size_toArray,List.length_cons,List.length_nil,Nat.reduceAdd,Nat.reduceSub,Array.replicate_succ,Array.replicate_zero,List.push_toArray,List.append_toArray,List.nil_append,List.cons_append];gi_wp2_with (refine⟨trivial,?_⟩;gi_at_call 71;refine(callsIn_wide.2 (ce.out _ (af (ai _ _) _))).mono ?_;rintro e w3 ⟨go,c,rfl,hR,hB⟩;have HR:=zA (Kd.fm rfl (Kd.bt (base':=w.heap.size) hR (by simp)));have HG:=zA (au (aU w (.cells #[.int .i64 n,.slice A0 E.length c0] 24)) hB);have HB:=zA (aC (af (ai w.heap.size w) _) hB);have ci:w.heap.size<go:=Nat.lt_of_lt_of_le (by simp) ((Kd.dy hR).1 go rfl).2.1;have y0:(w3.alloc (.cells #[.slice (some ⟨go,0,none⟩) n c] 25)).cell? ⟨w.heap.size,0,none⟩=some (.int .i64 n):=(ah (aj HG.out _) 0).trans rfl;clear hR hB)
 have cj:Aside0 ((Kd.int .i64).R 3 (w3.alloc (.cells #[.slice (some ⟨go,0,none⟩) n c] 25)) w.heap.size (fun k=>k=go) (.slice (some ⟨go,0,none⟩) n c) L0):=⟨Kd.aK (Kd.bj HR.out (fun k hk=>by simpa [Value.ownBlock] using hk)) _⟩;have eb:go<w3.heap.size:=Kd.cF HR.out go rfl;have ck:w.heap.size<w3.heap.size:=ay HG.out;have q:Aside0 (SO w n A0 c0 E.length w3.heap.size go c L0 (.slice none 0 0) [] (w3.alloc (.cells #[.slice (some ⟨go,0,none⟩) n c] 25))):=⟨af HB.out _,aj HG.out _,aU w3 _,cj.out,Kd.c_ _ _ _ _ _,by omega,ck,ci⟩;have aG:(w3.alloc (.cells #[.slice (some ⟨go,0,none⟩) n c] 25)).heap.size=w3.heap.size+1:=by simp
 clear HR HG HB cj y0 eb ck ci;generalize w3.alloc (.cells #[.slice (some ⟨go,0,none⟩) n c] 25)=W1 at q aG⊢;generalize w3.heap.size=G at q aG⊢;refine po (G+1) (fun kq tm wr=>∃(u8 u9 u10 u17 u18 u19 u20 u21 u22 u23 u24 u25 u26 u27 u28 u29 u30 u31 u32 u33 u34 u35 u36 u37 u38 u39 u40 u41 u42 u43:Value) (L:List Int) (qv:Value) (out:List Int) (i:Nat),Aside0 (SO w n A0 c0 E.length G go c L qv out wr)/\Aside0 (e7 (cV S o S.length) L0 i=some (L,out))/\i<=n/\G+1<=wr.heap.size/\Aside0 (kq=n-i)/\tm=#[.agg #[.int .i64 n,.slice A0 E.length c0],.slice y o.length co,.pointer (some ⟨w.heap.size,0,none⟩),undef,.slice none 0 0,.bool false,.pointer (some ⟨G,0,none⟩),qv,u8,u9,u10,.agg #[.int .i64 n,.slice A0 E.length c0],.slice y o.length co,.slice (some ⟨go,0,none⟩) n c,.pointer (some ⟨w.heap.size,0,none⟩),.int .i64 n,.int .i64 i,u17,u18,u19,u20,u21,u22,u23,u24,u25,u26,u27,u28,u29,u30,u31,u32,u33,u34,u35,u36,u37,u38,u39,u40,u41,u42,u43,undef]) n ⟨undef,undef,undef,undef,undef,undef,undef,undef,undef,undef,undef,undef,undef,undef,undef,undef,undef,undef,undef,undef,undef,undef,undef,undef,undef,undef,undef,undef,undef,undef,L0,.slice none 0 0,[],0,q,⟨rfl⟩,Nat.zero_le _,Nat.le_of_eq aG.symm,⟨rfl⟩,rfl⟩ (G+1) (Nat.le_of_eq aG.symm) (bO.nil _ _ _) ?_;clear q aG;rintro gk tm wr ⟨u8,u9,u10,u17,u18,u19,u20,u21,u22,u23,u24,u25,u26,u27,u28,u29,u30,u31,u32,u33,u34,u35,u36,u37,u38,u39,u40,u41,u42,u43,L,qv,out,i,q,av,hi,aG,HK,rfl⟩ ds b hb cl J K hJ hK;have aF:=zA cl;have HJ:=zA hJ;clear cl hJ;by_cases em:i<n
 ·have bg:=tt av.out
  have aL:L.length=n:=by rw[bg.1];exact bb.out
  have X:out.length=i:=bg.2;have f0:(0:Int)<=(i:Int):=by omega
  have f1:(i:Int)<(n:Int):=by omega
  obtain⟨-, -,hC⟩:=Kd.a8 q.out.r;rw[aL] at hC;have aO:Aside0 (Calls Tryz.prog 126 #[.slice (some ⟨go,0,none⟩) n c,.int .i64 0] wr fun e w'=>e= .returned (.int .i64 (idxOf L 0))/\Below wr.heap.size wr w'):=⟨by subst aL;exact AH _ c L 0 wr hC (by omega)⟩;have bi:=zA aL;have cq:=zA X;have bn:=zA (pC L 0);have Y:Aside0 (e7 (cV S o S.length) L0 (i+1)=if idxOf L 0<0 then none else some (dD (idxOf L 0) (L.set (idxOf L 0).toNat (-1)) (cV S o S.length),out++[idxOf L 0])):=⟨by show (e7 (cV S o S.length) L0 i).bind _=_;rw[av.out];rfl⟩;have y6:wr.cell? ⟨G,0,none⟩=some (.slice (some ⟨go,0,none⟩) n c):=(ah q.out.x 0).trans rfl;clear bg aL X hC;generalize idxOf L 0=v at aO bn Y;by_cases hv:v<0
  ·rw[if_pos hv] at Y
   have cv:=zA (AL Y.out em);clear hK;gi_wp2_with (refine⟨trivial,?_⟩;gi_at_call 126;refine(callsIn_wide.2 aO.out).mono ?_;rintro e P ⟨rfl,O⟩;have m:=zA ((q.out.below O).alloc (.cells #[.int .i64 v] 3));have aP:=zA ((aF.out.below O).below (af (ai _ _) (.cells #[.int .i64 v] 3)));clear O)
   refine(na aP.out fun w' aS=>?_).1;refine⟨_,results_tmp2 rfl _ _ _,.slice none 0 0,?_,?_,m.out.hb.trans (aS.eA.mono (by have:=m.out.ne;omega))⟩
   ·rw[cv.out];rfl
   ·rw[cv.out];exact Kd.c_ _ _ _ _ _
  ·rw[if_neg hv] at Y
   obtain⟨a,f2,rfl⟩:∃a:Nat,a<n/\v=a:=by
    rcases bn.out with⟨h, -⟩|⟨a,h1,h2, -⟩
    ·omega
    ·exact⟨a,by rw[<-bi.out];exact h1,h2⟩
   have es:(0:Int)<=(a:Int):=by omega
   have f3:(a:Int)<(n:Int):=by omega
   simp only[aq] at Y;clear bn;obtain⟨Ar,cr,cx⟩:=Kd.bE q.out.o;rw[cq.out] at cx;subst cx;have LN:Aside0 ((out.length+1)*8<=140737488355328):=⟨by rw[cq.out];omega⟩;gi_wp2_with (first|(refine⟨trivial,?_⟩;gi_at_call 127;refine(callsIn_wide.2 (tj n _ _ _ _ _)).mono ?_;rintro e w6 ⟨rfl,rfl⟩)|(refine⟨trivial,?_⟩;gi_at_call 126;refine(callsIn_wide.2 aO.out).mono ?_;rintro e P ⟨rfl,O⟩;have m:=zA ((q.out.below O).alloc (.cells #[.int .i64 a] 3));have cy:=zA (fun k hk=>Kd.cF (q.out.below O).o k hk);have aP:=zA ((aF.out.below O).below (af (ai _ _) (.cells #[.int .i64 a] 3)));have c1:=O.size;have bo:=zA (aU P (.cells #[.int .i64 a] 3));clear O)|(gi_at_builtin;go_loud (refine jd (Kd.int .i64) (w0:=w) w.heap.size rfl (.tmp 22) (.tmp 24) 25 3 (.int .i64 0) 8 rfl Tryz.underlying25 fC rfl (by decide) (by omega) (.slice Ar i cr) out (a:Int) [.int .i64 a] (fun k=>k≠go) (fun _=>False) rfl (by rw[World.size_alloc];rfl) rfl (fun _ hk=>hk.elim) (fun k hk=>by have:=Kd.cF m.out.r go rfl;omega) m.out.o m.out.hb m.out.hb.size LN.out ?_;intro v1 I c2 hb U ex;have H:Aside0 (SO w n A0 c0 E.length G go c L v1 (out++[(a:Int)]) I):=⟨hb,(U.block _ (ay m.out.g) (Kd.cW m.out.o m.out.g (by decide))).trans m.out.g,(U.block _ (ay m.out.x) (Kd.cW m.out.o m.out.x (by decide))).trans m.out.x,Kd.fO m.out.r U (fun k hk e=>by subst hk;exact m.out.o.1 k e.symm rfl),c2,m.out.ne⟩;have bq:=zA ((U.block _ (ay bo.out) (fun e=>by have:=cy.out _ e.symm;omega)).trans bo.out);have c3:=zA (aP.out.je (w':=I) (fun D hD hd=>(U.block D (Array.getElem?_eq_some_iff.1 hd).1 (fun e=>by obtain⟨cells,hc⟩:=Kd.fP m.out.o D e.symm;rw[hc] at hd;cases hd)).trans hd));have y8:I.cell? ⟨G,0,none⟩=some (.slice (some ⟨go,0,none⟩) n c):=(ah H.out.x 0).trans rfl;have y9:I.cell? ⟨P.heap.size,0,none⟩=some (.int .i64 a):=(ah bq.out 0).trans rfl;have f6:=U.size;obtain⟨c4,c5⟩:=Kd.bG (0:Int) H.out.r (a:Int) es (by first|omega|(rw[bi.out];omega));rw[aq] at c4 c5;have Q:=Kd.cY H.out.r (a:Int) (-1:Int);rw[aq] at Q;have Z:Aside0 (SO w n A0 c0 E.length G go c (L.set a (-1)) v1 (out++[(a:Int)]) (I.setCell ⟨go,a,none⟩ (.int .i64 (-1)))):=⟨Below.setCell (p:=⟨go,a,none⟩) H.out.hb (Nat.le_of_lt H.out.ne.2.2) _,(Below.heap_setCell _ _ _ _ (Nat.ne_of_lt H.out.ne.2.2)).trans H.out.g,(Below.heap_setCell _ _ _ _ H.out.ne.1).trans H.out.x,Q.1,Kd.fO H.out.o Q.2 (fun k hk e=>hk (by injection e)),H.out.ne⟩;have e2:(I.setCell ⟨go,a,none⟩ (.int .i64 (-1))).cell? ⟨w.heap.size,0,none⟩=some (.int .i64 n):=(ah Z.out.g 0).trans rfl;have e3:(I.setCell ⟨go,a,none⟩ (.int .i64 (-1))).cell? ⟨w.heap.size,1,none⟩=some (.slice A0 E.length c0):=(ah Z.out.g 1).trans rfl;clear c2 hb U ex Q)))
   have c6:P.heap.size≠go:=by have:=Kd.cF q.out.r go rfl;omega
   have am:=zA ((Below.heap_setCell I ⟨go,a,none⟩ (.int .i64 (-1)) _ c6).trans bq.out);obtain⟨cells,a0⟩:=Kd.fP H.out.r go rfl;have bv:=zA (c3.out.set (p:=⟨go,a,none⟩) a0 (.int .i64 (-1)));have c7:P.heap.size<(I.setCell ⟨go,a,none⟩ (.int .i64 (-1))).heap.size:=ay am.out;have e4:G<P.heap.size:=Nat.lt_of_lt_of_le (ay q.out.x) c1;have e5:b<=P.heap.size:=Nat.le_trans hb c1;have c8:=zA Y.out;clear y6 y8 y9 c4 c5 e2 e3 q m H bo bq aF aP c3 cy aO a0;try rw[show I.heap.size=(I.setCell ⟨go,a,none⟩ (.int .i64 (-1))).heap.size by simp]
   generalize I.setCell ⟨go,a,none⟩ (.int .i64 (-1))=M at Z am bv c7⊢;generalize P.heap.size=vb at am c7 e4 e5 c6⊢;have c9:=zA (aj (aU M (.cells #[.int .i64 n,.slice A0 E.length c0] 24)) (.cells #[.slice y o.length co] 43));have c':=zA (heap_alloc2_new M (.cells #[.int .i64 n,.slice A0 E.length c0] 24) (.cells #[.slice y o.length co] 43));have aa:=zA ((Z.out.alloc (.cells #[.int .i64 n,.slice A0 E.length c0] 24)).alloc (.cells #[.slice y o.length co] 43));have dl:=zA (aj (aj am.out (.cells #[.int .i64 n,.slice A0 E.length c0] 24)) (.cells #[.slice y o.length co] 43));have dv:=zA ((bv.out.below (af (ai _ _) (.cells #[.int .i64 n,.slice A0 E.length c0] 24))).below (af (ai _ _) (.cells #[.slice y o.length co] 43)));have e6:=Nat.le_of_eq (show ((M.alloc (.cells #[.int .i64 n,.slice A0 E.length c0] 24)).alloc (.cells #[.slice y o.length co] 43)).heap.size=M.heap.size+2 by simp);have e_:=Nat.le_of_eq (show M.heap.size+2=((M.alloc (.cells #[.int .i64 n,.slice A0 E.length c0] 24)).alloc (.cells #[.slice y o.length co] 43)).heap.size by simp);have f7:go<M.heap.size:=Kd.cF Z.out.r go rfl;clear Z am bv;generalize ((M.alloc (.cells #[.int .i64 n,.slice A0 E.length c0] 24)).alloc (.cells #[.slice y o.length co] 43))=V at c9 c' aa dl dv e6 e_⊢;generalize f8:out++[(a:Int)]=e' at aa c8;have f9:=aa.out.ne;have f':=aa.out.hb.size;refine fR (σ:=Unit) (α:=Int×Int) (F:=Fence.wide) (n:=10) rfl (by decide) (gf:=180) (lb:=#[.pointer (some ⟨M.heap.size,0,none⟩),.pointer (some ⟨M.heap.size+1,0,none⟩)]) rfl trivial (enters_of Tryz.func180 (by kernel_rfl) rfl)
    (fun dd=>tk M.heap.size (M.heap.size+1) k (V.heap.size+2) n A0 c0 E y co o S w _ b_ b' ca ht hE hS d8.out cd (by simp) (af (af aa.out.hb _) _) (by omega) (aj (aj c9.out _) _) (aj (aj c'.out _) _)) (fun _=>rfl)
    (fun _=>True) ?dT ?st ?ar
    (fun _ pre W=>V.heap.size<=W.heap.size/\SO w n A0 c0 E.length G go c (dD a (L.set a (-1)) pre) v1 e' W/\W.heap[vb]? =some (.cells #[.int .i64 a] 3 (0,0))/\bO (G+1) b ds W) (fun _ _ _ _=>False)
    ?is (fun _ _ _ _ _ _ h _=>h) ?ib (fun _ _ _ _ _ h _=>h) ?kt ?h0 ?a1 ?assign ?body ?done (fun _ _ _ _ _ _ _ h=>h.elim)
   case assign=>
    intro l x W K hK;gi_wp2;exact hK
   case dT=>
    intro o s W1 h;exact⟨trivial,by rw[h];exact bI.refl _ _⟩
   case st=>intro s A B _ h;exact cQ h
   case ar=>intro s x A B _ h;exact cQ h.2
   case is=>
    rintro s pre A B _ ⟨hs,h1,h2,h3⟩ a2;exact⟨Nat.le_trans hs a2.size,h1.below a2,au h2 a2,h3.below a2⟩
   case ib=>
    rintro s pre A B ⟨hs,h1,h2,h3⟩ a3;exact⟨by rw[a3.size];exact hs,h1.bk a3 (by omega),a3.cells h2,h3.bk a3 (by omega)⟩
   case kt=>
    intro s A B C D a4 dx d0;refine⟨fun aG=>((a4.below w.heap.size (by omega)).trans (dx.1 (by rw[a4.size];exact aG))).trans (d0.below w.heap.size (by omega)),fun kb b0 fd=>?_⟩;have d1:kb≠V.heap.size+1:=by omega
    exact(d0.heap _ d1).trans ((dx.2 kb b0 (by rw[a4.size];exact fd)).trans (a4.heap _ d1))
   case h0=>
    rintro o s W1 rfl;exact⟨by simp;omega,(aa.out.alloc _).alloc _,aj (aj dl.out _) _,(dv.out.below (af (ai _ _) _)).below (af (ai _ _) _)⟩
   case body=>
    rintro l s' pre ⟨xv,xy⟩ Wb Wc W _ ⟨hs,i1,i2,i3⟩ ⟨⟨j,hj,hx⟩,ao⟩ fn T;obtain⟨tv,u,gg,gi,d5⟩:=d9.out.arrow hj (o.getD j false);rw[d5] at hx;injection hx with fo fq
    subst fo fq;have N:=zA ((i1.below ao).bk T (by omega));have I2:=zA (T.cells (au i2 ao));have I3:=zA ((i3.below ao).bk T (by omega));have b2:V.heap.size<=W.heap.size:=by have:=T.size;have:=ao.size;omega
    have d6:=zA (AK a (L.set a (-1)) pre ((tv:Int),(u:Int)));have b3:=pD a (L.set a (-1)) pre;rw[List.length_set,bi.out] at b3;clear i1 i2 i3 ao T fn hs d5 hj;have z1:W.cell? ⟨G,0,none⟩=some (.slice (some ⟨go,0,none⟩) n c):=(ah N.out.x 0).trans rfl;have z0:W.cell? ⟨vb,0,none⟩=some (.int .i64 a):=(ah I2.out 0).trans rfl;have fr:(0:Int)<=(u:Int):=by omega
    have gl:(u:Int)<(n:Int):=by omega
    obtain⟨z2,z3⟩:=Kd.bG (0:Int) N.out.r (u:Int) fr (by first|omega|(rw[b3];omega));rw[aq] at z2 z3;rw[show bs 0 (dD a (L.set a (-1)) pre) (u:Int)=rd (dD a (L.set a (-1)) pre) (u:Int) from rfl] at z2;have Q:=Kd.cY N.out.r (u:Int) (wrap64 (rd (dD a (L.set a (-1)) pre) (u:Int)-1));rw[aq] at Q;have b4:=zA Q;have b5:=d6.out;simp only[aq] at b5;have ag:=zA b5;clear Q d6 b5 b3;generalize rd (dD a (L.set a (-1)) pre) (u:Int)=z at z2 b4 ag;replace z2:W.cell? ⟨go,u,none⟩=some (.int .i64 z):=z2;by_cases d7:(tv:Int)=(a:Int)
    ·rw[d7] at ag⊢
     rw[if_pos rfl] at ag;gi_wp2;obtain⟨cells,a0⟩:=Kd.fP N.out.r go rfl;refine⟨eu _ _ (by show go<V.heap.size;omega),⟨fun _=>Below.setCell (p:=⟨go,u,none⟩) (ai _ _) (by show w.heap.size<=go;omega) _,fun kb b0 _=>Below.heap_setCell _ _ _ _ (by show kb≠go;omega)⟩,by simpa using b2,?_,(Below.heap_setCell _ _ _ _ (by show vb≠go;omega)).trans I2.out,I3.out.set (p:=⟨go,u,none⟩) a0 _⟩;rw[ag.out];exact⟨Below.setCell (p:=⟨go,u,none⟩) N.out.hb (by show w.heap.size<=go;omega) _,(Below.heap_setCell _ _ _ _ (by show w.heap.size≠go;omega)).trans N.out.g,(Below.heap_setCell _ _ _ _ (by show G≠go;omega)).trans N.out.x,b4.out.1,Kd.fO N.out.o b4.out.2 (fun k hk e=>hk (by injection e)),N.out.ne⟩
    ·rw[if_neg d7] at ag
     gi_wp2;refine⟨bI.refl _ _,⟨fun _=>ai _ _,fun kb b0 _=>rfl⟩,b2,?_,I2.out,I3.out⟩;rw[ag.out];exact N.out
   case done=>
    rintro s' xs W W' _ rfl ⟨hs,i1,i2,i3⟩ T b6;have N:=zA (i1.bk T (by omega));have I3:=zA (i3.bk T (by omega));have ft:=zA b6;have b2:V.heap.size<W'.heap.size:=(Array.getElem?_eq_some_iff.1 b6).1;clear i1 i2 i3 b6;gi_wp2;exact jf.intro (n- (i+1)) (by rw[HK.out];omega) (HJ.out _ _ _ ⟨_,_,_,_,_,_,_,_,_,_,_,_,_,_,_,_,_,_,_,_,_,_,_,_,_,_,_,_,_,_,_,_,_,i+1,N,c8,by omega,by omega,⟨rfl⟩,rfl⟩) (V.heap.size+1) (by omega) (I3.out.push (by omega) (by omega) ft.out)
 ·obtain rfl:n=i:=by omega
  clear hK;gi_wp2;refine(na aF.out fun w' aS=>?_).1;refine⟨_,results_tmp2 rfl _ _ _,qv,?_,?_,q.out.hb.trans (aS.eA.mono (by have:=q.out.ne;omega))⟩
  ·rw[av.out];rfl
  ·rw[av.out];exact Kd.bj (aS.R q.out.o) (fun _ _=>trivial)
end
section
attribute [local go_sem] Oper.semAt_some
def ff (L:List Int) (v:Nat):List Int:=((List.range v).filter fun u:Nat=>decide (rd L u=0)).map fun u:Nat=>(u:Int)
theorem AN (L:List Int) (v:Nat):ff L (v+1)=if rd L (v:Int)=0 then ff L v++[(v:Int)] else ff L v:=by
 unfold ff;rw[List.range_succ,List.filter_append,List.map_append];by_cases h:rd L (v:Int)=0
 ·simp[h]
 ·simp[h]
theorem tu (L:List Int) (v:Nat):(ff L v).length<=v:=by
 unfold ff;rw[List.length_map];exact Nat.le_trans (List.length_filter_le _ _) (by simp)
theorem AO (k n:Nat) (A0:Option Addr) (c0:Nat) (E:List S83) (j:Option Addr) (co:Nat) (o:List Bool) (S:List (Nat×Int×Int)) (w:World) (q:Kd.C aQ w A0 E.length E) (r:E.length<=c0) (u:Kd.bool.C w j o.length o) (hn:n<=1000) (x:aW.f k n E=some 0) (y:cJ E=true) (hS:a6 E E.length=S) (B:o.length=S.length) (D:S.length<=1000000) (F:dY n S):
  Calls Tryz.prog 69 #[.agg #[.int .i64 n,.slice A0 E.length c0],.slice j o.length co] w fun e w'=>∃v,e= .returned v/\(Kd.int .i64).R 3 w' w.heap.size (fun _=>True) v (ff (bz n S o) n)/\Below w.heap.size w w':=by
 have hu:=Tryz.underlying24;have G:Aside0 (∀W,Below w.heap.size w W->Calls Tryz.prog 71 #[.agg #[.int .i64 n,.slice A0 E.length c0],.slice j o.length co] W fun e w'=>∃go c,e= .returned (.slice (some ⟨go,0,none⟩) n c)/\(Kd.int .i64).R 3 w' W.heap.size (fun _=>True) (.slice (some ⟨go,0,none⟩) n c) (bz n S o)/\Below W.heap.size W w'):=⟨fun W H=>pB k n A0 c0 E j co o S W (Kd.al q H) r (Kd.al u H) hn x y hS B D F⟩;have m:=zA (lS n (cV S o S.length));rw[show eL n (cV S o S.length)=bz n S o from rfl] at m;clear q u x y hS B D F r;generalize bz n S o=L at G m⊢;refine(callsIn_wide (n:=10)).1 ?_;refine callsIn_of_wp Tryz.func69 rfl trivial ?_ rfl;simp only[Tryz.ntmps69,List.size_toArray,List.length_cons,List.length_nil,Nat.reduceAdd,Nat.reduceSub,Array.replicate_succ,Array.replicate_zero,List.push_toArray,List.append_toArray,List.nil_append,List.cons_append];gi_wp2_with (refine⟨trivial,?_⟩;gi_at_call 71;refine(callsIn_wide.2 (G.out _ (af (ai _ _) _))).mono ?_;rintro e w3 ⟨go,c,rfl,p,I⟩;have a:=zA (Kd.fm rfl (Kd.bt (base':=w.heap.size) p (by simp)));have b:=zA (aC (af (ai w.heap.size w) _) I);have ag:w.heap.size<=go:=Nat.le_trans (by simp) ((Kd.dy p).1 go rfl).2.1;clear p I)
 gi_loopg [5,12] (n) (fun P s i wr=>∃v:Nat,i= .int .i64 v/\v<=n/\Aside0 ((Kd.int .i64).R 3 wr w.heap.size (fun k=>k=go) (.slice (some ⟨go,0,none⟩) n c) L)/\Aside0 ((Kd.int .i64).R 3 wr w.heap.size (fun k=>k≠go) s (ff L v))/\Aside0 (Below w.heap.size w wr)/\Aside0 (P=n-v))
 case atStart=>exact⟨0,rfl,Nat.zero_le _,⟨Kd.bj a.out (fun k hk=>by simpa [Value.ownBlock] using hk)⟩,⟨Kd.c_ _ _ _ _ _⟩,b,⟨rfl⟩⟩
 case round=>
  clear a b;obtain⟨v,rfl,hv,a,g,b,J⟩:=hrel;by_cases am:v<n
  ·have Q:(0:Int)<=(v:Int):=by omega
   have an:(v:Int)<(n:Int):=by omega
   have h:=zA (AN L v);have T:=zA (tu L v);have l:=(Kd.bG (0:Int) a.out (v:Int) Q (by first|omega|(rw[m.out];omega))).1;rw[show bs 0 L (v:Int)=rd L (v:Int) from rfl,aq] at l;obtain⟨z,K⟩:∃z,z=rd L (v:Int):=⟨_,rfl⟩;rw[<-K] at l h;clear K;replace l:wr.cell? ⟨go,v,none⟩=some (.int .i64 z):=l;by_cases M:z=0
   ·subst M
    rw[if_pos rfl] at h;obtain⟨U,cr,rfl⟩:=Kd.bE g.out;have V:Aside0 (((ff L v).length+1)*8<=140737488355328):=⟨by have:=T.out;omega⟩;have X:Aside0 (∀k,wr.heap.size<=k->k≠go):=⟨fun k hk=>by have:=Kd.cF a.out go rfl;omega⟩;gi_wp2_with (gi_at_builtin;go_loud (refine jd (Kd.int .i64) (w0:=w) w.heap.size rfl (.tmp 19) (.tmp 21) 25 3 (.int .i64 0) 8 rfl Tryz.underlying25 fC rfl (by decide) (by omega) (.slice U (ff L v).length cr) (ff L v) (v:Int) [.int .i64 v] (fun k=>k≠go) (fun _=>False) rfl rfl rfl (fun _ hk=>hk.elim) X.out g.out b.out b.out.size V.out ?_;intro v1 ao N hb O Y;have Z:=zA N;have aa:=zA hb;have ad:=zA (Kd.fO a.out O (fun k hk e=>by subst hk;exact g.out.1 k e.symm rfl));clear N hb O Y))
    gi_roundg (n- (v+1))
    case measure=>rw[J.out];omega
    case rel=>exact⟨v+1,by go_num,by omega,ad,⟨by rw[h.out];exact Z.out⟩,aa,⟨rfl⟩⟩
   ·rw[if_neg M] at h
    gi_wp2;gi_roundg (n- (v+1))
    case measure=>rw[J.out];omega
    case rel=>exact⟨v+1,by go_num,by omega,a,⟨by rw[h.out];exact g.out⟩,b,⟨rfl⟩⟩
  ·obtain rfl:n=v:=by omega
   gi_wp2;refine bodyPost_ret (results_tmp rfl _ _ _) rfl ?_;exact⟨_,rfl,Kd.bj g.out (fun _ _=>trivial),b.out⟩
end
section
attribute [local go_sem] Oper.semAt_some
theorem tw (k:Nat) (N:Int) (A0:Option Addr) (c0:Nat) (E:List S83) (S:List (Nat×Int×Int)) (w:World) (a:Kd.C aQ w A0 E.length E) (b:E.length<=c0) (g:aW.f k N E=some 0) (h:cJ E=true) (hS:a6 E E.length=S):
  Calls Tryz.prog 123 #[.agg #[.int .i64 N,.slice A0 E.length c0]] w fun e w'=>e= .returned (.tuple #[.int .i64 S.length,.int .i64 0])/\Below w.heap.size w w':=by
 have hu:=Tryz.underlying24;have i:Aside0 (∀W,Below w.heap.size w W->_):=⟨fun W o=>pk k N A0 c0 E W (Kd.al a o) b g h⟩;rw[hS] at i;clear a g h hS b;refine(callsIn_wide (n:=10)).1 ?_;refine callsIn_of_wp Tryz.func123 rfl trivial ?_ rfl;simp only[Tryz.ntmps123,List.size_toArray,List.length_cons,List.length_nil,Nat.reduceAdd,Nat.reduceSub,Array.replicate_succ,Array.replicate_zero,List.push_toArray,List.append_toArray,List.nil_append,List.cons_append];gi_wp2_with (refine⟨trivial,?_⟩;gi_at_call 178;refine(callsIn_wide.2 (i.out _ (af (ai _ _) _))).mono ?_;rintro e w3 ⟨v9,rfl,j,l⟩;obtain⟨q,r,m⟩:=Kd.bE j;rw[lQ] at m;subst m;have p:=zA (aC (af (ai w.heap.size w) _) l);clear j l)
 go_ret2;exact⟨rfl,p.out⟩
theorem AP (k:Nat) (N:Int) (A0:Option Addr) (c0:Nat) (E:List S83) (j:Option Addr) (m co:Nat) (S:List (Nat×Int×Int)) (w:World) (a:Kd.C aQ w A0 E.length E) (b:E.length<=c0) (g:aW.f k N E=some 0) (h:cJ E=true) (hS:a6 E E.length=S) (hm:m=S.length):
  Calls Tryz.prog 70 #[.agg #[.int .i64 N,.slice A0 E.length c0],.slice j m co] w fun e w'=>e= .returned (.int .i64 0)/\Below w.heap.size w w':=by
 have hu:=Tryz.underlying24;have l:Aside0 (∀W,Below w.heap.size w W->_):=⟨fun W o=>tw k N A0 c0 E S W (Kd.al a o) b g h hS⟩;clear a g h hS b;subst hm;refine(callsIn_wide (n:=10)).1 ?_;refine callsIn_of_wp Tryz.func70 rfl trivial ?_ rfl;simp only[Tryz.ntmps70,List.size_toArray,List.length_cons,List.length_nil,Nat.reduceAdd,Nat.reduceSub,Array.replicate_succ,Array.replicate_zero,List.push_toArray,List.append_toArray,List.nil_append,List.cons_append];gi_wp2_with (refine⟨trivial,?_⟩;gi_at_call 123;refine(callsIn_wide.2 (l.out _ (af (ai _ _) _))).mono ?_;rintro e w3 ⟨rfl,i⟩;have p:=zA (aC (af (ai w.heap.size w) _) i);clear i)
 go_ret;exact⟨rfl,p.out⟩
def b9 (L:List Int) (n v:Nat):List Int:=(List.range n).map fun u:Nat=>if u<v then wrap64 (rd L u-1) else rd L u
theorem nf (L:List Int) (n v:Nat):(b9 L n v).length=n:=by simp[b9]
theorem AQ {L:List Int} {n:Nat} (h:L.length=n):b9 L n 0=L:=by
 refine List.ext_getElem (by simp[b9,h]) fun i h1 a=>?_
 simp[b9,rd,aN,br a]
theorem AR {L:List Int} {n v:Nat} (h:v<n):rd (b9 L n v) (v:Int)=rd L (v:Int):=by
 simp[b9,rd,aN,List.getElem?_map,List.getElem?_range,h]
theorem AS {L:List Int} {n v:Nat} (a:v<n):(b9 L n v).set v (wrap64 (rd L v-1))=b9 L n (v+1):=by
 unfold b9;refine List.ext_getElem (by simp) fun i h1 b=>?_
 rw[List.getElem_set];simp only[List.getElem_map,List.getElem_range];by_cases e:v=i
 ·subst e;simp
 ·rw[if_neg e]
  by_cases h:i<v
  ·rw[if_pos h,if_pos (by omega)]
  ·rw[if_neg h,if_neg (by omega)]
theorem tx (k n:Nat) (A0:Option Addr) (c0:Nat) (E:List S83) (b:Option Addr) (co:Nat) (o:List Bool) (S:List (Nat×Int×Int)) (w:World) (m:Kd.C aQ w A0 E.length E) (q:E.length<=c0) (G:Kd.bool.C w b o.length o) (hn:n<=1000) (r:aW.f k n E=some 0) (s:cJ E=true) (hS:a6 E E.length=S) (u:o.length=S.length) (H:S.length<=1000000) (I:dY n S):
  Calls Tryz.prog 20 #[.agg #[.int .i64 n,.slice A0 E.length c0],.slice b o.length co] w fun e w'=>∃go c,e= .returned (.tuple #[.slice (some ⟨go,0,none⟩) n c,.int .i64 0])/\(Kd.int .i64).R 3 w' w.heap.size (fun _=>True) (.slice (some ⟨go,0,none⟩) n c) (b9 (bz n S o) n n)/\Below w.heap.size w w':=by
 have hu:=Tryz.underlying24;have J:Aside0 (∀W,Below w.heap.size w W->Calls Tryz.prog 71 #[.agg #[.int .i64 n,.slice A0 E.length c0],.slice b o.length co] W fun e w'=>∃go c,e= .returned (.slice (some ⟨go,0,none⟩) n c)/\(Kd.int .i64).R 3 w' W.heap.size (fun _=>True) (.slice (some ⟨go,0,none⟩) n c) (bz n S o)/\Below W.heap.size W w'):=⟨fun W j=>pB k n A0 c0 E b co o S W (Kd.al m j) q (Kd.al G j) hn r s hS u H I⟩;have O:Aside0 (∀W,Below w.heap.size w W->_):=⟨fun W j=>AP k n A0 c0 E b o.length co S W (Kd.al m j) q r s hS u⟩;have x:=zA (lS n (cV S o S.length));rw[show eL n (cV S o S.length)=bz n S o from rfl] at x;clear m G r s hS u H I q;generalize bz n S o=L at J x⊢;refine(callsIn_wide (n:=10)).1 ?_;refine callsIn_of_wp Tryz.func20 rfl trivial ?_ rfl;simp only[Tryz.ntmps20,List.size_toArray,List.length_cons,List.length_nil,Nat.reduceAdd,Nat.reduceSub,Array.replicate_succ,Array.replicate_zero,List.push_toArray,List.append_toArray,List.nil_append,List.cons_append];gi_wp2_with (first|(refine⟨trivial,?_⟩;gi_at_call 70;refine(callsIn_wide.2 (O.out _ (af (ai _ _) _))).mono ?_;rintro e w2 ⟨rfl,y⟩;have B:=zA (au (aU w (.cells #[.int .i64 n,.slice A0 E.length c0] 24)) y);have g:=zA (aC (af (ai w.heap.size w) _) y);have P:w2.cell? ⟨w.heap.size,0,none⟩=some (.int .i64 n):=(ah B.out 0).trans rfl;have Q:w2.cell? ⟨w.heap.size,1,none⟩=some (.slice A0 E.length c0):=(ah B.out 1).trans rfl;clear y)|(refine⟨trivial,?_⟩;gi_at_call 71;refine(callsIn_wide.2 (J.out _ g.out)).mono ?_;rintro e w3 ⟨go,c,rfl,D,K⟩;have a:=zA (Kd.bt (base':=w.heap.size) D g.out.size);have h:=zA (aC g.out K);have T:w.heap.size<=go:=Nat.le_trans g.out.size ((Kd.dy D).1 go rfl).2.1;clear D K P Q))
 clear B g;gi_loopg [20] (n) (fun U i wr=>∃v:Nat,i= .int .i64 v/\v<=n/\Aside0 ((Kd.int .i64).R 3 wr w.heap.size (fun _=>True) (.slice (some ⟨go,0,none⟩) n c) (b9 L n v))/\Aside0 (Below w.heap.size w wr)/\Aside0 (U=n-v))
 case atStart=>exact⟨0,rfl,Nat.zero_le _,⟨by rw[AQ x.out];exact a.out⟩,h,⟨rfl⟩⟩
 case round=>
  clear a h;obtain⟨v,rfl,hv,a,h,V⟩:=hrel;by_cases M:v<n
  ·have X:(0:Int)<=(v:Int):=by omega
   have ad:(v:Int)<(n:Int):=by omega
   have N:=zA (AS (L:=L) M);obtain⟨l,Y⟩:=Kd.bG (0:Int) a.out (v:Int) X (by first|omega|(rw[nf];omega));rw[show bs 0 (b9 L n v) (v:Int)=rd (b9 L n v) (v:Int) from rfl,AR M,aq] at l;rw[aq] at Y;generalize rd L (v:Int)=z at l N;have F:=Kd.cY a.out (v:Int) (wrap64 (z-1));rw[aq,N.out] at F;have Z:=zA F.1;clear F;replace l:wr.cell? ⟨go,v,none⟩=some (.int .i64 z):=l;gi_wp2;gi_roundg (n- (v+1))
   case measure=>rw[V.out];omega
   case rel=>exact⟨v+1,by go_num,by omega,Z,⟨Below.setCell (p:=⟨go,v,none⟩) h.out T _⟩,⟨rfl⟩⟩
  ·obtain rfl:n=v:=by omega
   gi_wp2;go_ret2;exact⟨_,_,rfl,a.out,h.out⟩
end
end Go.Proofs.YtffdiakgjakngaaGreat.P
namespace Go.Proofs.YtffdiakgjakngaaGreat.T
set_option linter.unusedVariables false
set_option linter.unusedSimpArgs false
set_option maxHeartbeats 8000000
set_option maxRecDepth 100000
def sN (f:Nat->Int):Nat->Int
 |0=>0
 |n+1=>sN f n+f n
theorem dK (f:Nat->Int) (n:Nat):sN f (n+1)=sN f n+f n:=rfl
theorem bm {f g:Nat->Int}:∀{n:Nat},(∀u,u<n->f u=g u)->sN f n=sN g n
 |0,_=>rfl
 |n+1,h=>by rw[dK,dK,bm (n:=n) (fun u hu=>h u (by omega)),h n (by omega)]
theorem cK {f g:Nat->Int}:∀{n:Nat},(∀u,u<n->f u<=g u)->sN f n<=sN g n
 |0,_=>Int.le_refl _
 |n+1,h=>by
  have h1:=cK (n:=n) (fun u hu=>h u (by omega));have a:=h n (by omega);rw[dK,dK];omega
theorem kS:∀(n:Nat),sN (fun _=>0) n=0
 |0=>rfl
 |n+1=>by rw[dK,kS n];rfl
theorem fs {f:Nat->Int} {n:Nat} (h:∀u,u<n->f u=0):sN f n=0:=(bm h).trans (kS n)
theorem dE {f:Nat->Int} {n:Nat} (h:∀u,u<n->0<=f u):0<=sN f n:=by
 have:=cK (f:=fun _=>0) (g:=f) (n:=n) h;rw[kS] at this;exact this
theorem de (f g:Nat->Int):∀n:Nat,sN (fun v=>f v+g v) n=sN f n+sN g n
 |0=>rfl
 |n+1=>by rw[dK,dK,dK,de f g n];omega
theorem ef (f g:Nat->Int):∀n:Nat,sN (fun v=>f v-g v) n=sN f n-sN g n
 |0=>rfl
 |n+1=>by rw[dK,dK,dK,ef f g n];omega
theorem lT (f:Nat->Int):∀n:Nat,sN (fun v=> -f v) n= -sN f n
 |0=>rfl
 |n+1=>by rw[dK,dK,lT f n];omega
theorem fu (c:Int) (f:Nat->Int):∀n:Nat,sN (fun v=>c*f v) n=c*sN f n
 |0=>by simp[sN]
 |n+1=>by rw[dK,dK,fu c f n,Int.mul_add]
theorem fT (c:Int):∀n:Nat,sN (fun _=>c) n=n*c
 |0=>by simp[sN]
 |n+1=>by rw[dK,fT c n,Int.natCast_add,Int.add_mul];simp
theorem lU (f:Nat->Nat->Int) (m:Nat):∀n:Nat,sN (fun v=>sN (fun u=>f v u) m) n=sN (fun u=>sN (fun v=>f v u) n) m
 |0=>by show (0:Int)=sN (fun u=>0) m;rw[kS]
 |n+1=>by
  rw[dK,lU f m n,<-de];exact bm fun u _=>rfl
theorem gY {f:Nat->Int} {v:Nat}:∀{n:Nat},v<n->(∀u,u<n->u≠v->f u=0)->sN f n=f v
 |0,h,_=>by omega
 |n+1,h,a=>by
  rw[dK];by_cases e:v=n
  ·subst e
   rw[fs fun u hu=>a u (by omega) (by omega)];omega
  ·rw[gY (n:=n) (by omega) fun u hu b=>a u (by omega) b,a n (by omega) (fun h=>e h.symm)];omega
theorem tz {f g:Nat->Int}:∀{n:Nat},(∀u,u<n->f u<=g u)->sN f n=sN g n->∀u,u<n->f u=g u
 |0,_,_,u,hu=>by omega
 |n+1,h,he,u,hu=>by
  have h1:=cK (n:=n) (fun u hu=>h u (by omega));have a:=h n (by omega);rw[dK,dK] at he;by_cases e:u=n
  ·subst e;omega
  ·exact tz (n:=n) (fun u hu=>h u (by omega)) (by omega) u (by omega)
theorem gZ {f:Nat->Int} {n v:Nat} (a:v<n) (h:∀u,u<n->0<=f u):f v<=sN f n:=by
 have h1:sN (fun u=>if u=v then f v else 0) n=f v:=by
  rw[gY (f:=fun u=>if u=v then f v else 0) a (fun u _ hu=>if_neg hu)];exact if_pos rfl
 rw[<-h1];refine cK fun u hu=>?_
 show (if u=v then f v else 0)<=f u
 by_cases e:u=v
 ·subst e;rw[if_pos rfl];exact Int.le_refl _
 ·rw[if_neg e];exact h u hu
theorem pE (s:Nat->Int):∀{n:Nat},0<n->∃v,v<n/\∀u,u<n->s u<=s v
 |0,h=>by omega
 |1,_=>⟨0,by omega,fun u hu=>by
   obtain rfl:u=0:=by omega
   exact Int.le_refl _⟩
 |n+2,_=>by
  obtain⟨v,b,h⟩:=pE s (n:=n+1) (by omega);by_cases a:s (n+1)<=s v
  ·exact⟨v,by omega,fun u hu=>by
    by_cases e:u=n+1
    ·subst e;exact a
    ·exact h u (by omega)⟩
  ·exact⟨n+1,by omega,fun u hu=>by
    by_cases e:u=n+1
    ·subst e;exact Int.le_refl _
    ·have:=h u (by omega);omega⟩
theorem exists_least {P:Nat->Prop} (f:Nat->Nat) (h:∃v,P v):∃v,P v/\∀u,P u->f v<=f u:=by
 obtain⟨v,a⟩:=h;have key:∀(k:Nat) (v:Nat),f v<=k->P v->∃v,P v/\∀u,P u->f v<=f u:=by
  intro k;induction k with
  |zero=>intro v hk a;exact⟨v,a,fun u _=>by omega⟩
  |succ k g=>
   intro v hk a;by_cases b:∃u,P u/\f u<f v
   ·obtain⟨u,hu,e⟩:=b
    exact g u (by omega) hu
   ·exact⟨v,a,fun u hu=>by
     by_cases e:f u<f v
     ·exact absurd ⟨u,hu,e⟩ b
     ·omega⟩
 exact key (f v) v (Nat.le_refl _) a
structure Wt (n:Nat) (t:Nat->Nat->Int):Prop where
 pos:∀u v,0<=t u v
 sym:∀u v,t u v=t v u
 self:∀v,t v v=0
def aI (n:Nat) (t:Nat->Nat->Int) (s:Nat->Int) (v:Nat):Int:=sN (fun u=>t v u*(s v-s u)) n
theorem jX (n:Nat) (t:Nat->Nat->Int) (s r:Nat->Int) (v:Nat):aI n t (fun u=>s u+r u) v=aI n t s v+aI n t r v:=by
 unfold aI;rw[<-de];refine bm fun u _=>?_
 rw[<-Int.mul_add];congr 1;show s v+r v- (s u+r u)=_;omega
theorem lV (n:Nat) (t:Nat->Nat->Int) (s:Nat->Int) (v:Nat):aI n t (fun u=> -s u) v= -aI n t s v:=by
 unfold aI;rw[<-lT];refine bm fun u _=>?_
 rw[<-Int.mul_neg];congr 1;show -s v- -s u=_;omega
theorem kT (n:Nat) (t:Nat->Nat->Int) (s r:Nat->Int) (v:Nat):aI n t (fun u=>s u-r u) v=aI n t s v-aI n t r v:=by
 unfold aI;rw[<-ef];refine bm fun u _=>?_
 rw[<-Int.mul_sub];congr 1;show s v-r v- (s u-r u)=_;omega
theorem tA (n:Nat) (t:Nat->Nat->Int) (c:Int) (s:Nat->Int) (v:Nat):aI n t (fun u=>c*s u) v=c*aI n t s v:=by
 unfold aI;rw[<-fu];refine bm fun u _=>?_
 rw[<-Int.mul_sub,Int.mul_left_comm]
theorem kU {n:Nat} {t:Nat->Nat->Int} {s r:Nat->Int} (h:∀u,u<n->s u=r u) {v:Nat} (a:v<n):aI n t s v=aI n t r v:=by
 unfold aI;refine bm fun u hu=>?_
 rw[h u hu,h v a]
theorem jl (n:Nat) (t:Nat->Nat->Int) (c:Int) (v:Nat):aI n t (fun _=>c) v=0:=by
 unfold aI;exact fs fun u _=>by rw[Int.sub_self,Int.mul_zero]
theorem AT {n:Nat} {t:Nat->Nat->Int} (a:Wt n t) (s h:Nat->Int):sN (fun v=>h v*aI n t s v) n=sN (fun v=>s v*aI n t h v) n:=by
 have b:sN (fun v=>h v*aI n t s v) n=sN (fun v=>h v*s v*sN (fun u=>t v u) n) n-sN (fun v=>sN (fun u=>h v*t v u*s u) n) n:=by
  rw[<-ef];refine bm fun v _=>?_
  unfold aI;rw[<-fu,<-fu,<-ef];refine bm fun u _=>?_
  rw[Int.mul_sub,Int.mul_sub];congr 1
  ·rw[Int.mul_comm (t v u),<-Int.mul_assoc]
  ·rw[<-Int.mul_assoc]
 have e2:sN (fun v=>s v*aI n t h v) n=sN (fun v=>s v*h v*sN (fun u=>t v u) n) n-sN (fun v=>sN (fun u=>s v*t v u*h u) n) n:=by
  rw[<-ef];refine bm fun v _=>?_
  unfold aI;rw[<-fu,<-fu,<-ef];refine bm fun u _=>?_
  rw[Int.mul_sub,Int.mul_sub];congr 1
  ·rw[Int.mul_comm (t v u),<-Int.mul_assoc]
  ·rw[<-Int.mul_assoc]
 rw[b,e2];congr 1
 ·exact bm fun v _=>by rw[Int.mul_comm (h v)]
 ·rw[lU]
  refine bm fun u _=>bm fun v _=>?_
  rw[a.sym v u,Int.mul_comm (h v),Int.mul_comm _ (s u),Int.mul_assoc]
theorem lW {n:Nat} {t:Nat->Nat->Int} (a:Wt n t) (s:Nat->Int):sN (fun v=>aI n t s v) n=0:=by
 have h:=AT a s (fun _=>1);rw[fs (f:=fun v=>s v*aI n t (fun _=>1) v) fun v _=>by rw[jl,Int.mul_zero]] at h;rw[<-h];exact bm fun v _=>by rw[Int.one_mul]
def bY (n:Nat) (t:Nat->Nat->Int) (D a:Nat->Int):Prop:=∃s:Nat->Int,∀v,v<n->a v=D v-aI n t s v
theorem bY.refl (n:Nat) (t:Nat->Nat->Int) (D:Nat->Int):bY n t D D:=⟨fun _=>0,fun v _=>by rw[jl];omega⟩
theorem bY.of_eq {n:Nat} {t:Nat->Nat->Int} {D a:Nat->Int} (h:∀v,v<n->a v=D v):bY n t D a:=⟨fun _=>0,fun v b=>by rw[jl,h v b];omega⟩
theorem bY.symm {n:Nat} {t:Nat->Nat->Int} {D a:Nat->Int} (h:bY n t D a):bY n t a D:=by
 obtain⟨s,h⟩:=h;exact⟨fun u=> -s u,fun v b=>by rw[lV,h v b];omega⟩
theorem bY.trans {n:Nat} {t:Nat->Nat->Int} {D b e:Nat->Int} (h:bY n t D b) (a:bY n t b e):bY n t D e:=by
 obtain⟨s,h⟩:=h;obtain⟨r,a⟩:=a;exact⟨fun u=>s u+r u,fun v g=>by rw[jX,a v g,h v g];omega⟩
theorem bY.add {n:Nat} {t:Nat->Nat->Int} {D a F b:Nat->Int} (h:bY n t D a) (e:bY n t F b):bY n t (fun v=>D v+F v) (fun v=>a v+b v):=by
 obtain⟨s,h⟩:=h;obtain⟨r,e⟩:=e;exact⟨fun u=>s u+r u,fun v g=>by show a v+b v=D v+F v-_;rw[jX,e v g,h v g];omega⟩
theorem bY.neg {n:Nat} {t:Nat->Nat->Int} {D a:Nat->Int} (h:bY n t D a):bY n t (fun v=> -D v) (fun v=> -a v):=by
 obtain⟨s,h⟩:=h;exact⟨fun u=> -s u,fun v b=>by show -a v= -D v-_;rw[lV,h v b];omega⟩
theorem bY.ng {n:Nat} {t:Nat->Nat->Int} (b:Wt n t) {D a:Nat->Int} (h:bY n t D a):sN a n=sN D n:=by
 obtain⟨s,h⟩:=h;rw[bm h,ef,lW b];omega
def tB (n:Nat) (D:Nat->Int):Prop:=∀v,v<n->0<=D v
def bV (n:Nat) (t:Nat->Nat->Int) (D:Nat->Int):Prop:=∃a,bY n t D a/\tB n a
theorem bV.jY {n:Nat} {t:Nat->Nat->Int} {D a:Nat->Int} (h:bY n t D a) (hw:bV n t D):bV n t a:=by
 obtain⟨F,h1,b⟩:=hw;exact⟨F,h.symm.trans h1,b⟩
theorem pF {n:Nat} {t:Nat->Nat->Int} {D a:Nat->Int} (h:bY n t D a):bV n t D↔bV n t a:=⟨bV.jY h,bV.jY h.symm⟩
theorem bV.mono {n:Nat} {t:Nat->Nat->Int} {D a:Nat->Int} (hw:bV n t D) (h:∀v,v<n->D v<=a v):bV n t a:=by
 obtain⟨F,⟨s,h1⟩,e⟩:=hw;exact⟨fun v=>a v-aI n t s v,⟨s,fun v _=>rfl⟩,fun v b=>by have:=e v b;have:=h1 v b;have:=h v b;show 0<=a v-aI n t s v;omega⟩
theorem bV.add {n:Nat} {t:Nat->Nat->Int} {D F:Nat->Int} (h1:bV n t D) (g:bV n t F):bV n t (fun v=>D v+F v):=by
 obtain⟨h,a,b⟩:=h1;obtain⟨i,c,d⟩:=g;exact⟨_,a.add c,fun v e=>by have:=b v e;have:=d v e;show 0<=h v+i v;omega⟩
theorem bV.tC {n:Nat} {t:Nat->Nat->Int} {D:Nat->Int} (h:tB n D):bV n t D:=⟨D,bY.refl _ _ _,h⟩
theorem bV.ng {n:Nat} {t:Nat->Nat->Int} (e:Wt n t) {D:Nat->Int} (h:bV n t D):0<=sN D n:=by
 obtain⟨g,a,b⟩:=h;rw[<-a.ng e];exact dE b
def dF (n:Nat) (t:Nat->Nat->Int) (pos:Nat->Nat) (v:Nat):Int:=sN (fun u=>if pos u<pos v then t v u else 0) n
def val (n:Nat) (t:Nat->Nat->Int) (v:Nat):Int:=sN (fun u=>t v u) n
def nu (n:Nat) (t:Nat->Nat->Int) (pos:Nat->Nat) (v:Nat):Int:=dF n t pos v-1
theorem AU {n:Nat} {t:Nat->Nat->Int} (a:Wt n t) (hn:0<n) (pos:Nat->Nat) (s:Nat->Int):∃v,v<n/\nu n t pos v-aI n t s v<0:=by
 obtain⟨m,hm,b⟩:=pE s hn;obtain⟨v,⟨g,j⟩,i⟩:=exists_least (P:=fun v=>v<n/\s v=s m) pos ⟨m,hm,rfl⟩;refine⟨v,g,?_⟩;unfold nu dF aI;have:sN (fun u=>if pos u<pos v then t v u else 0) n<=sN (fun u=>t v u*(s v-s u)) n:=by
  refine cK fun u hu=>?_
  have hp:=a.pos v u;have k:=b u hu;by_cases e:pos u<pos v
  ·show (if pos u<pos v then t v u else 0)<=_
   rw[if_pos e];have l:s u≠s m:=fun h=>by have:=i u ⟨hu,h⟩;omega
   have h1:1<=s v-s u:=by omega
   have:=Int.mul_le_mul_of_nonneg_left h1 hp;rw[Int.mul_one] at this;exact this
  ·show (if pos u<pos v then t v u else 0)<=_
   rw[if_neg e];exact Int.mul_nonneg hp (by omega)
 omega
theorem pG {n:Nat} {t:Nat->Nat->Int} (b:Wt n t) (hn:0<n) (pos:Nat->Nat):¬bV n t (nu n t pos):=by
 rintro⟨g,⟨s,h1⟩,e⟩;obtain⟨v,a,h⟩:=AU b hn pos s;have:=h1 v a;have:=e v a;omega
def eM (n:Nat) (pos:Nat->Nat):Prop:=∀u v,u<n->v<n->pos u=pos v->u=v
theorem AV {n:Nat} {t:Nat->Nat->Int} (b:Wt n t) {pos pos':Nat->Nat} (hi:eM n pos) (g:∀u v,u<n->v<n->(pos' u<pos' v↔pos v<pos u)) {v:Nat} (a:v<n):dF n t pos v+dF n t pos' v=val n t v:=by
 unfold dF val;rw[<-de];refine bm fun u hu=>?_
 have h1:=g u v hu a;by_cases e:pos u<pos v
 ·rw[if_pos e,if_neg (by rw[h1];omega)];omega
 ·by_cases e2:pos v<pos u
  ·rw[if_neg e,if_pos (h1.2 e2)];omega
  ·rw[if_neg e,if_neg (fun h=>e2 (h1.1 h))]
   have:=hi u v hu a (by omega);subst this;rw[b.self];rfl
theorem AW (n:Nat) (pos:Nat->Nat):∃pos':Nat->Nat,∀u v,u<n->v<n->(pos' u<pos' v↔pos v<pos u):=by
 obtain⟨B,a⟩:∃B,∀u,u<n->pos u<=B:=by
  induction n with
  |zero=>exact⟨0,fun u hu=>by omega⟩
  |succ n b=>
   obtain⟨B,a⟩:=b;exact⟨max B (pos n),fun u hu=>by
    by_cases e:u=n
    ·subst e;exact Nat.le_max_right _ _
    ·exact Nat.le_trans (a u (by omega)) (Nat.le_max_left _ _)⟩
 refine⟨fun u=>B-pos u,fun u v hu g=>?_⟩;have:=a u hu;have:=a v g;show B-pos u<B-pos v↔_
 omega
theorem AX {n:Nat} {t:Nat->Nat->Int} (a:Wt n t) {pos pos':Nat->Nat} (b:∀u v,u<n->v<n->(pos' u<pos' v↔pos v<pos u)):sN (dF n t pos) n=sN (dF n t pos') n:=by
 unfold dF;rw[lU];refine bm fun u hu=>bm fun v g=>?_
 have:=b v u g hu;by_cases e:pos u<pos v
 ·rw[if_pos e,if_pos (this.2 e),a.sym]
 ·rw[if_neg e,if_neg (fun h=>e (this.1 h))]
theorem AY {n:Nat} {t:Nat->Nat->Int} (a:Wt n t) {pos:Nat->Nat} (hi:eM n pos):2*sN (dF n t pos) n=sN (val n t) n:=by
 obtain⟨pos',b⟩:=AW n pos;have h1:sN (fun v=>dF n t pos v+dF n t pos' v) n=sN (val n t) n:=bm fun v e=>AV a hi b e
 rw[de] at h1;have g:=AX a b;omega
theorem AZ {n:Nat} {t:Nat->Nat->Int} (pos:Nat->Nat):sN (nu n t pos) n=sN (dF n t pos) n-n:=by
 have:sN (nu n t pos) n=sN (fun v=>dF n t pos v- (fun _=>(1:Int)) v) n:=rfl;rw[this,ef,fT];omega
end Go.Proofs.YtffdiakgjakngaaGreat.T


