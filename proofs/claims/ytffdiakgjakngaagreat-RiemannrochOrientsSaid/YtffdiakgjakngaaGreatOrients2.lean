/- Orients answers true whatever the input (text 2 of 7): own walks and plain laws; no conditions. -/
import Derived.BigRegion
import Derived.Deep.RegionHeld3
import Derived.Deep.RegionLaw
import Derived.Lib.Hide
import Derived.Maps.OwnOps
import Derived.Maps.Views
import Derived.Outline
import Derived.RegionIn
import Derived.RegionTactic
import Derived.Sort.LoopGhostIn
import Derived.WalkSpells
import Derived.Test.YtffdiakgjakngaaGreatOrients1
namespace Go.Proofs.YtffdiakgjakngaaGreat.P
open Go.RowKit Go.Proofs.YtffdiakgjakngaaGreatW.PrintWords Go.Proofs.YtffdiakgjakngaaGreatW.PrintLast Go.Proofs.YtffdiakgjakngaaGreatW.PrintMore
set_option linter.unusedVariables false
set_option linter.unusedSimpArgs false
set_option maxHeartbeats 8000000
set_option maxRecDepth 100000
mutual
def a7.j0:Nat->Bool->Int->List (S83)->Option (Int)
 |0,_,_,_=>none
 |k+1,b,e,a=>if b=true then(some 2) else(a7.l0 k a (a.length:Int) 0 e a (-1) (-1))
def a7.l0:Nat->List (S83)->Int->Int->Int->List (S83)->Int->Int->Option (Int)
 |0,_,_,_,_,_,_,_=>none
 |k+1,b,g,a,e,h,i,j=>if a<g then(if 0<=a then(if a<(b.length:Int) then((gj.f e ((ae b a).f0)).bind fun t216=>(if t216=true then((gj.f e ((ae b a).f1)).bind fun t217=>(if t217=true then(if((ae b a).f2)<1 then(a7.j2 k b g a true e h i j ((ae b a).f0) ((ae b a).f1) ((ae b a).f2) ((ae b a).f0) ((ae b a).f1)) else(a7.j2 k b g a (decide (((ae b a).f2)>50)) e h i j ((ae b a).f0) ((ae b a).f1) ((ae b a).f2) ((ae b a).f0) ((ae b a).f1))) else(a7.j2 k b g a true e h i j ((ae b a).f0) ((ae b a).f1) ((ae b a).f2) ((ae b a).f0) ((ae b a).f1)))) else(a7.j2 k b g a true e h i j ((ae b a).f0) ((ae b a).f1) ((ae b a).f2) ((ae b a).f0) ((ae b a).f1)))) else(none)) else(none)) else(some 0)
def a7.j2:Nat->List (S83)->Int->Int->Bool->Int->List (S83)->Int->Int->Int->Int->Int->Int->Int->Option (Int)
 |0,_,_,_,_,_,_,_,_,_,_,_,_,_=>none
 |k+1,e,g,h,i,j,l,m,n,o,p,q,a,b=>if i=true then(some 2) else(if o>p then(some 9) else((dN.f k m n a b).bind fun t218=>(if t218>=0 then(some 9) else(a7.l0 k e g (wrap64 (h+1)) j l a b))))
end
def a7.f (k:Nat) (a:Int) (b:List (S83)):Option (Int):=if a<1 then(a7.j0 k true a b) else(a7.j0 k (decide (a>12)) a b)
theorem a7.cE:∀k,(∀a b e,al (a7.j0 k a b e) (a7.j0 (k+1) a b e))/\(∀a b e g i j l,al (a7.l0 k a b e g i j l) (a7.l0 (k+1) a b e g i j l))/\(∀a b e g i j l m n o p q s,al (a7.j2 k a b e g i j l m n o p q s) (a7.j2 (k+1) a b e g i j l m n o p q s))
 |0=>⟨fun _ _ _ r h=>by simp[a7.j0] at h,fun _ _ _ _ _ _ _ r h=>by simp[a7.l0] at h,fun _ _ _ _ _ _ _ _ _ _ _ _ _ r h=>by simp[a7.j2] at h⟩
 |k+1=>by
  obtain⟨u,v,w⟩:=a7.cE k;refine⟨?_,?_,?_⟩
  ·intro a b e
   unfold a7.j0;with_reducible repeat' first|exact u _ _ _|exact v _ _ _ _ _ _ _|exact w _ _ _ _ _ _ _ _ _ _ _ _ _|exact dN.mono _ _ _ _ _|exact al.refl _|exact al.none _|refine al.ite ?_ ?_|refine al.bind ?_ (fun _=>?_)
  ·intro a b e g i j l
   unfold a7.l0;with_reducible repeat' first|exact u _ _ _|exact v _ _ _ _ _ _ _|exact w _ _ _ _ _ _ _ _ _ _ _ _ _|exact dN.mono _ _ _ _ _|exact al.refl _|exact al.none _|refine al.ite ?_ ?_|refine al.bind ?_ (fun _=>?_)
  ·intro a b e g i j l m n o p q s
   unfold a7.j2;with_reducible repeat' first|exact u _ _ _|exact v _ _ _ _ _ _ _|exact w _ _ _ _ _ _ _ _ _ _ _ _ _|exact dN.mono _ _ _ _ _|exact al.refl _|exact al.none _|refine al.ite ?_ ?_|refine al.bind ?_ (fun _=>?_)
theorem a7.mono:∀a0 a k,al (a7.f k a0 a) (a7.f (k+1) a0 a):=by
 intro a0 a k;obtain⟨b,e,g⟩:=a7.cE k;unfold a7.f;with_reducible repeat' first|exact b _ _ _|exact e _ _ _ _ _ _ _|exact g _ _ _ _ _ _ _ _ _ _ _ _ _|exact dN.mono _ _ _ _ _|exact al.refl _|exact al.none _|refine al.ite ?_ ?_|refine al.bind ?_ (fun _=>?_)
theorem a7.calls (k:Nat) (j:Int) (R:Option Addr) (B:Nat) (a:List (S83)) (r:Int) (w:World) (a9:Kd.C aM w R a.length a) (bb:a.length<=B) (h:a7.f k j a=some r):
  Calls Tryz.prog 64 #[.agg #[.int .i64 j,.slice R a.length B]] w fun e w'=>e= .returned (.int .i64 r)/\Below w.heap.size w w':=by
 have ck:=Tryz.underlying24;have cl:=Tryz.underlying116;have co:=Tryz.underlying83;have bk:=zA a9;have cp:=zA bb;clear a9 bb;have m:=zA (aj w.heap.size w);unfold a7.f at h;have H:=h;clear h;have a1:=zA H;clear H;go_enter Tryz.func64,Tryz.ntmps64
 go_upto_region 1 with (first|((with_reducible refine aU (N:=1) rfl ?_);refine zX 1 #[.int .i64 j,.slice R a.length B] 24 ?_;intro u l w3 I hb;have i:=zA (I);have cq:=zG m l;have cr:=zG m l;replace m:=zS m hb;clear hb I l))
 (try simp only[Act.put,List.setIfInBounds_toArray,List.set_cons_zero,List.set_cons_succ])
 go_cut [14] (fun bl wc=>∃(G:Nat) (ak:Bool),bl= .bool ak/\Aside0 (a7.j0 G ak j a=some r)/\Aside0 (G<=k)/\Aside0 (wc.heap[u]? =some (.cells #[.int .i64 j,(.slice R a.length B)] 24 (0,0)))/\Aside0 (Below w.heap.size w wc))
 case first=>
  have H:=a1.out;clear a1;by_cases c4:j<1
  ·rw[if_pos c4] at H
   have ad:=aE c4;clear c4
   (first|rw[ad]|(simp only[dG,dL];rw[ad])|skip)
   have v:=zA H;clear H;obtain⟨cv,cx,c0,c1⟩:=aC i;go_wp2;go_meet
   case rel=>exact⟨_,(true),zT,v,⟨by first|omega|exact aI _⟩,⟨zK i⟩,⟨zB⟩⟩
  ·rw[if_neg c4] at H
   have ad:=ba c4;clear c4
   (first|rw[ad]|(simp only[dG,dL];rw[ad])|skip)
   have v:=zA H;clear H;obtain⟨c2,c3,c5,c6⟩:=aC i;go_wp2;go_meet
   case rel=>exact⟨_,(decide (j>12)),zT,v,⟨by first|omega|exact aI _⟩,⟨zK i⟩,⟨zB⟩⟩
 case rest=>
  clear a1;obtain⟨G,ak,rfl,J,V,i,m⟩:=hcut;cases G with
  |zero=>exact absurd J.out (by simp[a7.j0])
  |succ be=>
   have H:=J.out;clear J;simp only[a7.j0] at H;by_cases c7:ak=true
   ·subst c7
    replace H:=zi H;obtain rfl:=aX H;go_wp2;go_ret;exact⟨zE,zB⟩
   ·replace c7:=Bool.eq_false_iff.mpr c7
    subst c7;replace H:=zj H;have v:=zA H;clear H;go_wp2_with (first|((with_reducible refine aU (N:=3) rfl ?_);refine zX 3 #[.int .i64 0,.int .i64 0] 116 ?_;intro D l w8 I hb;have n:=zA (I);have c9:=zG m l;have c':=zG m l;replace m:=zS m hb;have K:=zA ((by rw[l];exact Nat.ne_of_lt (ay (g:=u) (o:=.cells #[.int .i64 j,.slice R a.length B] 24 (0,0)) (zK i)):u≠D));have S:=zA ((by rw[l];exact Nat.ne_of_gt (ay (g:=u) (o:=.cells #[.int .i64 j,.slice R a.length B] 24 (0,0)) (zK i)):D≠u));replace i:=zb i hb;clear hb I l;have dd:=S.out;have dk:=K.out;obtain⟨bn,bo,bq,bv⟩:=aC n;obtain⟨bw,bx,b0,b1⟩:=aC i))
    go_loopg [19] be (fun G b2 w'=>∃(b:Int) (E:Int) (z:Int),b2= .int .i64 b/\Aside0 (a7.l0 G a (a.length:Int) b j a E z=some r)/\Aside0 (G<=be)/\Aside0 (w'.heap[u]? =some (.cells #[.int .i64 j,(.slice R a.length B)] 24 (0,0)))/\Aside0 (w'.heap[D]? =some (.cells #[.int .i64 E,.int .i64 z] 116 (0,0)))/\Aside0 (Below w.heap.size w w'))
    case atStart=>exact⟨(0),((-1)),((-1)),zT,v,⟨aI _⟩,⟨by refine zk ?_;refine aG ?_ K.out _;refine zk ?_;refine aG ?_ K.out _;exact zK i⟩,⟨by refine zk ?_;refine bH (cs:=#[.int .i64 (-1),.int .i64 0]) ?_ 1 _ rfl;refine zk ?_;refine bH (cs:=#[.int .i64 0,.int .i64 0]) ?_ 0 _ rfl;exact zK n⟩,⟨zB⟩⟩
    case round=>
     clear v;clear bn bo bw bx bq bv b0 b1;obtain⟨b,E,z,rfl,J,W,i,n,m⟩:=hrel;cases gk with
     |zero=>exact absurd J.out (by simp[a7.l0])
     |succ k2=>
      have H:=J.out;clear J;simp only[a7.l0] at H;by_cases X:b<(a.length:Int)
      ·rw[if_pos X] at H
       have bf:=aE X;clear X;by_cases an:0<=b
       ·rw[if_pos an] at H
        have b4:=aE an;clear an;by_cases ao:b<(a.length:Int)
        ·rw[if_pos ao] at H
         have b5:=aE ao;clear ao;have a2:=zA H;clear H;have ap:0<=(b:Int):=aA ‹_›;have ar:b<(a.length:Int):=aA ‹_›;obtain⟨Y,b6,av,aB,aF⟩:=dM bk.out b ap ar;cases b6;replace av:=(m.out.cell (bm w _ av)).trans av;replace aB:=(m.out.cell (bm w _ aB)).trans aB;replace aF:=(m.out.cell (bm w _ aF)).trans aF;replace ap:=eq_true ap;replace ar:=eq_true ar;go_upto_region 8 with (first|((with_reducible refine aU (N:=5) rfl ?_);refine zX 5 #[.int .i64 0,.int .i64 0,.int .i64 0] 83 ?_;intro M l dl I hb;have p:=zA (I);have ds:=zG m l;have dv:=zG m l;replace m:=zS m hb;have q:=zA ((by rw[l];exact Nat.ne_of_lt (ay (g:=u) (o:=.cells #[.int .i64 j,.slice (some Y) a.length B] 24 (0,0)) (zK i)):u≠M));have O:=zA ((by rw[l];exact Nat.ne_of_gt (ay (g:=u) (o:=.cells #[.int .i64 j,.slice (some Y) a.length B] 24 (0,0)) (zK i)):M≠u));replace i:=zb i hb;have s:=zA ((by rw[l];exact Nat.ne_of_lt (ay (g:=D) (o:=.cells #[.int .i64 E,.int .i64 z] 116 (0,0)) (zK n)):D≠M));have P:=zA ((by rw[l];exact Nat.ne_of_gt (ay (g:=D) (o:=.cells #[.int .i64 E,.int .i64 z] 116 (0,0)) (zK n)):M≠D));replace n:=zb n hb;clear hb I l;have dx:=O.out;have d0:=q.out;have d1:=P.out;have d2:=s.out;obtain⟨b_,b',ca,cb,cc,cd⟩:=cC p)|((with_reducible refine aU (N:=6) rfl ?_);refine zX 6 #[.int .i64 0,.int .i64 0] 116 ?_;intro T l d3 I hb;have F:=zA (I);have d4:=zG m l;have d5:=zG m l;replace m:=zS m hb;have y:=zA ((by rw[l];exact Nat.ne_of_lt (ay (g:=u) (o:=.cells #[.int .i64 j,.slice (some Y) a.length B] 24 (0,0)) (by refine zk ?_;refine aG ?_ q.out _;refine zk ?_;refine aG ?_ q.out _;refine zk ?_;refine aG ?_ q.out _;exact zK i)):u≠T));have U:=zA ((by rw[l];exact Nat.ne_of_gt (ay (g:=u) (o:=.cells #[.int .i64 j,.slice (some Y) a.length B] 24 (0,0)) (by refine zk ?_;refine aG ?_ q.out _;refine zk ?_;refine aG ?_ q.out _;refine zk ?_;refine aG ?_ q.out _;exact zK i)):T≠u));replace i:=zA (az (g:=u) (o:=.cells #[.int .i64 j,.slice (some Y) a.length B] 24 (0,0)) (by refine zk ?_;refine aG ?_ q.out _;refine zk ?_;refine aG ?_ q.out _;refine zk ?_;refine aG ?_ q.out _;exact zK i) hb);have L:=zA ((by rw[l];exact Nat.ne_of_lt (ay (g:=D) (o:=.cells #[.int .i64 E,.int .i64 z] 116 (0,0)) (by refine zk ?_;refine aG ?_ s.out _;refine zk ?_;refine aG ?_ s.out _;refine zk ?_;refine aG ?_ s.out _;exact zK n)):D≠T));have a3:=zA ((by rw[l];exact Nat.ne_of_gt (ay (g:=D) (o:=.cells #[.int .i64 E,.int .i64 z] 116 (0,0)) (by refine zk ?_;refine aG ?_ s.out _;refine zk ?_;refine aG ?_ s.out _;refine zk ?_;refine aG ?_ s.out _;exact zK n)):T≠D));replace n:=zA (az (g:=D) (o:=.cells #[.int .i64 E,.int .i64 z] 116 (0,0)) (by refine zk ?_;refine aG ?_ s.out _;refine zk ?_;refine aG ?_ s.out _;refine zk ?_;refine aG ?_ s.out _;exact zK n) hb);have x:=zA ((by rw[l];exact Nat.ne_of_lt (ay (g:=M) (o:=.cells #[.int .i64 ((ae a b).f0),.int .i64 ((ae a b).f1),.int .i64 ((ae a b).f2)] 83 (0,0)) (by refine zk ?_;refine bH (cs:=#[.int .i64 ((ae a b).f0),.int .i64 ((ae a b).f1),.int .i64 0]) ?_ 2 _ rfl;refine zk ?_;refine bH (cs:=#[.int .i64 ((ae a b).f0),.int .i64 0,.int .i64 0]) ?_ 1 _ rfl;refine zk ?_;refine bH (cs:=#[.int .i64 0,.int .i64 0,.int .i64 0]) ?_ 0 _ rfl;exact zK p)):M≠T));have Q:=zA ((by rw[l];exact Nat.ne_of_gt (ay (g:=M) (o:=.cells #[.int .i64 ((ae a b).f0),.int .i64 ((ae a b).f1),.int .i64 ((ae a b).f2)] 83 (0,0)) (by refine zk ?_;refine bH (cs:=#[.int .i64 ((ae a b).f0),.int .i64 ((ae a b).f1),.int .i64 0]) ?_ 2 _ rfl;refine zk ?_;refine bH (cs:=#[.int .i64 ((ae a b).f0),.int .i64 0,.int .i64 0]) ?_ 1 _ rfl;refine zk ?_;refine bH (cs:=#[.int .i64 0,.int .i64 0,.int .i64 0]) ?_ 0 _ rfl;exact zK p)):T≠M));replace p:=zA (az (g:=M) (o:=.cells #[.int .i64 ((ae a b).f0),.int .i64 ((ae a b).f1),.int .i64 ((ae a b).f2)] 83 (0,0)) (by refine zk ?_;refine bH (cs:=#[.int .i64 ((ae a b).f0),.int .i64 ((ae a b).f1),.int .i64 0]) ?_ 2 _ rfl;refine zk ?_;refine bH (cs:=#[.int .i64 ((ae a b).f0),.int .i64 0,.int .i64 0]) ?_ 1 _ rfl;refine zk ?_;refine bH (cs:=#[.int .i64 0,.int .i64 0,.int .i64 0]) ?_ 0 _ rfl;exact zK p) hb);clear hb I l;have d6:=U.out;have d7:=y.out;have d8:=a3.out;have d9:=L.out;have ea:=Q.out;have eb:=x.out;obtain⟨ce,cf,cg,ch⟩:=aC F))
         (try simp only[Act.put,List.setIfInBounds_toArray,List.set_cons_zero,List.set_cons_succ])
         go_cut [28] (fun v28 wc=>∃(G:Nat) (aL:Bool),v28= .bool aL/\Aside0 (a7.j2 G a (a.length:Int) b aL j a E z ((ae a b).f0) ((ae a b).f1) ((ae a b).f2) ((ae a b).f0) ((ae a b).f1)=some r)/\Aside0 (G<=k2)/\Aside0 (wc.heap[u]? =some (.cells #[.int .i64 j,(.slice (some Y) a.length B)] 24 (0,0)))/\Aside0 (wc.heap[D]? =some (.cells #[.int .i64 E,.int .i64 z] 116 (0,0)))/\Aside0 (wc.heap[M]? =some (.cells #[.int .i64 ((ae a b).f0),.int .i64 ((ae a b).f1),.int .i64 ((ae a b).f2)] 83 (0,0)))/\Aside0 (wc.heap[T]? =some (.cells #[.int .i64 ((ae a b).f0),.int .i64 ((ae a b).f1)] 116 (0,0)))/\Aside0 (Below w.heap.size w wc))
         case first=>
          have H:=a2.out;clear a2;obtain⟨t216,aO,H⟩:=zo H;by_cases aP:t216=true
          ·subst aP
           replace H:=zi H;obtain⟨t217,a4,H⟩:=zo H;by_cases aS:t217=true
           ·subst aS
            replace H:=zi H;by_cases Z:((ae a b).f2)<1
            ·rw[if_pos Z] at H
             have ag:=aE Z;clear Z
             (first|rw[ag]|(simp only[dG,dL];rw[ag])|skip)
             have v:=zA H;clear H;have ed:=K.out;have eg:=S.out;have ek:=q.out;have el:=O.out;have em:=y.out;have er:=U.out;obtain⟨es,ev,ew,ex⟩:=aC i;have ey:=P.out;have e0:=s.out;have e1:=x.out;have e2:=Q.out;obtain⟨e3,e4,e5,e6,e_,e'⟩:=cC p;go_wp2_with (first|((with_reducible refine aR (f:=121) rfl ?_);refine zL (some 33) Tryz.func121 #[.int .i64 j,.int .i64 ((ae a b).f0)] ?_;(with_reducible refine(gj.calls j ((ae a b).f0) true _ aO.out).mono ?_);rintro e w' ⟨rfl,⟨nd,rfl⟩⟩;refine⟨_,rfl,?_⟩)|(go_at_call 121;(with_reducible refine(gj.calls j ((ae a b).f1) true _ a4.out).mono ?_);rintro e w' ⟨rfl,⟨nd,rfl⟩⟩))
             go_meet
             case rel=>exact⟨_,(true),zT,v,⟨by have:=V.out;have:=W.out;first|omega|exact aI _⟩,⟨by refine zk ?_;refine aG ?_ y.out _;refine zk ?_;refine aG ?_ y.out _;exact zK i⟩,⟨by refine zk ?_;refine aG ?_ L.out _;refine zk ?_;refine aG ?_ L.out _;exact zK n⟩,⟨by refine zk ?_;refine aG ?_ x.out _;refine zk ?_;refine aG ?_ x.out _;exact zK p⟩,⟨by refine zk ?_;refine bH (cs:=#[.int .i64 ((ae a b).f0),.int .i64 0]) ?_ 1 _ rfl;refine zk ?_;refine bH (cs:=#[.int .i64 0,.int .i64 0]) ?_ 0 _ rfl;exact zK F⟩,⟨zB⟩⟩
            ·rw[if_neg Z] at H
             have ag:=ba Z;clear Z
             (first|rw[ag]|(simp only[dG,dL];rw[ag])|skip)
             have v:=zA H;clear H;have fb:=K.out;have fd:=S.out;have fn:=q.out;have fo:=O.out;have fq:=y.out;have fr:=U.out;obtain⟨ft,fv,f3,f4⟩:=aC i;have f5:=P.out;have f6:=s.out;have f7:=x.out;have f8:=Q.out;obtain⟨f9,f',ga,gb,gc,gd⟩:=cC p;go_wp2_with (first|((with_reducible refine aR (f:=121) rfl ?_);refine zL (some 33) Tryz.func121 #[.int .i64 j,.int .i64 ((ae a b).f0)] ?_;(with_reducible refine(gj.calls j ((ae a b).f0) true _ aO.out).mono ?_);rintro e w' ⟨rfl,⟨nd,rfl⟩⟩;refine⟨_,rfl,?_⟩)|(go_at_call 121;(with_reducible refine(gj.calls j ((ae a b).f1) true _ a4.out).mono ?_);rintro e w' ⟨rfl,⟨nd,rfl⟩⟩))
             go_meet
             case rel=>exact⟨_,(decide (((ae a b).f2)>50)),zT,v,⟨by have:=V.out;have:=W.out;first|omega|exact aI _⟩,⟨by refine zk ?_;refine aG ?_ y.out _;refine zk ?_;refine aG ?_ y.out _;exact zK i⟩,⟨by refine zk ?_;refine aG ?_ L.out _;refine zk ?_;refine aG ?_ L.out _;exact zK n⟩,⟨by refine zk ?_;refine aG ?_ x.out _;refine zk ?_;refine aG ?_ x.out _;exact zK p⟩,⟨by refine zk ?_;refine bH (cs:=#[.int .i64 ((ae a b).f0),.int .i64 0]) ?_ 1 _ rfl;refine zk ?_;refine bH (cs:=#[.int .i64 0,.int .i64 0]) ?_ 0 _ rfl;exact zK F⟩,⟨zB⟩⟩
           ·replace aS:=Bool.eq_false_iff.mpr aS
            subst aS;replace H:=zj H;have v:=zA H;clear H;have ge:=K.out;have gf:=S.out;have gg:=q.out;have gi:=O.out;have gl:=y.out;have gm:=U.out;obtain⟨gn,go,gp,gq⟩:=aC i;have gr:=P.out;have gs:=s.out;have gt:=x.out;have gx:=Q.out;obtain⟨g0,g1,g2,g3,g4,g5⟩:=cC p;go_wp2_with (first|((with_reducible refine aR (f:=121) rfl ?_);refine zL (some 33) Tryz.func121 #[.int .i64 j,.int .i64 ((ae a b).f0)] ?_;(with_reducible refine(gj.calls j ((ae a b).f0) true _ aO.out).mono ?_);rintro e w' ⟨rfl,⟨nd,rfl⟩⟩;refine⟨_,rfl,?_⟩)|(go_at_call 121;(with_reducible refine(gj.calls j ((ae a b).f1) false _ a4.out).mono ?_);rintro e w' ⟨rfl,⟨nd,rfl⟩⟩))
            go_meet
            case rel=>exact⟨_,(true),zT,v,⟨by have:=V.out;have:=W.out;first|omega|exact aI _⟩,⟨by refine zk ?_;refine aG ?_ y.out _;refine zk ?_;refine aG ?_ y.out _;exact zK i⟩,⟨by refine zk ?_;refine aG ?_ L.out _;refine zk ?_;refine aG ?_ L.out _;exact zK n⟩,⟨by refine zk ?_;refine aG ?_ x.out _;refine zk ?_;refine aG ?_ x.out _;exact zK p⟩,⟨by refine zk ?_;refine bH (cs:=#[.int .i64 ((ae a b).f0),.int .i64 0]) ?_ 1 _ rfl;refine zk ?_;refine bH (cs:=#[.int .i64 0,.int .i64 0]) ?_ 0 _ rfl;exact zK F⟩,⟨zB⟩⟩
          ·replace aP:=Bool.eq_false_iff.mpr aP
           subst aP;replace H:=zj H;have v:=zA H;clear H;have g6:=K.out;have g7:=S.out;have g8:=q.out;have g9:=O.out;have g':=y.out;have ha:=U.out;obtain⟨hc,he,hf,hh⟩:=aC i;have hj:=P.out;have hk:=s.out;have hl:=x.out;have hm:=Q.out;obtain⟨hn,ho,hp,hq,hr,hs⟩:=cC p;go_wp2_with (first|((with_reducible refine aR (f:=121) rfl ?_);refine zL (some 33) Tryz.func121 #[.int .i64 j,.int .i64 ((ae a b).f0)] ?_;(with_reducible refine(gj.calls j ((ae a b).f0) false _ aO.out).mono ?_);rintro e w' ⟨rfl,⟨nd,rfl⟩⟩;refine⟨_,rfl,?_⟩))
           go_meet
           case rel=>exact⟨_,(true),zT,v,⟨by have:=V.out;have:=W.out;first|omega|exact aI _⟩,⟨by refine zk ?_;refine aG ?_ y.out _;refine zk ?_;refine aG ?_ y.out _;exact zK i⟩,⟨by refine zk ?_;refine aG ?_ L.out _;refine zk ?_;refine aG ?_ L.out _;exact zK n⟩,⟨by refine zk ?_;refine aG ?_ x.out _;refine zk ?_;refine aG ?_ x.out _;exact zK p⟩,⟨by refine zk ?_;refine bH (cs:=#[.int .i64 ((ae a b).f0),.int .i64 0]) ?_ 1 _ rfl;refine zk ?_;refine bH (cs:=#[.int .i64 0,.int .i64 0]) ?_ 0 _ rfl;exact zK F⟩,⟨zB⟩⟩
         case rest=>
          clear a2;clear bf b4 b5 b_ b' ca ce cf cb cc cd cg ch av aB aF ap ar;obtain⟨G,aL,rfl,J,bg,i,n,p,F,m⟩:=hcut;cases G with
          |zero=>exact absurd J.out (by simp[a7.j2])
          |succ a5=>
           have H:=J.out;clear J;simp only[a7.j2] at H;by_cases a0:aL=true
           ·subst a0
            replace H:=zi H;obtain rfl:=aX H;go_wp2;go_ret;exact⟨zE,zB⟩
           ·replace a0:=Bool.eq_false_iff.mpr a0
            subst a0;replace H:=zj H;by_cases aa:((ae a b).f0)>((ae a b).f1)
            ·rw[if_pos aa] at H
             have ci:=aE aa;clear aa;obtain rfl:=aX H;have ht:=O.out;have hv:=q.out;have hw:=P.out;have hx:=s.out;have hy:=x.out;have hz:=Q.out;obtain⟨hA,hB,hC,hD,hE,hG⟩:=cC p;go_wp2;go_ret;exact⟨zE,zB⟩
            ·rw[if_neg aa] at H
             have ci:=ba aa;clear aa;obtain⟨t218,bi,H⟩:=zo H;by_cases ab:t218>=0
             ·rw[if_pos ab] at H
              have cj:=aE ab;clear ab;obtain rfl:=aX H;have hH:=O.out;have hI:=q.out;have hJ:=P.out;have hK:=s.out;have hL:=x.out;have hM:=Q.out;obtain⟨hN,hO,hP,hQ,hR,hT⟩:=cC p;have hV:=S.out;have hW:=K.out;have hX:=L.out;have hY:=a3.out;obtain⟨hZ,h0,h1,h2⟩:=aC n;have h3:=U.out;have h4:=y.out;obtain⟨h5,h6,h7,h8⟩:=aC F;go_wp2_with (first|(go_at_call 122;(with_reducible refine(dN.calls a5 E z ((ae a b).f0) ((ae a b).f1) t218 _ bi.out).mono ?_);rintro e h9 ⟨rfl,hb⟩;replace i:=zb i hb;replace n:=zb n hb;replace p:=zb p hb;replace F:=zb F hb;replace m:=zS m hb;(try clear hb)))
              go_ret;exact⟨zE,zB⟩
             ·rw[if_neg ab] at H
              have cj:=ba ab;clear ab;have v:=zA H;clear H;have h_:=O.out;have h':=q.out;have ib:=P.out;have id:=s.out;have ih:=x.out;have ii:=Q.out;obtain⟨im,io,ip,it,iv,i0⟩:=cC p;have i1:=S.out;have i2:=K.out;have i3:=L.out;have i4:=a3.out;obtain⟨i5,i6,i7,i8⟩:=aC n;have i9:=U.out;have jj:=y.out;obtain⟨jp,j1,j3,j_⟩:=aC F;go_wp2_with (first|(go_at_call 122;(with_reducible refine(dN.calls a5 E z ((ae a b).f0) ((ae a b).f1) t218 _ bi.out).mono ?_);rintro e j' ⟨rfl,hb⟩;replace i:=zb i hb;replace n:=zb n hb;replace p:=zb p hb;replace F:=zb F hb;replace m:=zS m hb;(try clear hb);obtain⟨kb,kd,kk,km⟩:=aC F;obtain⟨ks,kt,kv,kw⟩:=aC n))
              go_roundg a5
              case measure=>have:=V.out;have:=W.out;have:=bg.out;omega
              case rel=>exact⟨(wrap64 (b+1)),(((ae a b).f0)),(((ae a b).f1)),zT,v,⟨by have:=V.out;have:=W.out;have:=bg.out;omega⟩,⟨by refine zk ?_;refine aG ?_ K.out _;refine zk ?_;refine aG ?_ K.out _;exact zK i⟩,⟨by refine zk ?_;refine bH (cs:=#[.int .i64 ((ae a b).f0),.int .i64 z]) ?_ 1 _ rfl;refine zk ?_;refine bH (cs:=#[.int .i64 E,.int .i64 z]) ?_ 0 _ rfl;exact zK n⟩,⟨zB⟩⟩
        ·rw[if_neg ao] at H
         exact absurd H (by simp)
       ·rw[if_neg an] at H
        exact absurd H (by simp)
      ·rw[if_neg X] at H
       have bf:=ba X;clear X;obtain rfl:=aX H;go_wp2;go_ret;exact⟨zE,zB⟩
section
attribute [local go_sem] Oper.semAt_some
theorem uS (N:Int) (A0:Option Addr) (c0:Nat) (E:List S83) (w:World):Calls Tryz.prog 85 #[.agg #[.int .i64 N,.slice A0 E.length c0]] w fun e w'=>e= .returned (.func (.func 140) #[] #[.pointer (some ⟨w.heap.size,0,none⟩)])/\w'=w.alloc (.cells #[.int .i64 N,.slice A0 E.length c0] 24):=by
 go_enter Tryz.func85,Tryz.ntmps85
 go_wp2;go_ret;exact⟨rfl,rfl⟩
def fO (s:Nat) (a b:Int):Nat->List (Nat×Int×Int)
 |0=>[]
 |j+1=>fO s a b j++[(s+j,a,b)]
def bu (E:List S83):Nat->List (Nat×Int×Int)
 |0=>[]
 |k+1=>bu E k++fO (cV E k) (ae E k).f0 (ae E k).f1 (ae E k).f2.toNat
theorem qS (s:Nat) (a b:Int):∀j,(fO s a b j).length=j
 |0=>rfl
 |j+1=>by simp[fO,qS s a b j]
theorem nA (E:List S83):∀k,(bu E k).length=cV E k
 |0=>rfl
 |k+1=>by simp[bu,cV,nA E k,qS]
def qT (base:Nat) (X Y:World):Prop:=(base<=X.heap.size->Below base X Y)/\∀(k:Nat) (cs:Array Value) (t:TypeId),(t=24\/t=83)->X.heap[k]? =some (Obj.cells cs t (0,0))->Y.heap[k]? =some (Obj.cells cs t (0,0))
theorem uT (s:Nat) (a b:Int) (j:Nat):∀m,j<m->(s+j,a,b)∈fO s a b m
 |0,h=>by omega
 |m+1,h=>by
  by_cases e:j=m
  ·subst e;exact List.mem_append.2 (.inr (List.mem_singleton.2 rfl))
  ·exact List.mem_append.2 (.inl (uT s a b j m (by omega)))
theorem uU (E:List S83):∀(m k:Nat),∀x∈bu E k,x∈bu E (k+m)
 |0,k,x,a=>a
 |m+1,k,x,a=>List.mem_append.2 (.inl (uU E m k x a))
theorem uV (s:Nat) (a b:Int):∀m,∀x∈fO s a b m,x.2.1=a/\x.2.2=b
 |0,x,e=>by cases e
 |m+1,x,e=>by
  rcases List.mem_append.1 e with e|e
  ·exact uV s a b m x e
  ·obtain rfl:=List.mem_singleton.1 e;exact⟨rfl,rfl⟩
theorem nB (E:List S83):∀k,k<=E.length->∀x∈bu E k,∃e∈E,x.2.1=e.f0/\x.2.2=e.f1
 |0,_,x,a=>by cases a
 |k+1,hk,x,a=>by
  rcases List.mem_append.1 a with a|a
  ·exact nB E k (by omega) x a
  ·have h:=uV _ _ _ _ x a
   have e:ae E k=E[k]:=by simp[ae,aW,bp (show k<E.length by omega)]
   exact⟨ae E k,by rw[e];exact List.getElem_mem _,h.1,h.2⟩
theorem uW (g:Nat) (N:Int) (A0:Option Addr) (c0:Nat) (E:List S83) (w0 W:World) (am:Kd.C aM w0 A0 E.length E) (O:dh E=true) (hB:Below w0.heap.size w0 W)
  (v:W.heap[g]? =some (.cells #[.int .i64 N,.slice A0 E.length c0] 24 (0,0))):
  iF (σ:=Unit) Fence.wide 9 Tryz.prog 140 #[.pointer (some ⟨g,0,none⟩)] (fun x:Nat×Int×Int=>#[.int .i64 x.1,.agg #[.int .i64 x.2.1,.int .i64 x.2.2]]) (fun _ W W1=>W1=W) (fun _ A B=>Below A.heap.size A B) (fun _ x A B=>x∈bu E E.length/\Below A.heap.size A B)
   (fun _ X Y=>qT w0.heap.size X Y)
   (fun _ xs W'=>xs=bu E E.length) (fun _ _ _=>True) (fun pre=>pre.length<2000) W:=by
 intro lp J Jx P Q R S;have ao:=zA P;have bi:=zA Q;have hY:=zA S;have ar:=R () W rfl;clear P Q R S;have hu:=Tryz.underlying24;have bk:=Tryz.underlying83;obtain⟨hlen,hm⟩:=qP O;have aT:=fun i hi=>o9 hm i hi
 have HM:=zA hm;have HS:=zA aT;clear hm aT O;refine callsIn_of_wp Tryz.func140 rfl trivial ?_ rfl;simp only[Tryz.ntmps140,List.size_toArray,List.length_cons,List.length_nil,Nat.reduceAdd,Nat.reduceSub,Array.replicate_succ,Array.replicate_zero,List.push_toArray,List.append_toArray,List.nil_append,List.cons_append];have bl:W.cell? ⟨g,1,none⟩=some (.slice A0 E.length c0):=(ah v 1).trans rfl;have aF:=zA v;clear v;gi_wp2;gi_loopg [3,9] (E.length) (fun w s i wr=>∃k:Nat,i= .int .i64 k/\s= .int .i64 (cV E k:Nat)/\k<=E.length/\Aside0 (J () (bu E k) wr)/\Aside0 (wr.heap[g]? =some (.cells #[.int .i64 N,.slice A0 E.length c0] 24 (0,0)))/\Aside0 (Below w0.heap.size w0 wr)/\Aside0 (w=E.length-k))
 case atStart=>exact⟨0,rfl,rfl,Nat.zero_le _,⟨ar⟩,aF,⟨hB⟩,⟨rfl⟩⟩
 case round=>
  obtain⟨k,rfl,rfl,hk,T,HX,p,HK⟩:=hrel;by_cases aP:k<E.length
  ·have y:=HM.out k aP
   have z:=Lib.hid (show cV E (k+1)=cV E k+(ae E k).f2.toNat from rfl);have D:=Lib.hid (show bu E (k+1)=bu E k++fO (cV E k) (ae E k).f0 (ae E k).f1 (ae E k).f2.toNat from rfl);have aS:=HS.out (k+1) (by omega);have F:=z.out;obtain⟨ad,rfl,l,n,o⟩:=dM am k (by omega) (by omega);rw[aD] at l n o;generalize ae E k=x at y l n o z D F;obtain⟨a,b,m⟩:=x;simp only at y l n o;obtain⟨m,rfl⟩:=Int.eq_ofNat_of_zero_le (show 0<=m by omega);simp only[aD] at F;have bn:cV E k+m<=2000:=by omega
   have bo:m<=50:=by omega
   have bq:(0:Int)<=(k:Int):=by omega
   have bv:(k:Int)<(E.length:Int):=by omega
   have l:=i_ p.out l;have n:=i_ p.out n;have o:=i_ p.out o;have G:=zA (ao.out () _ _ _ T.out (ai (aj wr.heap.size wr) (.cells #[.int .i64 a,.int .i64 b,.int .i64 m] 83)));have H:=zA (aq HX.out (.cells #[.int .i64 a,.int .i64 b,.int .i64 m] 83));have I:=zA (ai p.out (.cells #[.int .i64 a,.int .i64 b,.int .i64 m] 83));have q:=zA (show (wr.alloc (.cells #[.int .i64 a,.int .i64 b,.int .i64 m] 83)).heap[wr.heap.size]? =some (.cells #[.int .i64 a,.int .i64 b,.int .i64 m] 83 (0,0)) from a6 _ _);clear F aS y;gi_wp2;clear l n o;generalize (wr.alloc (.cells #[.int .i64 a,.int .i64 b,.int .i64 m] 83))=W1 at G H I q⊢;generalize wr.heap.size=r at q⊢;gi_loopg [3,15] (m) (fun w s i wi=>∃j:Nat,i= .int .i64 j/\s= .int .i64 (cV E k+j:Nat)/\j<=m/\Aside0 (J () (bu E k++fO (cV E k) a b j) wi)/\Aside0 (wi.heap[g]? =some (.cells #[.int .i64 N,.slice (some ad) E.length c0] 24 (0,0)))/\Aside0 (wi.heap[r]? =some (.cells #[.int .i64 a,.int .i64 b,.int .i64 m] 83 (0,0)))/\Aside0 (Below w0.heap.size w0 wi)/\Aside0 (w=m-j))
   case atStart=>exact⟨0,rfl,rfl,Nat.zero_le _,⟨by simpa [fO] using G.out⟩,H,q,I,⟨rfl⟩⟩
   case round=>
    clear G H I q;obtain⟨j,rfl,rfl,hj,U,V,K,L,a0⟩:=hrel;by_cases a1:j<m
    ·have a2:=nA E k
     have a3:=qS (cV E k) a b j;obtain⟨fn,tmps,b0,b1,M,Z⟩:=hY.out () (bu E k++fO (cV E k) a b j) (cV E k+j,a,b) wr wr U.out ⟨by have h:=uU E (E.length- (k+1)) (k+1) (cV E k+j,a,b) (by rw[D.out];exact List.mem_append.2 (.inr (uT _ _ _ j _ (by rw[aD];exact a1))));rw[show k+1+(E.length- (k+1))=E.length by omega] at h;exact h,aj _ _⟩ (by rw[List.length_append];omega);have a4:=zA Z;simp only[Int.natCast_add] at M;have aa:wr.cell? ⟨r,0,none⟩=some (.int .i64 a):=(ah K.out 0).trans rfl;have ab:wr.cell? ⟨r,1,none⟩=some (.int .i64 b):=(ah K.out 1).trans rfl;clear Z a2 a3;gi_wp2;refine a4.out.mono ?_;rintro e W3 (⟨rfl,ag,u⟩|⟨rfl,ak⟩)
     ·have a5:=zA ag
      have a9:=zA (u.2 g _ _ (.inl rfl) V.out);have bb:=zA (u.2 r _ _ (.inr rfl) K.out);have be:=zA (L.out.trans (u.1 L.out.size));clear ag u M aa ab;gi_wp2;gi_roundg (m- (j+1))
      case measure=>rw[a0.out];omega
      case rel=>exact⟨j+1,by go_num,by go_num,by omega,⟨by simpa [fO] using a5.out⟩,a9,bb,be,⟨rfl⟩⟩
     ·have bf:=zA ak
      clear ak M aa ab;gi_wp2;refine bodyPost_ret (results_none rfl _ _ _) rfl ?_;exact⟨⟨_,rfl⟩,.inr ⟨(),_,trivial,bf.out⟩⟩
    ·obtain rfl:j=m:=by omega
     gi_wp2;gi_roundg (E.length- (k+1))
     case measure=>rw[HK.out];omega
     case rel=>exact⟨k+1,by go_num,by rw[z.out,aD],by omega,⟨by rw[D.out,aD];exact U.out⟩,V,L,⟨rfl⟩⟩
  ·obtain rfl:k=E.length:=by omega
   gi_wp2;go_end0;exact⟨⟨_,rfl⟩,.inl ⟨(),_,rfl,T.out⟩⟩
theorem CH (b:Nat) (N:Int) (A0:Option Addr) (c0:Nat) (E:List S83) (w0 W:World) (g:Kd.C aM w0 A0 E.length E) (h:dh E=true) (i:Below w0.heap.size w0 W)
  (j:W.heap[b]? =some (.cells #[.int .i64 N,.slice A0 E.length c0] 24 (0,0))):
  iF (σ:=Unit) Fence.wide 9 Tryz.prog 140 #[.pointer (some ⟨b,0,none⟩)] (fun x:Nat×Int×Int=>#[.int .i64 x.1,.agg #[.int .i64 x.2.1,.int .i64 x.2.2]]) (fun _ W W1=>W1=W) (fun _ A B=>Below A.heap.size A B) (fun _ _ A B=>Below A.heap.size A B)
   (fun _ X Y=>qT w0.heap.size X Y)
   (fun _ xs W'=>xs=bu E E.length) (fun _ _ _=>True) (fun pre=>pre.length<2000) W:=fun k J Jx l m n o=>uW b N A0 c0 E w0 W g h i j k J Jx (fun s pre A B a e=>l s pre A B a e) (fun s pre A B a e=>m s pre A B a e) n (fun s pre x p W1 a q r=>o s pre x p W1 a q.2 r)
end
end Go.Proofs.YtffdiakgjakngaaGreat.P
namespace Go.Proofs.YtffdiakgjakngaaGreat.P
open Go Go.RowKit
set_option linter.unusedVariables false
set_option linter.unusedSimpArgs false
set_option maxHeartbeats 8000000
set_option maxRecDepth 100000
section
variable {F:Fence} {n:Nat} {P:Program}
theorem uX {σ α:Type} {g:Operand} {ps:Array Tmp} {assign body:Code} {Q:Exit->Act->World->Prop} {a:Act} {w:World}
  (aP:F.round=none) (h1:1<=n) {gf:Nat} {lb:Array Value} (hg:a.eval g= .func (.func gf) #[] lb) (a0:F.fn gf) (eg:∀args w,(callFunc gf args).run P w= .ok (.enter gf args) w)
  {bX:α->Array Value} {Start:σ->World->World->Prop} {M:σ->World->World->Prop} {T:σ->α->World->World->Prop} {z:σ->World->World->Prop} {S Sp:σ->List α->World->Prop} {Bd:List α->Prop}
  (a2:∀o,iF F (n-1) P gf lb bX Start M T z S Sp Bd ((w.alloc (.deferred (some []))).alloc (.loop o))) (a4:∀x,(bX x).size=ps.size)
  (m:σ->Prop) (a5:∀o s W1,Start s ((w.alloc (.deferred (some []))).alloc (.loop o)) W1->m s/\b8 w.heap.size ((w.alloc (.deferred (some []))).alloc (.loop o)) W1)
  (N:∀s A B,m s->M s A B->b8 w.heap.size A B) (a9:∀s x A B,m s->T s x A B->b8 w.heap.size A B)
  (I:σ->List α->World->Prop) (u:Code->σ->List α->World->Prop)
  (bb:∀s pre A B,m s->I s pre A->M s A B->I s pre B) (be:∀c s pre A B,m s->u c s pre A->M s A B->u c s pre B)
  (bf:∀s pre A B,I s pre A->Bk (w.heap.size+1) A B->I s pre B) (bg:∀c s pre A B,u c s pre A->Bk (w.heap.size+1) A B->u c s pre B)
  (bi:∀s A B C D,Bk (w.heap.size+1) A B->z s B C->Bk (w.heap.size+1) C D->z s A D)
  (h0:∀o s W1,Start s ((w.alloc (.deferred (some []))).alloc (.loop o)) W1->I s [] W1) (a₁:α->World->Act) (J:α->World->World)
  (bl:∀x W,b8 w.heap.size W (J x W)) (bn:∀s x A D,z s (J x A) D->z s A D)
  (bo:∀(l:Nat) (x:α) (W:World) (K:Act->World->Prop),K (a₁ x W) (J x W)->
   assign.wpIn (F.inRound l) (n-1-1) P (Exit.then K (fun _ _ _=>False)) {tmps:=(ps.zip (bX x)).foldl (fun t (p,v)=>t.setIfInBounds p v) a.tmps,defers:=[]} W)
  (bq:∀(l:Nat) (s:σ) (pre:List α) (x:α) (L W1 W:World),m s->I s pre L->T s x L W1->Bd pre->Bk (w.heap.size+1) (J x W1) W->body.wpIn (F.inRound l) (n-1-1) P (qR (σ:=σ) w.heap.size (z s) (I s) (fun c=>u c s) (pre++[x]) W) (a₁ x W1) W)
  (bv:∀(s:σ) (xs:List α) (W W':World),m s->S s xs W->I s xs W->Bk (w.heap.size+1) W W'->W'.heap[w.heap.size]? =some (.deferred (some []))->Q .normal {a with defers:={target:=.collected w.heap.size,args:=#[]}::a.defers} W')
  (bw:∀(c:Code) (s:σ) (pre:List α) (W W':World),m s->Sp s pre W->u c s pre W->Bk (w.heap.size+1) W W'->W'.heap[w.heap.size]? =some (.deferred (some []))->c.wpIn F n P Q {a with defers:={target:=.collected w.heap.size,args:=#[]}::a.defers} W'):
  (Code.rangeFunc g ps assign body).wpIn F n P Q a w:=by
 refine wpIn_rangeFunc ?_;intro fn bx;rw[aP];obtain⟨rec,q⟩:∃rec:LoopState->Option Code->Loop,rec=fun st pe=>{state:=st,pending:=pe,fn,tmps:=a.tmps,params:=ps,assign,body,defers:=w.heap.size}:=⟨_,rfl⟩
 obtain⟨W1,E⟩:∃W1,(w.alloc (.deferred (some []))).alloc (.loop (rec .ready none))=W1:=⟨_,rfl⟩;have b1:W1.heap[w.heap.size+1]? =some (.loop (rec .ready none)):=by
  rw[<-E];have:=World.alloc_heap_new (w.alloc (.deferred (some []))) (.loop (rec .ready none));rwa [World.size_alloc] at this
 have b2:W1.heap[w.heap.size]? =some (.deferred (some [])):=by
  rw[<-E];exact(Below.heap_alloc _ _ _ (by simp)).trans (World.alloc_heap_new w _)
 refine⟨w.heap.size+1,[{target:=.collected w.heap.size,args:=#[]}],W1,{target:=.fn (.func gf) lb,args:=#[.func (.yield (w.heap.size+1)) #[] #[]]},W1,gf,
  #[.func (.yield (w.heap.size+1)) #[] #[]]++lb,W1,?_,?_,?_,?_,fun _=>h1,?_⟩
 ·rw[<-E,q];exact run_enterLoop_outer _ _ _ _ _
 ·simp only[resolve,hg]
  simp[go_sem]
 ·intro f' av;simp[Target.leads] at av;subst av;exact a0
 ·simp[invoke,go_sem,eg]
 ·have hs:=a2 (rec .ready none)
  rw[E] at hs;have ld:∀{A B:World} {r:Loop},b8 w.heap.size A B->A.heap[w.heap.size+1]? =some (.loop r)->B.heap[w.heap.size+1]? =some (.loop r):=fun h U=>h _ _ (by omega) (by omega) U rfl
  have G:∀{A B:World},b8 w.heap.size A B->A.heap[w.heap.size]? =some (.deferred (some []))->B.heap[w.heap.size]? =some (.deferred (some [])):=fun h U=>h _ _ (by omega) (by omega) U rfl
  refine(hs (w.heap.size+1)
   (fun s pre W=>m s/\I s pre W/\W.heap[w.heap.size+1]? =some (.loop (rec .ready none))/\W.heap[w.heap.size]? =some (.deferred (some [])))
   (fun s pre W=>m s/\∃c,u c s pre W/\W.heap[w.heap.size+1]? =some (.loop (rec .done (some c)))/\W.heap[w.heap.size]? =some (.deferred (some [])))
   (fun s pre A B h j=>⟨h.1,bb s pre A B h.1 h.2.1 j,ld (N s A B h.1 j) h.2.2.1,G (N s A B h.1 j) h.2.2.2⟩)
   (fun s pre A B h j=>by
    obtain⟨i,c,hc,b,hk⟩:=h;exact⟨i,c,be c s pre A B i hc j,ld (N s A B i j) b,G (N s A B i j) hk⟩)
   (fun s W2 j=>by
    rw[<-E] at j;have hk:=a5 (rec .ready none) s W2 j;have y:=hk.2;rw[E] at y;exact⟨hk.1,h0 _ s W2 j,ld y b1,G y b2⟩)
   ?_).mono ?_
  ·rintro s pre x L W ⟨i,hi,aF,aL⟩ V b4
   have y:=a9 s x L W i V;have b:=ld y aF;have hk:=G y aL;have X:=run_yield (P:=P) (args:=bX x) b (by rw[q];exact a4 x);rw[q] at X;obtain⟨Y,b5⟩:∃Y,Y=W:=⟨_,rfl⟩;have O:=bl x W;have b:=ld O b;have hk:=G O hk;have Z:=fun D=>bn s x W D
   have aa:=bq (w.heap.size+1) s pre x L W;have ab:=bo (w.heap.size+1) x W;clear y aF aL;rw[<-b5] at X ab Z aa b hk O V⊢;generalize cd:J x Y=W at b hk O Z aa ab;have b6:w.heap.size+1<W.heap.size:=(Array.getElem?_eq_some_iff.1 b).1;have aO:Bk (w.heap.size+1) W (W.putObj (w.heap.size+1) (.loop {rec .ready none with state:=.busy})):=⟨_,_,b,rfl,rfl⟩;refine⟨fn,_,assign,body,X,roundIn_of_wpIn bx (ab _ ⟨_,run_beginRound b (by rw[q]),?_⟩)⟩;have b_:(W.putObj (w.heap.size+1) (.loop {rec .ready none with state:=.busy})).heap[w.heap.size+1]? =some (.loop {rec .ready none with state:=.busy}):=World.putObj_heap_same b6;have b':(W.putObj (w.heap.size+1) (.loop {rec .ready none with state:=.busy})).heap[w.heap.size]? =some (.deferred (some [])):=(World.putObj_heap_other (by omega)).trans hk;refine wpIn_mono (aa _ i hi V b4 aO) ?_;have fin:∀(jump:Option Code) (k:World),b8 w.heap.size (W.putObj (w.heap.size+1) (.loop {rec .ready none with state:=.busy})) k->
     (Instr.endRound (w.heap.size+1) jump).run P k= .ok (.bool jump.isNone) (k.putObj (w.heap.size+1) (.loop (rec (if jump.isNone then .ready else .done) jump)))/\
     Bk (w.heap.size+1) k (k.putObj (w.heap.size+1) (.loop (rec (if jump.isNone then .ready else .done) jump)))/\
     (k.putObj (w.heap.size+1) (.loop (rec (if jump.isNone then .ready else .done) jump))).heap[w.heap.size+1]? =some (.loop (rec (if jump.isNone then .ready else .done) jump))/\
     (k.putObj (w.heap.size+1) (.loop (rec (if jump.isNone then .ready else .done) jump))).heap[w.heap.size]? =some (.deferred (some [])):=fun jump k H=>by
    have ad:=ld H b_;have:=run_endRound (P:=P) jump ad;rw[q] at this⊢;exact⟨this,⟨_,_,ad,rfl,rfl⟩,World.putObj_heap_same (Array.getElem?_eq_some_iff.1 ad).1,(World.putObj_heap_other (by omega)).trans (G H b')⟩
   rintro e a3 k hp;cases e with
   |normal=>
    obtain⟨H,ca,ag⟩:=hp;obtain⟨hr,R,am,an⟩:=fin none k H;exact⟨_,_,hr,.inl ⟨rfl,⟨i,bf s _ _ _ ag R,am,an⟩,Z _ (bi s _ _ _ _ aO ca R)⟩⟩
   |ret=>
    obtain⟨H,ag⟩:=hp;obtain⟨hr,R,am,an⟩:=fin (some .ret) k H;exact⟨_,_,hr,.inr ⟨rfl,i,.ret,bg _ s _ _ _ ag R,am,an⟩⟩
   |exit id=>exact hp.elim
   |goto t=>exact hp.elim
   |panic ch=>exact hp.elim
   |outgrown=>exact hp.elim
  ·rintro e W2 ⟨⟨v,rfl⟩,(⟨s,xs,hS,i,hi,b,hk⟩|⟨s,pre,cb,i,c,hi,b,hk⟩)⟩
   ·exact⟨none,_,by have:=run_endLoop (P:=P) b (by rw[q];simp);rw[q] at this;exact this,bv s xs W2 _ i hS hi ⟨_,_,b,rfl,rfl⟩ ((World.putObj_heap_other (by omega)).trans hk)⟩
   ·exact⟨some c,_,by have:=run_endLoop (P:=P) b (by rw[q];simp);rw[q] at this;exact this,bw c s pre W2 _ i cb hi ⟨_,_,b,rfl,rfl⟩ ((World.putObj_heap_other (by omega)).trans hk)⟩
end
end Go.Proofs.YtffdiakgjakngaaGreat.P
namespace Go.Proofs.YtffdiakgjakngaaGreat.P
open Go.RowKit Go.Proofs.YtffdiakgjakngaaGreatW.PrintWords Go.Proofs.YtffdiakgjakngaaGreatW.PrintLast Go.Proofs.YtffdiakgjakngaaGreatW.PrintMore
set_option linter.unusedVariables false
set_option linter.unusedSimpArgs false
set_option maxHeartbeats 8000000
set_option maxRecDepth 100000
section
attribute [local go_sem] Oper.semAt_some
def fA (xs:List (Nat×Int×Int)):List (List Value):=xs.map fun x=>[.int .i64 x.2.1,.int .i64 x.2.2]
theorem qU (k:Nat) (N:Int) (A0:Option Addr) (c0:Nat) (E:List S83) (w:World) (U:Kd.C aM w A0 E.length E) (an:E.length<=c0) (m:a7.f k N E=some 0) (V:dh E=true):
  Calls Tryz.prog 178 #[.agg #[.int .i64 N,.slice A0 E.length c0]] w fun e w'=>∃v,e= .returned (.tuple #[v,.int .i64 0])/\(Kd.raw 2).R 205 w' w.heap.size (fun _=>True) v (fA (bu E E.length))/\Below w.heap.size w w':=by
 have hu:=Tryz.underlying24;have Ht:=zA m;have HE:=zA V;clear m V;refine(callsIn_wide (n:=10)).1 ?_;refine callsIn_of_wp_marks Tryz.func178 rfl trivial ?_ rfl;simp only[Tryz.ntmps178,List.size_toArray,List.length_cons,List.length_nil,Nat.reduceAdd,Nat.reduceSub,Array.replicate_succ,Array.replicate_zero,List.push_toArray,List.append_toArray,List.nil_append,List.cons_append];gi_wp2_with (first|(refine⟨trivial,?_⟩;gi_at_call 64;refine(callsIn_wide.2 (a7.calls k N A0 c0 E 0 _ (Kd.bC U _) an Ht.out)).mono ?_;rintro e w1 ⟨rfl,hb⟩;have u:=zA (az (a6 w (.cells #[.int .i64 N,.slice A0 E.length c0] 24)) hb);have av:w1.cell? ⟨w.heap.size,0,none⟩=some (.int .i64 N):=(ah u.out 0).trans rfl;have aB:w1.cell? ⟨w.heap.size,1,none⟩=some (.slice A0 E.length c0):=(ah u.out 1).trans rfl;have aF:(w1.alloc (.cells #[.slice none 0 0] 156)).cell? ⟨w.heap.size,0,none⟩=some (.int .i64 N):=(ah (aq u.out _) 0).trans rfl;have aL:(w1.alloc (.cells #[.slice none 0 0] 156)).cell? ⟨w.heap.size,1,none⟩=some (.slice A0 E.length c0):=(ah (aq u.out _) 1).trans rfl;have X:=zA (aQ (ai (aj w.heap.size w) _) hb);clear hb)|(refine⟨trivial,?_⟩;gi_at_call 85;refine(callsIn_wide.2 (uS N A0 c0 E _)).mono ?_;rintro e w3 ⟨rfl,rfl⟩))
 have aO:w.heap.size<w1.heap.size:=ay u.out;have G:=zA (show ((w1.alloc (.cells #[.slice none 0 0] 156)).alloc (.cells #[.int .i64 N,.slice A0 E.length c0] 24)).heap[w1.heap.size]? =some (.cells #[.slice none 0 0] 156 (0,0)) from aq (a6 w1 _) _);have I:=zA (show ((w1.alloc (.cells #[.slice none 0 0] 156)).alloc (.cells #[.int .i64 N,.slice A0 E.length c0] 24)).heap[w1.heap.size+1]? =some (.cells #[.int .i64 N,.slice A0 E.length c0] 24 (0,0)) from heap_alloc2_new w1 _ _);have J:=zA (ai (ai X.out (.cells #[.slice none 0 0] 156)) (.cells #[.int .i64 N,.slice A0 E.length c0] 24));clear av aB aF aL u X;generalize ((w1.alloc (.cells #[.slice none 0 0] 156)).alloc (.cells #[.int .i64 N,.slice A0 E.length c0] 24))=y at G I J⊢;have aP:=ay G.out;have aS:=ay I.out;generalize a0:w1.heap.size+1=Y at I aS⊢;generalize w1.heap.size=bo at G aO aP a0⊢;have bi:=J.out.size;refine uX (σ:=Unit) (α:=Nat×Int×Int) (F:=Fence.wide) (n:=10) rfl (by decide) (gf:=140) (lb:=#[.pointer (some ⟨Y,0,none⟩)]) rfl trivial (enters_of Tryz.func140 (by kernel_rfl) rfl)
  (fun o=>CH Y N A0 c0 E w _ U HE.out (ai (ai J.out _) _) (aq (aq I.out _) _)) (fun _=>rfl)
  (fun _=>True) ?dH ?st ?ar
  (fun _ pre W=>y.heap.size<=W.heap.size/\∃v,W.heap[bo]? =some (.cells #[v] 156 (0,0))/\(Kd.raw 2).R 205 W w.heap.size (fun _=>True) v (fA pre)/\Below w.heap.size w W) (fun _ _ _ _=>False)
  ?is (fun _ _ _ _ _ _ h _=>h) ?ib (fun _ _ _ _ _ h _=>h) ?kt ?h0 ?a1 (fun x W=>W.alloc (.cells #[.int .i64 x.2.1,.int .i64 x.2.2] 116)) ?hw ?tn ?assign ?body ?done (fun _ _ _ _ _ _ _ h=>h.elim)
 case assign=>
  intro l x W K hK;gi_wp2;exact hK
 case dH=>
  intro o s W1 h;exact⟨trivial,by rw[h];exact b8.refl _ _⟩
 case st=>intro s A B _ h k o h1 z g _;exact(h.block k (Array.getElem?_eq_some_iff.1 g).1).trans g
 case ar=>intro s x A B _ h k o h1 z g _;exact(h.block k (Array.getElem?_eq_some_iff.1 g).1).trans g
 case hw=>intro x W k o h1 z g _;exact aq g _
 case tn=>
  intro s x A D h;exact⟨fun aT=>((aj w.heap.size A).alloc aT _).trans (h.1 (by simp;omega)),fun k cs t m hk=>h.2 k cs t m (aq hk _)⟩
 case is=>
  rintro s pre A B _ ⟨r,v,h1,z,g⟩ L;exact⟨Nat.le_trans r L.size,v,az h1 L,Kd.cz z L,aQ g L⟩
 case ib=>
  rintro s pre A B ⟨r,v,h1,z,g⟩ hb;exact⟨by rw[hb.size];exact r,v,hb.cells h1,cQ z hb,g.trans (hb.below w.heap.size (by omega))⟩
 case kt=>
  intro s A B C D P Z aa;exact⟨fun aT=>((P.below w.heap.size (by omega)).trans (Z.1 (by rw[P.size];exact aT))).trans (aa.below w.heap.size (by omega)),fun k cs t m hk=>aa.cells (Z.2 k cs t m (P.cells hk))⟩
 case h0=>
  rintro o s W1 rfl;exact⟨by simp;omega,_,aq (aq G.out _) _,Kd.df _ _ _ _ _,ai (ai J.out _) _⟩
 case body=>
  rintro l s pre ⟨i,a,b⟩ Wb W1 W _ ⟨r,v,i1,i2,i3⟩ H bl j;have c1:=az i1 H;have c2:=Kd.cz i2 H;have c3:=aQ i3 H;have a3:y.heap.size<=W1.heap.size:=Nat.le_trans r H.size;have p:=zA (j.cells (aq c1 (.cells #[.int .i64 a,.int .i64 b] 116)));have q:=zA (cQ (Kd.aK c2 (.cells #[.int .i64 a,.int .i64 b] 116)) j);have b3:=zA ((ai c3 (.cells #[.int .i64 a,.int .i64 b] 116)).trans (j.below w.heap.size (by omega)));have b4:=zA (j.cells (a6 W1 (.cells #[.int .i64 a,.int .i64 b] 116)));have aT:W.heap.size=W1.heap.size+1:=by rw[j.size];simp
  have bn:y.heap.size<=W.heap.size:=by omega
  clear i1 i2 i3 H j c1 c2 c3 aT a3 r;generalize W1.heap.size=pb at b4⊢;obtain⟨Ar,cr,rfl⟩:=Kd.bh q.out;have ad:(fA pre).length=pre.length:=by simp[fA]
  rw[ad] at p q;have hc:=dc p.out;have hf:=bE p.out 0;have bv:W.cell? ⟨pb,0,none⟩=some (.int .i64 a):=(ah b4.out 0).trans rfl;have bw:W.cell? ⟨pb,1,none⟩=some (.int .i64 b):=(ah b4.out 1).trans rfl;have LN:Aside0 (((fA pre).length+1)*16<=140737488355328):=⟨by rw[ad];omega⟩;have b0:=Tryz.underlying116;gi_wp2_with (gi_at_builtin;go_loud (refine kB (Kd.raw 2) (w0:=w) w.heap.size rfl (.tmp 17) (.tmp 23) 156 205 (.agg #[.int .i64 0,.int .i64 0]) 16 rfl Tryz.underlying156 uM rfl (by decide) (by omega) _ _ [.int .i64 a,.int .i64 b] [.int .i64 a,.int .i64 b] (fun _=>True) (fun _=>False) rfl rfl ⟨rfl,rfl,by simp[Value.oneCell']⟩ (fun _ hk=>hk.elim) (fun _ _=>trivial) q.out b3.out b3.out.size LN.out ?_;intro v1 b5 Q hb S a9;obtain⟨T,c1,rfl⟩:=Kd.bh Q;have M:=zA ((S.block bo (ay p.out) (Kd.dm q.out p.out (by decide))).trans p.out);have b6:=dc M.out;have b_:=bE M.out 0;have bb:=zA Q;have be:=zA hb;have O:=zA S;clear Q hb S a9))
  have bf:(fA pre++[[Value.int .i64 a,Value.int .i64 b]]).length=pre.length+1:=by simp[fA]
  refine⟨(nz q.out O.out).trans (eU _ _ (ay G.out)),⟨fun aT=>Below.setCell ((aj w.heap.size W).grown O.out aT (Kd.dK q.out)) (by show w.heap.size<=bo;omega) _,fun k cs t m hk=>?_⟩,by have:=O.out.size;simp;omega,.slice T (pre.length+1) c1,by simpa using bV M.out 0 (.slice T (pre.length+1) c1),?_,eK be.out (by show w.heap.size<=bo;omega)⟩
  ·have bg:k≠bo:=by
    rintro rfl;have h1:=hk.symm.trans p.out;injection h1 with h1
    injection h1 with _ h1 _
    rcases m with rfl|rfl<;>exact absurd h1 (by decide)
   rw[Below.heap_setCell _ _ _ _ bg];exact(O.out.block k (ay hk) (Kd.dm q.out hk (by rcases m with rfl|rfl<;>decide))).trans hk
  ·have h:=Kd.fg bb.out M.out (by decide) 0 (.slice T (pre.length+1) c1)
   rw[bf] at h;simpa [fA] using h
 case done=>
  rintro s xs W W' _ rfl ⟨r,v,i1,i2,i3⟩ j ag;have p:=zA (j.cells i1);have q:=zA (cQ i2 j);have b3:=zA (i3.trans (j.below w.heap.size (by omega)));have ak:=zA ag;clear i1 i2 i3 ag;have hc:=dc p.out;gi_wp2_with fail
  have am:Bk y.heap.size W' (W'.putObj y.heap.size (.deferred none)):=⟨_,_,ak.out,rfl,rfl⟩;exact iG (D:=y.heap.size) rfl ak.out (results_tmp2 rfl _ _ _) ⟨_,rfl,cQ q.out am,b3.out.trans (am.below w.heap.size (by omega))⟩
end
section
theorem nC (L:List (Nat×Int×Int)):(fA L).length=L.length:=by simp[fA]
theorem uY {s:Nat} {a b:Int}:∀{j:Nat} {x:Nat×Int×Int},x∈fO s a b j->x.2.1=a/\x.2.2=b
 |0,x,h=>absurd h (by simp[fO])
 |j+1,x,h=>by
  simp only[fO,List.mem_append,List.mem_singleton] at h;rcases h with h|rfl
  ·exact uY h
  ·exact⟨rfl,rfl⟩
theorem uZ {n:Nat} {E:List S83} (h:∀k,k<E.length->0<=(ae E k).f0/\(ae E k).f0<n/\0<=(ae E k).f1/\(ae E k).f1<n/\1<=(ae E k).f2/\(ae E k).f2<=50):
  ∀k,k<=E.length->∀x∈bu E k,0<=x.2.1/\x.2.1<n/\0<=x.2.2/\x.2.2<n
 |0,_=>fun x a=>absurd a (by simp[bu])
 |k+1,hk=>fun x a=>by
  simp only[bu,List.mem_append] at a;rcases a with a|a
  ·exact uZ h k (by omega) x a
  ·obtain⟨h1,b⟩:=uY a
   have:=h k (by omega);omega
theorem CI {n:Nat} {E:List S83} (h:∀k,k<E.length->0<=(ae E k).f0/\(ae E k).f0<n/\0<=(ae E k).f1/\(ae E k).f1<n/\1<=(ae E k).f2/\(ae E k).f2<=50):
  ∀x∈bu E E.length,0<=x.2.1/\x.2.1<n/\0<=x.2.2/\x.2.2<n:=uZ h _ (aI _)
theorem u_ {E:List S83} (h:dh E=true):(bu E E.length).length<=2000:=by
 obtain⟨h1,a⟩:=qP h;have:=o9 a E.length (aI _);rw[nA];omega
def jg (l:List Int) (v:Nat):List Int:=l.set v (rd l v+1)
def iq (l:List Int) (x:Nat×Int×Int):List Int:=if x.2.1=x.2.2 then l else jg (jg l x.2.1.toNat) x.2.2.toNat
def dO (n:Nat) (L:List (Nat×Int×Int)) (k:Nat):List Int:=(L.take k).foldl iq (List.replicate n 0)
theorem CJ (l:List Int) (v:Nat):(jg l v).length=l.length:=by simp[jg]
theorem CK (l:List Int) (x:Nat×Int×Int):(iq l x).length=l.length:=by
 unfold iq;split<;>simp[CJ]
theorem u':∀(L:List (Nat×Int×Int)) (l:List Int),(L.foldl iq l).length=l.length
 |[],l=>rfl
 |x::L,l=>by rw[List.foldl_cons,u' L,CK]
theorem ve (n:Nat) (L:List (Nat×Int×Int)) (k:Nat):(dO n L k).length=n:=by simp[dO,u']
theorem CL (n:Nat) (L:List (Nat×Int×Int)) (k:Nat) (hk:k<L.length):dO n L (k+1)=iq (dO n L k) L[k]:=by
 unfold dO;rw[List.take_succ_eq_append_getElem hk,List.foldl_append];rfl
theorem CM {l:List Int} {v:Nat} {B:Int} {x:Int} (h:∀i:Nat,0<=rd l i/\rd l i<=B) (a:0<=x/\x<=B+1) (i:Nat):0<=rd (l.set v x) i/\rd (l.set v x) i<=B+1:=by
 have hi:=h i;simp only[rd,aD,aW,List.getElem?_set] at hi⊢;split
 ·split
  ·simpa using a
  ·simp;omega
 ·omega
theorem qV {l:List Int} {v:Nat} {B:Int} (h:∀i:Nat,0<=rd l i/\rd l i<=B) (i:Nat):0<=rd (jg l v) i/\rd (jg l v) i<=B+1:=
 CM h (by have:=h v;omega) i
theorem CN {l:List Int} {x:Nat×Int×Int} {B:Int} (h:∀i:Nat,0<=rd l i/\rd l i<=B) (i:Nat):0<=rd (iq l x) i/\rd (iq l x) i<=B+2:=by
 unfold iq;split
 ·have:=h i;omega
 ·have:=qV (v:=x.2.2.toNat) (qV (v:=x.2.1.toNat) h) i;omega
theorem vf:∀(L:List (Nat×Int×Int)) (l:List Int) (B:Int),(∀i:Nat,0<=rd l i/\rd l i<=B)->∀i:Nat,0<=rd (L.foldl iq l) i/\rd (L.foldl iq l) i<=B+2*L.length
 |[],l,B,h=>fun i=>by have:=h i;simpa using this
 |x::L,l,B,h=>fun i=>by
  have:=vf L (iq l x) (B+2) (CN h) i;simp only[List.foldl_cons,List.length_cons];omega
theorem vg (n:Nat) (L:List (Nat×Int×Int)) (k:Nat) (i:Nat):0<=rd (dO n L k) i/\rd (dO n L k) i<=2*L.length:=by
 have h:=vf (L.take k) (List.replicate n 0) 0 (fun i=>by simp[rd,aW,List.getElem?_replicate];split<;>simp) i;have a:(L.take k).length<=L.length:=by simp;omega
 unfold dO;omega
theorem CO {W:World} {gb n:Nat} {ok:Nat->Prop} {g0 len cap:Nat} {rows:List (List Int)} (h:Kd.S (Kd.slice 3 (Kd.int .i64)) 25 W gb ok (.slice (some ⟨g0,0,none⟩) len cap) rows) (s:rows.length=len) (m:∀y∈rows,y.length=n) (a b:Nat) (C:a<len) (hb:b<n):
  ∃(gi ci:Nat) (z:Int),W.cell? ⟨g0,a,none⟩=some (.slice (some ⟨gi,0,none⟩) n ci)/\W.cell? ⟨gi,b,none⟩=some (.int .i64 z)/\W.frozen? ⟨gi,b,none⟩=false/\ok gi/\gb<=gi/\(∃cells,W.heap[gi]? =some (.cells cells 3 (0,0)))/\
   ∀x:Int,∃i:List (List Int),i.length=len/\(∀y∈i,y.length=n)/\Kd.S (Kd.slice 3 (Kd.int .i64)) 25 (W.setCell ⟨gi,b,none⟩ (.int .i64 x)) gb ok (.slice (some ⟨g0,0,none⟩) len cap) i:=by
 obtain⟨oki,c,D,⟨ev,rfl,g⟩,j,u,l⟩:=Kd.Bv h [] (a:Int) (by omega) (by omega);rw[aD] at g j l;have o:(rows.getD a []).length=n:=by
  rw[aW,bp (by omega)];exact m _ (List.getElem_mem (by omega))
 obtain⟨gi,ci,rfl,v,E,cells,w⟩:=Kd.gC g (by omega);rw[o] at g l j;obtain⟨p,q⟩:=Kd.bP (0:Int) g (b:Int) (by omega) (by omega);rw[aD] at p q;have r:=j 0 _ rfl;refine⟨gi,ci,_,?_,p,q,(u gi (g.1 gi rfl)).1,v,⟨cells,w⟩,fun x=>⟨rows.set a ((rows.getD a []).set b x),by simp[s],?_,?_⟩⟩
 ·rw[show (⟨g0,0,none⟩:Addr).add (a*(Kd.slice 3 (Kd.int .i64)).sz+0)=⟨g0,a,none⟩ from by simp[Kd.slice,Addr.add];intro e;exact e.symm] at r
  exact r
 ·intro y B
  rcases List.mem_or_eq_of_mem_set B with h1|h1
  ·exact m y h1
  ·subst h1;simpa using o
 ·have hp:=Kd.dg g (b:Int) x
  rw[aD] at hp;exact l hp.2 (fun k hk=>by cases hk;exact g.1 gi rfl) ⟨_,rfl,hp.1⟩
theorem vh {w:World} {A:Option Addr} {n:Nat} {L:List (Nat×Int×Int)} (h:Kd.C (Kd.raw 2) w A n (fA L)) (j:Nat) (m:j<n) (i:j<L.length):∃ad,A=some ad/\w.cell? (ad.add (j*2))=some (.int .i64 L[j].2.1)/\w.cell? ⟨(ad.add (j*2)).block,(ad.add (j*2)).off+1,none⟩=some (.int .i64 L[j].2.2):=by
 obtain⟨ad,c,e,_,a,b⟩:=Kd.qi h [] (j:Int) (by omega) (by omega);rw[aD] at a b;have l:(fA L).getD j []=[.int .i64 L[j].2.1,.int .i64 L[j].2.2]:=by
  rw[aW,bp (by simpa [fA] using i)];simp[fA]
 rw[l] at a;obtain rfl:=a.1;have g:∀k u,[Value.int .i64 L[j].2.1,.int .i64 L[j].2.2][k]? =some u->w.cell? (ad.add (j*2+k))=some u:=b;exact⟨ad,e,g 0 _ rfl,by rw[<-qf _ _ 1 (by omega)];exact g 1 _ rfl⟩
structure PS (w:World) (gb n gp bv g0 cr:Nat) (q:Int) (dv:Value) (dl:List Int) (ev:Value) (L:List (Nat×Int×Int)) (W:World) (rows:List (List Int)) (vl:List Int):Prop where
 len:rows.length=n
 all:∀y∈rows,y.length=n
 jh:cU W gp dv q (.slice (some ⟨g0,0,none⟩) n cr) (.slice (some ⟨bv,0,none⟩) n n) (fun _=>false)
 d:(Kd.int .i64).R 3 W gb (fun k=>k≠bv) dv dl
 val:(Kd.int .i64).R 3 W gb (fun k=>some k≠dv.ownBlock) (.slice (some ⟨bv,0,none⟩) n n) vl
 rows:Kd.S (Kd.slice 3 (Kd.int .i64)) 25 W gb (fun k=>some k≠dv.ownBlock/\k≠bv) (.slice (some ⟨g0,0,none⟩) n cr) rows
 ends:(Kd.raw 2).R 205 W gb (fun _=>True) ev (fA L)
 below:Below gb w W
namespace PS
variable {w:World} {gb n gp bv g0 cr:Nat} {q:Int} {dv:Value} {dl:List Int} {ev:Value} {L:List (Nat×Int×Int)} {W:World} {rows:List (List Int)} {vl:List Int}
theorem drewN (h:PS w gb n gp bv g0 cr q dv dl ev L W rows vl) (m:Nat):PS w gb n gp bv g0 cr q dv dl ev L (W.drewN m) rows vl:=
 ⟨h.len,h.all,h.jh,Kd.bJ h.d m,Kd.bJ h.val m,Kd.Bj h.rows m,Kd.bJ h.ends m,bU h.below m⟩
theorem row (h:PS w gb n gp bv g0 cr q dv dl ev L W rows vl) (a b:Nat) (k:a<n) (hb:b<n):∃(gi ci:Nat) (z:Int),W.cell? ⟨g0,a,none⟩=some (.slice (some ⟨gi,0,none⟩) n ci)/\W.cell? ⟨gi,b,none⟩=some (.int .i64 z)/\W.frozen? ⟨gi,b,none⟩=false/\
  ∀x:Int,∃g,PS w gb n gp bv g0 cr q dv dl ev L (W.setCell ⟨gi,b,none⟩ (.int .i64 x)) g vl:=by
 obtain⟨gi,ci,z,h1,l,m,⟨o,p⟩,r,⟨cells,j⟩,s⟩:=CO h.rows h.len h.all a b k hb;refine⟨gi,ci,z,h1,l,m,fun x=>?_⟩;obtain⟨g,l1,l2,u⟩:=s x;have i:W.grownBy (W.setCell ⟨gi,b,none⟩ (.int .i64 x)) (some gi):=uI (aj _ _);refine⟨g,l1,l2,h.jh.grown i (fun e=>?_),Kd.jd h.d rfl i o,Kd.jd h.val rfl i (fun e=>p (by simpa [Value.ownBlock] using e)),u,Kd.fg h.ends j (by decide) _ _,Below.setCell h.below r _⟩;obtain⟨cs,hp,_⟩:=h.jh;injection e with e
 subst e;rw[j] at hp;injection hp with hp
 injection hp with _ hp _
 exact absurd hp (by decide)
theorem vi (h:PS w gb n gp bv g0 cr q dv dl ev L W rows vl) (a:Nat) (j:a<n):W.cell? ⟨bv,a,none⟩=some (.int .i64 (rd vl a))/\W.frozen? ⟨bv,a,none⟩=false/\
  ∀x:Int,PS w gb n gp bv g0 cr q dv dl ev L (W.setCell ⟨bv,a,none⟩ (.int .i64 x)) rows (vl.set a x):=by
 obtain⟨h1,i⟩:=Kd.bP (0:Int) h.val (a:Int) (by omega) (by omega);rw[aD] at h1 i;obtain⟨cells,hb⟩:=Kd.f_ h.val bv rfl;refine⟨h1,i,fun x=>?_⟩;have hp:=Kd.dg h.val (a:Int) x;rw[aD] at hp;have g:=hp.2;refine⟨h.len,h.all,h.jh.grown g (fun e=>?_),Kd.jd h.d rfl g (fun e=>h.d.1 bv e.symm rfl),hp.1,Kd.tX h.rows g (fun k hk e=>hk.2 (by injection e)),Kd.fg h.ends hb (by decide) _ _,Below.setCell h.below (Kd.dK h.val bv rfl) _⟩;obtain⟨cs,b,_⟩:=h.jh;injection e with e
 subst e;rw[hb] at b;injection b with b
 injection b with _ b _
 exact absurd b (by decide)
end PS
def gF (n:Nat) (E:List S83):List Int:=dO n (bu E E.length) (bu E E.length).length
theorem CP (g v n:Nat) (q:Int) (a b:Option Addr) (cd h:Nat) (dl vl:List Int) (rows:Value) (waits:Nat->Bool) (w:World) (i:v<12) (k:v<dl.length) (l:vl.length=n) (m:v<n)
  (hw:cU w g (.slice a dl.length cd) q rows (.slice b n h) waits) (hd:Kd.C (Kd.int .i64) w a dl.length dl) (o:Kd.C (Kd.int .i64) w b n vl):
  Calls Tryz.prog 218 #[.pointer (some ⟨g,0,none⟩),.int .i64 v] w fun e w'=>e= .returned (.tuple #[])/\cU w' g (.slice a dl.length cd) q rows (.slice b n h) (fun j=>if j=v then je q vl dl v else waits j)/\w.grownBy w' (some g):=by
 subst l;exact Co g v q a b cd h dl vl rows waits w i k m hw hd o
theorem CQ (q:Int) (vl dl:List Int) (v:Nat):(fun j=>if j=v then je q vl dl v else(if j<v then je q vl dl j else false))=fun j=>if j<v+1 then je q vl dl j else false:=by
 funext j
 by_cases e:j=v
 ·subst e;simp
 ·by_cases h:j<v
  ·rw[if_neg e,if_pos h,if_pos (by omega)]
  ·rw[if_neg e,if_neg h,if_neg (by omega)]
end
end Go.Proofs.YtffdiakgjakngaaGreat.P


namespace Go.Proofs.YtffdiakgjakngaaGreat.P
open Go.RowKit Go.Proofs.YtffdiakgjakngaaGreatW.PrintWords Go.Proofs.YtffdiakgjakngaaGreatW.PrintLast Go.Proofs.YtffdiakgjakngaaGreatW.PrintMore
set_option linter.unusedVariables false
set_option linter.unusedSimpArgs false
set_option maxHeartbeats 8000000
set_option maxRecDepth 100000
theorem lG (t:TypeId) (g:Tryz.prog.underlying t=some (.slice 3)) (n:Nat) (hn:n<=1000):∃zs:Array Value,(∀W:World,(Instr.makeSlice t (.int .i64 n) (.int .i64 n)).run Tryz.prog W= .ok (.slice (some ⟨W.heap.size,0,none⟩) n n) (W.alloc (.cells zs 3)))/\
  ∀(W:World) (ok:Nat->Prop),ok W.heap.size->(Kd.int .i64).R 3 (W.alloc (.cells zs 3)) W.heap.size ok (.slice (some ⟨W.heap.size,0,none⟩) n n) (List.replicate n 0):=by
 obtain⟨i0,hi,b⟩:=Option.map_eq_some_iff.1 il;simp only[Prod.mk.injEq] at b;obtain⟨i,j,l⟩:=b;refine⟨madeCells (Value.int .i64 0).cells (n*1),fun W=>?_,fun W ok m=>⟨fun k hk=>?_,(madeCells (Value.int .i64 0).cells (n*1)).toList,?_,?_⟩⟩
 ·have a:=run_make (P:=Tryz.prog) W t 3 i0 (.int .i64 0) g hi i .i64 .i64 (n:Int) (n:Int) (by omega) (by omega) (by rw[l];omega) (by omega)
  simp only[aD] at a;rw[j] at a;exact a
 ·have:W.heap.size=k:=by simpa [Value.ownBlock] using hk
  subst this;exact m
 ·have h:=World.ownsRow_lit (base:=W.heap.size) (e:=3) (size:=1) W (madeCells (Value.int .i64 0).cells (n*1)) n (aI _) (by simp only[maxLen];omega) (size_madeCells _ _)
  rw[List.length_replicate];exact h
 ·exact Kd.qm (R:=(Kd.int .i64).M (W.alloc (.cells (madeCells (Value.int .i64 0).cells (n*1)) 3)) W.heap.size (fun k=>ok k/\some k≠(Value.slice (some ⟨W.heap.size,0,none⟩) n n).ownBlock)) (size:=1) (z:=Value.int .i64 0) (z0:=(0:Int)) rfl (by decide) rfl n
theorem CT {w W:World} {gb:Nat} {v:Value} {cs:Array Value} {t:TypeId} (h1:W.heap[gb]? =some (.cells cs t (0,0))) (a:W.cell? ⟨gb,0,none⟩=some v) (b:Below gb w W):W.drew.heap[gb]? =some (.cells cs t (0,0))/\W.drew.cell? ⟨gb,0,none⟩=some v/\Below gb w W.drew:=⟨h1,a,bY b⟩
theorem CU {w W:World} {gb:Nat} {v:Value} {cs:Array Value} {t:TypeId} {o:Obj} (h1:W.heap[gb]? =some (.cells cs t (0,0))) (a:W.cell? ⟨gb,0,none⟩=some v) (b:Below gb w W):(W.alloc o).heap[gb]? =some (.cells cs t (0,0))/\(W.alloc o).cell? ⟨gb,0,none⟩=some v/\Below gb w (W.alloc o):=
 ⟨aq h1 _,by rw[ah (aq h1 _) 0,<-ah h1 0];exact a,b.alloc (Nat.le_of_lt (ay h1)) _⟩
theorem CV {w W W1:World} {gb:Nat} {v:Value} {cs:Array Value} {t:TypeId} (h1:W.heap[gb]? =some (.cells cs t (0,0))) (a:W.cell? ⟨gb,0,none⟩=some v) (b:Below gb w W) (hb:Below W.heap.size W W1):W1.heap[gb]? =some (.cells cs t (0,0))/\W1.cell? ⟨gb,0,none⟩=some v/\Below gb w W1:=
 ⟨az h1 hb,by rw[ah (az h1 hb) 0,<-ah h1 0];exact a,b.trans ⟨hb.os,hb.tape,hb.output,hb.size,fun k hk=>hb.block k (by have:=ay h1;omega)⟩⟩
theorem mh {W:World} {o:Obj} {g:Nat} (h:g=W.heap.size):(W.alloc o).heap[g]? =some o:=by rw[h];exact a6 W o
theorem mi {a w1 W':World} {gb bv:Nat} {v:Value} {dl:List Int} (b:(Kd.int .i64).R 3 w1 a.heap.size (fun _=>True) v dl) (e:gb<=a.heap.size)
  (g:∀{ok:Nat->Prop},(Kd.int .i64).R 3 w1 gb ok v dl->(Kd.int .i64).R 3 W' gb ok v dl) (h:bv<a.heap.size\/w1.heap.size<=bv):(Kd.int .i64).R 3 W' gb (fun k=>k≠bv) v dl:=
 g (Kd.bc (Kd.a_ (Kd.dJ b) (fun k hk=>by have i:=hk.2.1;have a2:=hk.2.2.1;omega)) e)
theorem dW {a w1 W' Y:World} {gb bv n:Nat} {v:Value} {dl:List Int} {zs:Array Value} (g:(Kd.int .i64).R 3 (Y.alloc (.cells zs 3)) Y.heap.size (fun k=>k=Y.heap.size) (.slice (some ⟨Y.heap.size,0,none⟩) n n) (List.replicate n 0)) (h:bv=Y.heap.size)
  (hb:Below (Y.alloc (.cells zs 3)).heap.size (Y.alloc (.cells zs 3)) W') (b:(Kd.int .i64).R 3 w1 a.heap.size (fun _=>True) v dl) (i:gb<=bv) (j:bv<a.heap.size\/w1.heap.size<=bv):
  (Kd.int .i64).R 3 W' gb (fun k=>some k≠v.ownBlock) (.slice (some ⟨bv,0,none⟩) n n) (List.replicate n 0):=by
 subst h;refine Kd.bc (Kd.a_ (Kd.cz g hb) (fun k hk e=>?_)) i;have h1:=Kd.dK b k e.symm;have l:=Kd.a8 b k e.symm;omega
theorem CW (k n:Nat) (A0:Option Addr) (c0:Nat) (E:List S83) (q:Int) (Ad:Option Addr) (cd:Nat) (dl:List Int) (w:World) (d9:Kd.C aM w A0 E.length E) (ea:E.length<=c0) (hd:Kd.C (Kd.int .i64) w Ad dl.length dl) (eb:dl.length<=cd)
  (hn:n<=12) (b3:dl.length=n) (ht:a7.f k n E=some 0) (hE:dh E=true) (b6:eE n E):
  Calls Tryz.prog 212 #[.agg #[.int .i64 n,.slice A0 E.length c0],.int .i64 q,.slice Ad dl.length cd] w fun e w'=>∃(gp:Nat) (o b_:Option Addr) (r b':Nat) (rv:Value),e= .returned (.tuple #[.pointer (some ⟨gp,0,none⟩),.int .i64 0])/\cU w' gp (.slice o dl.length r) q rv (.slice b_ n b') (fun x=>if x<dl.length then je q (gF n E) dl x else false)/\(Kd.int .i64).R 3 w' w.heap.size (fun _=>True) (.slice b_ n b') (gF n E)/\Below w.heap.size w w':=by
 have hu:=Tryz.underlying24;have ge:=Tryz.underlying236;have gf:=Tryz.underlying234;have gg:=Tryz.underlying205;have gl:dl.length<=12:=by omega
 have ed:=zA b3;clear b3;have Ht:=zA ht;have HE:=zA hE;have HI:=zA b6.get;clear ht hE b6;have HC:=zA (fun W h=>nm.calls Ad cd dl dl W h eb (by unfold nm.f clone.f;rw[if_pos (by omega)]));obtain⟨zs,gm,cc⟩:=lG 25 Tryz.underlying25 n (by omega);have s:=zA cc;clear cc;go_enter Tryz.func212,Tryz.ntmps212
 go_wp2_with fail
 have Z:=zA (show (w.alloc (.cells #[.int .i64 n,.slice A0 E.length c0] 24)).heap[w.heap.size]? =some (.cells #[.int .i64 n,.slice A0 E.length c0] 24 (0,0)) from a6 w _);have I:(w.alloc (.cells #[.int .i64 n,.slice A0 E.length c0] 24)).cell? ⟨w.heap.size,0,none⟩=some (.int .i64 n):=(ah Z.out 0).trans rfl;have B:=zA (ai (aj w.heap.size w) (.cells #[.int .i64 n,.slice A0 E.length c0] 24));generalize (w.alloc (.cells #[.int .i64 n,.slice A0 E.length c0] 24))=W0 at I Z B⊢;have ce:=ay Z.out;have cf:=fun W h=>Kd.ax (w:=w) (w1:=W) hd h
 have a1:=zA cf;clear cf;generalize a2:w.heap.size=gb at I Z ce B a1⊢;refine Code.wp_mono (Q:=fun e a W'=>e=Exit.normal/\∃(gp bv bf r:Nat) (o:Option Addr) (u16 u17 u18 u19 u20 u21 u22 u23 u24 u25 u26:Value),a={tmps:=#[.agg #[.int .i64 n,.slice A0 E.length c0],.int .i64 q,.slice Ad dl.length cd,.pointer (some ⟨gb,0,none⟩),undef,undef,.pointer none,.int .i64 0,.pointer (some ⟨gp,0,none⟩),undef,undef,undef,undef,undef,undef,undef,u16,u17,u18,u19,u20,u21,u22,u23,u24,u25,u26,undef,undef,undef,undef,undef,undef,undef,undef,undef,undef,undef,undef,undef,undef,undef,undef,undef,undef,undef,undef,undef,undef,undef,undef,undef,undef,undef,undef,undef,undef,undef,undef,undef,undef,undef,undef,undef,undef,undef,undef,undef,undef,undef,undef,undef,undef,undef,undef,undef,undef,undef,undef,undef,undef,undef,undef,undef,undef,undef,undef,undef,undef,undef,undef,undef,undef,undef,undef,undef,undef,undef,undef,undef,undef,undef,undef,undef,undef,undef,undef,undef,undef,undef,undef,undef,undef,undef,undef,undef,undef,undef,undef,undef,undef],defers:=[]}/\gb<gp/\W'.heap[gp]? =some (.cells #[.slice o dl.length r,.int .i64 q,.slice none 0 0,.slice (some ⟨bv,0,none⟩) n n,.slice (some ⟨bf,0,none⟩) n n,.int .i64 0,.bool false,.bool false,.bool false,.bool false,.bool false,.bool false,.bool false,.bool false,.bool false,.bool false,.bool false,.bool false] 236 (0,0))/\(Kd.int .i64).R 3 W' gb (fun k=>k≠bv) (.slice o dl.length r) dl/\(Kd.int .i64).R 3 W' gb (fun k=>some k≠(Value.slice o dl.length r).ownBlock) (.slice (some ⟨bv,0,none⟩) n n) (List.replicate n 0)/\W'.heap[gb]? =some (.cells #[.int .i64 n,.slice A0 E.length c0] 24 (0,0))/\Below gb w W') ?_ ?_
 ·rintro e a W' ⟨rfl,gp,bv,bf,r,o,u16,u17,u18,u19,u20,u21,u22,u23,u24,u25,u26,rfl,gn,ch,cj,ck,a3,hB⟩
  dsimp only;have u:=zA (show cU W' gp (.slice o dl.length r) q (.slice none 0 0) (.slice (some ⟨bv,0,none⟩) n n) (fun _=>false) from⟨_,ch,rfl,rfl,rfl,rfl,rfl,fun i hi=>by match i,hi with|0,_=>rfl|1,_=>rfl|2,_=>rfl|3,_=>rfl|4,_=>rfl|5,_=>rfl|6,_=>rfl|7,_=>rfl|8,_=>rfl|9,_=>rfl|10,_=>rfl|11,_=>rfl⟩);have P:=zA cj;have T:=zA ck;have F:=zA a3;have co:=zA hB;have av:W'.cell? ⟨gb,0,none⟩=some (.int .i64 n):=(ah a3 0).trans rfl;clear ch cj ck a3 hB I Z B ce HC a1;clear W0;go_wp2;go_loopw [29] (fun i wr=>∃(j:Nat) (rv:Value) (rows:List (List Int)),j<=n/\i= .int .i64 j/\Aside0 (rows.length=j)/\Aside0 (∀y∈rows,y.length=n)/\Aside0 (cU wr gp (.slice o dl.length r) q rv (.slice (some ⟨bv,0,none⟩) n n) (fun _=>false))/\Aside0 ((Kd.int .i64).R 3 wr gb (fun k=>k≠bv) (.slice o dl.length r) dl)/\Aside0 ((Kd.int .i64).R 3 wr gb (fun k=>some k≠(Value.slice o dl.length r).ownBlock) (.slice (some ⟨bv,0,none⟩) n n) (List.replicate n 0))/\Aside0 (Kd.S (Kd.slice 3 (Kd.int .i64)) 25 wr gb (fun k=>some k≠(Value.slice o dl.length r).ownBlock/\k≠bv) rv rows)/\Aside0 (wr.heap[gb]? =some (.cells #[.int .i64 n,.slice A0 E.length c0] 24 (0,0)))/\Aside0 (Below gb w wr)) (fun i _=>n- (intOf i).toNat)
  case atStart=>exact⟨0,_,[],by omega,rfl,⟨rfl⟩,⟨fun y hy=>absurd hy (by simp)⟩,u,P,T,⟨Kd.ij _ _ _ _ _⟩,F,co⟩
  case round=>
   clear u P T F co av;obtain⟨j,rv,rows,hj,rfl,J,U,u,P,T,G,F,B⟩:=hrel;by_cases go:j<n
   ·have aT:=ay F.out
    obtain⟨M,cr,rfl⟩:=Kd.l5 G.out;have el:=(ah F.out 0).trans (show _=some (.int .i64 n) from rfl);have em:(wr.alloc (.cells zs 3)).drew.cell? ⟨gb,0,none⟩=some (.int .i64 n):=(ah (aq F.out _) 0).trans rfl;have er:=u.out.me;have es:(wr.alloc (.cells zs 3)).drew.cell? ⟨gp,2,none⟩=some (.slice M rows.length cr):=(u.out.below (ai (aj _ _) _)).me;have ev:((wr.alloc (.cells zs 3)).alloc (.cells #[.slice (some ⟨wr.heap.size,0,none⟩) n n] 25)).drew.cell? ⟨gp,2,none⟩=some (.slice M rows.length cr):=(u.out.below (ai (ai (aj _ _) _) _)).me;have gq:rows.length<=12:=by have:=J.out;omega
    have a9:∀k,wr.heap.size<=k->some k≠(Value.slice o dl.length r).ownBlock/\k≠bv:=fun k hk=>⟨fun e=>by have:=Kd.a8 P.out k e.symm;omega,fun e=>by have:=Kd.a8 T.out bv (by simp[Value.ownBlock]);omega⟩
    have ew:=zA (Kd.lq (Kd.bA (Kd.bc (s.out wr (fun k=>k=wr.heap.size) rfl) (Nat.le_of_lt aT))));have ex:=zA (Kd.tW (Kd.qA (Kd.lC (ok':=fun k=>(some k≠(Value.slice o dl.length r).ownBlock/\k≠bv)/\¬k=wr.heap.size) (Kd.mW G.out) (fun k hk=>⟨hk.1,by have:=hk.2.2.1;omega⟩)) (.cells zs 3)));have ey:=zA (bY (B.out.alloc (Nat.le_of_lt aT) (.cells zs 3)));have e0:Aside0 (∀k,k=wr.heap.size->(some k≠(Value.slice o dl.length r).ownBlock/\k≠bv)/\some k≠(Value.slice M rows.length cr).ownBlock):=⟨fun k hk=>⟨a9 k (by omega),fun e=>by have:=Kd.Bn G.out k e.symm;omega⟩⟩;have e1:Aside0 (∀k,(wr.alloc (.cells zs 3)).drew.heap.size<=k->some k≠(Value.slice o dl.length r).ownBlock/\k≠bv):=⟨fun k hk=>a9 k (by have h1:(wr.alloc (.cells zs 3)).drew.heap.size=wr.heap.size+1:=World.size_alloc wr _;omega)⟩;have e2:Aside0 (gb<=(wr.alloc (.cells zs 3)).drew.heap.size):=⟨by have h1:(wr.alloc (.cells zs 3)).drew.heap.size=wr.heap.size+1:=World.size_alloc wr _;omega⟩;have cp:=zA (show cU (wr.alloc (.cells zs 3)).drew gp (.slice o dl.length r) q (.slice M rows.length cr) (.slice (some ⟨bv,0,none⟩) n n) (fun _=>false) from(u.out.below (ai (aj wr.heap.size wr) (.cells zs 3))).drew);have cq:=zA (show (wr.alloc (.cells zs 3)).drew.heap[gb]? =some (.cells #[.int .i64 n,.slice A0 E.length c0] 24 (0,0)) from aq F.out _);have aB:=zA (Kd.tW (Kd.qA G.out (.cells zs 3)));have e3:=zA (Kd.bA (Kd.aK P.out (.cells zs 3)));have e4:=zA (Kd.bA (Kd.aK T.out (.cells zs 3)));clear a9;have e5:=zA (show (wr.alloc (.cells zs 3)).drew.heap.size=wr.heap.size+1 from World.size_alloc wr _);go_wp2;go_region_law ((refine Kd.Br (Kd.slice 3 (Kd.int .i64)) (w0:=w) (W:=(wr.alloc (.cells zs 3)).drew) gb (by rfl) (.tmp 35) (.tmp 39) 73 25 (.slice none 0 0) 24 (by rfl) Tryz.underlying73 uE rfl (by decide) (by omega) _ rows (List.replicate n 0) [.slice (some ⟨wr.heap.size,0,none⟩) n n] (fun k=>some k≠(Value.slice o dl.length r).ownBlock/\k≠bv) (fun k=>k=wr.heap.size) (by rfl) (by rw[e5.out];rfl) ew.out e0.out e1.out ex.out ey.out e2.out (by omega) ?_;intro v4 w4 bb cs ak e_;obtain⟨V,c4,cv⟩:=Kd.l5 bb;rw[show (rows++[List.replicate n (0:Int)]).length=rows.length+1 by simp] at cv;subst cv;have cx:=zA bb;have c1:=zA cs;have X:=zA (cp.out.grown ak (cp.out.qO (Kd.oO aB.out) (by decide)));have c2:=zA (di cq.out ak (Kd.Bp aB.out cq.out (by decide)));have c3:=zA (Kd.tL e3.out (Kd.oO aB.out) (by decide) ak);have c5:=zA (Kd.tL e4.out (Kd.oO aB.out) (by decide) ak);have e':=X.out.me;have fb:=X.out.frozen 2;clear bb cs ak e_))
    all_goals have n0:=zA (X.out.Cm (.slice V (rows.length+1) c4))
    all_goals have n1:=zA (X.out.fg c3.out (by decide) 2 (.slice V (rows.length+1) c4))
    all_goals have n2:=zA (X.out.fg c5.out (by decide) 2 (.slice V (rows.length+1) c4))
    all_goals have n3:=zA (X.out.qB cx.out (by decide) 2 (.slice V (rows.length+1) c4))
    all_goals have n4:=zA (aG (p:=⟨gp,2,none⟩) c2.out (show gb≠gp by omega) (.slice V (rows.length+1) c4))
    all_goals have n5:=zA (c1.out.setCell (p:=⟨gp,2,none⟩) (by show gb<=gp;omega) (.slice V (rows.length+1) c4))
    all_goals clear e' fb el em er es ev X c2 c3 c5 c1 cx
    all_goals generalize (w4.setCell ⟨gp,2,none⟩ (.slice V (rows.length+1) c4))=w5 at n0 n1 n2 n3 n4 n5⊢
    all_goals go_wp2
    all_goals exact⟨⟨j+1,_,_,by omega,by go_num,⟨by simp[J.out]⟩,⟨fun y hy=>by rcases List.mem_append.1 hy with h|h;exact U.out y h;(simp at h;subst h;simp)⟩,n0,n1,n2,n3,n4,n5⟩,(show n- ((j:Int)+1).toNat<n- ((j:Int)).toNat by omega)⟩
   ·obtain rfl:n=j:=by omega
    have av:wr.cell? ⟨gb,0,none⟩=some (.int .i64 n):=(ah F.out 0).trans rfl;have g:wr.cell? ⟨gb,1,none⟩=some (.slice A0 E.length c0):=(ah F.out 1).trans rfl;have aT:=ay F.out;have dd:=zA (qU k n A0 c0 E wr (Kd.ax d9 (by rw[a2];exact B.out)) ea Ht.out HE.out);go_wp2_with (first|(go_at_call 178;refine dd.out.mono ?_;rintro e w1 ⟨v9,rfl,be,aa⟩;obtain⟨A9,c9,dk⟩:=Kd.bh be;rw[nC] at dk;subst dk;have am:=zA be;have ds:=zA (u.out.below aa);have bg:=zA (Kd.oN G.out aa);have dv:=zA (Kd.cz P.out aa);have bi:=zA (Kd.cz T.out aa);have dx:=zA (B.out.trans (aa.mono (Nat.le_of_lt aT)));clear be aa))
    all_goals go_wp2
    have bk:=zA (CI (n:=n) HI.out);have bl:=zA (u_ HE.out);obtain⟨M,cr,ab⟩:=Kd.l5 bg.out;rw[J.out] at ab;subst ab;replace am:=zA (Kd.bc (Kd.oP am.out) (Nat.le_of_lt aT));have aF:=zA (show gF n E=dO n (bu E E.length) (bu E E.length).length from rfl);generalize bu E E.length=L at am bk bl aF⊢;have fq:=bl.out;have d0:List.replicate n (0:Int)=dO n L 0:=rfl;rw[d0] at bi;clear d0 dd u G P T B F av g aT;go_loopw [54] (fun i wr=>∃(j:Nat) (rows:List (List Int)),j<=L.length/\i= .int .i64 j/\Aside0 (rows.length=n)/\Aside0 (∀y∈rows,y.length=n)/\Aside0 (cU wr gp (.slice o dl.length r) q (.slice M n cr) (.slice (some ⟨bv,0,none⟩) n n) (fun _=>false))/\Aside0 ((Kd.int .i64).R 3 wr gb (fun k=>k≠bv) (.slice o dl.length r) dl)/\Aside0 ((Kd.int .i64).R 3 wr gb (fun k=>some k≠(Value.slice o dl.length r).ownBlock) (.slice (some ⟨bv,0,none⟩) n n) (dO n L j))/\Aside0 (Kd.S (Kd.slice 3 (Kd.int .i64)) 25 wr gb (fun k=>some k≠(Value.slice o dl.length r).ownBlock/\k≠bv) (.slice M n cr) rows)/\Aside0 ((Kd.raw 2).R 205 wr gb (fun _=>True) (.slice A9 L.length c9) (fA L))/\Aside0 (Below gb w wr)) (fun i _=>L.length- (intOf i).toNat)
    case atStart=>exact⟨0,_,by omega,rfl,J,U,ds,dv,bi,bg,am,dx⟩
    case round=>
     clear ds dv bi bg am dx J U;obtain⟨j,rows,hj,rfl,J,U,u,N,K,G,HR,B⟩:=hrel;by_cases an:j<L.length
     ·obtain⟨-, -,d1⟩:=Kd.aN HR.out
      obtain⟨ad,rfl,I,ao⟩:=vh d1 j (by rw[nC];exact an) an;have O:=bk.out _ (List.getElem_mem an);have bn:=Lib.hid (CL n L j an);generalize L[j]=x at I ao O bn;obtain⟨i,a,b⟩:=x;simp only at I ao O;obtain⟨a,rfl⟩:=Int.eq_ofNat_of_zero_le O.1;obtain⟨b,rfl⟩:=Int.eq_ofNat_of_zero_le O.2.2.1;have ha:a<n:=by omega
      have hb:b<n:=by omega
      have gr:(0:Int)<=(j:Int):=by omega
      have gs:(j:Int)<(L.length:Int):=by omega
      clear O d1;have HO:=zA (show (wr.alloc (.cells #[.int .i64 a,.int .i64 b] 205)).heap[wr.heap.size]? =some (.cells #[.int .i64 a,.int .i64 b] 205 (0,0)) from a6 wr _);obtain⟨g0,fr,ab, -, -, -⟩:=Kd.qC G.out (by have:=J.out;omega);injection ab with ab _ ft
      subst ab;have D:=zA (PS.mk (L:=L) J.out U.out (u.out.below (ai (aj _ _) (.cells #[.int .i64 a,.int .i64 b] 205))) (Kd.aK N.out (.cells #[.int .i64 a,.int .i64 b] 205)) (Kd.aK K.out (.cells #[.int .i64 a,.int .i64 b] 205)) (Kd.qA G.out (.cells #[.int .i64 a,.int .i64 b] 205)) (Kd.aK HR.out (.cells #[.int .i64 a,.int .i64 b] 205)) (B.out.alloc (by have:=B.out.size;omega) (.cells #[.int .i64 a,.int .i64 b] 205)));go_wp2;clear u N K G HR B I ao J U ft fr;generalize (wr.alloc (.cells #[.int .i64 a,.int .i64 b] 205))=W1 at HO D⊢;generalize wr.heap.size=ob at HO⊢;have I:W1.cell? ⟨ob,0,none⟩=some (.int .i64 a):=(ah HO.out 0).trans rfl;have ao:W1.cell? ⟨ob,1,none⟩=some (.int .i64 b):=(ah HO.out 1).trans rfl;go_quiet (fail)
      replace D:=zA (D.out.drewN nq);clear I ao HO;generalize W1.drewN nq=W2 at D⊢;clear W1;have gt:(0:Int)<=(a:Int):=by omega
      have gx:(a:Int)<(n:Int):=by omega
      have av:(0:Int)<=(b:Int):=by omega
      have g:(b:Int)<(n:Int):=by omega
      by_cases O:a=b
      ·subst O
       have d3:dO n L j=dO n L (j+1):=by rw[bn.out];unfold iq;rw[if_pos rfl]
       rw[d3] at D;clear d3;go_wp2;exact⟨⟨j+1,rows,by omega,by go_num,⟨D.out.len⟩,⟨D.out.all⟩,⟨D.out.jh⟩,⟨D.out.d⟩,⟨D.out.val⟩,⟨D.out.rows⟩,⟨D.out.ends⟩,⟨D.out.below⟩⟩,(show L.length- ((j:Int)+1).toNat<L.length- ((j:Int)).toNat by omega)⟩
      ·have g1:((a:Int) != (b:Int))=true:=by simp;omega
       have g2:=D.out.jh.me;have bq:=vg n L j;have fv:=bq a;obtain⟨gi,ci,z,g3,g4,g5,d4⟩:=D.out.row a b ha hb;obtain⟨g6,h3⟩:=d4 (wrap64 (z+1));have H3:=zA h3;have g7:=h3.jh.me;obtain⟨g8,g9,z3,g',hc,he,d5⟩:=h3.row b a hb ha;obtain⟨f1,h4⟩:=d5 (wrap64 (z3+1));have H4:=zA h4;have hf:=h4.jh.o8;obtain⟨f3,hg,d6⟩:=h4.vi a ha;have h5:=d6 (rd (dO n L j) a+1);have H5:=zA h5;have f5:=h5.jh.o8;obtain⟨bw,f6,bx⟩:=h5.vi b hb;have d7:=qV (v:=a) bq b;rw[show (dO n L j).set a (rd (dO n L j) a+1)=jg (dO n L j) a from rfl] at bw bx;have H:=zA (bx (rd (jg (dO n L j) a) b+1));rw[show (jg (dO n L j) a).set b (rd (jg (dO n L j) a) b+1)=dO n L (j+1) from by rw[bn.out];unfold iq;rw[if_neg (show ¬((i,(a:Int),(b:Int)).2.1=(i,(a:Int),(b:Int)).2.2) from fun e=>O (Int.ofNat.inj e))];rfl] at H;clear d4 d5 d6 bx h3 h4 h5 bq H3 H4 H5;generalize rd (dO n L j) a=va at fv f3 f5 bw f6 d7 H;generalize rd (jg (dO n L j) a) b=vb at d7 bw H;go_wp2;exact⟨⟨j+1,f1,by omega,by go_num,⟨H.out.len⟩,⟨H.out.all⟩,⟨H.out.jh⟩,⟨H.out.d⟩,⟨H.out.val⟩,⟨H.out.rows⟩,⟨H.out.ends⟩,⟨H.out.below⟩⟩,(show L.length- ((j:Int)+1).toNat<L.length- ((j:Int)).toNat by omega)⟩
     ·obtain rfl:j=L.length:=by omega
      have f7:=u.out.uJ;go_wp2;have b0:=zA (ve n L L.length);generalize dO n L L.length=vl at K b0 aF⊢;clear G HR J U f7 fq bk bl an hj;go_loopw [113] (fun i wr=>∃(j:Nat),j<=dl.length/\i= .int .i64 j/\Aside0 (cU wr gp (.slice o dl.length r) q (.slice M n cr) (.slice (some ⟨bv,0,none⟩) n n) (fun x=>if x<j then je q vl dl x else false))/\Aside0 ((Kd.int .i64).R 3 wr gb (fun k=>k≠bv) (.slice o dl.length r) dl)/\Aside0 ((Kd.int .i64).R 3 wr gb (fun k=>some k≠(Value.slice o dl.length r).ownBlock) (.slice (some ⟨bv,0,none⟩) n n) vl)/\Aside0 (Below gb w wr)) (fun i _=>dl.length- (intOf i).toNat)
      case atStart=>exact⟨0,by omega,rfl,⟨by simpa using u.out⟩,N,K,B⟩
      case round=>
       clear u N K B;obtain⟨j,hj,rfl,u,N,K,B⟩:=hrel;by_cases f8:j<dl.length
       ·obtain⟨-, -,d8⟩:=Kd.aN N.out
        obtain⟨-, -,b1⟩:=Kd.aN K.out;rw[b0.out] at b1;have HW:=zA (CP gp j n q o (some ⟨bv,0,none⟩) r n dl vl (.slice M n cr) _ wr (by omega) f8 b0.out (by have:=ed.out;omega) u.out d8 b1);clear d8 b1;go_wp2_with (go_at_call 218;refine HW.out.mono ?_;rintro e w5 ⟨rfl,b2,a0⟩;rw[CQ] at b2;have f':=zA b2;have ga:=zA (Kd.jd N.out rfl a0 (u.out.qO (Kd.f_ N.out) (by decide)));have gc:=zA (Kd.jd K.out rfl a0 (u.out.qO (Kd.f_ K.out) (by decide)));have gd:=zA (iY B.out (some gp) (by have:=B.out.size;omega) a0 (fun k e=>by cases e;omega));clear b2 a0)
        all_goals go_wp2
        all_goals go_roundw
        case rel=>exact⟨j+1,by omega,by go_num,f',ga,gc,gd⟩
        case measure=>exact(show dl.length- ((j:Int)+1).toNat<dl.length- ((j:Int)).toNat by omega)
       ·obtain rfl:j=dl.length:=by omega
        go_wp2;go_ret2;exact⟨gp,o,_,r,n,_,rfl,by rw[aF.out];exact u.out,by rw[aF.out,a2];exact Kd.a_ K.out (fun _ _=>trivial),by rw[a2];exact B.out⟩
 ·go_region_held3 (fun w'=>w'.heap[gb]? =some (.cells #[.int .i64 n,.slice A0 E.length c0] 24 (0,0))/\w'.cell? ⟨gb,0,none⟩=some (.int .i64 n)/\Below gb w w')
   (first
    |exact CT Z.out I B.out
    |((try go_split_ands);refine⟨by assumption,by assumption,by assumption⟩)
    |((try go_split_ands);exact CU (by assumption) (by assumption) (by assumption))
    |((try go_split_ands);exact CV (by assumption) (by assumption) (by assumption) (by assumption))
    |fail)
   ((go_at_call 217;refine(HC.out _ (a1.out _ (by go_split_ands;assumption))).mono ?_;rintro e w1 ⟨v1,rfl,m,g⟩;obtain⟨o,r,rfl⟩:=Kd.bh m))
  ·refine⟨rfl,?MG,?Mn,?L3,?Mj,?LH,?L6,?Mr,?LZ,?L4,?Lg,?Mk,?Ms,?Lt,?LW,?LP,?Lk,?KE,?Kt,?Kv,?Kx,?KB,by(go_split_ands;assumption),by(go_split_ands;assumption)⟩
   case KE=>rfl
   case Kv=>(refine mh ?_;first|rfl|(simp;done))
   case Kt=>(have h1:=g.size;first|omega|(simp at h1⊢;done)|(simp at h1⊢;omega)|(have l:W0.drew.heap.size=W0.heap.size:=rfl;simp[World.drew] at h1⊢;omega))
   case Kx=>
    refine mi m ?_ ?_ ?_
    ·(have h1:=g.size;first|omega|(simp at h1⊢;done)|(simp at h1⊢;omega)|(have l:W0.drew.heap.size=W0.heap.size:=rfl;simp[World.drew] at h1⊢;omega))
    ·(first|exact fun h=>h|exact fun h=>Kd.aK h _|exact fun h=>Kd.aK (Kd.aK h _) _|exact fun h=>Kd.aK (Kd.aK (Kd.aK h _) _) _)
    ·(have h1:=g.size;first|omega|(simp at h1⊢;done)|(simp at h1⊢;omega)|(have l:W0.drew.heap.size=W0.heap.size:=rfl;simp[World.drew] at h1⊢;omega))
   case KB=>
    first
     |(refine dW (Y:=w1) (s.out _ _ rfl) ?_ ?_ m ?_ ?_;(focus (first|rfl|(simp;done)));(focus ((repeat(first|exact aj _ _|apply ai|apply bY|refine aQ ?_ g));done));(focus (have h1:=g.size;first|omega|(simp at h1⊢;done)|(simp at h1⊢;omega)|(have l:W0.drew.heap.size=W0.heap.size:=rfl;simp[World.drew] at h1⊢;omega)));(focus (have h1:=g.size;first|omega|(simp at h1⊢;done)|(simp at h1⊢;omega)|(have l:W0.drew.heap.size=W0.heap.size:=rfl;simp[World.drew] at h1⊢;omega))))
     |(refine dW (Y:=(w1.alloc (.cells zs 3))) (s.out _ _ rfl) ?_ ?_ m ?_ ?_;(focus (first|rfl|(simp;done)));(focus ((repeat(first|exact aj _ _|apply ai|apply bY|refine aQ ?_ g));done));(focus (have h1:=g.size;first|omega|(simp at h1⊢;done)|(simp at h1⊢;omega)|(have l:W0.drew.heap.size=W0.heap.size:=rfl;simp[World.drew] at h1⊢;omega)));(focus (have h1:=g.size;first|omega|(simp at h1⊢;done)|(simp at h1⊢;omega)|(have l:W0.drew.heap.size=W0.heap.size:=rfl;simp[World.drew] at h1⊢;omega))))
     |(refine dW (Y:=W0) (s.out _ _ rfl) ?_ ?_ m ?_ ?_;(focus (first|rfl|(simp;done)));(focus ((repeat(first|exact aj _ _|apply ai|apply bY|refine aQ ?_ g));done));(focus (have h1:=g.size;first|omega|(simp at h1⊢;done)|(simp at h1⊢;omega)|(have l:W0.drew.heap.size=W0.heap.size:=rfl;simp[World.drew] at h1⊢;omega)));(focus (have h1:=g.size;first|omega|(simp at h1⊢;done)|(simp at h1⊢;omega)|(have l:W0.drew.heap.size=W0.heap.size:=rfl;simp[World.drew] at h1⊢;omega))))
     |(refine dW (Y:=(W0.alloc (.cells zs 3))) (s.out _ _ rfl) ?_ ?_ m ?_ ?_;(focus (first|rfl|(simp;done)));(focus ((repeat(first|exact aj _ _|apply ai|apply bY|refine aQ ?_ g));done));(focus (have h1:=g.size;first|omega|(simp at h1⊢;done)|(simp at h1⊢;omega)|(have l:W0.drew.heap.size=W0.heap.size:=rfl;simp[World.drew] at h1⊢;omega)));(focus (have h1:=g.size;first|omega|(simp at h1⊢;done)|(simp at h1⊢;omega)|(have l:W0.drew.heap.size=W0.heap.size:=rfl;simp[World.drew] at h1⊢;omega))))
     |fail
  ·refine⟨rfl,?Ln,?L8,?Lp,?Mf,?LA,?LX,?Lb,?Mw,?Mp,?LR,?Mm,?LG,?Lr,?Mv,?Me,?Mo,?eq_1,?Ko,?Kr,?Ky,?KI,by(go_split_ands;assumption),by(go_split_ands;assumption)⟩
   case eq_1=>rfl
   case Kr=>(refine mh ?_;first|rfl|(simp;done))
   case Ko=>(have h1:=g.size;first|omega|(simp at h1⊢;done)|(simp at h1⊢;omega)|(have l:W0.drew.heap.size=W0.heap.size:=rfl;simp[World.drew] at h1⊢;omega))
   case Ky=>
    refine mi m ?_ ?_ ?_
    ·(have h1:=g.size;first|omega|(simp at h1⊢;done)|(simp at h1⊢;omega)|(have l:W0.drew.heap.size=W0.heap.size:=rfl;simp[World.drew] at h1⊢;omega))
    ·(first|exact fun h=>h|exact fun h=>Kd.aK h _|exact fun h=>Kd.aK (Kd.aK h _) _|exact fun h=>Kd.aK (Kd.aK (Kd.aK h _) _) _)
    ·(have h1:=g.size;first|omega|(simp at h1⊢;done)|(simp at h1⊢;omega)|(have l:W0.drew.heap.size=W0.heap.size:=rfl;simp[World.drew] at h1⊢;omega))
   case KI=>
    first
     |(refine dW (Y:=w1) (s.out _ _ rfl) ?_ ?_ m ?_ ?_;(focus (first|rfl|(simp;done)));(focus ((repeat(first|exact aj _ _|apply ai|apply bY|refine aQ ?_ g));done));(focus (have h1:=g.size;first|omega|(simp at h1⊢;done)|(simp at h1⊢;omega)|(have l:W0.drew.heap.size=W0.heap.size:=rfl;simp[World.drew] at h1⊢;omega)));(focus (have h1:=g.size;first|omega|(simp at h1⊢;done)|(simp at h1⊢;omega)|(have l:W0.drew.heap.size=W0.heap.size:=rfl;simp[World.drew] at h1⊢;omega))))
     |(refine dW (Y:=(w1.alloc (.cells zs 3))) (s.out _ _ rfl) ?_ ?_ m ?_ ?_;(focus (first|rfl|(simp;done)));(focus ((repeat(first|exact aj _ _|apply ai|apply bY|refine aQ ?_ g));done));(focus (have h1:=g.size;first|omega|(simp at h1⊢;done)|(simp at h1⊢;omega)|(have l:W0.drew.heap.size=W0.heap.size:=rfl;simp[World.drew] at h1⊢;omega)));(focus (have h1:=g.size;first|omega|(simp at h1⊢;done)|(simp at h1⊢;omega)|(have l:W0.drew.heap.size=W0.heap.size:=rfl;simp[World.drew] at h1⊢;omega))))
     |(refine dW (Y:=W0) (s.out _ _ rfl) ?_ ?_ m ?_ ?_;(focus (first|rfl|(simp;done)));(focus ((repeat(first|exact aj _ _|apply ai|apply bY|refine aQ ?_ g));done));(focus (have h1:=g.size;first|omega|(simp at h1⊢;done)|(simp at h1⊢;omega)|(have l:W0.drew.heap.size=W0.heap.size:=rfl;simp[World.drew] at h1⊢;omega)));(focus (have h1:=g.size;first|omega|(simp at h1⊢;done)|(simp at h1⊢;omega)|(have l:W0.drew.heap.size=W0.heap.size:=rfl;simp[World.drew] at h1⊢;omega))))
     |(refine dW (Y:=(W0.alloc (.cells zs 3))) (s.out _ _ rfl) ?_ ?_ m ?_ ?_;(focus (first|rfl|(simp;done)));(focus ((repeat(first|exact aj _ _|apply ai|apply bY|refine aQ ?_ g));done));(focus (have h1:=g.size;first|omega|(simp at h1⊢;done)|(simp at h1⊢;omega)|(have l:W0.drew.heap.size=W0.heap.size:=rfl;simp[World.drew] at h1⊢;omega)));(focus (have h1:=g.size;first|omega|(simp at h1⊢;done)|(simp at h1⊢;omega)|(have l:W0.drew.heap.size=W0.heap.size:=rfl;simp[World.drew] at h1⊢;omega))))
     |fail
  ·refine⟨rfl,?Lh,?Le,?LO,?MH,?Lf,?LV,?MD,?Lx,?Lw,?LS,?Mu,?Mh,?Ld,?Ly,?MP,?L9,?eq_2,?Kw,?KA,?KF,?KL,by(go_split_ands;assumption),by(go_split_ands;assumption)⟩
   case eq_2=>rfl
   case KA=>(refine mh ?_;first|rfl|(simp;done))
   case Kw=>(have h1:=g.size;first|omega|(simp at h1⊢;done)|(simp at h1⊢;omega)|(have l:W0.drew.heap.size=W0.heap.size:=rfl;simp[World.drew] at h1⊢;omega))
   case KF=>
    refine mi m ?_ ?_ ?_
    ·(have h1:=g.size;first|omega|(simp at h1⊢;done)|(simp at h1⊢;omega)|(have l:W0.drew.heap.size=W0.heap.size:=rfl;simp[World.drew] at h1⊢;omega))
    ·(first|exact fun h=>h|exact fun h=>Kd.aK h _|exact fun h=>Kd.aK (Kd.aK h _) _|exact fun h=>Kd.aK (Kd.aK (Kd.aK h _) _) _)
    ·(have h1:=g.size;first|omega|(simp at h1⊢;done)|(simp at h1⊢;omega)|(have l:W0.drew.heap.size=W0.heap.size:=rfl;simp[World.drew] at h1⊢;omega))
   case KL=>
    first
     |(refine dW (Y:=w1) (s.out _ _ rfl) ?_ ?_ m ?_ ?_;(focus (first|rfl|(simp;done)));(focus ((repeat(first|exact aj _ _|apply ai|apply bY|refine aQ ?_ g));done));(focus (have h1:=g.size;first|omega|(simp at h1⊢;done)|(simp at h1⊢;omega)|(have l:W0.drew.heap.size=W0.heap.size:=rfl;simp[World.drew] at h1⊢;omega)));(focus (have h1:=g.size;first|omega|(simp at h1⊢;done)|(simp at h1⊢;omega)|(have l:W0.drew.heap.size=W0.heap.size:=rfl;simp[World.drew] at h1⊢;omega))))
     |(refine dW (Y:=(w1.alloc (.cells zs 3))) (s.out _ _ rfl) ?_ ?_ m ?_ ?_;(focus (first|rfl|(simp;done)));(focus ((repeat(first|exact aj _ _|apply ai|apply bY|refine aQ ?_ g));done));(focus (have h1:=g.size;first|omega|(simp at h1⊢;done)|(simp at h1⊢;omega)|(have l:W0.drew.heap.size=W0.heap.size:=rfl;simp[World.drew] at h1⊢;omega)));(focus (have h1:=g.size;first|omega|(simp at h1⊢;done)|(simp at h1⊢;omega)|(have l:W0.drew.heap.size=W0.heap.size:=rfl;simp[World.drew] at h1⊢;omega))))
     |(refine dW (Y:=W0) (s.out _ _ rfl) ?_ ?_ m ?_ ?_;(focus (first|rfl|(simp;done)));(focus ((repeat(first|exact aj _ _|apply ai|apply bY|refine aQ ?_ g));done));(focus (have h1:=g.size;first|omega|(simp at h1⊢;done)|(simp at h1⊢;omega)|(have l:W0.drew.heap.size=W0.heap.size:=rfl;simp[World.drew] at h1⊢;omega)));(focus (have h1:=g.size;first|omega|(simp at h1⊢;done)|(simp at h1⊢;omega)|(have l:W0.drew.heap.size=W0.heap.size:=rfl;simp[World.drew] at h1⊢;omega))))
     |(refine dW (Y:=(W0.alloc (.cells zs 3))) (s.out _ _ rfl) ?_ ?_ m ?_ ?_;(focus (first|rfl|(simp;done)));(focus ((repeat(first|exact aj _ _|apply ai|apply bY|refine aQ ?_ g));done));(focus (have h1:=g.size;first|omega|(simp at h1⊢;done)|(simp at h1⊢;omega)|(have l:W0.drew.heap.size=W0.heap.size:=rfl;simp[World.drew] at h1⊢;omega)));(focus (have h1:=g.size;first|omega|(simp at h1⊢;done)|(simp at h1⊢;omega)|(have l:W0.drew.heap.size=W0.heap.size:=rfl;simp[World.drew] at h1⊢;omega))))
     |fail
  ·refine⟨rfl,?MM,?Li,?MB,?My,?ME,?Mg,?Mq,?MN,?Mi,?Mz,?Mc,?Ll,?LC,?Ls,?MF,?Ma,?eq_3,?Km,?Kn,?KH,?KD,by(go_split_ands;assumption),by(go_split_ands;assumption)⟩
   case eq_3=>rfl
   case Kn=>(refine mh ?_;first|rfl|(simp;done))
   case Km=>(have h1:=g.size;first|omega|(simp at h1⊢;done)|(simp at h1⊢;omega)|(have l:W0.drew.heap.size=W0.heap.size:=rfl;simp[World.drew] at h1⊢;omega))
   case KH=>
    refine mi m ?_ ?_ ?_
    ·(have h1:=g.size;first|omega|(simp at h1⊢;done)|(simp at h1⊢;omega)|(have l:W0.drew.heap.size=W0.heap.size:=rfl;simp[World.drew] at h1⊢;omega))
    ·(first|exact fun h=>h|exact fun h=>Kd.aK h _|exact fun h=>Kd.aK (Kd.aK h _) _|exact fun h=>Kd.aK (Kd.aK (Kd.aK h _) _) _)
    ·(have h1:=g.size;first|omega|(simp at h1⊢;done)|(simp at h1⊢;omega)|(have l:W0.drew.heap.size=W0.heap.size:=rfl;simp[World.drew] at h1⊢;omega))
   case KD=>
    first
     |(refine dW (Y:=w1) (s.out _ _ rfl) ?_ ?_ m ?_ ?_;(focus (first|rfl|(simp;done)));(focus ((repeat(first|exact aj _ _|apply ai|apply bY|refine aQ ?_ g));done));(focus (have h1:=g.size;first|omega|(simp at h1⊢;done)|(simp at h1⊢;omega)|(have l:W0.drew.heap.size=W0.heap.size:=rfl;simp[World.drew] at h1⊢;omega)));(focus (have h1:=g.size;first|omega|(simp at h1⊢;done)|(simp at h1⊢;omega)|(have l:W0.drew.heap.size=W0.heap.size:=rfl;simp[World.drew] at h1⊢;omega))))
     |(refine dW (Y:=(w1.alloc (.cells zs 3))) (s.out _ _ rfl) ?_ ?_ m ?_ ?_;(focus (first|rfl|(simp;done)));(focus ((repeat(first|exact aj _ _|apply ai|apply bY|refine aQ ?_ g));done));(focus (have h1:=g.size;first|omega|(simp at h1⊢;done)|(simp at h1⊢;omega)|(have l:W0.drew.heap.size=W0.heap.size:=rfl;simp[World.drew] at h1⊢;omega)));(focus (have h1:=g.size;first|omega|(simp at h1⊢;done)|(simp at h1⊢;omega)|(have l:W0.drew.heap.size=W0.heap.size:=rfl;simp[World.drew] at h1⊢;omega))))
     |(refine dW (Y:=W0) (s.out _ _ rfl) ?_ ?_ m ?_ ?_;(focus (first|rfl|(simp;done)));(focus ((repeat(first|exact aj _ _|apply ai|apply bY|refine aQ ?_ g));done));(focus (have h1:=g.size;first|omega|(simp at h1⊢;done)|(simp at h1⊢;omega)|(have l:W0.drew.heap.size=W0.heap.size:=rfl;simp[World.drew] at h1⊢;omega)));(focus (have h1:=g.size;first|omega|(simp at h1⊢;done)|(simp at h1⊢;omega)|(have l:W0.drew.heap.size=W0.heap.size:=rfl;simp[World.drew] at h1⊢;omega))))
     |(refine dW (Y:=(W0.alloc (.cells zs 3))) (s.out _ _ rfl) ?_ ?_ m ?_ ?_;(focus (first|rfl|(simp;done)));(focus ((repeat(first|exact aj _ _|apply ai|apply bY|refine aQ ?_ g));done));(focus (have h1:=g.size;first|omega|(simp at h1⊢;done)|(simp at h1⊢;omega)|(have l:W0.drew.heap.size=W0.heap.size:=rfl;simp[World.drew] at h1⊢;omega)));(focus (have h1:=g.size;first|omega|(simp at h1⊢;done)|(simp at h1⊢;omega)|(have l:W0.drew.heap.size=W0.heap.size:=rfl;simp[World.drew] at h1⊢;omega))))
     |fail
  ·refine⟨rfl,?L_,?Lo,?Lq,?LD,?Ml,?LJ,?LL,?Mt,?MJ,?MA,?LM,?LU,?Lu,?LB,?ML,?Mx,?eq_4,?KG,?Kz,?KC,?Kq,by(go_split_ands;assumption),by(go_split_ands;assumption)⟩
   case eq_4=>rfl
   case Kz=>(refine mh ?_;first|rfl|(simp;done))
   case KG=>(have h1:=g.size;first|omega|(simp at h1⊢;done)|(simp at h1⊢;omega)|(have l:W0.drew.heap.size=W0.heap.size:=rfl;simp[World.drew] at h1⊢;omega))
   case KC=>
    refine mi m ?_ ?_ ?_
    ·(have h1:=g.size;first|omega|(simp at h1⊢;done)|(simp at h1⊢;omega)|(have l:W0.drew.heap.size=W0.heap.size:=rfl;simp[World.drew] at h1⊢;omega))
    ·(first|exact fun h=>h|exact fun h=>Kd.aK h _|exact fun h=>Kd.aK (Kd.aK h _) _|exact fun h=>Kd.aK (Kd.aK (Kd.aK h _) _) _)
    ·(have h1:=g.size;first|omega|(simp at h1⊢;done)|(simp at h1⊢;omega)|(have l:W0.drew.heap.size=W0.heap.size:=rfl;simp[World.drew] at h1⊢;omega))
   case Kq=>
    first
     |(refine dW (Y:=w1) (s.out _ _ rfl) ?_ ?_ m ?_ ?_;(focus (first|rfl|(simp;done)));(focus ((repeat(first|exact aj _ _|apply ai|apply bY|refine aQ ?_ g));done));(focus (have h1:=g.size;first|omega|(simp at h1⊢;done)|(simp at h1⊢;omega)|(have l:W0.drew.heap.size=W0.heap.size:=rfl;simp[World.drew] at h1⊢;omega)));(focus (have h1:=g.size;first|omega|(simp at h1⊢;done)|(simp at h1⊢;omega)|(have l:W0.drew.heap.size=W0.heap.size:=rfl;simp[World.drew] at h1⊢;omega))))
     |(refine dW (Y:=(w1.alloc (.cells zs 3))) (s.out _ _ rfl) ?_ ?_ m ?_ ?_;(focus (first|rfl|(simp;done)));(focus ((repeat(first|exact aj _ _|apply ai|apply bY|refine aQ ?_ g));done));(focus (have h1:=g.size;first|omega|(simp at h1⊢;done)|(simp at h1⊢;omega)|(have l:W0.drew.heap.size=W0.heap.size:=rfl;simp[World.drew] at h1⊢;omega)));(focus (have h1:=g.size;first|omega|(simp at h1⊢;done)|(simp at h1⊢;omega)|(have l:W0.drew.heap.size=W0.heap.size:=rfl;simp[World.drew] at h1⊢;omega))))
     |(refine dW (Y:=W0) (s.out _ _ rfl) ?_ ?_ m ?_ ?_;(focus (first|rfl|(simp;done)));(focus ((repeat(first|exact aj _ _|apply ai|apply bY|refine aQ ?_ g));done));(focus (have h1:=g.size;first|omega|(simp at h1⊢;done)|(simp at h1⊢;omega)|(have l:W0.drew.heap.size=W0.heap.size:=rfl;simp[World.drew] at h1⊢;omega)));(focus (have h1:=g.size;first|omega|(simp at h1⊢;done)|(simp at h1⊢;omega)|(have l:W0.drew.heap.size=W0.heap.size:=rfl;simp[World.drew] at h1⊢;omega))))
     |(refine dW (Y:=(W0.alloc (.cells zs 3))) (s.out _ _ rfl) ?_ ?_ m ?_ ?_;(focus (first|rfl|(simp;done)));(focus ((repeat(first|exact aj _ _|apply ai|apply bY|refine aQ ?_ g));done));(focus (have h1:=g.size;first|omega|(simp at h1⊢;done)|(simp at h1⊢;omega)|(have l:W0.drew.heap.size=W0.heap.size:=rfl;simp[World.drew] at h1⊢;omega)));(focus (have h1:=g.size;first|omega|(simp at h1⊢;done)|(simp at h1⊢;omega)|(have l:W0.drew.heap.size=W0.heap.size:=rfl;simp[World.drew] at h1⊢;omega))))
     |fail
  ·refine⟨rfl,?MK,?Lm,?LF,?MO,?L7,?MC,?Lz,?LQ,?L5,?LY,?LK,?Lc,?Lj,?MI,?Mb,?La,?eq_5,?Ku,?KJ,?Ks,?KK,by(go_split_ands;assumption),by(go_split_ands;assumption)⟩
   case eq_5=>rfl
   case KJ=>(refine mh ?_;first|rfl|(simp;done))
   case Ku=>(have h1:=g.size;first|omega|(simp at h1⊢;done)|(simp at h1⊢;omega)|(have l:W0.drew.heap.size=W0.heap.size:=rfl;simp[World.drew] at h1⊢;omega))
   case Ks=>
    refine mi m ?_ ?_ ?_
    ·(have h1:=g.size;first|omega|(simp at h1⊢;done)|(simp at h1⊢;omega)|(have l:W0.drew.heap.size=W0.heap.size:=rfl;simp[World.drew] at h1⊢;omega))
    ·(first|exact fun h=>h|exact fun h=>Kd.aK h _|exact fun h=>Kd.aK (Kd.aK h _) _|exact fun h=>Kd.aK (Kd.aK (Kd.aK h _) _) _)
    ·(have h1:=g.size;first|omega|(simp at h1⊢;done)|(simp at h1⊢;omega)|(have l:W0.drew.heap.size=W0.heap.size:=rfl;simp[World.drew] at h1⊢;omega))
   case KK=>
    first
     |(refine dW (Y:=w1) (s.out _ _ rfl) ?_ ?_ m ?_ ?_;(focus (first|rfl|(simp;done)));(focus ((repeat(first|exact aj _ _|apply ai|apply bY|refine aQ ?_ g));done));(focus (have h1:=g.size;first|omega|(simp at h1⊢;done)|(simp at h1⊢;omega)|(have l:W0.drew.heap.size=W0.heap.size:=rfl;simp[World.drew] at h1⊢;omega)));(focus (have h1:=g.size;first|omega|(simp at h1⊢;done)|(simp at h1⊢;omega)|(have l:W0.drew.heap.size=W0.heap.size:=rfl;simp[World.drew] at h1⊢;omega))))
     |(refine dW (Y:=(w1.alloc (.cells zs 3))) (s.out _ _ rfl) ?_ ?_ m ?_ ?_;(focus (first|rfl|(simp;done)));(focus ((repeat(first|exact aj _ _|apply ai|apply bY|refine aQ ?_ g));done));(focus (have h1:=g.size;first|omega|(simp at h1⊢;done)|(simp at h1⊢;omega)|(have l:W0.drew.heap.size=W0.heap.size:=rfl;simp[World.drew] at h1⊢;omega)));(focus (have h1:=g.size;first|omega|(simp at h1⊢;done)|(simp at h1⊢;omega)|(have l:W0.drew.heap.size=W0.heap.size:=rfl;simp[World.drew] at h1⊢;omega))))
     |(refine dW (Y:=W0) (s.out _ _ rfl) ?_ ?_ m ?_ ?_;(focus (first|rfl|(simp;done)));(focus ((repeat(first|exact aj _ _|apply ai|apply bY|refine aQ ?_ g));done));(focus (have h1:=g.size;first|omega|(simp at h1⊢;done)|(simp at h1⊢;omega)|(have l:W0.drew.heap.size=W0.heap.size:=rfl;simp[World.drew] at h1⊢;omega)));(focus (have h1:=g.size;first|omega|(simp at h1⊢;done)|(simp at h1⊢;omega)|(have l:W0.drew.heap.size=W0.heap.size:=rfl;simp[World.drew] at h1⊢;omega))))
     |(refine dW (Y:=(W0.alloc (.cells zs 3))) (s.out _ _ rfl) ?_ ?_ m ?_ ?_;(focus (first|rfl|(simp;done)));(focus ((repeat(first|exact aj _ _|apply ai|apply bY|refine aQ ?_ g));done));(focus (have h1:=g.size;first|omega|(simp at h1⊢;done)|(simp at h1⊢;omega)|(have l:W0.drew.heap.size=W0.heap.size:=rfl;simp[World.drew] at h1⊢;omega)));(focus (have h1:=g.size;first|omega|(simp at h1⊢;done)|(simp at h1⊢;omega)|(have l:W0.drew.heap.size=W0.heap.size:=rfl;simp[World.drew] at h1⊢;omega))))
     |fail
end Go.Proofs.YtffdiakgjakngaaGreat.P
namespace Go.Proofs.YtffdiakgjakngaaGreat.P
open Go Go.RowKit Go.Proofs.YtffdiakgjakngaaGreatW.PrintWords Go.Proofs.YtffdiakgjakngaaGreatW.PrintLast Go.Proofs.YtffdiakgjakngaaGreatW.PrintMore
set_option linter.unusedVariables false
set_option linter.unusedSimpArgs false
set_option maxHeartbeats 8000000
set_option maxRecDepth 100000
def cF (e b:Nat) (ds:List Deferred) (w:World):Prop:=∃a:List Nat,ds=a.map (fun D=>{target:=.collected D,args:=#[]})/\a.Nodup/\∀D,D∈a->e<=D/\D<b/\w.heap[D]? =some (.deferred (some []))
theorem cF.nil (a b:Nat) (w:World):cF a b [] w:=⟨[],rfl,List.nodup_nil,fun _ h=>by cases h⟩
theorem cF.iI {g b:Nat} {ds:List Deferred} {w w':World} (h:cF g b ds w) (hk:∀D,D<b->w.heap[D]? =some (.deferred (some []))->w'.heap[D]? =some (.deferred (some []))):cF g b ds w':=by
 obtain⟨i,h1,j,a⟩:=h;exact⟨i,h1,j,fun D e=>⟨(a D e).1,(a D e).2.1,hk D (a D e).2.1 (a D e).2.2⟩⟩
theorem cF.below {a b:Nat} {ds:List Deferred} {w w':World} (h:cF a b ds w) (hb:Below w.heap.size w w'):cF a b ds w':=
 h.iI fun D _ e=>(hb.block D (Array.getElem?_eq_some_iff.1 e).1).trans e
theorem cF.bk {a b l:Nat} {ds:List Deferred} {w w':World} (h:cF a b ds w) (hb:Bk l w w') (e:b<=l):cF a b ds w':=
 h.iI fun D g hd=>(hb.heap D (by omega)).trans hd
theorem cF.set {a b:Nat} {ds:List Deferred} {w:World} (h:cF a b ds w) {p:Addr} {cs:Array Value} {t:TypeId} {fr:Nat×Nat} (hp:w.heap[p.block]? =some (.cells cs t fr)) (v:Value):cF a b ds (w.setCell p v):=
 h.iI fun D _ hd=>by
  rw[Below.heap_setCell _ _ _ _ (fun e=>by rw[e,hp] at hd;cases hd)];exact hd
theorem cF.push {a b D:Nat} {ds:List Deferred} {w:World} (h:cF a b ds w) (g:a<=D) (hb:b<=D) (hd:w.heap[D]? =some (.deferred (some []))):cF a (D+1) ({target:=.collected D,args:=#[]}::ds) w:=by
 obtain⟨i,h1,j,e⟩:=h;refine⟨D::i,by rw[h1];rfl,List.nodup_cons.2 ⟨fun hm=>by have:=(e D hm).2.1;omega,j⟩,fun D' k=>?_⟩;rcases List.mem_cons.1 k with rfl|hm
 ·exact⟨g,by omega,hd⟩
 ·have:=e D' hm
  exact⟨this.1,by omega,this.2.2⟩
inductive gu (b:Nat):World->World->Prop
 |refl (w:World):gu b w w
 |step {w w':World} (D:Nat) (h:w.heap[D]? =some (.deferred (some []))) (hb:b<=D) (a:gu b (w.putObj D (.deferred none)) w'):gu b w w'
theorem gu.gG {b:Nat} {w w':World} (h:gu b w w'):Below b w w':=by
 induction h with
 |refl w=>exact aj _ _
 |step D h hb _ a=>exact(Bk.below (l:=D) ⟨_,_,h,rfl,rfl⟩ b hb).trans a
theorem gu.cells {b:Nat} {w w':World} (h:gu b w w') {k:Nat} {cs:Array Value} {t:TypeId} {fr:Nat×Nat} (hk:w.heap[k]? =some (.cells cs t fr)):w'.heap[k]? =some (.cells cs t fr):=by
 induction h with
 |refl w=>exact hk
 |step D h hb _ a=>exact a (Bk.cells (l:=D) ⟨_,_,h,rfl,rfl⟩ hk)
theorem gu.size {b:Nat} {w w':World} (h:gu b w w'):w'.heap.size=w.heap.size:=by
 induction h with
 |refl w=>rfl
 |step D h hb _ a=>rw[a];simp[World.putObj]
theorem gu.R {α:Type} {d:Kd α} {e base b:Nat} {ok:Nat->Prop} {v:Value} {xs:List α} {A B:World} (h:gu b A B) (g:d.R e A base ok v xs):d.R e B base ok v xs:=
 Kd.a_ (Kd.fK (Kd.dJ g) (fun k hk=>by obtain⟨_,_,_,q,_,cells,a⟩:=hk;exact(h.cells a).trans a.symm)) (fun k hk=>hk.1)
theorem vj {F:Fence} {n:Nat} {P:Program} {fn:Func} {R:Ending->World->Prop} {tm:Array Value} {g:Nat}:∀(a:List Nat) (w:World),a.Nodup->(∀D,D∈a->g<=D/\w.heap[D]? =some (.deferred (some [])))->
  (∀w',gu g w w'->∃v,(results fn tm).run P w'= .ok v w'/\R (.returned v) w')->LeavesInM F n P fn tm R (a.map (fun D=>{target:=.collected D,args:=#[]})) .returning w
 |[],w,_,_,h=>by
  obtain⟨v,h1,l⟩:=h w (gu.refl w);exact⟨_,h1,l⟩
 |D::a,w,hn,i,h=>by
  have b:=i D (List.mem_cons_self ..);have j:=List.nodup_cons.1 hn;refine⟨by simp,.inl ⟨_,_,rfl,run_takeDeferred b.2,vj a _ j.2 (fun D' k=>?_) fun w' m=>h w' (gu.step D b.2 b.1 m)⟩⟩;have h1:=i D' (List.mem_cons_of_mem _ k);exact⟨h1.1,(World.putObj_heap_other (fun e=>j.1 (by rw[<-e];exact k))).trans h1.2⟩
theorem pd {F:Fence} {n:Nat} {P:Program} {fn:Func} {R:Ending->World->Prop} {tm:Array Value} {ds:List Deferred} {a b:Nat} {w:World} (i:cF a b ds w)
  (h:∀w',gu a w w'->∃v,(results fn tm).run P w'= .ok v w'/\R (.returned v) w'):bodyPostM F n P fn R .ret {tmps:=tm,defers:=ds} w/\bodyPostM F n P fn R .normal {tmps:=tm,defers:=ds} w:=by
 obtain⟨j,rfl,k,e⟩:=i;have:=vj (F:=F) (n:=n) (P:=P) (fn:=fn) (R:=R) (tm:=tm) j w k (fun D g=>⟨(e D g).1,(e D g).2.2⟩) h;exact⟨this,this⟩
def kC (e:Nat) (J:Nat->Array Value->World->Prop) (n:Nat) (a:Act) (w:World):Prop:=(∃n',n'<n/\J n' a.tmps w)/\∃b,b<=w.heap.size/\cF e b a.defers w
theorem kC.intro {a:Nat} {J:Nat->Array Value->World->Prop} {n:Nat} {tm:Array Value} {ds:List Deferred} {w:World} (k:Nat) (h1:k<n) (e:J k tm w) (b:Nat) (hb:b<=w.heap.size) (g:cF a b ds w):kC a J n {tmps:=tm,defers:=ds} w:=⟨⟨k,h1,e⟩,b,hb,g⟩
theorem qW {F:Fence} {h:Nat} {P:Program} {Q:Exit->Act->World->Prop} {tm:Array Value} {ds:List Deferred} {w:World} {c:Code} (e:Nat) (I:Nat->Array Value->World->Prop) (i:Nat) (l:I i tm w) (b:Nat) (hb:b<=w.heap.size) (g:cF e b ds w)
  (round:∀n tm w,I n tm w->∀ds b,b<=w.heap.size->cF e b ds w->∀(J:Nat->Array Value->World->Prop) (K:Act->World->Prop),(∀k j w',I k j w'->J k j w')->(∀a' w',kC e J n a' w'->K a' w')->c.wpIn F h P (Exit.then K Q) {tmps:=tm,defers:=ds} w):
  (Code.loop c).wpIn F h P Q {tmps:=tm,defers:=ds} w:=by
 refine wpIn_loop_ghost (fun k a w=>I k a.tmps w/\∃b,b<=w.heap.size/\cF e b a.defers w) i ⟨l,b,hb,g⟩ ?_;rintro n ⟨tm,ds⟩ w ⟨m,b,hb,g⟩;exact round n tm w m ds b hb g I _ (fun _ _ _ q=>q) fun a' w' ⟨⟨n',h1,o⟩,p⟩=>⟨n',h1,o,p⟩
end Go.Proofs.YtffdiakgjakngaaGreat.P
namespace Go.Proofs.YtffdiakgjakngaaGreat.P
open Go.RowKit Go.Proofs.YtffdiakgjakngaaGreatW.PrintWords Go.Proofs.YtffdiakgjakngaaGreatW.PrintLast Go.Proofs.YtffdiakgjakngaaGreatW.PrintMore
set_option linter.unusedVariables false
set_option linter.unusedSimpArgs false
set_option maxHeartbeats 8000000
set_option maxRecDepth 100000
theorem qX:Tryz.zeroCells252=((List.replicate 145 (Value.int .i64 0))++[Value.slice none 0 0]++List.replicate 12 (Value.bool false)).toArray:=by kernel_rfl
theorem o_.new (n:Int) (chips:Value):o_ ((Tryz.zeroCells252.setIfInBounds 0 (.int .i64 n)).setIfInBounds 145 chips) n (fun _ _=>0) chips (fun _=>false):=by
 have a:Tryz.zeroCells252.size=158:=by rw[qX];simp
 refine⟨by simp[a],?_,?_,?_,?_⟩
 ·rw[Array.getElem?_setIfInBounds_ne (by omega),Array.getElem?_setIfInBounds_self_of_lt (by omega)]
 ·intro i j hi b
  rw[Array.getElem?_setIfInBounds_ne (by omega),Array.getElem?_setIfInBounds_ne (by omega),qX];rw[List.getElem?_toArray,List.getElem?_append_left (by simp;omega),List.getElem?_append_left (by simp;omega),List.getElem?_replicate,if_pos (by omega)]
 ·rw[Array.getElem?_setIfInBounds_self_of_lt (by simp[a])]
 ·intro i hi
  rw[Array.getElem?_setIfInBounds_ne (by omega),Array.getElem?_setIfInBounds_ne (by omega),qX];rw[List.getElem?_toArray,List.getElem?_append_right (by simp),List.getElem?_replicate,if_pos (by simp;omega)]
theorem CX (n q:Nat) (A0:Option Addr) (c0:Nat) (E:List S83) (L:Option Addr) (c2:Nat) (l:List Int) (w:World) (T:Kd.C aM w A0 E.length E) (aS:E.length<=c0) (am:Kd.C (Kd.int .i64) w L l.length l) (an:l.length<=c2) (hn:n<=12) (hq:q<n) (hE:eE n E) (a1:l.length<=n) (a2:n<=l.length):
  Calls Tryz.prog 220 #[.agg #[.int .i64 n,.slice A0 E.length c0],.int .i64 q,.slice L l.length c2] w (fun e w'=>∃g h o,e= .returned (.pointer (some ⟨g,0,none⟩))/\cR w' g n (af E) (.slice h l.length o) (fun i=>if i=q then true else false)/\Kd.R (Kd.int .i64) 3 w' w.heap.size (fun _=>True) (.slice h l.length o) l/\Below w.heap.size w w'/\w.heap.size<=g):=by
 have hu:=Tryz.underlying24;go_enter Tryz.func220,Tryz.ntmps220
 go_wp2_with fail
 go_region_held3 (fun w'=>w'.cell? ⟨w.heap.size,0,none⟩=some (.int .i64 n)/\w'.cell? ⟨w.heap.size,1,none⟩=some (.slice A0 E.length c0)) (first|go_keep|(go_split_ands;exact⟨(G.cell (p:=⟨w.heap.size,0,none⟩) (by simp)).trans (by go_simp),(G.cell (p:=⟨w.heap.size,1,none⟩) (by simp)).trans (by go_simp)⟩))
  (first|(go_at_call 57;refine(fN.calls L c2 l l _ (Kd.ax am (ia (ai (aj _ _) _))) an (by unfold fN.f clone.f;rw[if_pos (by omega)])).mono ?_;rintro e w1 ⟨v0,rfl,M,G⟩;obtain⟨h,o,rfl⟩:=Kd.bh M))
 rename_i hHeld;have N:cR (w1.alloc (.cells ((Tryz.zeroCells252.setIfInBounds 0 (.int .i64 n)).setIfInBounds 145 (.slice h l.length o)) 252)) w1.heap.size n (fun _ _=>0) (.slice h l.length o) (fun _=>false):=⟨_,by simpa using a6 w1 _,o_.new _ _⟩;have U:Below w.heap.size w (w1.alloc (.cells ((Tryz.zeroCells252.setIfInBounds 0 (.int .i64 n)).setIfInBounds 145 (.slice h l.length o)) 252)):=ai (lW (ia (ai (aj _ _) _)) (by simp) G) _;have V:Kd.R (Kd.int .i64) 3 (w1.alloc (.cells ((Tryz.zeroCells252.setIfInBounds 0 (.int .i64 n)).setIfInBounds 145 (.slice h l.length o)) 252)) w.heap.size (fun _=>True) (.slice h l.length o) l:=Kd.bc (Kd.aK M _) (by simp);have hg:w.heap.size<w1.heap.size:=by have:=G.size;simp at this;omega
 clear G M;generalize ar:w1.heap.size=g at N hg⊢;generalize (w1.alloc (.cells ((Tryz.zeroCells252.setIfInBounds 0 (.int .i64 n)).setIfInBounds 145 (.slice h l.length o)) 252))=W0 at N hHeld U V⊢;clear ar;obtain⟨a3,a4⟩:=hHeld;go_wp2;go_loopw [19] (fun u wr=>∃k:Nat,k<=E.length/\u= .int .i64 k/\Aside0 (cR wr g n (af (E.take k)) (.slice h l.length o) (fun _=>false))/\Aside0 (Kd.R (Kd.int .i64) 3 wr w.heap.size (fun _=>True) (.slice h l.length o) l)/\Aside0 (Below w.heap.size w wr)) (fun u _=>E.length- (intOf u).toNat)
 case atStart=>exact⟨0,Nat.zero_le _,rfl,⟨by simpa [af] using N⟩,⟨V⟩,⟨U⟩⟩
 case round=>
  obtain⟨k,hk,rfl,y,O,z⟩:=hrel;have a5:=T.2.1;by_cases W:k<E.length
  ·obtain⟨P,X,e2,Y,Z,e5⟩:=hE.get k W
   have ab:=uK E k W;have Q:=Lib.hid ab;clear ab;obtain⟨ad,rfl,B,D,F⟩:=dM T k (by omega) (by omega);rw[aD] at B D F;replace B:=(z.out.cell (bm w _ B)).trans B;replace D:=(z.out.cell (bm w _ D)).trans D;replace F:=(z.out.cell (bm w _ F)).trans F;generalize ae E k=x at P X e2 Y Z e5 B D F Q;obtain⟨a,b,m⟩:=x;simp only at P X e2 Y Z e5 B D F;obtain⟨a,rfl⟩:=Int.eq_ofNat_of_zero_le P;obtain⟨b,rfl⟩:=Int.eq_ofNat_of_zero_le e2;have a12:a<12:=by omega
   have s:b<12:=by omega
   by_cases H:a=b
   ·have av:((a:Int) != (b:Int))=false:=by rw[H];simp
    have S:=Lib.hid H;clear H;go_wp2;go_roundw
    case rel=>exact⟨k+1,by omega,by go_num,⟨by rw[Q.out];simp only[cY];rw[if_pos (by rw[S.out])];exact y.out.below (ai (aj _ _) _)⟩,⟨Kd.aK O.out _⟩,⟨ai z.out _⟩⟩
    case measure=>simp[intOf];omega
   ·have av:((a:Int) != (b:Int))=true:=by rw[bne_iff_ne];omega
    have a9:1+a*12+b≠1+b*12+a:=by omega
    have bb:1+b*12+a≠1+a*12+b:=by omega
    have S:=Lib.hid H;clear H;have be:=y.out.lt;have r:=zA (y.out.below (ai (aj _ _) (.cells #[.int .i64 a,.int .i64 b,.int .i64 m] 83)));have f1:=r.out.frozen (1+a*12+b);have f2:=r.out.frozen (1+b*12+a);have c1:=r.out.nn a b a12 s;have c2:=r.out.nn b a s a12;go_wp2;have s0:(wr.alloc (.cells #[.int .i64 a,.int .i64 b,.int .i64 m] 83)).cell? ⟨wr.heap.size,0,none⟩=some (.int .i64 a):=by go_simp
    have s1:(wr.alloc (.cells #[.int .i64 a,.int .i64 b,.int .i64 m] 83)).cell? ⟨wr.heap.size,1,none⟩=some (.int .i64 b):=by go_simp
    have s2:(wr.alloc (.cells #[.int .i64 a,.int .i64 b,.int .i64 m] 83)).cell? ⟨wr.heap.size,2,none⟩=some (.int .i64 m):=by go_simp
    have ag:=zA (Kd.aK O.out (.cells #[.int .i64 a,.int .i64 b,.int .i64 m] 83));have ak:=zA (ai z.out (.cells #[.int .i64 a,.int .i64 b,.int .i64 m] 83));have aB:g≠wr.heap.size:=by omega
    have aF:wr.heap.size≠g:=by omega
    generalize (wr.alloc (.cells #[.int .i64 a,.int .i64 b,.int .i64 m] 83))=W2 at s0 s1 s2 r ag ak f1 f2 c1 c2⊢;generalize wr.heap.size=eb at aB aF s0 s1 s2⊢;have d1:=(r.out.np b a s a12 m).nn a b a12 s;have d2:=(r.out.np a b a12 s m).nn b a s a12;go_region
    have I:=(r.out.np a b a12 s m).np b a s a12 m;have J:=(r.out.np a b a12 s m).fg (r.out.fg ag.out (by decide) (1+a*12+b) (.int .i64 m)) (by decide) (1+b*12+a) (.int .i64 m);have K:=eK (eK ak.out (g:=g) (j:=1+a*12+b) (v:=.int .i64 m) (by omega)) (g:=g) (j:=1+b*12+a) (v:=.int .i64 m) (by omega);generalize ((W2.setCell ⟨g,1+a*12+b,none⟩ (.int .i64 m)).setCell ⟨g,1+b*12+a,none⟩ (.int .i64 m))=W3 at I J K⊢;replace I:=zA I;replace J:=zA J;replace K:=zA K;go_wp2;go_roundw
    case rel=>exact⟨k+1,by omega,by go_num,⟨by rw[Q.out];simp only[cY];rw[if_neg (by have:=S.out;omega)];exact I.out.drew⟩,⟨Kd.bA J.out⟩,⟨ia K.out⟩⟩
    case measure=>simp[intOf];omega
  ·obtain rfl:k=E.length:=by omega
   have fq:=y.out.frozen (146+q);have cq:=y.out.mg q (by omega);have aL:=zA (y.out.uN q (by omega) true);have aO:=zA (y.out.fg O.out (by decide) (146+q) (.bool true));have aP:=zA (eK z.out (g:=g) (j:=146+q) (v:=.bool true) (by omega));go_wp2;go_ret;exact⟨g,h,o,rfl,by simpa using aL.out,aO.out,aP.out,by omega⟩
def ir.f (a0:Int):Option (Bool):=if a0>=(-1048576) then(some (decide (a0<=1048576))) else(some false)
theorem ir.calls (a0:Int) (r:Bool) (w:World) (h:ir.f a0=some r):
  Calls Tryz.prog 119 #[.int .i64 a0] w fun e w'=>e= .returned (.bool r)/\aH w w':=by
 have H:(if a0>=(-1048576) then(some (decide (a0<=1048576))) else(some false))=some r:=h;clear h;by_cases c2:a0>=(-1048576)
 ·rw[if_pos c2] at H
  have a:=aE c2;clear c2;obtain rfl:=aX H;go_enter Tryz.func119,Tryz.ntmps119
  go_wp2;go_ret;exact⟨zT,by repeat(first|exact aH.refl _|apply aH.step)⟩
 ·rw[if_neg c2] at H
  have a:=ba c2;clear c2;obtain rfl:=aX H;go_enter Tryz.func119,Tryz.ntmps119
  go_wp2;go_ret;exact⟨zT,by repeat(first|exact aH.refl _|apply aH.step)⟩
def jF.f (a0:Int):Option (Int):=if a0<1 then(some 2) else(if a0>12 then(some 2) else(some 0))
theorem jF.calls (a0:Int) (r:Int) (w:World) (h:jF.f a0=some r):
  Calls Tryz.prog 141 #[.int .i64 a0] w fun e w'=>e= .returned (.int .i64 r)/\aH w w':=by
 have H:(if a0<1 then(some 2) else(if a0>12 then(some 2) else(some 0)))=some r:=h;clear h;by_cases c2:a0<1
 ·rw[if_pos c2] at H
  have a:=aE c2;clear c2;obtain rfl:=aX H;go_enter Tryz.func141,Tryz.ntmps141
  go_wp2;go_ret;exact⟨zT,by repeat(first|exact aH.refl _|apply aH.step)⟩
 ·rw[if_neg c2] at H
  have a:=ba c2;clear c2;by_cases c3:a0>12
  ·rw[if_pos c3] at H
   have b:=aE c3;clear c3;obtain rfl:=aX H;go_enter Tryz.func141,Tryz.ntmps141
   go_wp2;go_ret;exact⟨zT,by repeat(first|exact aH.refl _|apply aH.step)⟩
  ·rw[if_neg c3] at H
   have b:=ba c3;clear c3;obtain rfl:=aX H;go_enter Tryz.func141,Tryz.ntmps141
   go_wp2;go_ret;exact⟨zT,by repeat(first|exact aH.refl _|apply aH.step)⟩
def bz.l0:Nat->List Int->Int->Int->Option (Int)
 |0,_,_,_=>none
 |k+1,b,e,a=>if a<e then(if 0<=a then(if a<(b.length:Int) then((ir.f (rd b a)).bind fun t192=>(if t192=true then(bz.l0 k b e (wrap64 (a+1))) else(some 2))) else(none)) else(none)) else(some 0)
def bz.f (k:Nat) (l0:List Int) (a:Int):Option (Int):=(jF.f a).bind fun t190=>(if t190=0 then(if(l0.length:Int)=a then(bz.l0 k l0 (l0.length:Int) 0) else(some 8)) else(some t190))
theorem bz.cE:∀k,(∀a b e,al (bz.l0 k a b e) (bz.l0 (k+1) a b e))
 |0=>fun _ _ _ r h=>by simp[bz.l0] at h
 |k+1=>by
  have g:=bz.cE k
  ·intro a b e
   unfold bz.l0;with_reducible repeat' first|exact g _ _ _|exact al.refl _|exact al.none _|refine al.ite ?_ ?_|refine al.bind ?_ (fun _=>?_)
theorem bz.mono:∀a0 a k,al (bz.f k a0 a) (bz.f (k+1) a0 a):=by
 intro a0 a k;have b:=bz.cE k;unfold bz.f;with_reducible repeat' first|exact b _ _ _|exact al.refl _|exact al.none _|refine al.ite ?_ ?_|refine al.bind ?_ (fun _=>?_)
theorem bz.calls (k:Nat) (A0:Option Addr) (c0:Nat) (l0:List Int) (b:Int) (r:Int) (w:World) (v:Kd.C (Kd.int .i64) w A0 l0.length l0) (x:l0.length<=c0) (h:bz.f k l0 b=some r):
  Calls Tryz.prog 87 #[.slice A0 l0.length c0,.int .i64 b] w fun e w'=>e= .returned (.int .i64 r)/\aH w w':=by
 have y:=zA v;have O:=zA x;clear v x;unfold bz.f at h;have H:=h;clear h;obtain⟨t190,q,H⟩:=zo H;by_cases c4:t190=0
 ·rw[if_pos c4] at H
  obtain⟨z,B⟩:=bZ c4;clear c4;by_cases l:(l0.length:Int)=b
  ·rw[if_pos l] at H
   obtain⟨D,E⟩:=bZ l;clear l;have m:=zA H;clear H;go_enter Tryz.func87,Tryz.ntmps87
   go_wp2_with (first|((with_reducible refine aR (f:=141) rfl ?_);refine zL (some 9) Tryz.func141 #[.int .i64 b] ?_;(with_reducible refine(jF.calls b t190 _ q.out).mono ?_);rintro e w' ⟨rfl,⟨nd,rfl⟩⟩;refine⟨_,rfl,?_⟩))
   go_loopg [19] k (fun F J w'=>∃(a:Int),J= .int .i64 a/\Aside0 (bz.l0 F l0 (l0.length:Int) a=some r)/\Aside0 (F<=k)/\aH w w')
   case atStart=>exact⟨(0),zT,m,⟨aI _⟩,by repeat(first|exact aH.refl _|apply aH.step)⟩
   case round=>
    clear m;clear z B D E;obtain⟨a,rfl,s,G,⟨m1,rfl⟩⟩:=hrel;cases gk with
    |zero=>exact absurd s.out (by simp[bz.l0])
    |succ K=>
     have H:=s.out;clear s;simp only[bz.l0] at H;by_cases j:a<(l0.length:Int)
     ·rw[if_pos j] at H
      have L:=aE j;clear j;by_cases n:0<=a
      ·rw[if_pos n] at H
       have P:=aE n;clear n;by_cases o:a<(l0.length:Int)
       ·rw[if_pos o] at H
        have Q:=aE o;clear o;obtain⟨t192,I,H⟩:=zo H;by_cases p:t192=true
        ·subst p
         replace H:=zi H;have m:=zA H;clear H;have g:0<=(a:Int):=aA ‹_›;have i:a<(l0.length:Int):=aA ‹_›;obtain⟨M,u,N⟩:=Kd.cI y.out a g i;cases u;replace g:=eq_true g;replace i:=eq_true i;go_wp2_with (first|((with_reducible refine aR (f:=119) rfl ?_);refine zL (some 24) Tryz.func119 #[.int .i64 (rd l0 a)] ?_;(with_reducible refine(ir.calls (rd l0 a) true _ I.out).mono ?_);rintro e w' ⟨rfl,⟨nd,rfl⟩⟩;refine⟨_,rfl,?_⟩))
         go_roundg K
         case measure=>have:=G.out;omega
         case rel=>exact⟨(wrap64 (a+1)),zT,m,⟨by have:=G.out;omega⟩,by repeat(first|exact aH.refl _|apply aH.step)⟩
        ·replace p:=Bool.eq_false_iff.mpr p
         subst p;replace H:=zj H;obtain rfl:=aX H;have g:0<=(a:Int):=aA ‹_›;have i:a<(l0.length:Int):=aA ‹_›;obtain⟨M,u,N⟩:=Kd.cI y.out a g i;cases u;replace g:=eq_true g;replace i:=eq_true i;go_wp2_with (first|((with_reducible refine aR (f:=119) rfl ?_);refine zL (some 24) Tryz.func119 #[.int .i64 (rd l0 a)] ?_;(with_reducible refine(ir.calls (rd l0 a) false _ I.out).mono ?_);rintro e w' ⟨rfl,⟨nd,rfl⟩⟩;refine⟨_,rfl,?_⟩))
         go_ret;exact⟨zT,by repeat(first|exact aH.refl _|apply aH.step)⟩
       ·rw[if_neg o] at H
        exact absurd H (by simp)
      ·rw[if_neg n] at H
       exact absurd H (by simp)
     ·rw[if_neg j] at H
      have L:=ba j;clear j;obtain rfl:=aX H;go_wp2;go_ret;exact⟨zT,by repeat(first|exact aH.refl _|apply aH.step)⟩
  ·rw[if_neg l] at H
   obtain⟨D,E⟩:=b7 l;obtain rfl:=aX H;go_enter Tryz.func87,Tryz.ntmps87
   go_wp2_with (first|((with_reducible refine aR (f:=141) rfl ?_);refine zL (some 9) Tryz.func141 #[.int .i64 b] ?_;(with_reducible refine(jF.calls b t190 _ q.out).mono ?_);rintro e w' ⟨rfl,⟨nd,rfl⟩⟩;refine⟨_,rfl,?_⟩))
   go_ret;exact⟨zT,by repeat(first|exact aH.refl _|apply aH.step)⟩
 ·rw[if_neg c4] at H
  obtain⟨z,B⟩:=b7 c4;obtain rfl:=aX H;go_enter Tryz.func87,Tryz.ntmps87
  go_wp2_with (first|((with_reducible refine aR (f:=141) rfl ?_);refine zL (some 9) Tryz.func141 #[.int .i64 b] ?_;(with_reducible refine(jF.calls b t190 _ q.out).mono ?_);rintro e w' ⟨rfl,⟨nd,rfl⟩⟩;refine⟨_,rfl,?_⟩))
  go_ret;exact⟨zT,by repeat(first|exact aH.refl _|apply aH.step)⟩
section
theorem kD (w:World) (g j:Nat) (v:Value):w.grownBy (w.setCell ⟨g,j,none⟩ v) (some g):=⟨rfl,rfl,rfl,by simp,fun k _ hk=>Below.heap_setCell w _ v k (fun e=>hk (by rw[e]))⟩
def ej (w:World) (g:Nat) (p:Nat->Nat):Prop:=∃cs:Array Value,w.heap[g]? =some (.cells cs 217 (0,0))/\cs.size=12/\∀i,i<12->cs[i]? =some (.int .i64 (p i:Nat))
namespace ej
variable {w w':World} {g:Nat} {p:Nat->Nat}
theorem lt (h:ej w g p):g<w.heap.size:=by
 obtain⟨cs,hb,_⟩:=h;exact ay hb
theorem cell (h:ej w g p) (i:Nat) (hi:i<12):w.cell? ⟨g,i,none⟩=some (.int .i64 (p i:Nat)):=by
 obtain⟨cs,hb,_,a⟩:=h;exact(ah hb i).trans (a i hi)
theorem frozen (h:ej w g p) (k:Nat):w.frozen? ⟨g,k,none⟩=false:=by
 obtain⟨cs,hb,_⟩:=h;exact bE hb k
theorem below (h:ej w g p) (hb:Below w.heap.size w w'):ej w' g p:=by
 obtain⟨cs,a,b⟩:=h;exact⟨cs,az a hb,b⟩
theorem alloc (h:ej w g p) (o:Obj):ej (w.alloc o) g p:=h.below (ai (aj _ _) o)
theorem set (h:ej w g p) (i:Nat) (hi:i<12) (x:Nat):ej (w.setCell ⟨g,i,none⟩ (.int .i64 x)) g (fun j=>if j=i then x else p j):=by
 obtain⟨cs,a,b,l⟩:=h;refine⟨cs.setIfInBounds i (.int .i64 x),by simpa using bV a i (.int .i64 x),by simp[b],?_⟩;intro k hk;by_cases e:k=i
 ·subst e
  rw[Array.getElem?_setIfInBounds_self_of_lt (by omega)];simp
 ·rw[Array.getElem?_setIfInBounds_ne (by omega),l k hk];simp[e]
theorem congr {q:Nat->Nat} (h:ej w g p) (he:∀i,i<12->q i=p i):ej w g q:=by
 obtain⟨cs,a,b,e⟩:=h;exact⟨cs,a,b,fun i hi=>by rw[he i hi];exact e i hi⟩
end ej
def iJ (p:Nat->Nat):Prop:=∀i,p i<=i
def rootOf (p:Nat->Nat) (v:Nat):Nat:=if h:p v<v then rootOf p (p v) else v
termination_by v
theorem ji (p:Nat->Nat) (v:Nat):rootOf p v<=v:=by
 induction v using Nat.strongRecOn with
 |ind v a=>
  rw[rootOf];split
  ·rename_i h
   exact Nat.le_trans (a _ h) (Nat.le_of_lt h)
  ·exact aI _
def dP (p:Nat->Nat) (a b:Nat):Nat->Nat:=fun j=>if j=max (rootOf p a) (rootOf p b) then min (rootOf p a) (rootOf p b) else p j
theorem vk {p:Nat->Nat} (h:iJ p) (a b:Nat):iJ (dP p a b):=fun i=>by
 unfold dP;split
 ·subst_vars;omega
 ·exact h i
def aJ (E:List S83):Nat->Nat:=E.foldl (fun p x=>dP p x.f0.toNat x.f1.toNat) id
theorem CY (E:List S83) (k:Nat) (h:k<E.length):aJ (E.take (k+1))=dP (aJ (E.take k)) (ae E k).f0.toNat (ae E k).f1.toNat:=by
 unfold aJ;rw[List.take_succ_eq_append_getElem h,List.foldl_append];simp[ae,aW,bp h]
theorem vm (E:List S83):iJ (aJ E):=by
 suffices h:∀(E:List S83) p,iJ p->iJ (E.foldl (fun p x=>dP p x.f0.toNat x.f1.toNat) p) from h E id (fun i=>aI _)
 intro E;induction E with
 |nil=>exact fun p h=>h
 |cons x E a=>exact fun p h=>a _ (vk h _ _)
theorem vo {k:IntKind} {a b:Int} (h:a=b):Ending.returned (.int k a)= .returned (.int k b):=by rw[h]
theorem qY (g v:Nat) (p:Nat->Nat) (w:World) (hf:iJ p) (m:v<12) (hw:ej w g p):
  Calls Tryz.prog 210 #[.pointer (some ⟨g,0,none⟩),.int .i64 v] w fun e w'=>e= .returned (.int .i64 (rootOf p v:Nat))/\w=w':=by
 go_enter Tryz.func210,Tryz.ntmps210
 go_wp2;go_loop [1] (fun u=>∃k:Nat,k<12/\u= .int .i64 k/\rootOf p k=rootOf p v) (fun u=>(intOf u).toNat)
 case atStart=>exact⟨v,m,rfl,rfl⟩
 case round=>
  obtain⟨k,hk,rfl,h⟩:=hrel;have i:=Lib.hid h;clear h;have n:=hw.cell k hk;have o:(0:Int)<=(k:Int):=by omega
  have q:(k:Int)<12:=by omega
  have hle:=hf k;by_cases j:p k<k
  ·have a:rootOf p k=rootOf p (p k):=by rw[rootOf,dif_pos j]
   have b:=Lib.hid a;clear a;have r:((p k:Nat):Int)≠(k:Int):=by omega
   go_wp2;go_round
   case rel=>exact⟨p k,by omega,rfl,by rw[<-i.out,b.out]⟩
   case measure=>simp[intOf];omega
  ·have a:rootOf p k=k:=by rw[rootOf,dif_neg j]
   have b:=Lib.hid a;clear a;have l:p k=k:=by omega
   rw[l] at n;clear l;go_wp2;go_ret;exact⟨vo (by rw[<-i.out,b.out]),rfl⟩
theorem CZ (g a b:Nat) (p:Nat->Nat) (w:World) (hf:iJ p) (u:a<12) (hb:b<12) (hw:ej w g p):
  Calls Tryz.prog 209 #[.pointer (some ⟨g,0,none⟩),.int .i64 a,.int .i64 b] w fun e w'=>e= .returned (.tuple #[])/\ej w' g (dP p a b)/\w.grownBy w' (some g):=by
 have h1:=ji p a;have q:=ji p b;generalize k:rootOf p a=h at h1;generalize l:rootOf p b=i at q;have m:=qY g a p w hf u hw;have cb:=qY g b p w hf hb hw;rw[k] at m;rw[l] at cb;have n:=zA m;have o:=zA cb;have j:Aside0 (ej (w.setCell ⟨g,max h i,none⟩ (.int .i64 (min h i:Nat))) g (dP p a b)):=⟨by unfold dP;rw[k,l];exact hw.set _ (by omega) _⟩;have Hg:Aside0 (w.grownBy (w.setCell ⟨g,max h i,none⟩ (.int .i64 (min h i:Nat))) (some g)):=⟨kD ..⟩;clear k l m cb;have r:h<12:=by omega
 have s:i<12:=by omega
 have G:(0:Int)<=(h:Int):=by omega
 have H:(h:Int)<12:=by omega
 have v:(0:Int)<=(i:Int):=by omega
 have x:(i:Int)<12:=by omega
 have I:=hw.cell h r;have J:=hw.frozen h;have y:=hw.cell i s;have z:=hw.frozen i;have K:=zA hw;clear hw h1 q r s;rcases Nat.lt_trichotomy h i with B|heq|B
 ·rw[show max h i=i from by omega,show min h i=h from by omega] at j Hg
  have C:(h:Int)<(i:Int):=by omega
  have D:¬(i:Int)<(h:Int):=by omega
  have E:(h:Int)<=(i:Int):=by omega
  have F:¬(i:Int)<=(h:Int):=by omega
  go_enter Tryz.func209,Tryz.ntmps209
  go_wp2_with (first|(go_at_call 210;(first|(with_reducible refine n.out.mono ?_)|(with_reducible refine o.out.mono ?_));rintro e w1 ⟨rfl,rfl⟩))
  go_end0;exact⟨rfl,j.out,Hg.out⟩
 ·subst heq
  rw[Nat.max_self,Nat.min_self] at j Hg;clear y z v x;go_enter Tryz.func209,Tryz.ntmps209
  go_wp2_with (first|(go_at_call 210;(first|(with_reducible refine n.out.mono ?_)|(with_reducible refine o.out.mono ?_));rintro e w1 ⟨rfl,rfl⟩))
  go_end0;exact⟨rfl,j.out,Hg.out⟩
 ·rw[show max h i=h from by omega,show min h i=i from by omega] at j Hg
  have C:(i:Int)<(h:Int):=by omega
  have D:¬(h:Int)<(i:Int):=by omega
  have E:(i:Int)<=(h:Int):=by omega
  have F:¬(h:Int)<=(i:Int):=by omega
  go_enter Tryz.func209,Tryz.ntmps209
  go_wp2_with (first|(go_at_call 210;(first|(with_reducible refine n.out.mono ?_)|(with_reducible refine o.out.mono ?_));rintro e w1 ⟨rfl,rfl⟩))
  go_end0;exact⟨rfl,j.out,Hg.out⟩
theorem C0 (w:World):Calls Tryz.prog 208 #[] w fun e w'=>e= .returned (.agg #[.int .i64 0,.int .i64 1,.int .i64 2,.int .i64 3,.int .i64 4,.int .i64 5,.int .i64 6,.int .i64 7,.int .i64 8,.int .i64 9,.int .i64 10,.int .i64 11])/\Below w.heap.size w w':=by
 go_enter Tryz.func208,Tryz.ntmps208
 go_wp2;have g:=ai (ai (aj w.heap.size w) (.cells #[.int .i64 0,.int .i64 0,.int .i64 0,.int .i64 0,.int .i64 0,.int .i64 0,.int .i64 0,.int .i64 0,.int .i64 0,.int .i64 0,.int .i64 0,.int .i64 0] 217)) (.cells #[.int .i64 0,.int .i64 0,.int .i64 0,.int .i64 0,.int .i64 0,.int .i64 0,.int .i64 0,.int .i64 0,.int .i64 0,.int .i64 0,.int .i64 0,.int .i64 0] 217);have h:((w.alloc (.cells #[.int .i64 0,.int .i64 0,.int .i64 0,.int .i64 0,.int .i64 0,.int .i64 0,.int .i64 0,.int .i64 0,.int .i64 0,.int .i64 0,.int .i64 0,.int .i64 0] 217)).alloc (.cells #[.int .i64 0,.int .i64 0,.int .i64 0,.int .i64 0,.int .i64 0,.int .i64 0,.int .i64 0,.int .i64 0,.int .i64 0,.int .i64 0,.int .i64 0,.int .i64 0] 217)).heap[w.heap.size]? =some (.cells #[.int .i64 0,.int .i64 0,.int .i64 0,.int .i64 0,.int .i64 0,.int .i64 0,.int .i64 0,.int .i64 0,.int .i64 0,.int .i64 0,.int .i64 0,.int .i64 0] 217 (0,0)):=aq (a6 w _) _;have h1:ej ((w.alloc (.cells #[.int .i64 0,.int .i64 0,.int .i64 0,.int .i64 0,.int .i64 0,.int .i64 0,.int .i64 0,.int .i64 0,.int .i64 0,.int .i64 0,.int .i64 0,.int .i64 0] 217)).alloc (.cells #[.int .i64 0,.int .i64 0,.int .i64 0,.int .i64 0,.int .i64 0,.int .i64 0,.int .i64 0,.int .i64 0,.int .i64 0,.int .i64 0,.int .i64 0,.int .i64 0] 217)) (w.heap.size+1) (fun i=>if i<0 then i else 0):=by
  refine⟨#[.int .i64 0,.int .i64 0,.int .i64 0,.int .i64 0,.int .i64 0,.int .i64 0,.int .i64 0,.int .i64 0,.int .i64 0,.int .i64 0,.int .i64 0,.int .i64 0],by simpa using a6 (w.alloc (.cells #[.int .i64 0,.int .i64 0,.int .i64 0,.int .i64 0,.int .i64 0,.int .i64 0,.int .i64 0,.int .i64 0,.int .i64 0,.int .i64 0,.int .i64 0,.int .i64 0] 217)) (.cells #[.int .i64 0,.int .i64 0,.int .i64 0,.int .i64 0,.int .i64 0,.int .i64 0,.int .i64 0,.int .i64 0,.int .i64 0,.int .i64 0,.int .i64 0,.int .i64 0] 217),rfl,fun i hi=>?_⟩;match i,hi with|0,_=>rfl|1,_=>rfl|2,_=>rfl|3,_=>rfl|4,_=>rfl|5,_=>rfl|6,_=>rfl|7,_=>rfl|8,_=>rfl|9,_=>rfl|10,_=>rfl|11,_=>rfl
 generalize n:w.heap.size=gb at h h1 g⊢;generalize ((w.alloc (.cells #[.int .i64 0,.int .i64 0,.int .i64 0,.int .i64 0,.int .i64 0,.int .i64 0,.int .i64 0,.int .i64 0,.int .i64 0,.int .i64 0,.int .i64 0,.int .i64 0] 217)).alloc (.cells #[.int .i64 0,.int .i64 0,.int .i64 0,.int .i64 0,.int .i64 0,.int .i64 0,.int .i64 0,.int .i64 0,.int .i64 0,.int .i64 0,.int .i64 0,.int .i64 0] 217))=W0 at h h1 g⊢;go_loopw [2,3] (fun _ i wr=>∃k:Nat,k<=12/\i= .int .i64 k/\Aside0 (wr.heap[gb]? =some (.cells #[.int .i64 0,.int .i64 0,.int .i64 0,.int .i64 0,.int .i64 0,.int .i64 0,.int .i64 0,.int .i64 0,.int .i64 0,.int .i64 0,.int .i64 0,.int .i64 0] 217 (0,0)))/\Aside0 (ej wr (gb+1) (fun i=>if i<k then i else 0))/\Aside0 (Below gb w wr)) (fun _ i _=>12- (intOf i).toNat)
 case atStart=>exact⟨0,by omega,rfl,⟨h⟩,⟨h1⟩,⟨g⟩⟩
 case round=>
  obtain⟨k,hk,rfl,a,H1,l⟩:=hrel;by_cases m:k<12
  ·have r:=H1.out.cell k m
   have hf:=H1.out.frozen k;have s:(0:Int)<=(k:Int):=by omega
   have u:(k:Int)<12:=by omega
   have o:=zA (di a.out (kD wr (gb+1) k (.int .i64 k)) (by simp));have n1:=zA ((H1.out.set k m k).congr (q:=fun i=>if i<k+1 then i else 0) (fun i hi=>by(try dsimp only);split<;>split<;>(try split)<;>omega));have p:=zA (l.out.grown (kD wr (gb+1) k (.int .i64 k)) (by have:=H1.out.lt;omega) (fun j e=>by cases e;omega));go_wp2;go_roundw
   case rel=>exact⟨k+1,by omega,by go_num,o,n1,p⟩
   case measure=>(show 12- ((k:Int)+1).toNat<12- ((k:Int)).toNat;omega)
  ·obtain rfl:k=12:=by omega
   have x:wr.cell? ⟨gb+1,0,none⟩=some (.int .i64 0):=H1.out.cell 0 (by omega);have y:wr.cell? ⟨gb,0,none⟩=some (.int .i64 0):=(ah a.out 0).trans rfl;have z:=bE a.out 0;have B:wr.cell? ⟨gb+1,1,none⟩=some (.int .i64 1):=H1.out.cell 1 (by omega);have C:wr.cell? ⟨gb,1,none⟩=some (.int .i64 0):=(ah a.out 1).trans rfl;have D:=bE a.out 1;have E:wr.cell? ⟨gb+1,2,none⟩=some (.int .i64 2):=H1.out.cell 2 (by omega);have F:wr.cell? ⟨gb,2,none⟩=some (.int .i64 0):=(ah a.out 2).trans rfl;have G:=bE a.out 2;have H:wr.cell? ⟨gb+1,3,none⟩=some (.int .i64 3):=H1.out.cell 3 (by omega);have I:wr.cell? ⟨gb,3,none⟩=some (.int .i64 0):=(ah a.out 3).trans rfl;have J:=bE a.out 3;have K:wr.cell? ⟨gb+1,4,none⟩=some (.int .i64 4):=H1.out.cell 4 (by omega);have L:wr.cell? ⟨gb,4,none⟩=some (.int .i64 0):=(ah a.out 4).trans rfl;have M:=bE a.out 4;have N:wr.cell? ⟨gb+1,5,none⟩=some (.int .i64 5):=H1.out.cell 5 (by omega);have O:wr.cell? ⟨gb,5,none⟩=some (.int .i64 0):=(ah a.out 5).trans rfl;have P:=bE a.out 5;have Q:wr.cell? ⟨gb+1,6,none⟩=some (.int .i64 6):=H1.out.cell 6 (by omega);have R:wr.cell? ⟨gb,6,none⟩=some (.int .i64 0):=(ah a.out 6).trans rfl;have S:=bE a.out 6;have T:wr.cell? ⟨gb+1,7,none⟩=some (.int .i64 7):=H1.out.cell 7 (by omega);have U:wr.cell? ⟨gb,7,none⟩=some (.int .i64 0):=(ah a.out 7).trans rfl;have V:=bE a.out 7;have W:wr.cell? ⟨gb+1,8,none⟩=some (.int .i64 8):=H1.out.cell 8 (by omega);have X:wr.cell? ⟨gb,8,none⟩=some (.int .i64 0):=(ah a.out 8).trans rfl;have Y:=bE a.out 8;have Z:wr.cell? ⟨gb+1,9,none⟩=some (.int .i64 9):=H1.out.cell 9 (by omega);have aa:wr.cell? ⟨gb,9,none⟩=some (.int .i64 0):=(ah a.out 9).trans rfl;have ab:=bE a.out 9;have ad:wr.cell? ⟨gb+1,10,none⟩=some (.int .i64 10):=H1.out.cell 10 (by omega);have ag:wr.cell? ⟨gb,10,none⟩=some (.int .i64 0):=(ah a.out 10).trans rfl;have ak:=bE a.out 10;have am:wr.cell? ⟨gb+1,11,none⟩=some (.int .i64 11):=H1.out.cell 11 (by omega);have an:wr.cell? ⟨gb,11,none⟩=some (.int .i64 0):=(ah a.out 11).trans rfl;have ao:=bE a.out 11;go_wp2;have b:=a.out;replace b:=bV b 0 (.int .i64 0);replace b:=bV b 1 (.int .i64 1);replace b:=bV b 2 (.int .i64 2);replace b:=bV b 3 (.int .i64 3);replace b:=bV b 4 (.int .i64 4);replace b:=bV b 5 (.int .i64 5);replace b:=bV b 6 (.int .i64 6);replace b:=bV b 7 (.int .i64 7);replace b:=bV b 8 (.int .i64 8);replace b:=bV b 9 (.int .i64 9);replace b:=bV b 10 (.int .i64 10);replace b:=bV b 11 (.int .i64 11);simp only[List.setIfInBounds_toArray,List.set_cons_zero,List.set_cons_succ] at b;refine bodyPost_ret (v:=.agg #[.int .i64 0,.int .i64 1,.int .i64 2,.int .i64 3,.int .i64 4,.int .i64 5,.int .i64 6,.int .i64 7,.int .i64 8,.int .i64 9,.int .i64 10,.int .i64 11]) (results_cell_row rfl _ _ gb 217 #[.int .i64 0,.int .i64 1,.int .i64 2,.int .i64 3,.int .i64 4,.int .i64 5,.int .i64 6,.int .i64 7,.int .i64 8,.int .i64 9,.int .i64 10,.int .i64 11] (0,0) _ rfl b Tryz.underlying217 rfl rfl) rfl ⟨rfl,?_⟩;iterate 12 (refine eK ?_ (by omega))
   rw[n];exact l.out
end
theorem C1 (N:Int) (A0:Option Addr) (c0:Nat) (E:List S83) (w:World) (G:Kd.C aM w A0 E.length E) (H:eE 12 E):
  Calls Tryz.prog 196 #[.agg #[.int .i64 N,.slice A0 E.length c0]] w fun e w'=>e= .returned (.agg #[.int .i64 (aJ E 0:Nat),.int .i64 (aJ E 1:Nat),.int .i64 (aJ E 2:Nat),.int .i64 (aJ E 3:Nat),.int .i64 (aJ E 4:Nat),.int .i64 (aJ E 5:Nat),.int .i64 (aJ E 6:Nat),.int .i64 (aJ E 7:Nat),.int .i64 (aJ E 8:Nat),.int .i64 (aJ E 9:Nat),.int .i64 (aJ E 10:Nat),.int .i64 (aJ E 11:Nat)])/\Below w.heap.size w w':=by
 have hu:=Tryz.underlying24;have W:=Tryz.underlying83;have M:=zA H.get;clear H;go_enter Tryz.func196,Tryz.ntmps196
 go_wp2_with (first|(go_at_call 208;refine(C0 _).mono ?_;rintro e w1 ⟨rfl,hb⟩;have z:w1.heap[w.heap.size]? =some (.cells #[.int .i64 N,.slice A0 E.length c0] 24 (0,0)):=az (aq (a6 w _) _) hb;have B:w1.heap[w.heap.size+1]? =some (.cells #[.int .i64 0,.int .i64 0,.int .i64 0,.int .i64 0,.int .i64 0,.int .i64 0,.int .i64 0,.int .i64 0,.int .i64 0,.int .i64 0,.int .i64 0,.int .i64 0] 217 (0,0)):=az (heap_alloc2_new w _ _) hb;have I:=zA (aQ (ai (ai (aj w.heap.size w) _) _) hb);clear hb;have J:(w1.alloc (.cells #[.int .i64 0,.int .i64 1,.int .i64 2,.int .i64 3,.int .i64 4,.int .i64 5,.int .i64 6,.int .i64 7,.int .i64 8,.int .i64 9,.int .i64 10,.int .i64 11] 217)).cell? ⟨w.heap.size,1,none⟩=some (.slice A0 E.length c0):=(ah (aq z _) 1).trans rfl))
 have o:=zA (aq z (.cells #[.int .i64 0,.int .i64 1,.int .i64 2,.int .i64 3,.int .i64 4,.int .i64 5,.int .i64 6,.int .i64 7,.int .i64 8,.int .i64 9,.int .i64 10,.int .i64 11] 217));have g:=zA (aq B (.cells #[.int .i64 0,.int .i64 1,.int .i64 2,.int .i64 3,.int .i64 4,.int .i64 5,.int .i64 6,.int .i64 7,.int .i64 8,.int .i64 9,.int .i64 10,.int .i64 11] 217));have n:=zA (ai I.out (.cells #[.int .i64 0,.int .i64 1,.int .i64 2,.int .i64 3,.int .i64 4,.int .i64 5,.int .i64 6,.int .i64 7,.int .i64 8,.int .i64 9,.int .i64 10,.int .i64 11] 217));have l:Aside0 (ej (w1.alloc (.cells #[.int .i64 0,.int .i64 1,.int .i64 2,.int .i64 3,.int .i64 4,.int .i64 5,.int .i64 6,.int .i64 7,.int .i64 8,.int .i64 9,.int .i64 10,.int .i64 11] 217)) w1.heap.size (aJ (E.take 0))):=⟨⟨#[.int .i64 0,.int .i64 1,.int .i64 2,.int .i64 3,.int .i64 4,.int .i64 5,.int .i64 6,.int .i64 7,.int .i64 8,.int .i64 9,.int .i64 10,.int .i64 11],a6 _ _,rfl,fun i hi=>by
  match i,hi with|0,_=>rfl|1,_=>rfl|2,_=>rfl|3,_=>rfl|4,_=>rfl|5,_=>rfl|6,_=>rfl|7,_=>rfl|8,_=>rfl|9,_=>rfl|10,_=>rfl|11,_=>rfl⟩⟩
 have O:w.heap.size+1<w1.heap.size:=ay B;clear z B I J;generalize (w1.alloc (.cells #[.int .i64 0,.int .i64 1,.int .i64 2,.int .i64 3,.int .i64 4,.int .i64 5,.int .i64 6,.int .i64 7,.int .i64 8,.int .i64 9,.int .i64 10,.int .i64 11] 217))=W0 at o g n l⊢;generalize w1.heap.size=gf at l O⊢;clear w1;go_loopw [10] (fun i wr=>∃k:Nat,k<=E.length/\i= .int .i64 k/\Aside0 (wr.heap[w.heap.size]? =some (.cells #[.int .i64 N,.slice A0 E.length c0] 24 (0,0)))/\Aside0 (wr.heap[w.heap.size+1]? =some (.cells #[.int .i64 0,.int .i64 0,.int .i64 0,.int .i64 0,.int .i64 0,.int .i64 0,.int .i64 0,.int .i64 0,.int .i64 0,.int .i64 0,.int .i64 0,.int .i64 0] 217 (0,0)))/\Aside0 (ej wr gf (aJ (E.take k)))/\Aside0 (Below w.heap.size w wr)) (fun i _=>E.length- (intOf i).toNat)
 case atStart=>exact⟨0,by omega,rfl,o,g,l,n⟩
 case round=>
  clear o g l n;obtain⟨k,hk,rfl,o,g,l,p⟩:=hrel;by_cases K:k<E.length
  ·obtain⟨h1,D,u,F, -, -⟩:=M.out k K
   have L:=Lib.hid (CY E k K);obtain⟨ad,rfl,q,r,s⟩:=dM G k (by omega) (by omega);rw[aD] at q r s;generalize ae E k=x at h1 D u F q r s L;obtain⟨a,b,m⟩:=x;simp only at h1 D u F q r s;obtain⟨a,rfl⟩:=Int.eq_ofNat_of_zero_le h1;obtain⟨b,rfl⟩:=Int.eq_ofNat_of_zero_le u;have q:=i_ p.out q;have r:=i_ p.out r;have s:=i_ p.out s;have X:(0:Int)<=(k:Int):=by omega
   have Y:(k:Int)<(E.length:Int):=by omega
   have Z:=G.2.1;have aa:wrap64 ((k:Int)+1)=(k:Int)+1:=by unfold wrap64;omega
   have P:=zA (l.out.alloc (.cells #[.int .i64 a,.int .i64 b,.int .i64 m] 83));have Q:=zA (aq o.out (.cells #[.int .i64 a,.int .i64 b,.int .i64 m] 83));have R:=zA (aq g.out (.cells #[.int .i64 a,.int .i64 b,.int .i64 m] 83));have n:=zA (ai p.out (.cells #[.int .i64 a,.int .i64 b,.int .i64 m] 83));have S:a<12:=by omega
   have hb:b<12:=by omega
   clear h1 D u F;go_wp2_with (first|(go_at_call 209;refine(CZ gf a b _ _ (vm _) S hb P.out).mono ?_;rintro e w2 ⟨rfl,hf,y⟩;have T:=zA hf;have n1:=zA (di Q.out y (by simp;omega));have U:=zA (di R.out y (by simp;omega));have V:=zA (Below.grown n.out y n.out.size (fun j e=>by cases e;omega));clear hf y))
   go_roundw
   case rel=>exact⟨k+1,by omega,by go_num,n1,U,⟨by rw[L.out];exact T.out⟩,V⟩
   case measure=>(show E.length- ((k:Int)+1).toNat<E.length- ((k:Int)).toNat;omega)
  ·obtain rfl:k=E.length:=by omega
   rw[List.take_length] at l;have ab:=l.out.cell 0 (by omega);have ag:wr.cell? ⟨w.heap.size+1,0,none⟩=some (.int .i64 0):=(ah g.out 0).trans rfl;have ak:=bE g.out 0;have J:=l.out.cell 1 (by omega);have am:wr.cell? ⟨w.heap.size+1,1,none⟩=some (.int .i64 0):=(ah g.out 1).trans rfl;have an:=bE g.out 1;have ao:=l.out.cell 2 (by omega);have ap:wr.cell? ⟨w.heap.size+1,2,none⟩=some (.int .i64 0):=(ah g.out 2).trans rfl;have ar:=bE g.out 2;have av:=l.out.cell 3 (by omega);have aB:wr.cell? ⟨w.heap.size+1,3,none⟩=some (.int .i64 0):=(ah g.out 3).trans rfl;have aF:=bE g.out 3;have aL:=l.out.cell 4 (by omega);have aO:wr.cell? ⟨w.heap.size+1,4,none⟩=some (.int .i64 0):=(ah g.out 4).trans rfl;have aP:=bE g.out 4;have aS:=l.out.cell 5 (by omega);have a0:wr.cell? ⟨w.heap.size+1,5,none⟩=some (.int .i64 0):=(ah g.out 5).trans rfl;have a1:=bE g.out 5;have a2:=l.out.cell 6 (by omega);have a3:wr.cell? ⟨w.heap.size+1,6,none⟩=some (.int .i64 0):=(ah g.out 6).trans rfl;have a4:=bE g.out 6;have a5:=l.out.cell 7 (by omega);have a9:wr.cell? ⟨w.heap.size+1,7,none⟩=some (.int .i64 0):=(ah g.out 7).trans rfl;have bb:=bE g.out 7;have be:=l.out.cell 8 (by omega);have bf:wr.cell? ⟨w.heap.size+1,8,none⟩=some (.int .i64 0):=(ah g.out 8).trans rfl;have bg:=bE g.out 8;have bi:=l.out.cell 9 (by omega);have bk:wr.cell? ⟨w.heap.size+1,9,none⟩=some (.int .i64 0):=(ah g.out 9).trans rfl;have bl:=bE g.out 9;have bn:=l.out.cell 10 (by omega);have bo:wr.cell? ⟨w.heap.size+1,10,none⟩=some (.int .i64 0):=(ah g.out 10).trans rfl;have bq:=bE g.out 10;have bv:=l.out.cell 11 (by omega);have bw:wr.cell? ⟨w.heap.size+1,11,none⟩=some (.int .i64 0):=(ah g.out 11).trans rfl;have bx:=bE g.out 11;go_wp2;have h:=g.out;replace h:=bV h 0 (.int .i64 (aJ E 0:Nat));replace h:=bV h 1 (.int .i64 (aJ E 1:Nat));replace h:=bV h 2 (.int .i64 (aJ E 2:Nat));replace h:=bV h 3 (.int .i64 (aJ E 3:Nat));replace h:=bV h 4 (.int .i64 (aJ E 4:Nat));replace h:=bV h 5 (.int .i64 (aJ E 5:Nat));replace h:=bV h 6 (.int .i64 (aJ E 6:Nat));replace h:=bV h 7 (.int .i64 (aJ E 7:Nat));replace h:=bV h 8 (.int .i64 (aJ E 8:Nat));replace h:=bV h 9 (.int .i64 (aJ E 9:Nat));replace h:=bV h 10 (.int .i64 (aJ E 10:Nat));replace h:=bV h 11 (.int .i64 (aJ E 11:Nat));simp only[List.setIfInBounds_toArray,List.set_cons_zero,List.set_cons_succ] at h;refine bodyPost_ret (v:=.agg #[.int .i64 (aJ E 0:Nat),.int .i64 (aJ E 1:Nat),.int .i64 (aJ E 2:Nat),.int .i64 (aJ E 3:Nat),.int .i64 (aJ E 4:Nat),.int .i64 (aJ E 5:Nat),.int .i64 (aJ E 6:Nat),.int .i64 (aJ E 7:Nat),.int .i64 (aJ E 8:Nat),.int .i64 (aJ E 9:Nat),.int .i64 (aJ E 10:Nat),.int .i64 (aJ E 11:Nat)]) (results_cell_row rfl _ _ (w.heap.size+1) 217 #[.int .i64 (aJ E 0:Nat),.int .i64 (aJ E 1:Nat),.int .i64 (aJ E 2:Nat),.int .i64 (aJ E 3:Nat),.int .i64 (aJ E 4:Nat),.int .i64 (aJ E 5:Nat),.int .i64 (aJ E 6:Nat),.int .i64 (aJ E 7:Nat),.int .i64 (aJ E 8:Nat),.int .i64 (aJ E 9:Nat),.int .i64 (aJ E 10:Nat),.int .i64 (aJ E 11:Nat)] (0,0) _ rfl h Tryz.underlying217 rfl rfl) rfl ⟨rfl,?_⟩;iterate 12 (refine eK ?_ (by simp))
   exact p.out
end Go.Proofs.YtffdiakgjakngaaGreat.P


namespace Go.Proofs.YtffdiakgjakngaaGreat.P
open Go.RowKit Go.Maps Go.Proofs.YtffdiakgjakngaaGreatW.PrintWords Go.Proofs.YtffdiakgjakngaaGreatW.PrintLast Go.Proofs.YtffdiakgjakngaaGreatW.PrintMore
set_option linter.unusedVariables false
set_option linter.unusedSimpArgs false
set_option maxHeartbeats 8000000
set_option maxRecDepth 100000
def cm (p:Nat->Nat):Nat->Nat
 |0=>0
 |u+1=>cm p u+(if rootOf p u=u then 1 else 0)
theorem nD (p:Nat->Nat):∀u,cm p u<=u
 |0=>aI _
 |u+1=>by
  have:=nD p u;simp only[cm];split<;>omega
theorem mj (p:Nat->Nat) (v:Nat):rootOf p (rootOf p v)=rootOf p v:=by
 induction v using Nat.strongRecOn with
 |ind v a=>
  by_cases h:p v<v
  ·rw[show rootOf p v=rootOf p (p v) by rw[rootOf,dif_pos h]]
   exact a _ h
  ·have e:rootOf p v=v:=by rw[rootOf,dif_neg h]
   rw[e,e]
theorem qZ (w:World):(zeroValue 3).run Tryz.prog w= .ok (.int .i64 0) w:=by kernel_rfl
theorem q6:Keyed Tryz.prog 3:=int_keyed Tryz.underlying3
theorem q9 {a:Nat} (h:a<=1000):keyOf Tryz.prog 3 (.int .i64 a)=some (.int .i64 a):=keyOf_int_mk Tryz.underlying3 (WalkArith.wf_i64 (by omega))
def lH (p:Nat->Nat) (k m:Nat) (D:DataW Unit):Prop:=IsMap D/\∀r,r<k->rootOf p r=r->∃c:Nat,c<m/\D.atKey (.int .i64 r) (.lit (.int .i64 0))= .lit (.int .i64 c)
theorem lH.skip {p:Nat->Nat} {k m:Nat} {D:DataW Unit} (h:lH p k m D) (b:rootOf p k≠k):lH p (k+1) m D:=by
 refine⟨h.1,fun r g a=>?_⟩;by_cases e:r=k
 ·subst e;exact absurd a b
 ·exact h.2 r (by omega) a
theorem lH.put {p:Nat->Nat} {k m:Nat} {D:DataW Unit} (h:lH p k m D) (hk:k<=1000):lH p (k+1) (m+1) (D.put (.int .i64 k) (.lit (.int .i64 m))):=by
 refine⟨h.1.put _ _,fun r g a=>?_⟩;by_cases e:r=k
 ·subst e
  exact⟨m,by omega,atKey_put_same h.1 (by simp[WideAt.IsKeyLit]) _ _⟩
 ·obtain⟨c,i,b⟩:=h.2 r (by omega) a
  refine⟨c,by omega,?_⟩;rw[atKey_put_other (fun e2=>e (by injection e2;omega))];exact b
theorem vp {W a:World} {b g0 cap c:Nat} {X:List (List Int)} {oki:Nat->Prop} {ev s:Value} {e:List Int} (hH:Kd.H (Kd.slice 3 (Kd.int .i64)) 25 W b (fun q=>True/\¬W.heap.size<=q) (.slice (some ⟨g0,0,none⟩) X.length cap) X (c:Int) oki [ev]) (m:c<X.length)
  (i:W.drew.grownBy a ev.ownBlock) (k:∀q,ev.ownBlock=some q->oki q) (l:(Kd.int .i64).R 3 a b (fun q=>oki q\/W.heap.size<=q) s e) (n:g0<W.heap.size):
  Kd.S (Kd.slice 3 (Kd.int .i64)) 25 (a.setCell ⟨g0,c,none⟩ s) b (fun _=>True) (.slice (some ⟨g0,0,none⟩) X.length cap) (X.set c e):=by
 have h:=(Kd.By (d:=Kd.slice 3 (Kd.int .i64)) (okg:=fun q=>W.heap.size<=q) (ok:=fun _=>True) (okp:=fun q=>oki q\/W.heap.size<=q) (seg:=[s]) (j:=0) (x':=e) (Kd.ue (Kd.Bt hH) i k) (by omega) (by omega) (by simp[Kd.slice]) (Kd.lq l) (fun q g=>g) (fun q g=>⟨trivial,by omega⟩)).1;rw[aD] at h;simpa [Kd.slice,World.setCells] using h
theorem vq {X:List (List Int)} {c k:Nat} {y:List Int} {x:Int} (h:∀z∈X,z.length<=k) (b:y.length<=k):∀z∈X.set c (y++[x]),z.length<=k+1:=fun z a=>by
 rcases List.mem_or_eq_of_mem_set a with h1|h1
 ·exact Nat.le_succ_of_le (h z h1)
 ·subst h1;simp;omega
theorem C2 (g n:Nat) (p:Nat->Nat) (w:World) (hn:n<=12) (hf:iJ p) (hw:ej w g p):
  Calls Tryz.prog 197 #[.pointer (some ⟨g,0,none⟩),.int .i64 n] w fun e w'=>∃A c,e= .returned (.slice A (cm p n) c)/\Below w.heap.size w w':=by
 have c0:=@run_makeMap Tryz.prog;have d1:=hw.lt;go_enter Tryz.func197,Tryz.ntmps197
 go_wp2;have hB:=ai (aj w.heap.size w) (.map #[] 0);have hM:=World.ownsMap_made (H:=Unit) w Tryz.prog 3 (plainElem Tryz.prog 3);generalize cf:w.heap.size=b at hM hB⊢;generalize (w.alloc (.map #[] 0))=W0 at hM hB⊢;clear c0;go_loopw [5,11] (fun v i wr=>∃(k:Nat) (xs:List (List Int)) (D:DataW Unit),k<=n/\i= .int .i64 k/\Aside0 (xs.length=cm p k)/\Aside0 (∀y∈xs,y.length<=k)/\Aside0 (Kd.S (Kd.slice 3 (Kd.int .i64)) 25 wr b (fun _=>True) v xs)/\Aside0 (wr.ownsMap Tryz.prog 3 (plainElem Tryz.prog 3) b k D)/\Aside0 (lH p k (cm p k) D)/\Aside0 (Below b w wr)) (fun _ i _=>n- (intOf i).toNat)
 case atStart=>exact⟨0,[],_,by omega,rfl,⟨rfl⟩,⟨fun y hy=>absurd hy (by simp)⟩,⟨Kd.ij _ _ _ _ _⟩,⟨hM⟩,⟨isMap_empty,fun r hr=>absurd hr (by omega)⟩,⟨hB⟩⟩
 case round=>
  clear hM hB;obtain⟨k,xs,D,hk,rfl,Y,HY,Z,HM,HP,HB⟩:=hrel;by_cases d2:k<n
  ·have hle:=ji p k
   have d3:=nD p k;have CR:=zA (qY g k p wr hf (by omega) (hw.below (by rw[cf];exact HB.out)));have cg:=Lib.hid (mj p k);have Hs:Hid (cm p (k+1)=cm p k+(if rootOf p k=k then 1 else 0)):=Lib.hid rfl;by_cases F:rootOf p k=k
   ·have ci:=Lib.hid F
    rw[F] at CR;clear F hle;obtain⟨Ao,co,rfl⟩:=Kd.l5 Z.out;have d4:xs.length<=12:=by have:=Y.out;omega
    obtain⟨es,ck,s, -⟩:=HM.out;have c2:some b≠(Value.slice Ao xs.length co).ownBlock:=fun e=>by
     obtain⟨cs,u⟩:=Kd.oO Z.out b e.symm;rw[s] at u;cases u
    have c3:=zA (Kd.lC (ok':=fun q=>q≠b) (Kd.mW Z.out) (fun q m e=>by obtain⟨t,_,cs,u⟩:=m.2.2.2;subst e;rw[s] at u;cases u));clear s es ck;have bl:=HP.out.put (by omega);have G:cm p (k+1)=cm p k+1:=by rw[Hs.out,if_pos ci.out]
    rw[<-G,<-Y.out] at bl;have bf:cm p (k+1)=xs.length+1:=by rw[G,Y.out]
    have c4:=zA bf;clear G bf;have c5:=zA bl;clear bl;go_wp2_with (first|(go_at_call 210;refine CR.out.mono ?_;rintro e w1 ⟨rfl,rfl⟩)|(at_mapUpdate;refine wpList_mapUpdate_own _ rfl _ _ _ 229 rfl 3 3 q6 Tryz.underlying229 _ b k _ rfl HM.out (by unfold maxLen;omega) _ _ _ rfl rfl (q9 (by omega)) _ [] (plainElem_int Tryz.underlying3 (WalkArith.wf_i64 (by omega))) ?_;intro w2 cl bn;have cp:=zA cl;have c6:=zA (Kd.tX c3.out bn (fun q m e=>m (by injection e)));have c7:=zA (HB.out.grown bn (by have:=HM.out.lt;omega) (fun q e=>by injection e with e;omega));clear cl bn)|(at_builtin;refine Kd.Bq (Kd.slice 3 (Kd.int .i64)) (w0:=w) b rfl (.tmp 24) (.tmp 25) 73 25 (.slice none 0 0) 24 rfl Tryz.underlying73 uE rfl (by decide) (by omega) _ xs [] [.slice none 0 0] (fun _=>True) (fun _=>False) rfl rfl (Kd.lq (Kd.df _ _ _ _ _)) (fun _ hk=>hk.elim) (fun _ _=>trivial) (Kd.lC c6.out (fun q _=>⟨trivial,fun h=>h⟩)) c7.out (by have:=cp.out.lt;omega) (by omega) ?_;intro v3 W cq cr cv c8;have I:=zA cq;have am:=zA cr;have l:=zA (cp.out.kept cv c2);have J:=c5;clear cq cr cv c8))
    generalize d5:D.put (.int .i64 k) (.lit (.int .i64 xs.length))=K at l J;have aa:Aside0 ((xs++[[]]).length=cm p (k+1)):=⟨by rw[c4.out];simp⟩;have ab:Aside0 (∀y∈xs++[[]],y.length<=k):=⟨fun y hy=>by
     rcases List.mem_append.1 hy with h|h
     ·exact HY.out y h
     ·simp at h;subst h;simp⟩
    generalize hX:xs++[[]]=X at I aa ab;obtain⟨c,bo,an⟩:=J.out.2 k (by omega) ci.out;have C:∀w':World,w'.ownsMap Tryz.prog 3 (plainElem Tryz.prog 3) b (k+1) K->(Instr.lookup 229 (.map (some b)) (.int .i64 (k:Nat)) false).run Tryz.prog w'= .ok (.int .i64 c) w':=fun w' h=>by
     obtain⟨c',bq,o,_⟩:=h.lookup_int q6 Tryz.underlying229 Tryz.underlying3 (qZ _) (q9 (a:=k) (by omega));rw[an] at o;injection o with o
     injection o with _ o
     rw[bq,o]
    have bv:=aa.out;have bw:=nD p (k+1);obtain⟨g0,cap,hv,dd,L,cells,M⟩:=Kd.qC I.out (by omega)
    (first|subst hv|(injection hv with bx _ b0;subst bx;subst b0))
    obtain⟨oki,cc,b1,⟨ev,rfl,j⟩,ap,ar,N,hH⟩:=Kd.uf (Kd.lC (ok':=fun q=>True/\¬W.heap.size<=q) (Kd.mW I.out) (fun q m=>⟨trivial,by have:=m.2.2.1;omega⟩)) [] (c:Int) (by omega) (by omega);have O:(X.getD (c:Int).toNat []).length<=k:=by
     have P:c<X.length:=by omega
     rw[aD,aW,bp P];exact ab.out _ (List.getElem_mem P)
    have av:W.cell? ⟨g0,c,none⟩=some ev:=by have h1:=ap 0 _ rfl;rw[aD] at h1;simpa [Kd.slice] using h1
    have aB:W.frozen? ⟨g0,c,none⟩=false:=by have h1:=ar 0;rw[aD] at h1;simpa [Kd.slice] using h1
    rw[aD] at j O;have b2:=Lib.hid (show (X.getD (c:Int).toNat [])=X.getD c [] by rw[aD]);generalize X.getD c []=y at j O b2;obtain⟨Q,ce,rfl⟩:=Kd.bh j;have aF:some b≠(Value.slice Q y.length ce).ownBlock:=fun e=>by
     obtain⟨cs,u⟩:=Kd.f_ j b e.symm;obtain⟨es,ck,s, -⟩:=l.out;rw[s] at u;cases u
    have dk:g0≠b:=fun e=>by
     subst e;obtain⟨es,ck,s, -⟩:=l.out;rw[s] at M;cases M
    have aL:some g0≠(Value.slice Q y.length ce).ownBlock:=fun e=>(N g0 (j.1 g0 e.symm)).2 rfl
    have HR:=zA (Kd.bA (Kd.a_ (ok':=fun q=>oki q\/W.heap.size<=q) j (fun q m=>.inl m)));have aP:=zA hH;have aS:=zA j.1;have b3:=zA N;clear hH ap ar j N M cells b1;have b4:=C _ l.out.drew;have b5:=C _ ((l.out.alloc (.cells #[.int .i64 k] 3)).drew);have dl:(0:Int)<=(c:Int):=by omega
    have ds:(c:Int)<(X.length:Int):=by omega
    have a0:=zA C;have dv:c<12:=by omega
    have bf:X.length<=12:=by omega
    have P:c<X.length:=by omega
    clear C an bo bv bw;go_region_law ((refine Kd.qk (Kd.int .i64) (w0:=w) (W:=W.drew) b (by rfl) (.tmp 36) (.tmp 38) 25 3 (.int .i64 0) 8 (by rfl) Tryz.underlying25 il rfl (by decide) (by omega) _ y (k:Int) [.int .i64 k] (fun q=>oki q\/W.heap.size<=q) (fun _=>False) (by rfl) (by rfl) rfl (fun _ hk=>hk.elim) (fun q m=>.inr m) HR.out (bY am.out) (by have:=am.out.size;show b<=W.heap.size;omega) (by omega) ?_;intro v4 x R a1 B b6;obtain⟨T,U,a2⟩:=Kd.bh R;rw[show (y++[(k:Int)]).length=y.length+1 by simp] at a2;subst a2;have a3:=zA R;have V:=zA a1;have E:=zA B;have b_:=a0.out _ (l.out.drew.kept B aF);have b':x.cell? ⟨g0,c,none⟩=some (.slice Q y.length ce):=(B.cell_far ⟨g0,c,none⟩ L aL).trans av;have ca:x.frozen? ⟨g0,c,none⟩=false:=(B.frozen_far ⟨g0,c,none⟩ L aL).trans aB;clear R a1 B b6))
    all_goals have n0:=zA (vp aP.out (by omega) E.out aS.out a3.out L)
    all_goals have n1:=zA ((l.out.drew.kept E.out aF).kept (kD x g0 c (.slice T (y.length+1) U)) (by simp;omega))
    all_goals have n2:=zA (V.out.grown (kD x g0 c (.slice T (y.length+1) U)) (by have:=V.out.size;have:=l.out.lt;have:W.drew.heap.size=W.heap.size:=rfl;have:=E.out.size;omega) (fun q e=>by injection e with e;omega))
    all_goals have n3:=zA (J.out)
    all_goals have n4:Aside0 (∀z∈X.set c (y++[(k:Int)]),z.length<=k+1):=⟨vq ab.out O⟩
    all_goals have n5:Aside0 ((X.set c (y++[(k:Int)])).length=X.length):=⟨List.length_set⟩
    all_goals clear b4 b5 b_ av aB b' ca E V a3 a0 aP aS b3 HR
    all_goals generalize (x.setCell ⟨g0,c,none⟩ (.slice T (y.length+1) U))=w5 at n0 n1 n2⊢
    all_goals go_wp2
    all_goals exact⟨⟨k+1,_,K,by omega,by go_num,⟨by rw[n5.out];exact aa.out⟩,n4,n0,n1,n3,n2⟩,(show n- ((k:Int)+1).toNat<n- ((k:Int)).toNat by omega)⟩
   ·have d0:rootOf p k<k:=by omega
    have d7:=Lib.hid F;have J:=zA (HP.out.skip F);have G:cm p (k+1)=cm p k:=by rw[Hs.out,if_neg F];rfl
    have aa:=zA (Y.out.trans G.symm);rw[<-G] at J;clear G F hle;have ab:=HY;have l:=zA (HM.out.mono (Nat.le_succ k));have I:=Z;have am:=HB;clear HM Z HB HP Y HY;obtain⟨Ao,co,rfl⟩:=Kd.l5 I.out;obtain⟨W,rfl⟩:∃W,W=wr:=⟨_,rfl⟩;obtain⟨X,rfl⟩:∃X,X=xs:=⟨_,rfl⟩;obtain⟨K,rfl⟩:∃K,K=D:=⟨_,rfl⟩;generalize cx:rootOf p k=r at d0 CR cg;have d8:=Lib.hid cx;clear cx;have d9:((r:Nat):Int)≠(k:Int):=by omega
    go_wp2_with (first|(go_at_call 210;refine CR.out.mono ?_;rintro e w1 ⟨rfl,rfl⟩))
    obtain⟨c,bo,an⟩:=J.out.2 r (by omega) cg.out;have C:∀w':World,w'.ownsMap Tryz.prog 3 (plainElem Tryz.prog 3) b (k+1) K->(Instr.lookup 229 (.map (some b)) (.int .i64 (r:Nat)) false).run Tryz.prog w'= .ok (.int .i64 c) w':=fun w' h=>by
     obtain⟨c',bq,o,_⟩:=h.lookup_int q6 Tryz.underlying229 Tryz.underlying3 (qZ _) (q9 (a:=r) (by omega));rw[an] at o;injection o with o
     injection o with _ o
     rw[bq,o]
    have bv:=aa.out;have bw:=nD p (k+1);obtain⟨g0,cap,hv,dd,L,cells,M⟩:=Kd.qC I.out (by omega)
    (first|subst hv|(injection hv with bx _ b0;subst bx;subst b0))
    obtain⟨oki,cc,b1,⟨ev,rfl,j⟩,ap,ar,N,hH⟩:=Kd.uf (Kd.lC (ok':=fun q=>True/\¬W.heap.size<=q) (Kd.mW I.out) (fun q m=>⟨trivial,by have:=m.2.2.1;omega⟩)) [] (c:Int) (by omega) (by omega);have O:(X.getD (c:Int).toNat []).length<=k:=by
     have P:c<X.length:=by omega
     rw[aD,aW,bp P];exact ab.out _ (List.getElem_mem P)
    have av:W.cell? ⟨g0,c,none⟩=some ev:=by have h1:=ap 0 _ rfl;rw[aD] at h1;simpa [Kd.slice] using h1
    have aB:W.frozen? ⟨g0,c,none⟩=false:=by have h1:=ar 0;rw[aD] at h1;simpa [Kd.slice] using h1
    rw[aD] at j O;have b2:=Lib.hid (show (X.getD (c:Int).toNat [])=X.getD c [] by rw[aD]);generalize X.getD c []=y at j O b2;obtain⟨Q,ce,rfl⟩:=Kd.bh j;have aF:some b≠(Value.slice Q y.length ce).ownBlock:=fun e=>by
     obtain⟨cs,u⟩:=Kd.f_ j b e.symm;obtain⟨es,ck,s, -⟩:=l.out;rw[s] at u;cases u
    have dk:g0≠b:=fun e=>by
     subst e;obtain⟨es,ck,s, -⟩:=l.out;rw[s] at M;cases M
    have aL:some g0≠(Value.slice Q y.length ce).ownBlock:=fun e=>(N g0 (j.1 g0 e.symm)).2 rfl
    have HR:=zA (Kd.bA (Kd.a_ (ok':=fun q=>oki q\/W.heap.size<=q) j (fun q m=>.inl m)));have aP:=zA hH;have aS:=zA j.1;have b3:=zA N;clear hH ap ar j N M cells b1;have b4:=C _ l.out.drew;have b5:=C _ ((l.out.alloc (.cells #[.int .i64 k] 3)).drew);have dl:(0:Int)<=(c:Int):=by omega
    have ds:(c:Int)<(X.length:Int):=by omega
    have a0:=zA C;have dv:c<12:=by omega
    have bf:X.length<=12:=by omega
    have P:c<X.length:=by omega
    clear C an bo bv bw;go_region_law ((refine Kd.qk (Kd.int .i64) (w0:=w) (W:=W.drew) b (by rfl) (.tmp 36) (.tmp 38) 25 3 (.int .i64 0) 8 (by rfl) Tryz.underlying25 il rfl (by decide) (by omega) _ y (k:Int) [.int .i64 k] (fun q=>oki q\/W.heap.size<=q) (fun _=>False) (by rfl) (by rfl) rfl (fun _ hk=>hk.elim) (fun q m=>.inr m) HR.out (bY am.out) (by have:=am.out.size;show b<=W.heap.size;omega) (by omega) ?_;intro v4 x R a1 B b6;obtain⟨T,U,a2⟩:=Kd.bh R;rw[show (y++[(k:Int)]).length=y.length+1 by simp] at a2;subst a2;have a3:=zA R;have V:=zA a1;have E:=zA B;have b_:=a0.out _ (l.out.drew.kept B aF);have b':x.cell? ⟨g0,c,none⟩=some (.slice Q y.length ce):=(B.cell_far ⟨g0,c,none⟩ L aL).trans av;have ca:x.frozen? ⟨g0,c,none⟩=false:=(B.frozen_far ⟨g0,c,none⟩ L aL).trans aB;clear R a1 B b6))
    all_goals have n0:=zA (vp aP.out (by omega) E.out aS.out a3.out L)
    all_goals have n1:=zA ((l.out.drew.kept E.out aF).kept (kD x g0 c (.slice T (y.length+1) U)) (by simp;omega))
    all_goals have n2:=zA (V.out.grown (kD x g0 c (.slice T (y.length+1) U)) (by have:=V.out.size;have:=l.out.lt;have:W.drew.heap.size=W.heap.size:=rfl;have:=E.out.size;omega) (fun q e=>by injection e with e;omega))
    all_goals have n3:=zA (J.out)
    all_goals have n4:Aside0 (∀z∈X.set c (y++[(k:Int)]),z.length<=k+1):=⟨vq ab.out O⟩
    all_goals have n5:Aside0 ((X.set c (y++[(k:Int)])).length=X.length):=⟨List.length_set⟩
    all_goals clear b4 b5 b_ av aB b' ca E V a3 a0 aP aS b3 HR
    all_goals generalize (x.setCell ⟨g0,c,none⟩ (.slice T (y.length+1) U))=w5 at n0 n1 n2⊢
    all_goals go_wp2
    all_goals exact⟨⟨k+1,_,K,by omega,by go_num,⟨by rw[n5.out];exact aa.out⟩,n4,n0,n1,n3,n2⟩,(show n- ((k:Int)+1).toNat<n- ((k:Int)).toNat by omega)⟩
  ·obtain rfl:k=n:=by omega
   go_wp2;go_ret;obtain⟨A,c,rfl⟩:=Kd.l5 Z.out;exact⟨A,c,by rw[Y.out];rfl,by rw[cf];exact HB.out⟩
end Go.Proofs.YtffdiakgjakngaaGreat.P
namespace Go.Proofs.YtffdiakgjakngaaGreat.P
open Go.RowKit Go.Proofs.YtffdiakgjakngaaGreatW.PrintWords Go.Proofs.YtffdiakgjakngaaGreatW.PrintLast Go.Proofs.YtffdiakgjakngaaGreatW.PrintMore
set_option linter.unusedVariables false
set_option linter.unusedSimpArgs false
set_option maxHeartbeats 8000000
set_option maxRecDepth 100000
def kE (N:Int) (E:List S83):Bool:=decide (0<=N/\N<=12)&&jf 12 E
def cG.f (k:Nat) (N:Int) (E:List S83):Option (Bool×Int):=
 (a7.f k N E).bind fun t=>if t=0 then(if kE N E=true then some (decide (cm (aJ E) N.toNat=1),0) else none) else some (false,t)
theorem cG.mono:∀a b k,al (cG.f k a b) (cG.f (k+1) a b):=by
 intro a b k;unfold cG.f;exact al.bind (a7.mono _ _ _) (fun _=>al.refl _)
theorem C3 (k:Nat) (N:Int) (A0:Option Addr) (c0:Nat) (E:List S83) (t:Int) (w:World) (b:Kd.C aM w A0 E.length E) (g:E.length<=c0) (a:a7.f k N E=some t) (j:t≠0):
  Calls Tryz.prog 172 #[.agg #[.int .i64 N,.slice A0 E.length c0]] w fun e w'=>e= .returned (.tuple #[.slice none 0 0,.int .i64 t])/\Below w.heap.size w w':=by
 have hu:=Tryz.underlying24;have h:=zA a;clear a;go_enter Tryz.func172,Tryz.ntmps172
 go_wp2_with (first|(go_at_call 64;refine(a7.calls k N A0 c0 E t _ (Kd.bC b _) g h.out).mono ?_;rintro e w1 ⟨rfl,hb⟩;have i:=zA (aQ (ai (aj w.heap.size w) _) hb);clear hb))
 go_ret2;exact⟨rfl,i.out⟩
theorem C4 (E:List S83):∀i,i<12->(#[.int .i64 (aJ E 0:Nat),.int .i64 (aJ E 1:Nat),.int .i64 (aJ E 2:Nat),.int .i64 (aJ E 3:Nat),.int .i64 (aJ E 4:Nat),.int .i64 (aJ E 5:Nat),.int .i64 (aJ E 6:Nat),.int .i64 (aJ E 7:Nat),.int .i64 (aJ E 8:Nat),.int .i64 (aJ E 9:Nat),.int .i64 (aJ E 10:Nat),.int .i64 (aJ E 11:Nat)]:Array Value)[i]? =some (.int .i64 (aJ E i:Nat)):=fun i hi=>by
 match i,hi with|0,_=>rfl|1,_=>rfl|2,_=>rfl|3,_=>rfl|4,_=>rfl|5,_=>rfl|6,_=>rfl|7,_=>rfl|8,_=>rfl|9,_=>rfl|10,_=>rfl|11,_=>rfl
theorem C5 (k:Nat) (n:Nat) (A0:Option Addr) (c0:Nat) (E:List S83) (w:World) (b:Kd.C aM w A0 E.length E) (j:E.length<=c0) (g:a7.f k n E=some 0) (hn:n<=12) (h:eE 12 E):
  Calls Tryz.prog 172 #[.agg #[.int .i64 n,.slice A0 E.length c0]] w fun e w'=>∃A c,e= .returned (.tuple #[.slice A (cm (aJ E) n) c,.int .i64 0])/\Below w.heap.size w w':=by
 have hu:=Tryz.underlying24;have l:=zA g;clear g;have m:=zA h;clear h;go_enter Tryz.func172,Tryz.ntmps172
 go_wp2_with (first|(go_at_call 64;refine(a7.calls k n A0 c0 E 0 _ (Kd.bC b _) j l.out).mono ?_;rintro e w1 ⟨rfl,hb⟩;have a:w1.heap[w.heap.size]? =some (.cells #[.int .i64 n,.slice A0 E.length c0] 24 (0,0)):=az (a6 w _) hb;have o:=zA (Kd.ax b (aQ (ai (aj w.heap.size w) _) hb));have p:=zA (aQ (ai (aj w.heap.size w) _) hb);clear hb;have v:w1.cell? ⟨w.heap.size,0,none⟩=some (.int .i64 n):=(ah a 0).trans rfl;have x:w1.cell? ⟨w.heap.size,1,none⟩=some (.slice A0 E.length c0):=(ah a 1).trans rfl)|(go_at_call 196;(with_reducible refine(C1 _ _ _ E _ o.out m.out).mono ?_);rintro e w2 ⟨rfl,hb⟩;have i:=aq (az a hb) (.cells #[.int .i64 (aJ E 0:Nat),.int .i64 (aJ E 1:Nat),.int .i64 (aJ E 2:Nat),.int .i64 (aJ E 3:Nat),.int .i64 (aJ E 4:Nat),.int .i64 (aJ E 5:Nat),.int .i64 (aJ E 6:Nat),.int .i64 (aJ E 7:Nat),.int .i64 (aJ E 8:Nat),.int .i64 (aJ E 9:Nat),.int .i64 (aJ E 10:Nat),.int .i64 (aJ E 11:Nat)] 217);have y:(w2.alloc (.cells #[.int .i64 (aJ E 0:Nat),.int .i64 (aJ E 1:Nat),.int .i64 (aJ E 2:Nat),.int .i64 (aJ E 3:Nat),.int .i64 (aJ E 4:Nat),.int .i64 (aJ E 5:Nat),.int .i64 (aJ E 6:Nat),.int .i64 (aJ E 7:Nat),.int .i64 (aJ E 8:Nat),.int .i64 (aJ E 9:Nat),.int .i64 (aJ E 10:Nat),.int .i64 (aJ E 11:Nat)] 217)).cell? ⟨w.heap.size,0,none⟩=some (.int .i64 n):=(ah i 0).trans rfl;have q:=zA (ai (aQ p.out hb) (.cells #[.int .i64 (aJ E 0:Nat),.int .i64 (aJ E 1:Nat),.int .i64 (aJ E 2:Nat),.int .i64 (aJ E 3:Nat),.int .i64 (aJ E 4:Nat),.int .i64 (aJ E 5:Nat),.int .i64 (aJ E 6:Nat),.int .i64 (aJ E 7:Nat),.int .i64 (aJ E 8:Nat),.int .i64 (aJ E 9:Nat),.int .i64 (aJ E 10:Nat),.int .i64 (aJ E 11:Nat)] 217));have r:=zA (show ej (w2.alloc (.cells #[.int .i64 (aJ E 0:Nat),.int .i64 (aJ E 1:Nat),.int .i64 (aJ E 2:Nat),.int .i64 (aJ E 3:Nat),.int .i64 (aJ E 4:Nat),.int .i64 (aJ E 5:Nat),.int .i64 (aJ E 6:Nat),.int .i64 (aJ E 7:Nat),.int .i64 (aJ E 8:Nat),.int .i64 (aJ E 9:Nat),.int .i64 (aJ E 10:Nat),.int .i64 (aJ E 11:Nat)] 217)) w2.heap.size (aJ E) from⟨_,a6 _ _,rfl,C4 E⟩);clear hb i)|(go_at_call 197;(with_reducible refine(C2 _ n (aJ E) _ hn (vm E) r.out).mono ?_);rintro e w3 ⟨s,c3,rfl,hb⟩;have u:=zA (aQ q.out hb);clear hb))
 go_ret2;exact⟨s,c3,rfl,u.out⟩
theorem cG.calls (k:Nat) (p:Int) (j:Option Addr) (l:Nat) (a:List (S83)) (v:Bool) (x:Int) (w:World) (q:Kd.C aM w j a.length a) (y:a.length<=l) (h:cG.f k p a=some (v,x)):
  Calls Tryz.prog 113 #[.agg #[.int .i64 p,.slice j a.length l]] w fun e w'=>e= .returned (.tuple #[.bool v,.int .i64 x])/\Below w.heap.size w w':=by
 unfold cG.f at h;obtain⟨t,o,h⟩:=Option.bind_eq_some_iff.1 h;split at h
 ·rename_i r
  subst r;split at h
  case isFalse=>cases h
  rename_i z;simp only[kE,Bool.and_eq_true,decide_eq_true_eq] at z;obtain⟨⟨D,H⟩,B⟩:=z;obtain⟨n,rfl⟩:=Int.eq_ofNat_of_zero_le D;injection h with h
  injection h with h1 s
  subst s;rw[aD] at h1;have b:=fun W u=>C5 k n j l a W u y o (by omega) (jE (n:=12) B)
  have g:=zA b;have H1:=zA h1;clear b o B h1;have E:=nD (aJ a) n;generalize cm (aJ a) n=m at g H1 E;by_cases hm:m=1
  ·subst hm
   go_enter Tryz.func113,Tryz.ntmps113
   go_wp2_with (first|(go_at_call 172;refine(g.out _ (Kd.bC q _)).mono ?_;rintro e w1 ⟨F,c1,rfl,hb⟩;have i:=zA (aQ (ai (aj w.heap.size w) _) hb);clear hb))
   go_ret2;exact⟨by rw[<-H1.out];rfl,i.out⟩
  ·have G:((m:Nat):Int)≠1:=by omega
   go_enter Tryz.func113,Tryz.ntmps113
   go_wp2_with (first|(go_at_call 172;refine(g.out _ (Kd.bC q _)).mono ?_;rintro e w1 ⟨F,c1,rfl,hb⟩;have i:=zA (aQ (ai (aj w.heap.size w) _) hb);clear hb))
   go_ret2;exact⟨by rw[<-H1.out,ba hm,<-(beq_eq_false_iff_ne.2 G:((m:Int)==1)=false)];rfl,i.out⟩
 ·rename_i r
  injection h with h
  injection h with h1 s
  subst h1;subst s;have b:=fun W u=>C3 k p j l a t W u y o r
  have g:=zA b;clear b o;go_enter Tryz.func113,Tryz.ntmps113
  go_wp2_with (first|(go_at_call 172;refine(g.out _ (Kd.bC q _)).mono ?_;rintro e w1 ⟨rfl,hb⟩;have i:=zA (aQ (ai (aj w.heap.size w) _) hb);clear hb))
  go_ret2;exact⟨rfl,i.out⟩
def dA.f (k:Nat) (b:Int) (g:List (S83)) (e:Int):Option (Int):=(cG.f k b g).bind fun a=>(if a.2=0 then(if a.1=true then(if e<0 then(some 2) else(if e>=b then(some 2) else(some 0))) else(some 13)) else(some a.2))
theorem dA.mono:∀a0 a a2 k,al (dA.f k a0 a a2) (dA.f (k+1) a0 a a2):=by
 intro a0 a a2 k;unfold dA.f;with_reducible repeat' first|exact cG.mono _ _ _|exact al.refl _|exact al.none _|refine al.ite ?_ ?_|refine al.bind ?_ (fun _=>?_)
theorem dA.calls (k:Nat) (j:Int) (m:Option Addr) (n:Nat) (g:List (S83)) (x:Int) (r:Int) (w:World) (E:Kd.C aM w m g.length g) (F:g.length<=n) (h:dA.f k j g x=some r):
  Calls Tryz.prog 211 #[.agg #[.int .i64 j,.slice m g.length n],.int .i64 x] w fun e w'=>e= .returned (.int .i64 r)/\Below w.heap.size w w':=by
 have M:=Tryz.underlying24;have s:=zA E;have u:=zA F;clear E F;have a:=zA (aj w.heap.size w);unfold dA.f at h;have H:=h;clear h;obtain⟨⟨G,o⟩,v,H⟩:=zo H;dsimp only at H;by_cases c4:o=0
 ·rw[if_pos c4] at H
  obtain⟨I,J⟩:=bZ c4;clear c4;by_cases y:G=true
  ·subst y
   replace H:=zi H;by_cases p:x<0
   ·rw[if_pos p] at H
    have K:=aE p;clear p;obtain rfl:=aX H;go_enter Tryz.func211,Tryz.ntmps211
    go_wp2_with (first|((with_reducible refine aU (N:=2) rfl ?_);refine zX 2 #[.int .i64 j,.slice m g.length n] 24 ?_;intro z i O l hb;have b:=zA (l);have B:=zG a i;have D:=zG a i;replace a:=zS a hb;clear hb l i;obtain⟨P,Q,R,S⟩:=aC b)|((with_reducible refine aR (f:=113) rfl ?_);refine zL (some 9) Tryz.func113 #[.agg #[.int .i64 j,.slice m g.length n]] ?_;(with_reducible refine(cG.calls k j _ _ g true o _ ?au ?aw v.out).mono ?_);(case au=>exact Kd.ax s.out zB);(case aw=>exact u.out);rintro e T ⟨rfl,hb⟩;refine⟨_,rfl,?_⟩;replace b:=zb b hb;replace a:=zS a hb;(try clear hb)))
    go_ret;exact⟨zE,zB⟩
   ·rw[if_neg p] at H
    have K:=ba p;clear p;by_cases q:x>=j
    ·rw[if_pos q] at H
     have L:=aE q;clear q;obtain rfl:=aX H;go_enter Tryz.func211,Tryz.ntmps211
     go_wp2_with (first|((with_reducible refine aU (N:=2) rfl ?_);refine zX 2 #[.int .i64 j,.slice m g.length n] 24 ?_;intro z i U l hb;have b:=zA (l);have B:=zG a i;have D:=zG a i;replace a:=zS a hb;clear hb l i;obtain⟨V,W,X,Y⟩:=aC b)|((with_reducible refine aR (f:=113) rfl ?_);refine zL (some 9) Tryz.func113 #[.agg #[.int .i64 j,.slice m g.length n]] ?_;(with_reducible refine(cG.calls k j _ _ g true o _ ?au ?aw v.out).mono ?_);(case au=>exact Kd.ax s.out zB);(case aw=>exact u.out);rintro e Z ⟨rfl,hb⟩;refine⟨_,rfl,?_⟩;replace b:=zb b hb;replace a:=zS a hb;(try clear hb);obtain⟨aa,ab,ad,ag⟩:=aC b))
     go_ret;exact⟨zE,zB⟩
    ·rw[if_neg q] at H
     have L:=ba q;clear q;obtain rfl:=aX H;go_enter Tryz.func211,Tryz.ntmps211
     go_wp2_with (first|((with_reducible refine aU (N:=2) rfl ?_);refine zX 2 #[.int .i64 j,.slice m g.length n] 24 ?_;intro z i ak l hb;have b:=zA (l);have B:=zG a i;have D:=zG a i;replace a:=zS a hb;clear hb l i;obtain⟨am,an,ao,ap⟩:=aC b)|((with_reducible refine aR (f:=113) rfl ?_);refine zL (some 9) Tryz.func113 #[.agg #[.int .i64 j,.slice m g.length n]] ?_;(with_reducible refine(cG.calls k j _ _ g true o _ ?au ?aw v.out).mono ?_);(case au=>exact Kd.ax s.out zB);(case aw=>exact u.out);rintro e ar ⟨rfl,hb⟩;refine⟨_,rfl,?_⟩;replace b:=zb b hb;replace a:=zS a hb;(try clear hb);obtain⟨av,aB,aF,aL⟩:=aC b))
     go_ret;exact⟨zE,zB⟩
  ·replace y:=Bool.eq_false_iff.mpr y
   subst y;replace H:=zj H;obtain rfl:=aX H;go_enter Tryz.func211,Tryz.ntmps211
   go_wp2_with (first|((with_reducible refine aU (N:=2) rfl ?_);refine zX 2 #[.int .i64 j,.slice m g.length n] 24 ?_;intro z i aO l hb;have b:=zA (l);have B:=zG a i;have D:=zG a i;replace a:=zS a hb;clear hb l i;obtain⟨aP,aS,a0,a2⟩:=aC b)|((with_reducible refine aR (f:=113) rfl ?_);refine zL (some 9) Tryz.func113 #[.agg #[.int .i64 j,.slice m g.length n]] ?_;(with_reducible refine(cG.calls k j _ _ g false o _ ?au ?aw v.out).mono ?_);(case au=>exact Kd.ax s.out zB);(case aw=>exact u.out);rintro e a3 ⟨rfl,hb⟩;refine⟨_,rfl,?_⟩;replace b:=zb b hb;replace a:=zS a hb;(try clear hb)))
   go_ret;exact⟨zE,zB⟩
 ·rw[if_neg c4] at H
  obtain⟨I,J⟩:=b7 c4;obtain rfl:=aX H;go_enter Tryz.func211,Tryz.ntmps211
  go_wp2_with (first|((with_reducible refine aU (N:=2) rfl ?_);refine zX 2 #[.int .i64 j,.slice m g.length n] 24 ?_;intro z i a4 l hb;have b:=zA (l);have B:=zG a i;have D:=zG a i;replace a:=zS a hb;clear hb l i;obtain⟨a5,a9,bb,be⟩:=aC b)|((with_reducible refine aR (f:=113) rfl ?_);refine zL (some 9) Tryz.func113 #[.agg #[.int .i64 j,.slice m g.length n]] ?_;(with_reducible refine(cG.calls k j _ _ g G o _ ?au ?aw v.out).mono ?_);(case au=>exact Kd.ax s.out zB);(case aw=>exact u.out);rintro e bf ⟨rfl,hb⟩;refine⟨_,rfl,?_⟩;replace b:=zb b hb;replace a:=zS a hb;(try clear hb)))
  go_ret;exact⟨zE,zB⟩
def cW.l0:Nat->Int->List Int->Int->Int->Option (Int)
 |0,_,_,_,_=>none
 |k+1,x1,b,e,a=>if a<e then(if 0<=a then(if a<(b.length:Int) then(if a=x1 then(cW.l0 k x1 b e (wrap64 (a+1))) else(if(rd b a)<0 then(some 2) else(cW.l0 k x1 b e (wrap64 (a+1))))) else(none)) else(none)) else(some 0)
def cW.f (k:Nat) (a:Int) (h:List (S83)) (b:Int) (l2:List Int):Option (Int):=(dA.f k a h b).bind fun e=>(if e=0 then((bz.f k l2 a).bind fun g=>(if g=0 then(cW.l0 k b l2 (l2.length:Int) 0) else(some g))) else(some e))
theorem cW.cE:∀k,(∀a b e g,al (cW.l0 k a b e g) (cW.l0 (k+1) a b e g))
 |0=>fun _ _ _ _ r h=>by simp[cW.l0] at h
 |k+1=>by
  have i:=cW.cE k
  ·intro a b e g
   unfold cW.l0;with_reducible repeat' first|exact i _ _ _ _|exact bz.mono _ _ _|exact dA.mono _ _ _ _|exact al.refl _|exact al.none _|refine al.ite ?_ ?_|refine al.bind ?_ (fun _=>?_)
theorem cW.mono:∀a0 a a2 a3 k,al (cW.f k a0 a a2 a3) (cW.f (k+1) a0 a a2 a3):=by
 intro a0 a a2 a3 k;have b:=cW.cE k;unfold cW.f;with_reducible repeat' first|exact b _ _ _ _|exact bz.mono _ _ _|exact dA.mono _ _ _ _|exact al.refl _|exact al.none _|refine al.ite ?_ ?_|refine al.bind ?_ (fun _=>?_)
theorem cW.calls (k:Nat) (i:Int) (q:Option Addr) (s:Nat) (j:List (S83)) (p:Int) (G:Option Addr) (c2:Nat) (l2:List Int) (r:Int) (w:World) (T:Kd.C aM w q j.length j) (U:j.length<=s) (V:Kd.C (Kd.int .i64) w G l2.length l2) (W:l2.length<=c2) (h:cW.f k i j p l2=some r):
  Calls Tryz.prog 224 #[.agg #[.int .i64 i,.slice q j.length s],.int .i64 p,.slice G l2.length c2] w fun e w'=>e= .returned (.int .i64 r)/\Below w.heap.size w w':=by
 have a4:=Tryz.underlying24;have M:=zA T;have O:=zA U;clear T U;have z:=zA V;have X:=zA W;clear V W;have a:=zA (aj w.heap.size w);unfold cW.f at h;have H:=h;clear h;obtain⟨I,P,H⟩:=zo H;by_cases B:I=0
 ·rw[if_pos B] at H
  obtain⟨Y,Z⟩:=bZ B;clear B;obtain⟨Q,A6,H⟩:=zo H;by_cases D:Q=0
  ·rw[if_pos D] at H
   obtain⟨ab,ad⟩:=bZ D;clear D;have v:=zA H;clear H;go_enter Tryz.func224,Tryz.ntmps224
   go_wp2_with (first|((with_reducible refine aU (N:=3) rfl ?_);refine zX 3 #[.int .i64 i,.slice q j.length s] 24 ?_;intro R l w8 u hb;have g:=zA (u);have ag:=zG a l;have ak:=zG a l;replace a:=zS a hb;clear hb u l;obtain⟨ap,ar,av,aB⟩:=aC g)|((with_reducible refine aR (f:=211) rfl ?_);refine zL (some 13) Tryz.func211 #[.agg #[.int .i64 i,.slice q j.length s],.int .i64 p] ?_;(with_reducible refine(dA.calls k i _ _ j p I _ ?au ?aw P.out).mono ?_);(case au=>exact Kd.ax M.out zB);(case aw=>exact O.out);rintro e a9 ⟨rfl,hb⟩;refine⟨_,rfl,?_⟩;replace g:=zb g hb;replace a:=zS a hb;(try clear hb);obtain⟨aF,aL,aO,aP⟩:=aC g)|((with_reducible refine aR (f:=87) rfl ?_);refine zL (some 20) Tryz.func87 #[.slice G l2.length c2,.int .i64 i] ?_;(with_reducible refine(bz.calls k _ _ l2 i Q _ ?au ?aw A6.out).mono ?_);(case au=>exact Kd.ax z.out zB);(case aw=>exact X.out);rintro e w' ⟨rfl,⟨nd,rfl⟩⟩;refine⟨_,rfl,?_⟩))
   go_loopg [26] k (fun kq v26 w'=>∃(b:Int),v26= .int .i64 b/\Aside0 (cW.l0 kq p l2 (l2.length:Int) b=some r)/\Aside0 (kq<=k)/\Aside0 (w'.heap[R]? =some (.cells #[.int .i64 i,(.slice q j.length s)] 24 (0,0)))/\Aside0 (Below w.heap.size w w'))
   case atStart=>exact⟨(0),zT,v,⟨aI _⟩,⟨zK g⟩,⟨zB⟩⟩
   case round=>
    clear v;clear Y Z ab ad aF aL ap ar aO aP av aB;obtain⟨b,rfl,S,J,g,a⟩:=hrel;cases gk with
    |zero=>exact absurd S.out (by simp[cW.l0])
    |succ k1=>
     have H:=S.out;clear S;simp only[cW.l0] at H;by_cases x:b<(l2.length:Int)
     ·rw[if_pos x] at H
      have aS:=aE x;clear x;by_cases K:0<=b
      ·rw[if_pos K] at H
       have bb:=aE K;clear K;by_cases L:b<(l2.length:Int)
       ·rw[if_pos L] at H
        have be:=aE L;clear L;by_cases E:b=p
        ·rw[if_pos E] at H
         obtain⟨a0,a2⟩:=bZ E;clear E;have v:=zA H;clear H;have m:0<=(b:Int):=aA ‹_›;have n:b<(l2.length:Int):=aA ‹_›;obtain⟨ao,F,o⟩:=Kd.cI z.out b m n;cases F;replace o:=(a.out.cell (bm w _ o)).trans o;replace m:=eq_true m;replace n:=eq_true n;go_wp2;go_roundg k1
         case measure=>have:=J.out;omega
         case rel=>exact⟨(wrap64 (b+1)),zT,v,⟨by have:=J.out;omega⟩,⟨zK g⟩,⟨zB⟩⟩
        ·rw[if_neg E] at H
         obtain⟨a0,a2⟩:=b7 E;by_cases y:(rd l2 b)<0
         ·rw[if_pos y] at H
          have a3:=aE y;clear y;obtain rfl:=aX H;have m:0<=(b:Int):=aA ‹_›;have n:b<(l2.length:Int):=aA ‹_›;obtain⟨ao,F,o⟩:=Kd.cI z.out b m n;cases F;replace o:=(a.out.cell (bm w _ o)).trans o;replace m:=eq_true m;replace n:=eq_true n;go_wp2;go_ret;exact⟨zE,zB⟩
         ·rw[if_neg y] at H
          have a3:=ba y;clear y;have v:=zA H;clear H;have m:0<=(b:Int):=aA ‹_›;have n:b<(l2.length:Int):=aA ‹_›;obtain⟨ao,F,o⟩:=Kd.cI z.out b m n;cases F;replace o:=(a.out.cell (bm w _ o)).trans o;replace m:=eq_true m;replace n:=eq_true n;go_wp2;go_roundg k1
          case measure=>have:=J.out;omega
          case rel=>exact⟨(wrap64 (b+1)),zT,v,⟨by have:=J.out;omega⟩,⟨zK g⟩,⟨zB⟩⟩
       ·rw[if_neg L] at H
        exact absurd H (by simp)
      ·rw[if_neg K] at H
       exact absurd H (by simp)
     ·rw[if_neg x] at H
      have aS:=ba x;clear x;obtain rfl:=aX H;go_wp2;go_ret;exact⟨zE,zB⟩
  ·rw[if_neg D] at H
   obtain⟨ab,ad⟩:=b7 D;obtain rfl:=aX H;go_enter Tryz.func224,Tryz.ntmps224
   go_wp2_with (first|((with_reducible refine aU (N:=3) rfl ?_);refine zX 3 #[.int .i64 i,.slice q j.length s] 24 ?_;intro R l bf u hb;have g:=zA (u);have ag:=zG a l;have ak:=zG a l;replace a:=zS a hb;clear hb u l;obtain⟨bg,bi,bk,bl⟩:=aC g)|((with_reducible refine aR (f:=211) rfl ?_);refine zL (some 13) Tryz.func211 #[.agg #[.int .i64 i,.slice q j.length s],.int .i64 p] ?_;(with_reducible refine(dA.calls k i _ _ j p I _ ?au ?aw P.out).mono ?_);(case au=>exact Kd.ax M.out zB);(case aw=>exact O.out);rintro e bn ⟨rfl,hb⟩;refine⟨_,rfl,?_⟩;replace g:=zb g hb;replace a:=zS a hb;(try clear hb);obtain⟨bo,bq,bv,bw⟩:=aC g)|((with_reducible refine aR (f:=87) rfl ?_);refine zL (some 20) Tryz.func87 #[.slice G l2.length c2,.int .i64 i] ?_;(with_reducible refine(bz.calls k _ _ l2 i Q _ ?au ?aw A6.out).mono ?_);(case au=>exact Kd.ax z.out zB);(case aw=>exact X.out);rintro e w' ⟨rfl,⟨nd,rfl⟩⟩;refine⟨_,rfl,?_⟩))
   go_ret;exact⟨zE,zB⟩
 ·rw[if_neg B] at H
  obtain⟨Y,Z⟩:=b7 B;obtain rfl:=aX H;go_enter Tryz.func224,Tryz.ntmps224
  go_wp2_with (first|((with_reducible refine aU (N:=3) rfl ?_);refine zX 3 #[.int .i64 i,.slice q j.length s] 24 ?_;intro R l bx u hb;have g:=zA (u);have ag:=zG a l;have ak:=zG a l;replace a:=zS a hb;clear hb u l;obtain⟨b0,b1,b2,b3⟩:=aC g)|((with_reducible refine aR (f:=211) rfl ?_);refine zL (some 13) Tryz.func211 #[.agg #[.int .i64 i,.slice q j.length s],.int .i64 p] ?_;(with_reducible refine(dA.calls k i _ _ j p I _ ?au ?aw P.out).mono ?_);(case au=>exact Kd.ax M.out zB);(case aw=>exact O.out);rintro e b4 ⟨rfl,hb⟩;refine⟨_,rfl,?_⟩;replace g:=zb g hb;replace a:=zS a hb;(try clear hb)))
  go_ret;exact⟨zE,zB⟩
def gH.f (k:Nat) (e:Int) (g:List (S83)) (a:Int) (l2:List Int):Option (Int):=(cW.f k e g a l2).bind fun b=>(if b=0 then(if 0<=a then(if a<(l2.length:Int) then(if(rd l2 a)=0 then(some 0) else(some 3)) else(none)) else(none)) else(some b))
theorem gH.mono:∀a0 a a2 a3 k,al (gH.f k a0 a a2 a3) (gH.f (k+1) a0 a a2 a3):=by
 intro a0 a a2 a3 k;unfold gH.f;with_reducible repeat' first|exact cW.mono _ _ _ _ _|exact al.refl _|exact al.none _|refine al.ite ?_ ?_|refine al.bind ?_ (fun _=>?_)
theorem gH.calls (k:Nat) (i:Int) (m:Option Addr) (n:Nat) (g:List (S83)) (b:Int) (u:Option Addr) (c2:Nat) (l2:List Int) (r:Int) (w:World) (K:Kd.C aM w m g.length g) (L:g.length<=n) (M:Kd.C (Kd.int .i64) w u l2.length l2) (O:l2.length<=c2) (h:gH.f k i g b l2=some r):
  Calls Tryz.prog 219 #[.agg #[.int .i64 i,.slice m g.length n],.int .i64 b,.slice u l2.length c2] w fun e w'=>e= .returned (.int .i64 r)/\Below w.heap.size w w':=by
 have X:=Tryz.underlying24;have E:=zA K;have F:=zA L;clear K L;have v:=zA M;have G:=zA O;clear M O;have a:=zA (aj w.heap.size w);unfold gH.f at h;have H:=h;clear h;obtain⟨z,I,H⟩:=zo H;by_cases x:z=0
 ·rw[if_pos x] at H
  obtain⟨S,T⟩:=bZ x;clear x;by_cases B:0<=b
  ·rw[if_pos B] at H
   have Y:=aE B;clear B;by_cases D:b<(l2.length:Int)
   ·rw[if_pos D] at H
    have Z:=aE D;clear D;by_cases y:(rd l2 b)=0
    ·rw[if_pos y] at H
     obtain⟨U,V⟩:=bZ y;clear y;obtain rfl:=aX H;go_enter Tryz.func219,Tryz.ntmps219
     go_wp2_with (first|((with_reducible refine aU (N:=3) rfl ?_);refine zX 3 #[.int .i64 i,.slice m g.length n] 24 ?_;intro P j w9 o hb;have l:=zA (o);have Q:=zG a j;have R:=zG a j;replace a:=zS a hb;clear hb o j;obtain⟨ab,ad,ag,ak⟩:=aC l)|((with_reducible refine aR (f:=224) rfl ?_);refine zL (some 11) Tryz.func224 #[.agg #[.int .i64 i,.slice m g.length n],.int .i64 b,.slice u l2.length c2] ?_;(with_reducible refine(cW.calls k i _ _ g b _ _ l2 z _ ?au ?aw ?bs ?br I.out).mono ?_);(case au=>exact Kd.ax E.out zB);(case aw=>exact F.out);(case bs=>exact Kd.ax v.out zB);(case br=>exact G.out);rintro e am ⟨rfl,hb⟩;refine⟨_,rfl,?_⟩;replace l:=zb l hb;replace a:=zS a hb;(try clear hb);have p:0<=(b:Int):=aA ‹_›;have q:b<(l2.length:Int):=aA ‹_›;obtain⟨W,J,s⟩:=Kd.cI v.out b p q;cases J;replace s:=(a.out.cell (bm w _ s)).trans s;replace p:=eq_true p;replace q:=eq_true q))
     go_ret;exact⟨zE,zB⟩
    ·rw[if_neg y] at H
     obtain⟨U,V⟩:=b7 y;obtain rfl:=aX H;go_enter Tryz.func219,Tryz.ntmps219
     go_wp2_with (first|((with_reducible refine aU (N:=3) rfl ?_);refine zX 3 #[.int .i64 i,.slice m g.length n] 24 ?_;intro P j an o hb;have l:=zA (o);have Q:=zG a j;have R:=zG a j;replace a:=zS a hb;clear hb o j;obtain⟨ao,ap,ar,av⟩:=aC l)|((with_reducible refine aR (f:=224) rfl ?_);refine zL (some 11) Tryz.func224 #[.agg #[.int .i64 i,.slice m g.length n],.int .i64 b,.slice u l2.length c2] ?_;(with_reducible refine(cW.calls k i _ _ g b _ _ l2 z _ ?au ?aw ?bs ?br I.out).mono ?_);(case au=>exact Kd.ax E.out zB);(case aw=>exact F.out);(case bs=>exact Kd.ax v.out zB);(case br=>exact G.out);rintro e aB ⟨rfl,hb⟩;refine⟨_,rfl,?_⟩;replace l:=zb l hb;replace a:=zS a hb;(try clear hb);have p:0<=(b:Int):=aA ‹_›;have q:b<(l2.length:Int):=aA ‹_›;obtain⟨W,J,s⟩:=Kd.cI v.out b p q;cases J;replace s:=(a.out.cell (bm w _ s)).trans s;replace p:=eq_true p;replace q:=eq_true q))
     go_ret;exact⟨zE,zB⟩
   ·rw[if_neg D] at H
    exact absurd H (by simp)
  ·rw[if_neg B] at H
   exact absurd H (by simp)
 ·rw[if_neg x] at H
  obtain⟨S,T⟩:=b7 x;obtain rfl:=aX H;go_enter Tryz.func219,Tryz.ntmps219
  go_wp2_with (first|((with_reducible refine aU (N:=3) rfl ?_);refine zX 3 #[.int .i64 i,.slice m g.length n] 24 ?_;intro P j aF o hb;have l:=zA (o);have Q:=zG a j;have R:=zG a j;replace a:=zS a hb;clear hb o j;obtain⟨aL,aO,aP,aS⟩:=aC l)|((with_reducible refine aR (f:=224) rfl ?_);refine zL (some 11) Tryz.func224 #[.agg #[.int .i64 i,.slice m g.length n],.int .i64 b,.slice u l2.length c2] ?_;(with_reducible refine(cW.calls k i _ _ g b _ _ l2 z _ ?au ?aw ?bs ?br I.out).mono ?_);(case au=>exact Kd.ax E.out zB);(case aw=>exact F.out);(case bs=>exact Kd.ax v.out zB);(case br=>exact G.out);rintro e a0 ⟨rfl,hb⟩;refine⟨_,rfl,?_⟩;replace l:=zb l hb;replace a:=zS a hb;(try clear hb)))
  go_ret;exact⟨zE,zB⟩
section
theorem cR.bk {l:Nat} {A B:World} {g:Nat} {n:Int} {times:Nat->Nat->Int} {chips:Value} {burnt:Nat->Bool} (h:cR A g n times chips burnt) (hb:Bk l A B):cR B g n times chips burnt:=by
 obtain⟨cs,a,b⟩:=h;exact⟨cs,hb.cells a,b⟩
attribute [local go_sem] Oper.semAt_some
theorem C6 (g:Nat) (w:World):Calls Tryz.prog 221 #[.pointer (some ⟨g,0,none⟩)] w fun e w'=>e= .returned (.func (.func 225) #[] #[.pointer (some ⟨w.heap.size,0,none⟩)])/\w'=w.alloc (.cells #[.pointer (some ⟨g,0,none⟩)] 245):=by
 go_enter Tryz.func221,Tryz.ntmps221
 go_wp2;go_ret;exact⟨rfl,rfl⟩
def mo (N:Int) (E:List S83) (q:Int) (c:List Int):Bool:=decide (0<=q/\q<N/\N<=12/\(c.length:Int)=N)&&jf N E
def cJ (q:Nat):Nat->Bool:=fun i=>if i=q then true else false
def jZ (n:Nat) (E:List S83) (q:Nat) (c:List Int):List Nat:=eL n (cD n (af E) c) (cJ q)
def iK.f (k:Nat) (N:Int) (E:List S83) (q:Int) (c:List Int):Option (List Int×List Int×Int):=
 (gH.f k N E q c).bind fun t=>if t=0 then(if mo N E q c=true then
  some (q::(jZ N.toNat E q.toNat c).map Int.ofNat,gE (cP (cJ q.toNat) (jZ N.toNat E q.toNat c)) N.toNat,0) else none) else some ([],[],t)
theorem iK.mono:∀N E q c k,al (iK.f k N E q c) (iK.f (k+1) N E q c):=by
 intro N E q c k;unfold iK.f;exact al.bind (gH.mono _ _ _ _ _) (fun _=>al.refl _)
theorem iK.calls (k:Nat) (N:Int) (bb:Option Addr) (O:Nat) (a:List (S83)) (a1:Int) (A2:Option Addr) (c2:Nat) (l2:List Int) (r1:List Int) (r2:List Int) (r3:Int) (w:World) (am:Kd.C aM w bb a.length a) (an:a.length<=O) (ao:Kd.C (Kd.int .i64) w A2 l2.length l2) (ap:l2.length<=c2) (h:iK.f k N a a1 l2=some (r1,r2,r3)):
  Calls Tryz.prog 213 #[.agg #[.int .i64 N,.slice bb a.length O],.int .i64 a1,.slice A2 l2.length c2] w fun e w'=>∃av aB:Value,e= .returned (.tuple #[av,aB,.int .i64 r3])/\Kd.R (Kd.int .i64) 3 w' w.heap.size (fun E=>some E≠(aB:Value).ownBlock) av r1/\Kd.R (Kd.int .i64) 3 w' w.heap.size (fun E=>some E≠(av:Value).ownBlock) aB r2/\Below w.heap.size w w':=by
 have hu:=Tryz.underlying24;obtain⟨t,ht,H⟩:=Option.bind_eq_some_iff.mp h;clear h;by_cases h0:t=0
 ·subst h0
  rw[if_pos rfl] at H;by_cases X:mo N a a1 l2=true
  ·rw[if_pos X] at H
   simp only[Option.some.injEq,Prod.mk.injEq] at H;obtain⟨rfl,rfl,rfl⟩:=H;simp only[mo,Bool.and_eq_true,decide_eq_true_eq] at X;obtain⟨⟨q0,qn,n12,hlen⟩,hE⟩:=X;obtain⟨n,rfl⟩:=Int.eq_ofNat_of_zero_le (show 0<=N by omega);obtain⟨q,rfl⟩:=Int.eq_ofNat_of_zero_le q0;simp only[aD];have bn:=zA (jE hE);have cj:l2.length<=n:=by omega
   have bq:n<=l2.length:=by omega
   have Ht:=zA ht;clear hlen hE ht;refine(callsIn_wide (n:=10)).1 ?_;refine callsIn_of_wp_marks Tryz.func213 rfl trivial ?_ rfl;simp only[Tryz.ntmps213,List.size_toArray,List.length_cons,List.length_nil,Nat.reduceAdd,Nat.reduceSub,Array.replicate_succ,Array.replicate_zero,List.push_toArray,List.append_toArray,List.nil_append,List.cons_append];gi_wp2_with (first|(refine⟨trivial,?_⟩;gi_at_call 219;refine(callsIn_wide.2 (gH.calls k _ _ O a _ _ c2 l2 0 _ (Kd.bC am _) an (Kd.bC ao _) ap Ht.out)).mono ?_;rintro e w1 ⟨rfl,hb⟩;have hx:=(hb.cell (p:=⟨w.heap.size,0,none⟩) (by simp));have hy:=(hb.cell (p:=⟨w.heap.size,1,none⟩) (by simp));have z:=zA (lW (ai (aj _ _) _) (by simp) hb);clear hb)|(refine⟨trivial,?_⟩;gi_at_call 220;refine(callsIn_wide.2 (CX n q _ O a _ c2 l2 _ (Kd.ax am z.out) an (Kd.ax ao z.out) ap (by omega) (by omega) bn.out cj bq)).mono ?_;rintro e w2 ⟨g,m,r,rfl,hW,hR,hB,hg⟩;have aL:=zA hW;have aO:=zA hR;have aP:=zA (lW z.out z.out.size hB);clear hW hR hB)|(refine⟨trivial,?_⟩;gi_at_call 221;refine(callsIn_wide.2 (C6 g _)).mono ?_;rintro e w3 ⟨rfl,rfl⟩))
   have ck:=aL.out.lt;have ds:w.heap.size<=w1.heap.size:=z.out.size;have cl:w.heap.size<=w2.heap.size:=aP.out.size;have aS:∀k,some k=(Value.slice m l2.length r).ownBlock->k<w2.heap.size:=fun k hk=>Kd.a8 aO.out k hk.symm
   have I:=zA (aL.out.below (ai (ai (ai (aj _ _) (.cells #[.int .i64 q] 3)) (.cells #[.slice (some ⟨w2.heap.size,0,none⟩) 1 1] 25)) (.cells #[.pointer (some ⟨g,0,none⟩)] 245)));have P:=zA (Kd.aK (Kd.aK (Kd.aK (Kd.gD rfl aO.out) (.cells #[.int .i64 q] 3)) (.cells #[.slice (some ⟨w2.heap.size,0,none⟩) 1 1] 25)) (.cells #[.pointer (some ⟨g,0,none⟩)] 245));have J:=zA (ai (ai (ai aP.out (.cells #[.int .i64 q] 3)) (.cells #[.slice (some ⟨w2.heap.size,0,none⟩) 1 1] 25)) (.cells #[.pointer (some ⟨g,0,none⟩)] 245));have b6:Aside0 (Kd.R (Kd.int .i64) 3 (((w2.alloc (.cells #[.int .i64 q] 3)).alloc (.cells #[.slice (some ⟨w2.heap.size,0,none⟩) 1 1] 25)).alloc (.cells #[.pointer (some ⟨g,0,none⟩)] 245)) w.heap.size (fun k=>k≠g/\some k≠(Value.slice m l2.length r).ownBlock) (.slice (some ⟨w2.heap.size,0,none⟩) 1 1) [(q:Int)]):=by
    refine⟨Kd.aK (Kd.aK (Kd.mR (enc:=Value.int .i64) (h1:=fun _=>rfl) ?_ ?_) _) _⟩
    ·simpa [bX] using World.ownsRow_lit (base:=w.heap.size) (e:=3) (size:=1) w2 #[.int .i64 q] 1 cl (by decide) rfl
    ·intro k hk
     have e:w2.heap.size=k:=by simpa [Value.ownBlock] using hk
     refine⟨by omega,fun e2=>?_⟩;have:=aS k e2;omega
   have Y:Aside0 ((((w2.alloc (.cells #[.int .i64 q] 3)).alloc (.cells #[.slice (some ⟨w2.heap.size,0,none⟩) 1 1] 25)).alloc (.cells #[.pointer (some ⟨g,0,none⟩)] 245)).heap[w2.heap.size+1]? =some (.cells #[.slice (some ⟨w2.heap.size,0,none⟩) 1 1] 25 (0,0))):=
    ⟨by have h:=a6 (w2.alloc (.cells #[.int .i64 q] 3)) (.cells #[.slice (some ⟨w2.heap.size,0,none⟩) 1 1] 25);rw[World.size_alloc] at h;exact aq h _⟩
   have Q:Aside0 ((((w2.alloc (.cells #[.int .i64 q] 3)).alloc (.cells #[.slice (some ⟨w2.heap.size,0,none⟩) 1 1] 25)).alloc (.cells #[.pointer (some ⟨g,0,none⟩)] 245)).heap[w2.heap.size+1+1]? =some (.cells #[.pointer (some ⟨g,0,none⟩)] 245 (0,0))):=
    ⟨by have h:=a6 ((w2.alloc (.cells #[.int .i64 q] 3)).alloc (.cells #[.slice (some ⟨w2.heap.size,0,none⟩) 1 1] 25)) (.cells #[.pointer (some ⟨g,0,none⟩)] 245);simpa using h⟩
   have Z:w2.heap.size+1≠g:=by omega
   have aa:w2.heap.size+1+1≠g:=by omega
   have ab:w2.heap.size+1+1≠w2.heap.size+1:=by omega
   have b_:some (w2.heap.size+1)≠(Value.slice m l2.length r).ownBlock:=fun e=>by have:=aS _ e;omega
   have b':w.heap.size<=w2.heap.size+1:=by omega
   have ca:w.heap.size<=g:=by omega
   clear aS aL aO aP z;generalize (((w2.alloc (.cells #[.int .i64 q] 3)).alloc (.cells #[.slice (some ⟨w2.heap.size,0,none⟩) 1 1] 25)).alloc (.cells #[.pointer (some ⟨g,0,none⟩)] 245))=G at I P J b6 Y Q⊢;generalize w2.heap.size+1+1=L at Q aa ab⊢;generalize w2.heap.size+1=bo at Y Z ab b_ b'⊢;refine gU (σ:=Unit) (α:=Nat) (F:=Fence.wide) (n:=10) rfl (by decide) (gf:=225) (lb:=#[.pointer (some ⟨L,0,none⟩)]) rfl trivial (enters_of Tryz.func225 (by kernel_rfl) rfl)
    (fun o=>CD g L n (af a) m r l2 (cJ q) _ w1.heap.size (by omega) bq ?ht aa (I.out.below (ai (ai (aj _ _) _) _)) (aq (aq Q.out _) _) (Kd.a_ (Kd.aK (Kd.aK P.out _) _) (fun _ h=>h))) (fun _=>rfl)
    (fun _=>True) ?dH ?st ?ar
    (fun _ pre W=>G.heap.size<=W.heap.size/\∃v,W.heap[L]? =some (.cells #[.pointer (some ⟨g,0,none⟩)] 245 (0,0))/\W.heap[bo]? =some (.cells #[v] 25 (0,0))/\Kd.R (Kd.int .i64) 3 W w.heap.size (fun k=>k≠g/\some k≠(Value.slice m l2.length r).ownBlock) v ((q:Int)::pre.map Int.ofNat)/\Below w.heap.size w W) (fun _ _ _ _=>False)
    ?is (fun _ _ _ _ _ _ h _=>h) ?ib (fun _ _ _ _ _ h _=>h) ?kt ?h0 ?a1 ?assign ?body ?done (fun _ _ _ _ _ _ _ h=>h.elim)
   case assign=>
    intro l x W K hK;gi_wp2;exact hK
   case ht=>exact bn.out.times
   case dH=>
    intro o s W1 h;exact⟨trivial,by rw[h];exact b8.refl _ _⟩
   case st=>intro s A B _ h k o h1 u i _;exact(h.block k (Array.getElem?_eq_some_iff.1 i).1 (fun e=>by cases e;have:=I.out.lt;omega)).trans i
   case ar=>intro s x A B _ h k o h1 u i _;exact(h.block k (Array.getElem?_eq_some_iff.1 i).1 (fun e=>by cases e;have:=I.out.lt;omega)).trans i
   case is=>
    rintro s pre A B _ ⟨S,v,h0,h1,u,i⟩ T;exact⟨Nat.le_trans S T.size,v,(T.block L (ay h0) (fun e=>by cases e;exact aa rfl)).trans h0,(T.block bo (ay h1) (fun e=>by cases e;exact Z rfl)).trans h1,Kd.iB u T (fun k hk e=>hk.1 (by cases e;rfl)),iY i (some g) i.size T (fun k e=>by cases e;exact ca)⟩
   case ib=>
    rintro s pre A B ⟨S,v,h0,h1,u,i⟩ hb;exact⟨by rw[hb.size];exact S,v,hb.cells h0,hb.cells h1,cQ u hb,i.trans (hb.below w.heap.size (by have:=J.out.size;omega))⟩
   case kt=>
    intro s A B C D cp cq cs k hk;have cb:k≠G.heap.size+1:=by
     rcases hk with rfl|rfl|hk
     ·have:=I.out.lt;omega
     ·have:=ay Q.out;omega
     ·have:=Kd.a8 P.out k hk.symm;omega
    exact(cs.heap k cb).trans ((cq k hk).trans (cp.heap k cb))
   case h0=>
    rintro o s W1 rfl;exact⟨by simp;omega,_,aq (aq Q.out _) _,aq (aq Y.out _) _,Kd.aK (Kd.aK b6.out _) _,ai (ai J.out _) _⟩
   case body=>
    rintro l s pre x Wb W1 W _ ⟨S,v,i0,i1,i2,i3⟩ M dx j;have U:=zA (j.cells ((M.block L (ay i0) (fun e=>by cases e;exact aa rfl)).trans i0));have y:=zA (j.cells ((M.block bo (ay i1) (fun e=>by cases e;exact Z rfl)).trans i1));have b:=zA (cQ (Kd.iB i2 M (fun k hk e=>hk.1 (by cases e;rfl))) j);have b3:=zA ((iY i3 (some g) i3.size M (fun k e=>by cases e;exact ca)).trans (j.below w.heap.size (by have:=J.out.size;omega)));have ck:G.heap.size<=W.heap.size:=by have:=j.size;have:=M.size;omega
    have d0:=I.out.lt;clear i0 i1 i2 i3 M;obtain⟨Ar,cr,rfl⟩:=Kd.bh b.out;replace b:=zA (show Kd.R (Kd.int .i64) 3 W w.heap.size (fun k=>k≠g/\some k≠(Value.slice m l2.length r).ownBlock) (.slice Ar (pre.length+1) cr) ((q:Int)::pre.map Int.ofNat) from by have h:=b.out;rw[show ((q:Int)::pre.map Int.ofNat).length=pre.length+1 from by simp] at h;exact h);rw[show ((q:Int)::pre.map Int.ofNat).length=pre.length+1 from by simp] at y;have hc:=dc y.out;have hf:=bE y.out 0;have FR:Aside0 (∀k,W.heap.size<=k->k≠g/\some k≠(Value.slice m l2.length r).ownBlock):=⟨fun k hk=>⟨by omega,fun e=>by have:=Kd.a8 P.out k e.symm;omega⟩⟩;have LN:Aside0 ((((q:Int)::pre.map Int.ofNat).length+1)*8<=140737488355328):=⟨by simp;omega⟩;gi_wp2_with (gi_at_builtin;go_loud (refine kB (Kd.int .i64) (w0:=w) w.heap.size rfl (.tmp 29) (.tmp 31) 25 3 (.int .i64 0) 8 rfl Tryz.underlying25 il rfl (by decide) (by omega) _ _ (x:Int) [.int .i64 x] (fun k=>k≠g/\some k≠(Value.slice m l2.length r).ownBlock) (fun _=>False) rfl rfl rfl (fun _ hk=>hk.elim) FR.out b.out b3.out b3.out.size LN.out ?_;intro v1 d1 a0 hb ag c3;obtain⟨A1,c1,rfl⟩:=Kd.bh a0;have X1:=zA ((ag.block bo (ay y.out) (Kd.dm b.out y.out (by decide))).trans y.out);have X0:=zA ((ag.block L (ay U.out) (Kd.dm b.out U.out (by decide))).trans U.out);have d2:=dc X1.out;have d3:=bE X1.out 0;have c5:=zA a0;have c6:=zA hb;have V:=zA ag;clear a0 hb ag c3))
    refine⟨(nz b.out V.out).trans (eU _ _ (ay Y.out)),fun k hk=>?_,by have:=V.out.size;simp;omega,_,aG X0.out ab _,by simpa using bV X1.out 0 (.slice A1 (pre.length+1+1) c1),?_,eK c6.out b'⟩
    ·have c7:k≠bo:=by
      rcases hk with rfl|rfl|hk
      ·exact fun e=>Z e.symm
      ·exact ab
      ·rintro rfl;exact b_ hk
     rw[Below.heap_setCell _ _ _ _ c7];rcases hk with rfl|rfl|hk
     ·exact V.out.block k (by omega) (fun e=>(b.out.1 k e.symm).1 rfl)
     ·exact V.out.block k (ay U.out) (Kd.dm b.out U.out (by decide))
     ·exact V.out.block k (by have:=Kd.a8 P.out k hk.symm;omega) (fun e=>(b.out.1 k e.symm).2 hk)
    ·have h:=Kd.fg c5.out X1.out (by decide) 0 (.slice A1 (pre.length+1+1) c1)
     simpa using h
   case done=>
    rintro s xs W W' _ ⟨rfl,ce⟩ ⟨S,v,i0,i1,i2,i3⟩ j cf;have y:=zA (j.cells i1);have b:=zA (cQ i2 j);have b3:=zA (i3.trans (j.below w.heap.size (by have:=J.out.size;omega)));have b4:=zA (ce.bk j);have cg:=zA cf;clear i0 i1 i2 i3 ce cf;have hc:=dc y.out;obtain⟨Ar,cr,rfl⟩:=Kd.bh b.out;have c8:=ay y.out;gi_wp2_with fail
    refine CE ?_;gi_region_with (refine⟨trivial,?_⟩;gi_at_call 222;refine(callsIn_wide.2 (Cv g n (af a) _ _ _ (by omega) b4.out.drew)).mono ?_;rintro e w5 ⟨v1,rfl,ch,a3⟩;have d4:=(a3.cell (p:=⟨bo,0,none⟩) c8).trans hc;have a4:=zA ch;have a5:=zA a3;clear ch a3)
    all_goals gi_wp2
    all_goals
     have ci:w5.heap[G.heap.size]? =some (.deferred (some [])):=(a5.out.block _ (Array.getElem?_eq_some_iff.1 cg.out).1).trans cg.out;have a9:Bk G.heap.size w5 (w5.putObj G.heap.size (.deferred none)):=⟨_,_,ci,rfl,rfl⟩;have c9:=Kd.cz (w:=W'.drew) b.out a5.out;refine iG (D:=G.heap.size) rfl ci (results_tmp3 rfl _ _ _) ⟨_,_,rfl,cQ (ok:=fun E=>some E≠v1.ownBlock) (v:=.slice Ar ((eL n (cD n (af a) l2) (cJ q)).length+1) cr) ?_ a9,cQ (ok:=fun E=>some E≠(Value.slice Ar ((eL n (cD n (af a) l2) (cJ q)).length+1) cr).ownBlock) (v:=v1) ?_ a9,?_⟩
     ·refine Kd.uo rfl (ok1:=fun k=>k≠g/\some k≠(Value.slice m l2.length r).ownBlock) ?_ (fun k hk e=>?_)
      ·have h:=c9
       rw[show ((q:Int)::(eL n (cD n (af a) l2) (cJ q)).map Int.ofNat).length=(eL n (cD n (af a) l2) (cJ q)).length+1 from by simp] at h;exact h
      ·have h1:=Kd.a8 b.out k ((uR _ _ _ _).trans hk)
       have u:=Kd.dK a4.out k e.symm;exact absurd h1 (Nat.not_lt.2 u)
     ·refine Kd.uo rfl (ok1:=fun _=>True) (Kd.bc a4.out b3.out.size) (fun k hk e=>?_)
      have h1:=Kd.a8 b.out k ((uR _ _ _ _).trans e.symm);have u:=Kd.dK a4.out k hk;exact absurd h1 (Nat.not_lt.2 u)
     ·exact(lW (ia b3.out) b3.out.size a5.out).trans (a9.below w.heap.size J.out.size)
  ·rw[if_neg X] at H
   cases H
 ·rw[if_neg h0] at H
  simp only[Option.some.injEq,Prod.mk.injEq] at H;obtain⟨rfl,rfl,rfl⟩:=H;have Ht:=zA ht;have d5:(t != 0)=true:=by simpa using h0
  clear ht h0;go_enter Tryz.func213,Tryz.ntmps213
  go_wp2_with (go_at_call 219;refine(gH.calls k N _ O a a1 _ c2 l2 t _ (Kd.bC am _) an (Kd.bC ao _) ap Ht.out).mono ?_;rintro e w1 ⟨rfl,hb⟩;have z:=zA (lW (ai (aj _ _) _) (by simp) hb);clear hb)
  go_ret3
  exact⟨_,_,rfl,Kd.df _ _ _ _ _,Kd.df _ _ _ _ _,z.out⟩
end
section
attribute [local go_sem] Oper.semAt_some
def iu (w:World) (g:Nat) (N:Int) (ev:Value) (q:Int) (dv a:Value) (e:Int):Prop:=w.heap[g]? =some (.cells #[.int .i64 N,ev,.int .i64 q,dv,a,.int .i64 e] 188 (0,0))
theorem mq (g:Nat) (v:Int) (w:World):Calls Tryz.prog 194 #[.pointer (some ⟨g,0,none⟩),.int .i64 v] w fun e w'=>e= .returned (.func (.func 207) #[] #[.pointer (some ⟨w.heap.size,0,none⟩),.pointer (some ⟨w.heap.size+1,0,none⟩)])/\w'=(w.alloc (.cells #[.pointer (some ⟨g,0,none⟩)] 135)).alloc (.cells #[.int .i64 v] 3):=by
 go_enter Tryz.func194,Tryz.ntmps194
 go_wp2;go_ret;exact⟨rfl,rfl⟩
def cK (E:List S83) (v:Int):Nat->List (Int×Int)
 |0=>[]
 |k+1=>cK E v k++(if(ae E k).f0≠(ae E k).f1/\((ae E k).f0=v\/(ae E k).f1=v) then[((ae E k).f0+(ae E k).f1-v,(ae E k).f2)] else[])
def vr (base a b c:Nat) (X Y:World):Prop:=(base<=X.heap.size->Below base X Y)/\∀k,(k=a\/k=b\/k=c)->k<X.heap.size->Y.heap[k]? =X.heap[k]?
theorem vt (E:List S83) (v:Int):∀(m k:Nat),∀x∈cK E v k,x∈cK E v (k+m)
 |0,k,x,a=>a
 |m+1,k,x,a=>List.mem_append.2 (.inl (vt E v m k x a))
theorem q_ (l bv g n:Nat) (A0:Option Addr) (c0:Nat) (E:List S83) (q:Int) (dv V:Value) (Z:Int) (v:Nat) (w0 W:World) (aa:Kd.C aM w0 A0 E.length E) (hE:eE n E) (hn:n<=1000) (hv:v<n) (hB:Below w0.heap.size w0 W)
  (M:W.heap[l]? =some (.cells #[.pointer (some ⟨g,0,none⟩)] 135 (0,0))) (z:W.heap[bv]? =some (.cells #[.int .i64 v] 3 (0,0))) (N:iu W g n (.slice A0 E.length c0) q dv V Z):
  iF (σ:=Unit) Fence.wide 9 Tryz.prog 207 #[.pointer (some ⟨l,0,none⟩),.pointer (some ⟨bv,0,none⟩)] (fun x:Int×Int=>#[.int .i64 x.1,.int .i64 x.2]) (fun _ W W1=>W1=W) (fun _ A B=>Below A.heap.size A B) (fun _ x A B=>((0<=x.1/\x.1<n/\1<=x.2/\x.2<=50)/\x∈cK E v E.length)/\Below A.heap.size A B)
   (fun _ X Y=>vr w0.heap.size l bv g X Y)
   (fun _ xs W'=>xs=cK E v E.length) (fun _ _ _=>True) (fun pre=>∃k,k<E.length/\pre=cK E v k) W:=by
 intro lp J Jx ag ak am ao;have a5:=zA ag;have b6:=zA ak;have hY:=zA ao;have ap:=am () W rfl;clear ag ak am ao;have b_:=Tryz.underlying188;have hu:=Tryz.underlying24;have b':=Tryz.underlying83;refine callsIn_of_wp Tryz.func207 rfl trivial ?_ rfl;simp only[Tryz.ntmps207,List.size_toArray,List.length_cons,List.length_nil,Nat.reduceAdd,Nat.reduceSub,Array.replicate_succ,Array.replicate_zero,List.push_toArray,List.append_toArray,List.nil_append,List.cons_append];have b0:W.cell? ⟨l,0,none⟩=some (.pointer (some ⟨g,0,none⟩)):=(ah M 0).trans rfl;have s1:W.cell? ⟨g,1,none⟩=some (.slice A0 E.length c0):=(ah N 1).trans rfl;have ar:=zA M;have av:=zA z;have p:=zA N;clear M z N;gi_wp2;clear b0 s1;gi_loopg [13] (E.length) (fun kq i wr=>∃k:Nat,i= .int .i64 k/\k<=E.length/\Aside0 (J () (cK E v k) wr)/\Aside0 (wr.heap[l]? =some (.cells #[.pointer (some ⟨g,0,none⟩)] 135 (0,0)))/\Aside0 (wr.heap[bv]? =some (.cells #[.int .i64 v] 3 (0,0)))/\Aside0 (iu wr g n (.slice A0 E.length c0) q dv V Z)/\Aside0 (Below w0.heap.size w0 wr)/\Aside0 (kq=E.length-k))
 case atStart=>exact⟨0,rfl,Nat.zero_le _,⟨ap⟩,ar,av,p,⟨hB⟩,⟨rfl⟩⟩
 case round=>
  clear ap hB ar av p;have ca:E.length<=9223372036854775807:=Kd.mS aa;obtain⟨k,rfl,hk,O,HX,P,p,r,Q⟩:=hrel;by_cases aF:k<E.length
  ·obtain⟨e0,D,e2,F,e4,e5⟩:=hE.get k aF
   have G:=Lib.hid (show cK E v (k+1)=cK E v k++(if(ae E k).f0≠(ae E k).f1/\((ae E k).f0=v\/(ae E k).f1=v) then[((ae E k).f0+(ae E k).f1-v,(ae E k).f2)] else[]) from rfl);obtain⟨ad,rfl,s,u,w⟩:=dM aa k (by omega) (by omega);rw[aD] at s u w;generalize ae E k=x at e0 D e2 F e4 e5 s u w G;obtain⟨a,b,m⟩:=x;simp only at e0 D e2 F e4 e5 s u w;have cb:(0:Int)<=(k:Int):=by omega
   have cc:(k:Int)<(E.length:Int):=by omega
   have cd:(0:Int)<=(v:Int):=by omega
   have ce:(v:Int)<=1000:=by omega
   have s:=i_ r.out s;have u:=i_ r.out u;have w:=i_ r.out w;have v0:(wr.alloc (.cells #[.int .i64 a,.int .i64 b,.int .i64 m] 83)).cell? ⟨bv,0,none⟩=some (.int .i64 v):=(ah (aq P.out _) 0).trans rfl;have R:=zA (a5.out () _ _ _ O.out (ai (aj wr.heap.size wr) (.cells #[.int .i64 a,.int .i64 b,.int .i64 m] 83)));have H:=zA (aq HX.out (.cells #[.int .i64 a,.int .i64 b,.int .i64 m] 83));have I:=zA (aq P.out (.cells #[.int .i64 a,.int .i64 b,.int .i64 m] 83));have K:=zA (aq p.out (.cells #[.int .i64 a,.int .i64 b,.int .i64 m] 83));have L:=zA (ai r.out (.cells #[.int .i64 a,.int .i64 b,.int .i64 m] 83));have an:a<=1000:=by omega
   have bn:b<=1000:=by omega
   have HE:=zA (And.intro D F);clear D F O HX P p r;by_cases o:a=b
   ·have bg:(a != b)=false:=by simpa using o
    have S:=zA o;clear o;gi_wp2;refine⟨(fun _ h=>(by cases h)),?_⟩;gi_wp2;gi_roundg (E.length- (k+1))
    case measure=>rw[Q.out];omega
    case rel=>exact⟨k+1,by go_num,by omega,⟨by rw[G.out,if_neg (fun h=>h.1 S.out),List.append_nil];exact R.out⟩,H,I,K,L,⟨rfl⟩⟩
   ·have bg:(a != b)=true:=by simpa using o
    have S:=zA o;clear o;by_cases j:a=v\/b=v
    ·have aS:=zA (show cK E v (k+1)=cK E v k++[(a+b-v,m)] from by rw[G.out,if_pos ⟨S.out,j⟩])
     obtain⟨fn,tmps,ch,ci,T,a0⟩:=hY.out () (cK E v k) (a+b-v,m) _ _ R.out ⟨⟨by have:=HE.out;show 0<=a+b- (v:Int)/\a+b- (v:Int)<n/\1<=m/\m<=50;omega,by have h:=vt E v (E.length- (k+1)) (k+1) (a+b-v,m) (by rw[aS.out];simp);rw[show k+1+(E.length- (k+1))=E.length by omega] at h;exact h⟩,aj _ _⟩ ⟨k,aF,rfl⟩;have bi:=zA a0;simp only at T;clear a0;have bk:(a==(v:Int))=true\/((a==(v:Int))=false/\(b==(v:Int))=true):=by
      by_cases h:a=v
      ·left;simpa using h
      ·right;refine⟨by simpa using h,?_⟩
       rcases j with U|U
       ·exact absurd U h
       ·simpa using U
     clear j;rcases bk with a1|⟨a1,z⟩
     all_goals
      gi_wp2;refine bi.out.mono ?_;rintro e W3 (⟨rfl,a2,y⟩|⟨rfl,a3⟩)
      ·have bl:=zA a2
       have bo:=zA ((y.2 l (.inl rfl) (ay H.out)).trans H.out);have bq:=zA ((y.2 bv (.inr (.inl rfl)) (ay I.out)).trans I.out);have bw:=zA ((y.2 g (.inr (.inr rfl)) (ay K.out)).trans K.out);have b1:=zA (L.out.trans (y.1 L.out.size));clear a2 y T v0;gi_wp2;gi_roundg (E.length- (k+1))
       case measure=>rw[Q.out];omega
       case rel=>exact⟨k+1,by go_num,by omega,⟨by rw[aS.out];exact bl.out⟩,bo,bq,bw,b1,⟨rfl⟩⟩
      ·have b2:=zA a3
       clear a3 T v0;gi_wp2;refine bodyPost_ret (results_none rfl _ _ _) rfl ?_;exact⟨⟨_,rfl⟩,.inr ⟨(),_,trivial,b2.out⟩⟩
    ·have a1:(a==(v:Int))=false:=by simp;exact fun h=>j (.inl h)
     have z:(b==(v:Int))=false:=by simp;exact fun h=>j (.inr h)
     have b3:=zA j;clear j;gi_wp2;refine⟨(fun _ h=>(by cases h)),?_⟩;gi_wp2;gi_roundg (E.length- (k+1))
     case measure=>rw[Q.out];omega
     case rel=>exact⟨k+1,by go_num,by omega,⟨by rw[G.out,if_neg (fun h=>b3.out h.2),List.append_nil];exact R.out⟩,H,I,K,L,⟨rfl⟩⟩
  ·obtain rfl:k=E.length:=by omega
   gi_wp2;go_end0;exact⟨⟨_,rfl⟩,.inl ⟨(),_,rfl,O.out⟩⟩
theorem pg (b bv g n:Nat) (A0:Option Addr) (c0:Nat) (E:List S83) (q:Int) (dv h:Value) (i:Int) (v:Nat) (w0 W:World) (l:Kd.C aM w0 A0 E.length E) (m:eE n E) (hn:n<=1000) (o:v<n) (p:Below w0.heap.size w0 W)
  (r:W.heap[b]? =some (.cells #[.pointer (some ⟨g,0,none⟩)] 135 (0,0))) (u:W.heap[bv]? =some (.cells #[.int .i64 v] 3 (0,0))) (w:iu W g n (.slice A0 E.length c0) q dv h i):
  iF (σ:=Unit) Fence.wide 9 Tryz.prog 207 #[.pointer (some ⟨b,0,none⟩),.pointer (some ⟨bv,0,none⟩)] (fun x:Int×Int=>#[.int .i64 x.1,.int .i64 x.2]) (fun _ W W1=>W1=W) (fun _ A B=>Below A.heap.size A B) (fun _ x A B=>(0<=x.1/\x.1<n/\1<=x.2/\x.2<=50)/\Below A.heap.size A B)
   (fun _ X Y=>vr w0.heap.size b bv g X Y)
   (fun _ xs W'=>xs=cK E v E.length) (fun _ _ _=>True) (fun pre=>∃k,k<E.length/\pre=cK E v k) W:=fun y J Jx z D F G=>q_ b bv g n A0 c0 E q dv h i v w0 W l m hn o p r u w y J Jx (fun s pre A B a e=>z s pre A B a e) (fun s pre A B a e=>D s pre A B a e) F (fun s pre x H W1 a j I=>G s pre x H W1 a ⟨j.1.1,j.2⟩ I)
end
def dI.l0:Nat->List Int->Int->Int->Int->List (S83)->Option (Int)
 |0,_,_,_,_,_=>none
 |k+1,b,e,a,g,h=>if a<e then(if 0<=a then(if a<(b.length:Int) then((gj.f g (rd b a)).bind fun t222=>(if t222=true then(dI.l0 k b e (wrap64 (a+1)) g h) else(some 2))) else(none)) else(none)) else(some 0)
def dI.f (k:Nat) (a:Int) (b:List (S83)) (l1:List Int):Option (Int):=(a7.f k a b).bind fun t220=>(if t220=0 then(dI.l0 k l1 (l1.length:Int) 0 a b) else(some t220))
theorem dI.cE:∀k,(∀a b e g i,al (dI.l0 k a b e g i) (dI.l0 (k+1) a b e g i))
 |0=>fun _ _ _ _ _ r h=>by simp[dI.l0] at h
 |k+1=>by
  have j:=dI.cE k
  ·intro a b e g i
   unfold dI.l0;with_reducible repeat' first|exact j _ _ _ _ _|exact a7.mono _ _ _|exact al.refl _|exact al.none _|refine al.ite ?_ ?_|refine al.bind ?_ (fun _=>?_)
theorem dI.mono:∀a0 a a2 k,al (dI.f k a0 a a2) (dI.f (k+1) a0 a a2):=by
 intro a0 a a2 k;have b:=dI.cE k;unfold dI.f;with_reducible repeat' first|exact b _ _ _ _ _|exact a7.mono _ _ _|exact al.refl _|exact al.none _|refine al.ite ?_ ?_|refine al.bind ?_ (fun _=>?_)
theorem dI.calls (k:Nat) (g:Int) (l:Option Addr) (m:Nat) (i:List (S83)) (E:Option Addr) (c1:Nat) (l1:List Int) (r:Int) (w:World) (F:Kd.C aM w l i.length i) (G:i.length<=m) (I:Kd.C (Kd.int .i64) w E l1.length l1) (J:l1.length<=c1) (h:dI.f k g i l1=some r):
  Calls Tryz.prog 203 #[.agg #[.int .i64 g,.slice l i.length m],.slice E l1.length c1] w fun e w'=>e= .returned (.int .i64 r)/\Below w.heap.size w w':=by
 have am:=Tryz.underlying24;have K:=zA F;have L:=zA G;clear F G;have M:=zA I;have an:=zA J;clear I J;have b:=zA (aj w.heap.size w);unfold dI.f at h;have H:=h;clear h;obtain⟨t220,O,H⟩:=zo H;by_cases c4:t220=0
 ·rw[if_pos c4] at H
  obtain⟨P,Q⟩:=bZ c4;clear c4;have v:=zA H;clear H;go_enter Tryz.func203,Tryz.ntmps203
  go_wp2_with (first|((with_reducible refine aU (N:=2) rfl ?_);refine zX 2 #[.int .i64 g,.slice l i.length m] 24 ?_;intro R n w5 u hb;have j:=zA (u);have V:=zG b n;have W:=zG b n;replace b:=zS b hb;clear hb u n;obtain⟨X,Y,Z,aa⟩:=aC j)|((with_reducible refine aR (f:=64) rfl ?_);refine zL (some 9) Tryz.func64 #[.agg #[.int .i64 g,.slice l i.length m]] ?_;(with_reducible refine(a7.calls k g _ _ i t220 _ ?au ?aw O.out).mono ?_);(case au=>exact Kd.ax K.out zB);(case aw=>exact L.out);rintro e w7 ⟨rfl,hb⟩;refine⟨_,rfl,?_⟩;replace j:=zb j hb;replace b:=zS b hb;(try clear hb)))
  go_loopg [15] k (fun S ab w'=>∃(a:Int),ab= .int .i64 a/\Aside0 (dI.l0 S l1 (l1.length:Int) a g i=some r)/\Aside0 (S<=k)/\Aside0 (w'.heap[R]? =some (.cells #[.int .i64 g,(.slice l i.length m)] 24 (0,0)))/\Aside0 (Below w.heap.size w w'))
  case atStart=>exact⟨(0),zT,v,⟨aI _⟩,⟨zK j⟩,⟨zB⟩⟩
  case round=>
   clear v;clear P Q X Y Z aa;obtain⟨a,rfl,B,T,j,b⟩:=hrel;cases gk with
   |zero=>exact absurd B.out (by simp[dI.l0])
   |succ k1=>
    have H:=B.out;clear B;simp only[dI.l0] at H;by_cases s:a<(l1.length:Int)
    ·rw[if_pos s] at H
     have ag:=aE s;clear s;by_cases x:0<=a
     ·rw[if_pos x] at H
      have ar:=aE x;clear x;by_cases y:a<(l1.length:Int)
      ·rw[if_pos y] at H
       have av:=aE y;clear y;obtain⟨t222,U,H⟩:=zo H;by_cases z:t222=true
       ·subst z
        replace H:=zi H;have v:=zA H;clear H;have o:0<=(a:Int):=aA ‹_›;have p:a<(l1.length:Int):=aA ‹_›;obtain⟨ak,D,q⟩:=Kd.cI M.out a o p;cases D;replace q:=(b.out.cell (bm w _ q)).trans q;replace o:=eq_true o;replace p:=eq_true p;obtain⟨aB,aF,aL,aO⟩:=aC j;go_wp2_with (first|((with_reducible refine aR (f:=121) rfl ?_);refine zL (some 22) Tryz.func121 #[.int .i64 g,.int .i64 (rd l1 a)] ?_;(with_reducible refine(gj.calls g (rd l1 a) true _ U.out).mono ?_);rintro e w' ⟨rfl,⟨nd,rfl⟩⟩;refine⟨_,rfl,?_⟩))
        go_roundg k1
        case measure=>have:=T.out;omega
        case rel=>exact⟨(wrap64 (a+1)),zT,v,⟨by have:=T.out;omega⟩,⟨zK j⟩,⟨zB⟩⟩
       ·replace z:=Bool.eq_false_iff.mpr z
        subst z;replace H:=zj H;obtain rfl:=aX H;have o:0<=(a:Int):=aA ‹_›;have p:a<(l1.length:Int):=aA ‹_›;obtain⟨ak,D,q⟩:=Kd.cI M.out a o p;cases D;replace q:=(b.out.cell (bm w _ q)).trans q;replace o:=eq_true o;replace p:=eq_true p;obtain⟨aP,aS,a0,a1⟩:=aC j;go_wp2_with (first|((with_reducible refine aR (f:=121) rfl ?_);refine zL (some 22) Tryz.func121 #[.int .i64 g,.int .i64 (rd l1 a)] ?_;(with_reducible refine(gj.calls g (rd l1 a) false _ U.out).mono ?_);rintro e w' ⟨rfl,⟨nd,rfl⟩⟩;refine⟨_,rfl,?_⟩))
        go_ret;exact⟨zE,zB⟩
      ·rw[if_neg y] at H
       exact absurd H (by simp)
     ·rw[if_neg x] at H
      exact absurd H (by simp)
    ·rw[if_neg s] at H
     have ag:=ba s;clear s;obtain rfl:=aX H;go_wp2;go_ret;exact⟨zE,zB⟩
 ·rw[if_neg c4] at H
  obtain⟨P,Q⟩:=b7 c4;obtain rfl:=aX H;go_enter Tryz.func203,Tryz.ntmps203
  go_wp2_with (first|((with_reducible refine aU (N:=2) rfl ?_);refine zX 2 #[.int .i64 g,.slice l i.length m] 24 ?_;intro R n a2 u hb;have j:=zA (u);have V:=zG b n;have W:=zG b n;replace b:=zS b hb;clear hb u n;obtain⟨a3,a4,a5,a9⟩:=aC j)|((with_reducible refine aR (f:=64) rfl ?_);refine zL (some 9) Tryz.func64 #[.agg #[.int .i64 g,.slice l i.length m]] ?_;(with_reducible refine(a7.calls k g _ _ i t220 _ ?au ?aw O.out).mono ?_);(case au=>exact Kd.ax K.out zB);(case aw=>exact L.out);rintro e bb ⟨rfl,hb⟩;refine⟨_,rfl,?_⟩;replace j:=zb j hb;replace b:=zS b hb;(try clear hb)))
  go_ret;exact⟨zE,zB⟩
def de.l0:Nat->Int->Int->List (S83)->Int->Int->Option (Int×Int)
 |0,_,_,_,_,_=>none
 |k+1,x1,e,b,g,a=>if a<g then(if 0<=a then(if a<(b.length:Int) then(if((ae b a).f0)=((ae b a).f1) then(de.l0 k x1 e b g (wrap64 (a+1))) else(if((ae b a).f0)=x1 then(de.l0 k x1 (wrap64 (e+((ae b a).f2))) b g (wrap64 (a+1))) else(if((ae b a).f1)=x1 then(de.l0 k x1 (wrap64 (e+((ae b a).f2))) b g (wrap64 (a+1))) else(de.l0 k x1 e b g (wrap64 (a+1)))))) else(none)) else(none)) else(some (e,0))
def de.f (k:Nat) (e:Int) (a:List (S83)) (b:Int):Option (Int×Int):=(dI.f k e a (([b]:List Int))).bind fun t227=>(if t227=0 then(de.l0 k b 0 a (a.length:Int) 0) else(some (0,t227)))
theorem de.cE:∀k,(∀a b e g i,al (de.l0 k a b e g i) (de.l0 (k+1) a b e g i))
 |0=>fun _ _ _ _ _ r h=>by simp[de.l0] at h
 |k+1=>by
  have j:=de.cE k
  ·intro a b e g i
   unfold de.l0;with_reducible repeat' first|exact j _ _ _ _ _|exact dI.mono _ _ _ _|exact al.refl _|exact al.none _|refine al.ite ?_ ?_|refine al.bind ?_ (fun _=>?_)
theorem de.mono:∀a0 a a2 k,al (de.f k a0 a a2) (de.f (k+1) a0 a a2):=by
 intro a0 a a2 k;have b:=de.cE k;unfold de.f;with_reducible repeat' first|exact b _ _ _ _ _|exact dI.mono _ _ _ _|exact al.refl _|exact al.none _|refine al.ite ?_ ?_|refine al.bind ?_ (fun _=>?_)
theorem de.calls (k:Nat) (m:Int) (G:Option Addr) (q:Nat) (b:List (S83)) (r:Int) (W:Int) (X:Int) (w:World) (ap:Kd.C aM w G b.length b) (ar:b.length<=q) (h:de.f k m b r=some (W,X)):
  Calls Tryz.prog 186 #[.agg #[.int .i64 m,.slice G b.length q],.int .i64 r] w fun e w'=>e= .returned (.tuple #[.int .i64 W,.int .i64 X])/\Below w.heap.size w w':=by
 have b5:=Tryz.underlying24;have b6:=Tryz.underlying83;have O:=zA ap;have av:=zA ar;clear ap ar;have a:=zA (aj w.heap.size w);unfold de.f at h;have H:=h;clear h;obtain⟨Q,ad⟩:∃y_:List Int,y_=(([r]:List Int)):=⟨_,rfl⟩;replace H:((dI.f k m b Q).bind fun t227=>(if t227=0 then(de.l0 k r 0 b (b.length:Int) 0) else(some (0,t227))))=some (W,X):=zh ad H;have Y:=zA ad;clear ad;obtain⟨t227,A3,H⟩:=zo H;by_cases c4:t227=0
 ·rw[if_pos c4] at H
  obtain⟨aF,aL⟩:=bZ c4;clear c4;have E:=zA H;clear H;go_enter Tryz.func186,Tryz.ntmps186
  go_wp2_with (first|((with_reducible refine aU (N:=2) rfl ?_);refine zX 2 #[.int .i64 m,.slice G b.length q] 24 ?_;intro n hg w5 p hb;have i:=zA (p);have aS:=zG a hg;have a0:=zG a hg;replace a:=zS a hb;clear hb p hg;obtain⟨a2,a3,a4,a5⟩:=aC i)|((with_reducible refine aU (N:=12) rfl ?_);refine Kd.fy (Kd.int .i64) _ 3 ?hg (N:=12) ?hd (xs:=([r]:List Int)) (inner:=[.int .i64 r]) (ok:=fun _=>True) (okp:=fun _=>True) ?hr ?hp (fun _ hk=>hk) trivial (aj _ _) (aI _) (by simp) ?_;(case hd=>rfl);(case hg=>rfl);(case hr=>first|(go_simp;done)|(go_simp;rfl));(case hp=>exact(aV.one (show Kd.M (Kd.int .i64) _ _ _ r [.int .i64 r] from rfl) (aV.none _ _)));intro a9 w7 R hb ag ak;clear ag ak;(first|rw[<-Y.out] at R|(simp only[Int.reduceToNat] at R;rw[<-Y.out] at R));have z:=zA (Kd.bc R (bO zB));replace i:=zb i hb;replace a:=zS a hb;clear hb R;obtain⟨bb,be,bf⟩:=Kd.bh z.out;subst bf)|((with_reducible refine aR (f:=203) rfl ?_);refine zL (some 13) Tryz.func203 #[.agg #[.int .i64 m,.slice G b.length q],.slice bb Q.length be] ?_;(with_reducible refine(dI.calls k m _ _ b _ _ Q t227 _ ?au ?aw ?bs ?br A3.out).mono ?_);(case au=>exact Kd.ax O.out zB);(case aw=>exact av.out);(case bs=>exact zC (Kd.aN z.out).2.2);(case br=>exact(Kd.aN z.out).2.1);rintro e ca ⟨rfl,hb⟩;refine⟨_,rfl,?_⟩;replace z:=bF z hb;replace i:=zb i hb;replace a:=zS a hb;(try clear hb);obtain⟨bg,bi,bk,bl⟩:=aC i))
  go_loopg [7,20] k (fun kq v7 v20 w'=>∃(I:Int) (j:Int),v7= .int .i64 I/\v20= .int .i64 j/\Aside0 (de.l0 kq r I b (b.length:Int) j=some (W,X))/\Aside0 (kq<=k)/\Aside0 (w'.heap[n]? =some (.cells #[.int .i64 m,(.slice G b.length q)] 24 (0,0)))/\Aside0 (Below w.heap.size w w'))
  case atStart=>exact⟨(0),(0),zT,zT,E,⟨aI _⟩,⟨zK i⟩,⟨zB⟩⟩
  case round=>
   clear E;clear aF aL bg bi a2 a3 bk bl a4 a5;obtain⟨I,j,rfl,rfl,HA,F,i,a⟩:=hrel;cases gk with
   |zero=>exact absurd HA.out (by simp[de.l0])
   |succ Z=>
    have H:=HA.out;clear HA;simp only[de.l0] at H;by_cases P:j<(b.length:Int)
    ·rw[if_pos P] at H
     have bo:=aE P;clear P;by_cases aa:0<=j
     ·rw[if_pos aa] at H
      have cb:=aE aa;clear aa;by_cases ab:j<(b.length:Int)
      ·rw[if_pos ab] at H
       have cc:=aE ab;clear ab;by_cases S:((ae b j).f0)=((ae b j).f1)
       ·rw[if_pos S] at H
        obtain⟨bq,bv⟩:=bZ S;clear S;have E:=zA H;clear H;have s:0<=(j:Int):=aA ‹_›;have u:j<(b.length:Int):=aA ‹_›;obtain⟨B,J,v,x,y⟩:=dM O.out j s u;cases J;replace v:=(a.out.cell (bm w _ v)).trans v;replace x:=(a.out.cell (bm w _ x)).trans x;replace y:=(a.out.cell (bm w _ y)).trans y;replace s:=eq_true s;replace u:=eq_true u;go_wp2_with (first|((with_reducible refine aU (N:=9) rfl ?_);refine zX 9 #[.int .i64 0,.int .i64 0,.int .i64 0] 83 ?_;intro D hg cd p hb;have K:=zA (p);have an:=zG a hg;have ao:=zG a hg;replace a:=zS a hb;have l:=zA ((by rw[hg];exact Nat.ne_of_lt (ay (g:=n) (o:=.cells #[.int .i64 m,.slice (some B) b.length q] 24 (0,0)) (zK i)):n≠D));have L:=zA ((by rw[hg];exact Nat.ne_of_gt (ay (g:=n) (o:=.cells #[.int .i64 m,.slice (some B) b.length q] 24 (0,0)) (zK i)):D≠n));replace i:=zb i hb;clear hb p hg;have ce:=L.out;have cf:=l.out;obtain⟨cg,ch,ci,cj,ck,cl⟩:=cC K))
        go_roundg Z
        case measure=>have:=F.out;omega
        case rel=>exact⟨(I),(wrap64 (j+1)),zT,zT,E,⟨by have:=F.out;omega⟩,⟨by refine zk ?_;refine aG ?_ l.out _;refine zk ?_;refine aG ?_ l.out _;refine zk ?_;refine aG ?_ l.out _;exact zK i⟩,⟨zB⟩⟩
       ·rw[if_neg S] at H
        obtain⟨bq,bv⟩:=b7 S;by_cases T:((ae b j).f0)=r
        ·rw[if_pos T] at H
         obtain⟨bw,bx⟩:=bZ T;clear T;have E:=zA H;clear H;have s:0<=(j:Int):=aA ‹_›;have u:j<(b.length:Int):=aA ‹_›;obtain⟨B,J,v,x,y⟩:=dM O.out j s u;cases J;replace v:=(a.out.cell (bm w _ v)).trans v;replace x:=(a.out.cell (bm w _ x)).trans x;replace y:=(a.out.cell (bm w _ y)).trans y;replace s:=eq_true s;replace u:=eq_true u;go_wp2_with (first|((with_reducible refine aU (N:=9) rfl ?_);refine zX 9 #[.int .i64 0,.int .i64 0,.int .i64 0] 83 ?_;intro D hg co p hb;have K:=zA (p);have an:=zG a hg;have ao:=zG a hg;replace a:=zS a hb;have l:=zA ((by rw[hg];exact Nat.ne_of_lt (ay (g:=n) (o:=.cells #[.int .i64 m,.slice (some B) b.length q] 24 (0,0)) (zK i)):n≠D));have L:=zA ((by rw[hg];exact Nat.ne_of_gt (ay (g:=n) (o:=.cells #[.int .i64 m,.slice (some B) b.length q] 24 (0,0)) (zK i)):D≠n));replace i:=zb i hb;clear hb p hg;have cp:=L.out;have cq:=l.out;obtain⟨cr,cs,cv,cx,c0,c1⟩:=cC K))
         go_roundg Z
         case measure=>have:=F.out;omega
         case rel=>exact⟨(wrap64 (I+((ae b j).f2))),(wrap64 (j+1)),zT,zT,E,⟨by have:=F.out;omega⟩,⟨by refine zk ?_;refine aG ?_ l.out _;refine zk ?_;refine aG ?_ l.out _;refine zk ?_;refine aG ?_ l.out _;exact zK i⟩,⟨zB⟩⟩
        ·rw[if_neg T] at H
         obtain⟨bw,bx⟩:=b7 T;by_cases U:((ae b j).f1)=r
         ·rw[if_pos U] at H
          obtain⟨b0,b1⟩:=bZ U;clear U;have E:=zA H;clear H;have s:0<=(j:Int):=aA ‹_›;have u:j<(b.length:Int):=aA ‹_›;obtain⟨B,J,v,x,y⟩:=dM O.out j s u;cases J;replace v:=(a.out.cell (bm w _ v)).trans v;replace x:=(a.out.cell (bm w _ x)).trans x;replace y:=(a.out.cell (bm w _ y)).trans y;replace s:=eq_true s;replace u:=eq_true u;go_wp2_with (first|((with_reducible refine aU (N:=9) rfl ?_);refine zX 9 #[.int .i64 0,.int .i64 0,.int .i64 0] 83 ?_;intro D hg c2 p hb;have K:=zA (p);have an:=zG a hg;have ao:=zG a hg;replace a:=zS a hb;have l:=zA ((by rw[hg];exact Nat.ne_of_lt (ay (g:=n) (o:=.cells #[.int .i64 m,.slice (some B) b.length q] 24 (0,0)) (zK i)):n≠D));have L:=zA ((by rw[hg];exact Nat.ne_of_gt (ay (g:=n) (o:=.cells #[.int .i64 m,.slice (some B) b.length q] 24 (0,0)) (zK i)):D≠n));replace i:=zb i hb;clear hb p hg;have c3:=L.out;have c5:=l.out;obtain⟨c6,c7,c8,c9,c',dd⟩:=cC K))
          go_roundg Z
          case measure=>have:=F.out;omega
          case rel=>exact⟨(wrap64 (I+((ae b j).f2))),(wrap64 (j+1)),zT,zT,E,⟨by have:=F.out;omega⟩,⟨by refine zk ?_;refine aG ?_ l.out _;refine zk ?_;refine aG ?_ l.out _;refine zk ?_;refine aG ?_ l.out _;exact zK i⟩,⟨zB⟩⟩
         ·rw[if_neg U] at H
          obtain⟨b0,b1⟩:=b7 U;have E:=zA H;clear H;have s:0<=(j:Int):=aA ‹_›;have u:j<(b.length:Int):=aA ‹_›;obtain⟨B,J,v,x,y⟩:=dM O.out j s u;cases J;replace v:=(a.out.cell (bm w _ v)).trans v;replace x:=(a.out.cell (bm w _ x)).trans x;replace y:=(a.out.cell (bm w _ y)).trans y;replace s:=eq_true s;replace u:=eq_true u;go_wp2_with (first|((with_reducible refine aU (N:=9) rfl ?_);refine zX 9 #[.int .i64 0,.int .i64 0,.int .i64 0] 83 ?_;intro D hg dk p hb;have K:=zA (p);have an:=zG a hg;have ao:=zG a hg;replace a:=zS a hb;have l:=zA ((by rw[hg];exact Nat.ne_of_lt (ay (g:=n) (o:=.cells #[.int .i64 m,.slice (some B) b.length q] 24 (0,0)) (zK i)):n≠D));have L:=zA ((by rw[hg];exact Nat.ne_of_gt (ay (g:=n) (o:=.cells #[.int .i64 m,.slice (some B) b.length q] 24 (0,0)) (zK i)):D≠n));replace i:=zb i hb;clear hb p hg;have dl:=L.out;have ds:=l.out;obtain⟨dv,dx,d0,d1,d2,d3⟩:=cC K))
          go_roundg Z
          case measure=>have:=F.out;omega
          case rel=>exact⟨(I),(wrap64 (j+1)),zT,zT,E,⟨by have:=F.out;omega⟩,⟨by refine zk ?_;refine aG ?_ l.out _;refine zk ?_;refine aG ?_ l.out _;refine zk ?_;refine aG ?_ l.out _;exact zK i⟩,⟨zB⟩⟩
      ·rw[if_neg ab] at H
       exact absurd H (by simp)
     ·rw[if_neg aa] at H
      exact absurd H (by simp)
    ·rw[if_neg P] at H
     have bo:=ba P;clear P;simp only[Option.some.injEq,Prod.mk.injEq] at H;obtain⟨rfl,rfl⟩:=H;go_wp2;go_ret2;exact⟨zE,zB⟩
 ·rw[if_neg c4] at H
  obtain⟨aF,aL⟩:=b7 c4;simp only[Option.some.injEq,Prod.mk.injEq] at H;obtain⟨rfl,rfl⟩:=H;go_enter Tryz.func186,Tryz.ntmps186
  go_wp2_with (first|((with_reducible refine aU (N:=2) rfl ?_);refine zX 2 #[.int .i64 m,.slice G b.length q] 24 ?_;intro n hg d4 p hb;have i:=zA (p);have aS:=zG a hg;have a0:=zG a hg;replace a:=zS a hb;clear hb p hg;obtain⟨d5,d6,d7,d8⟩:=aC i)|((with_reducible refine aU (N:=12) rfl ?_);refine Kd.fy (Kd.int .i64) _ 3 ?hg (N:=12) ?hd (xs:=([r]:List Int)) (inner:=[.int .i64 r]) (ok:=fun _=>True) (okp:=fun _=>True) ?hr ?hp (fun _ hk=>hk) trivial (aj _ _) (aI _) (by simp) ?_;(case hd=>rfl);(case hg=>rfl);(case hr=>first|(go_simp;done)|(go_simp;rfl));(case hp=>exact(aV.one (show Kd.M (Kd.int .i64) _ _ _ r [.int .i64 r] from rfl) (aV.none _ _)));intro a9 d9 V hb ag ak;clear ag ak;(first|rw[<-Y.out] at V|(simp only[Int.reduceToNat] at V;rw[<-Y.out] at V));have z:=zA (Kd.bc V (bO zB));replace i:=zb i hb;replace a:=zS a hb;clear hb V;obtain⟨b2,b3,b4⟩:=Kd.bh z.out;subst b4)|((with_reducible refine aR (f:=203) rfl ?_);refine zL (some 13) Tryz.func203 #[.agg #[.int .i64 m,.slice G b.length q],.slice b2 Q.length b3] ?_;(with_reducible refine(dI.calls k m _ _ b _ _ Q t227 _ ?au ?aw ?bs ?br A3.out).mono ?_);(case au=>exact Kd.ax O.out zB);(case aw=>exact av.out);(case bs=>exact zC (Kd.aN z.out).2.2);(case br=>exact(Kd.aN z.out).2.1);rintro e ea ⟨rfl,hb⟩;refine⟨_,rfl,?_⟩;replace z:=bF z hb;replace i:=zb i hb;replace a:=zS a hb;(try clear hb)))
  go_ret2;exact⟨zE,zB⟩
end Go.Proofs.YtffdiakgjakngaaGreat.P


