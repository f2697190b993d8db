/- Lists2 answers true whatever the input (text 2 of 8): own walks and plain laws; no conditions. -/
import Derived.BigQuiet
import Derived.BigRegion
import Derived.Deep.QuietTactic
import Derived.Deep.RegionHeld3
import Derived.Deep.RegionLaw
import Derived.Lib.Hide
import Derived.Maps.OwnOps
import Derived.Maps.Views
import Derived.Outline
import Derived.RegionIn
import Derived.RegionTactic
import Derived.Sort.LoopGhostIn
import Derived.WalkSpells
import Derived.Test.YtffdiakgjakngaaGreatLists21
namespace Go.Proofs.YtffdiakgjakngaaGreat.P
open Go.RowKit Go.Proofs.YtffdiakgjakngaaGreatW.PrintWords Go.Proofs.YtffdiakgjakngaaGreatW.PrintLast Go.Proofs.YtffdiakgjakngaaGreatW.PrintMore
set_option linter.unusedVariables false
set_option linter.unusedSimpArgs false
set_option maxHeartbeats 8000000
set_option maxRecDepth 100000
mutual
def bc.j0:Nat->Bool->Int->List (S83)->Option (Int)
 |0,_,_,_=>none
 |k+1,b,e,a=>if b=true then(some 2) else(bc.l0 k a (a.length:Int) 0 e a (-1) (-1))
def bc.l0:Nat->List (S83)->Int->Int->Int->List (S83)->Int->Int->Option (Int)
 |0,_,_,_,_,_,_,_=>none
 |k+1,b,g,a,e,h,i,j=>if a<g then(if 0<=a then(if a<(b.length:Int) then((fX.f e ((af b a).f0)).bind fun t216=>(if t216=true then((fX.f e ((af b a).f1)).bind fun t217=>(if t217=true then(if((af b a).f2)<1 then(bc.j2 k b g a true e h i j ((af b a).f0) ((af b a).f1) ((af b a).f2) ((af b a).f0) ((af b a).f1)) else(bc.j2 k b g a (decide (((af b a).f2)>50)) e h i j ((af b a).f0) ((af b a).f1) ((af b a).f2) ((af b a).f0) ((af b a).f1))) else(bc.j2 k b g a true e h i j ((af b a).f0) ((af b a).f1) ((af b a).f2) ((af b a).f0) ((af b a).f1)))) else(bc.j2 k b g a true e h i j ((af b a).f0) ((af b a).f1) ((af b a).f2) ((af b a).f0) ((af b a).f1)))) else(none)) else(none)) else(some 0)
def bc.j2:Nat->List (S83)->Int->Int->Bool->Int->List (S83)->Int->Int->Int->Int->Int->Int->Int->Option (Int)
 |0,_,_,_,_,_,_,_,_,_,_,_,_,_=>none
 |k+1,e,g,h,i,j,l,m,n,o,p,q,a,b=>if i=true then(some 2) else(if o>p then(some 9) else((dN.f k m n a b).bind fun t218=>(if t218>=0 then(some 9) else(bc.l0 k e g (wrap64 (h+1)) j l a b))))
end
def bc.f (k:Nat) (a:Int) (b:List (S83)):Option (Int):=if a<1 then(bc.j0 k true a b) else(bc.j0 k (decide (a>12)) a b)
theorem bc.cD:∀k,(∀a b e,ai (bc.j0 k a b e) (bc.j0 (k+1) a b e))/\(∀a b e g i j l,ai (bc.l0 k a b e g i j l) (bc.l0 (k+1) a b e g i j l))/\(∀a b e g i j l m n o p q s,ai (bc.j2 k a b e g i j l m n o p q s) (bc.j2 (k+1) a b e g i j l m n o p q s))
 |0=>⟨fun _ _ _ r h=>by simp[bc.j0] at h,fun _ _ _ _ _ _ _ r h=>by simp[bc.l0] at h,fun _ _ _ _ _ _ _ _ _ _ _ _ _ r h=>by simp[bc.j2] at h⟩
 |k+1=>by
  obtain⟨u,v,w⟩:=bc.cD k;refine⟨?_,?_,?_⟩
  ·intro a b e
   unfold bc.j0;with_reducible repeat' first|exact u _ _ _|exact v _ _ _ _ _ _ _|exact w _ _ _ _ _ _ _ _ _ _ _ _ _|exact dN.mono _ _ _ _ _|exact ai.refl _|exact ai.none _|refine ai.ite ?_ ?_|refine ai.bind ?_ (fun _=>?_)
  ·intro a b e g i j l
   unfold bc.l0;with_reducible repeat' first|exact u _ _ _|exact v _ _ _ _ _ _ _|exact w _ _ _ _ _ _ _ _ _ _ _ _ _|exact dN.mono _ _ _ _ _|exact ai.refl _|exact ai.none _|refine ai.ite ?_ ?_|refine ai.bind ?_ (fun _=>?_)
  ·intro a b e g i j l m n o p q s
   unfold bc.j2;with_reducible repeat' first|exact u _ _ _|exact v _ _ _ _ _ _ _|exact w _ _ _ _ _ _ _ _ _ _ _ _ _|exact dN.mono _ _ _ _ _|exact ai.refl _|exact ai.none _|refine ai.ite ?_ ?_|refine ai.bind ?_ (fun _=>?_)
theorem bc.mono:∀a0 a k,ai (bc.f k a0 a) (bc.f (k+1) a0 a):=by
 intro a0 a k;obtain⟨b,e,g⟩:=bc.cD k;unfold bc.f;with_reducible repeat' first|exact b _ _ _|exact e _ _ _ _ _ _ _|exact g _ _ _ _ _ _ _ _ _ _ _ _ _|exact dN.mono _ _ _ _ _|exact ai.refl _|exact ai.none _|refine ai.ite ?_ ?_|refine ai.bind ?_ (fun _=>?_)
theorem bc.calls (k:Nat) (j:Int) (R:Option Addr) (B:Nat) (a:List (S83)) (r:Int) (w:World) (be:Kd.C aN w R a.length a) (bf:a.length<=B) (h:bc.f k j a=some r):
  Calls Tryz.prog 64 #[.agg #[.int .i64 j,.slice R a.length B]] w fun e w'=>e= .returned (.int .i64 r)/\Below w.heap.size w w':=by
 have cp:=Tryz.underlying24;have cq:=Tryz.underlying116;have cr:=Tryz.underlying83;have bo:=zA be;have ct:=zA bf;clear be bf;have m:=zA (aq w.heap.size w);unfold bc.f at h;have H:=h;clear h;have a2:=zA H;clear H;go_enter Tryz.func64,Tryz.ntmps64
 go_upto_region 1 with (first|((with_reducible refine aU (N:=1) rfl ?_);refine zX 1 #[.int .i64 j,.slice R a.length B] 24 ?_;intro u l w3 I hb;have i:=zA (I);have cv:=zG m l;have cx:=zG m l;replace m:=zS m hb;clear hb I l))
 (try simp only[Act.put,List.setIfInBounds_toArray,List.set_cons_zero,List.set_cons_succ])
 go_cut [14] (fun bv wc=>∃(G:Nat) (am:Bool),bv= .bool am/\Aside0 (bc.j0 G am j a=some r)/\Aside0 (G<=k)/\Aside0 (wc.heap[u]? =some (.cells #[.int .i64 j,(.slice R a.length B)] 24 (0,0)))/\Aside0 (Below w.heap.size w wc))
 case first=>
  have H:=a2.out;clear a2;by_cases c4:j<1
  ·rw[if_pos c4] at H
   have ag:=ay c4;clear c4
   (first|rw[ag]|(simp only[cH,cP];rw[ag])|skip)
   have v:=zA H;clear H;obtain⟨c0,c1,c2,c3⟩:=aA i;go_wp2;go_meet
   case rel=>exact⟨_,(true),zT,v,⟨by first|omega|exact aI _⟩,⟨zK i⟩,⟨zB⟩⟩
  ·rw[if_neg c4] at H
   have ag:=aZ c4;clear c4
   (first|rw[ag]|(simp only[cH,cP];rw[ag])|skip)
   have v:=zA H;clear H;obtain⟨c5,c6,c8,c9⟩:=aA i;go_wp2;go_meet
   case rel=>exact⟨_,(decide (j>12)),zT,v,⟨by first|omega|exact aI _⟩,⟨zK i⟩,⟨zB⟩⟩
 case rest=>
  clear a2;obtain⟨G,am,rfl,J,V,i,m⟩:=hcut;cases G with
  |zero=>exact absurd J.out (by simp[bc.j0])
  |succ bg=>
   have H:=J.out;clear J;simp only[bc.j0] at H;by_cases c7:am=true
   ·subst c7
    replace H:=zi H;obtain rfl:=aQ H;go_wp2;go_ret;exact⟨zE,zB⟩
   ·replace c7:=Bool.eq_false_iff.mpr c7
    subst c7;replace H:=zj H;have v:=zA H;clear H;go_wp2_with (first|((with_reducible refine aU (N:=3) rfl ?_);refine zX 3 #[.int .i64 0,.int .i64 0] 116 ?_;intro D l w8 I hb;have n:=zA (I);have dd:=zG m l;have dk:=zG m l;replace m:=zS m hb;have K:=zA ((by rw[l];exact Nat.ne_of_lt (aC (g:=u) (o:=.cells #[.int .i64 j,.slice R a.length B] 24 (0,0)) (zK i)):u≠D));have S:=zA ((by rw[l];exact Nat.ne_of_gt (aC (g:=u) (o:=.cells #[.int .i64 j,.slice R a.length B] 24 (0,0)) (zK i)):D≠u));replace i:=zb i hb;clear hb I l;have dl:=S.out;have ds:=K.out;obtain⟨bw,bx,b0,b1⟩:=aA n;obtain⟨b2,b3,b4,b5⟩:=aA i))
    go_loopg [19] bg (fun G b6 w'=>∃(b:Int) (E:Int) (z:Int),b6= .int .i64 b/\Aside0 (bc.l0 G a (a.length:Int) b j a E z=some r)/\Aside0 (G<=bg)/\Aside0 (w'.heap[u]? =some (.cells #[.int .i64 j,(.slice R a.length B)] 24 (0,0)))/\Aside0 (w'.heap[D]? =some (.cells #[.int .i64 E,.int .i64 z] 116 (0,0)))/\Aside0 (Below w.heap.size w w'))
    case atStart=>exact⟨(0),((-1)),((-1)),zT,v,⟨aI _⟩,⟨by refine zk ?_;refine aE ?_ K.out _;refine zk ?_;refine aE ?_ K.out _;exact zK i⟩,⟨by refine zk ?_;refine bE (cs:=#[.int .i64 (-1),.int .i64 0]) ?_ 1 _ rfl;refine zk ?_;refine bE (cs:=#[.int .i64 0,.int .i64 0]) ?_ 0 _ rfl;exact zK n⟩,⟨zB⟩⟩
    case round=>
     clear v;clear bw bx b2 b3 b0 b1 b4 b5;obtain⟨b,E,z,rfl,J,W,i,n,m⟩:=hrel;cases gk with
     |zero=>exact absurd J.out (by simp[bc.l0])
     |succ k2=>
      have H:=J.out;clear J;simp only[bc.l0] at H;by_cases X:b<(a.length:Int)
      ·rw[if_pos X] at H
       have bi:=ay X;clear X;by_cases ap:0<=b
       ·rw[if_pos ap] at H
        have b':=ay ap;clear ap;by_cases ar:b<(a.length:Int)
        ·rw[if_pos ar] at H
         have ca:=ay ar;clear ar;have a3:=zA H;clear H;have av:0<=(b:Int):=aw ‹_›;have aB:b<(a.length:Int):=aw ‹_›;obtain⟨Y,cb,aF,aL,aO⟩:=eN bo.out b av aB;cases cb;replace aF:=(m.out.cell (bu w _ aF)).trans aF;replace aL:=(m.out.cell (bu w _ aL)).trans aL;replace aO:=(m.out.cell (bu w _ aO)).trans aO;replace av:=eq_true av;replace aB:=eq_true aB;go_upto_region 8 with (first|((with_reducible refine aU (N:=5) rfl ?_);refine zX 5 #[.int .i64 0,.int .i64 0,.int .i64 0] 83 ?_;intro M l dv I hb;have p:=zA (I);have dx:=zG m l;have d0:=zG m l;replace m:=zS m hb;have q:=zA ((by rw[l];exact Nat.ne_of_lt (aC (g:=u) (o:=.cells #[.int .i64 j,.slice (some Y) a.length B] 24 (0,0)) (zK i)):u≠M));have O:=zA ((by rw[l];exact Nat.ne_of_gt (aC (g:=u) (o:=.cells #[.int .i64 j,.slice (some Y) a.length B] 24 (0,0)) (zK i)):M≠u));replace i:=zb i hb;have s:=zA ((by rw[l];exact Nat.ne_of_lt (aC (g:=D) (o:=.cells #[.int .i64 E,.int .i64 z] 116 (0,0)) (zK n)):D≠M));have P:=zA ((by rw[l];exact Nat.ne_of_gt (aC (g:=D) (o:=.cells #[.int .i64 E,.int .i64 z] 116 (0,0)) (zK n)):M≠D));replace n:=zb n hb;clear hb I l;have d1:=O.out;have d2:=q.out;have d3:=P.out;have d4:=s.out;obtain⟨cc,cd,ce,cf,cg,ch⟩:=cA p)|((with_reducible refine aU (N:=6) rfl ?_);refine zX 6 #[.int .i64 0,.int .i64 0] 116 ?_;intro T l d5 I hb;have F:=zA (I);have d6:=zG m l;have d7:=zG m l;replace m:=zS m hb;have y:=zA ((by rw[l];exact Nat.ne_of_lt (aC (g:=u) (o:=.cells #[.int .i64 j,.slice (some Y) a.length B] 24 (0,0)) (by refine zk ?_;refine aE ?_ q.out _;refine zk ?_;refine aE ?_ q.out _;refine zk ?_;refine aE ?_ q.out _;exact zK i)):u≠T));have U:=zA ((by rw[l];exact Nat.ne_of_gt (aC (g:=u) (o:=.cells #[.int .i64 j,.slice (some Y) a.length B] 24 (0,0)) (by refine zk ?_;refine aE ?_ q.out _;refine zk ?_;refine aE ?_ q.out _;refine zk ?_;refine aE ?_ q.out _;exact zK i)):T≠u));replace i:=zA (aD (g:=u) (o:=.cells #[.int .i64 j,.slice (some Y) a.length B] 24 (0,0)) (by refine zk ?_;refine aE ?_ q.out _;refine zk ?_;refine aE ?_ q.out _;refine zk ?_;refine aE ?_ q.out _;exact zK i) hb);have L:=zA ((by rw[l];exact Nat.ne_of_lt (aC (g:=D) (o:=.cells #[.int .i64 E,.int .i64 z] 116 (0,0)) (by refine zk ?_;refine aE ?_ s.out _;refine zk ?_;refine aE ?_ s.out _;refine zk ?_;refine aE ?_ s.out _;exact zK n)):D≠T));have a4:=zA ((by rw[l];exact Nat.ne_of_gt (aC (g:=D) (o:=.cells #[.int .i64 E,.int .i64 z] 116 (0,0)) (by refine zk ?_;refine aE ?_ s.out _;refine zk ?_;refine aE ?_ s.out _;refine zk ?_;refine aE ?_ s.out _;exact zK n)):T≠D));replace n:=zA (aD (g:=D) (o:=.cells #[.int .i64 E,.int .i64 z] 116 (0,0)) (by refine zk ?_;refine aE ?_ s.out _;refine zk ?_;refine aE ?_ s.out _;refine zk ?_;refine aE ?_ s.out _;exact zK n) hb);have x:=zA ((by rw[l];exact Nat.ne_of_lt (aC (g:=M) (o:=.cells #[.int .i64 ((af a b).f0),.int .i64 ((af a b).f1),.int .i64 ((af a b).f2)] 83 (0,0)) (by refine zk ?_;refine bE (cs:=#[.int .i64 ((af a b).f0),.int .i64 ((af a b).f1),.int .i64 0]) ?_ 2 _ rfl;refine zk ?_;refine bE (cs:=#[.int .i64 ((af a b).f0),.int .i64 0,.int .i64 0]) ?_ 1 _ rfl;refine zk ?_;refine bE (cs:=#[.int .i64 0,.int .i64 0,.int .i64 0]) ?_ 0 _ rfl;exact zK p)):M≠T));have Q:=zA ((by rw[l];exact Nat.ne_of_gt (aC (g:=M) (o:=.cells #[.int .i64 ((af a b).f0),.int .i64 ((af a b).f1),.int .i64 ((af a b).f2)] 83 (0,0)) (by refine zk ?_;refine bE (cs:=#[.int .i64 ((af a b).f0),.int .i64 ((af a b).f1),.int .i64 0]) ?_ 2 _ rfl;refine zk ?_;refine bE (cs:=#[.int .i64 ((af a b).f0),.int .i64 0,.int .i64 0]) ?_ 1 _ rfl;refine zk ?_;refine bE (cs:=#[.int .i64 0,.int .i64 0,.int .i64 0]) ?_ 0 _ rfl;exact zK p)):T≠M));replace p:=zA (aD (g:=M) (o:=.cells #[.int .i64 ((af a b).f0),.int .i64 ((af a b).f1),.int .i64 ((af a b).f2)] 83 (0,0)) (by refine zk ?_;refine bE (cs:=#[.int .i64 ((af a b).f0),.int .i64 ((af a b).f1),.int .i64 0]) ?_ 2 _ rfl;refine zk ?_;refine bE (cs:=#[.int .i64 ((af a b).f0),.int .i64 0,.int .i64 0]) ?_ 1 _ rfl;refine zk ?_;refine bE (cs:=#[.int .i64 0,.int .i64 0,.int .i64 0]) ?_ 0 _ rfl;exact zK p) hb);clear hb I l;have d8:=U.out;have d9:=y.out;have ea:=a4.out;have eb:=L.out;have ed:=Q.out;have eg:=x.out;obtain⟨ci,cj,ck,cl⟩:=aA F))
         (try simp only[Act.put,List.setIfInBounds_toArray,List.set_cons_zero,List.set_cons_succ])
         go_cut [28] (fun v28 wc=>∃(G:Nat) (aP:Bool),v28= .bool aP/\Aside0 (bc.j2 G a (a.length:Int) b aP j a E z ((af a b).f0) ((af a b).f1) ((af a b).f2) ((af a b).f0) ((af a b).f1)=some r)/\Aside0 (G<=k2)/\Aside0 (wc.heap[u]? =some (.cells #[.int .i64 j,(.slice (some Y) a.length B)] 24 (0,0)))/\Aside0 (wc.heap[D]? =some (.cells #[.int .i64 E,.int .i64 z] 116 (0,0)))/\Aside0 (wc.heap[M]? =some (.cells #[.int .i64 ((af a b).f0),.int .i64 ((af a b).f1),.int .i64 ((af a b).f2)] 83 (0,0)))/\Aside0 (wc.heap[T]? =some (.cells #[.int .i64 ((af a b).f0),.int .i64 ((af a b).f1)] 116 (0,0)))/\Aside0 (Below w.heap.size w wc))
         case first=>
          have H:=a3.out;clear a3;obtain⟨t216,aR,H⟩:=zo H;by_cases aS:t216=true
          ·subst aS
           replace H:=zi H;obtain⟨t217,a5,H⟩:=zo H;by_cases a0:t217=true
           ·subst a0
            replace H:=zi H;by_cases Z:((af a b).f2)<1
            ·rw[if_pos Z] at H
             have ak:=ay Z;clear Z
             (first|rw[ak]|(simp only[cH,cP];rw[ak])|skip)
             have v:=zA H;clear H;have ek:=K.out;have el:=S.out;have em:=q.out;have er:=O.out;have es:=y.out;have ev:=U.out;obtain⟨ew,ex,ey,e0⟩:=aA i;have e1:=P.out;have e2:=s.out;have e3:=x.out;have e4:=Q.out;obtain⟨e5,e6,e_,e',fb,fd⟩:=cA p;go_wp2_with (first|((with_reducible refine aJ (f:=121) rfl ?_);refine zL (some 33) Tryz.func121 #[.int .i64 j,.int .i64 ((af a b).f0)] ?_;(with_reducible refine(fX.calls j ((af a b).f0) true _ aR.out).mono ?_);rintro e w' ⟨rfl,⟨nd,rfl⟩⟩;refine⟨_,rfl,?_⟩)|(go_at_call 121;(with_reducible refine(fX.calls j ((af a b).f1) true _ a5.out).mono ?_);rintro e w' ⟨rfl,⟨nd,rfl⟩⟩))
             go_meet
             case rel=>exact⟨_,(true),zT,v,⟨by have:=V.out;have:=W.out;first|omega|exact aI _⟩,⟨by refine zk ?_;refine aE ?_ y.out _;refine zk ?_;refine aE ?_ y.out _;exact zK i⟩,⟨by refine zk ?_;refine aE ?_ L.out _;refine zk ?_;refine aE ?_ L.out _;exact zK n⟩,⟨by refine zk ?_;refine aE ?_ x.out _;refine zk ?_;refine aE ?_ x.out _;exact zK p⟩,⟨by refine zk ?_;refine bE (cs:=#[.int .i64 ((af a b).f0),.int .i64 0]) ?_ 1 _ rfl;refine zk ?_;refine bE (cs:=#[.int .i64 0,.int .i64 0]) ?_ 0 _ rfl;exact zK F⟩,⟨zB⟩⟩
            ·rw[if_neg Z] at H
             have ak:=aZ Z;clear Z
             (first|rw[ak]|(simp only[cH,cP];rw[ak])|skip)
             have v:=zA H;clear H;have fn:=K.out;have fo:=S.out;have fq:=q.out;have fr:=O.out;have ft:=y.out;have fv:=U.out;obtain⟨f3,f4,f5,f6⟩:=aA i;have f7:=P.out;have f8:=s.out;have f9:=x.out;have f':=Q.out;obtain⟨ga,gb,gc,gd,ge,gf⟩:=cA p;go_wp2_with (first|((with_reducible refine aJ (f:=121) rfl ?_);refine zL (some 33) Tryz.func121 #[.int .i64 j,.int .i64 ((af a b).f0)] ?_;(with_reducible refine(fX.calls j ((af a b).f0) true _ aR.out).mono ?_);rintro e w' ⟨rfl,⟨nd,rfl⟩⟩;refine⟨_,rfl,?_⟩)|(go_at_call 121;(with_reducible refine(fX.calls j ((af a b).f1) true _ a5.out).mono ?_);rintro e w' ⟨rfl,⟨nd,rfl⟩⟩))
             go_meet
             case rel=>exact⟨_,(decide (((af a b).f2)>50)),zT,v,⟨by have:=V.out;have:=W.out;first|omega|exact aI _⟩,⟨by refine zk ?_;refine aE ?_ y.out _;refine zk ?_;refine aE ?_ y.out _;exact zK i⟩,⟨by refine zk ?_;refine aE ?_ L.out _;refine zk ?_;refine aE ?_ L.out _;exact zK n⟩,⟨by refine zk ?_;refine aE ?_ x.out _;refine zk ?_;refine aE ?_ x.out _;exact zK p⟩,⟨by refine zk ?_;refine bE (cs:=#[.int .i64 ((af a b).f0),.int .i64 0]) ?_ 1 _ rfl;refine zk ?_;refine bE (cs:=#[.int .i64 0,.int .i64 0]) ?_ 0 _ rfl;exact zK F⟩,⟨zB⟩⟩
           ·replace a0:=Bool.eq_false_iff.mpr a0
            subst a0;replace H:=zj H;have v:=zA H;clear H;have gg:=K.out;have gi:=S.out;have gl:=q.out;have gm:=O.out;have gn:=y.out;have go:=U.out;obtain⟨gp,gq,gr,gs⟩:=aA i;have gt:=P.out;have gx:=s.out;have g0:=x.out;have g1:=Q.out;obtain⟨g2,g3,g4,g5,g6,g7⟩:=cA p;go_wp2_with (first|((with_reducible refine aJ (f:=121) rfl ?_);refine zL (some 33) Tryz.func121 #[.int .i64 j,.int .i64 ((af a b).f0)] ?_;(with_reducible refine(fX.calls j ((af a b).f0) true _ aR.out).mono ?_);rintro e w' ⟨rfl,⟨nd,rfl⟩⟩;refine⟨_,rfl,?_⟩)|(go_at_call 121;(with_reducible refine(fX.calls j ((af a b).f1) false _ a5.out).mono ?_);rintro e w' ⟨rfl,⟨nd,rfl⟩⟩))
            go_meet
            case rel=>exact⟨_,(true),zT,v,⟨by have:=V.out;have:=W.out;first|omega|exact aI _⟩,⟨by refine zk ?_;refine aE ?_ y.out _;refine zk ?_;refine aE ?_ y.out _;exact zK i⟩,⟨by refine zk ?_;refine aE ?_ L.out _;refine zk ?_;refine aE ?_ L.out _;exact zK n⟩,⟨by refine zk ?_;refine aE ?_ x.out _;refine zk ?_;refine aE ?_ x.out _;exact zK p⟩,⟨by refine zk ?_;refine bE (cs:=#[.int .i64 ((af a b).f0),.int .i64 0]) ?_ 1 _ rfl;refine zk ?_;refine bE (cs:=#[.int .i64 0,.int .i64 0]) ?_ 0 _ rfl;exact zK F⟩,⟨zB⟩⟩
          ·replace aS:=Bool.eq_false_iff.mpr aS
           subst aS;replace H:=zj H;have v:=zA H;clear H;have g8:=K.out;have g9:=S.out;have g':=q.out;have ha:=O.out;have hc:=y.out;have he:=U.out;obtain⟨hf,hh,hj,hk⟩:=aA i;have hl:=P.out;have hm:=s.out;have hn:=x.out;have ho:=Q.out;obtain⟨hp,hq,hr,hs,ht,hv⟩:=cA p;go_wp2_with (first|((with_reducible refine aJ (f:=121) rfl ?_);refine zL (some 33) Tryz.func121 #[.int .i64 j,.int .i64 ((af a b).f0)] ?_;(with_reducible refine(fX.calls j ((af a b).f0) false _ aR.out).mono ?_);rintro e w' ⟨rfl,⟨nd,rfl⟩⟩;refine⟨_,rfl,?_⟩))
           go_meet
           case rel=>exact⟨_,(true),zT,v,⟨by have:=V.out;have:=W.out;first|omega|exact aI _⟩,⟨by refine zk ?_;refine aE ?_ y.out _;refine zk ?_;refine aE ?_ y.out _;exact zK i⟩,⟨by refine zk ?_;refine aE ?_ L.out _;refine zk ?_;refine aE ?_ L.out _;exact zK n⟩,⟨by refine zk ?_;refine aE ?_ x.out _;refine zk ?_;refine aE ?_ x.out _;exact zK p⟩,⟨by refine zk ?_;refine bE (cs:=#[.int .i64 ((af a b).f0),.int .i64 0]) ?_ 1 _ rfl;refine zk ?_;refine bE (cs:=#[.int .i64 0,.int .i64 0]) ?_ 0 _ rfl;exact zK F⟩,⟨zB⟩⟩
         case rest=>
          clear a3;clear bi b' ca cc cd ce ci cj cf cg ch ck cl aF aL aO av aB;obtain⟨G,aP,rfl,J,bk,i,n,p,F,m⟩:=hcut;cases G with
          |zero=>exact absurd J.out (by simp[bc.j2])
          |succ a9=>
           have H:=J.out;clear J;simp only[bc.j2] at H;by_cases a1:aP=true
           ·subst a1
            replace H:=zi H;obtain rfl:=aQ H;go_wp2;go_ret;exact⟨zE,zB⟩
           ·replace a1:=Bool.eq_false_iff.mpr a1
            subst a1;replace H:=zj H;by_cases ab:((af a b).f0)>((af a b).f1)
            ·rw[if_pos ab] at H
             have cn:=ay ab;clear ab;obtain rfl:=aQ H;have hw:=O.out;have hx:=q.out;have hy:=P.out;have hz:=s.out;have hA:=x.out;have hB:=Q.out;obtain⟨hC,hD,hE,hG,hH,hI⟩:=cA p;go_wp2;go_ret;exact⟨zE,zB⟩
            ·rw[if_neg ab] at H
             have cn:=aZ ab;clear ab;obtain⟨t218,bn,H⟩:=zo H;by_cases ad:t218>=0
             ·rw[if_pos ad] at H
              have co:=ay ad;clear ad;obtain rfl:=aQ H;have hJ:=O.out;have hK:=q.out;have hL:=P.out;have hM:=s.out;have hN:=x.out;have hO:=Q.out;obtain⟨hP,hQ,hR,hT,hV,hW⟩:=cA p;have hX:=S.out;have hY:=K.out;have h0:=L.out;have h1:=a4.out;obtain⟨h2,h3,h4,h5⟩:=aA n;have h6:=U.out;have h7:=y.out;obtain⟨h8,h9,h_,h'⟩:=aA F;go_wp2_with (first|(go_at_call 122;(with_reducible refine(dN.calls a9 E z ((af a b).f0) ((af a b).f1) t218 _ bn.out).mono ?_);rintro e ib ⟨rfl,hb⟩;replace i:=zb i hb;replace n:=zb n hb;replace p:=zb p hb;replace F:=zb F hb;replace m:=zS m hb;(try clear hb)))
              go_ret;exact⟨zE,zB⟩
             ·rw[if_neg ad] at H
              have co:=aZ ad;clear ad;have v:=zA H;clear H;have id:=O.out;have ih:=q.out;have ii:=P.out;have im:=s.out;have io:=x.out;have ip:=Q.out;obtain⟨it,iv,i0,i1,i2,i3⟩:=cA p;have i4:=S.out;have i5:=K.out;have i6:=L.out;have i7:=a4.out;obtain⟨i8,i9,i_,jj⟩:=aA n;have jp:=U.out;have j1:=y.out;obtain⟨j3,j_,j',kd⟩:=aA F;go_wp2_with (first|(go_at_call 122;(with_reducible refine(dN.calls a9 E z ((af a b).f0) ((af a b).f1) t218 _ bn.out).mono ?_);rintro e kh ⟨rfl,hb⟩;replace i:=zb i hb;replace n:=zb n hb;replace p:=zb p hb;replace F:=zb F hb;replace m:=zS m hb;(try clear hb);obtain⟨kk,kl,km,ks⟩:=aA F;obtain⟨kt,kv,kw,kW⟩:=aA n))
              go_roundg a9
              case measure=>have:=V.out;have:=W.out;have:=bk.out;omega
              case rel=>exact⟨(wrap64 (b+1)),(((af a b).f0)),(((af a b).f1)),zT,v,⟨by have:=V.out;have:=W.out;have:=bk.out;omega⟩,⟨by refine zk ?_;refine aE ?_ K.out _;refine zk ?_;refine aE ?_ K.out _;exact zK i⟩,⟨by refine zk ?_;refine bE (cs:=#[.int .i64 ((af a b).f0),.int .i64 z]) ?_ 1 _ rfl;refine zk ?_;refine bE (cs:=#[.int .i64 E,.int .i64 z]) ?_ 0 _ rfl;exact zK n⟩,⟨zB⟩⟩
        ·rw[if_neg ar] at H
         exact absurd H (by simp)
       ·rw[if_neg ap] at H
        exact absurd H (by simp)
      ·rw[if_neg X] at H
       have bi:=aZ X;clear X;obtain rfl:=aQ H;go_wp2;go_ret;exact⟨zE,zB⟩
section
attribute [local go_sem] Oper.semAt_some
theorem uB (N:Int) (A0:Option Addr) (c0:Nat) (E:List S83) (w:World):Calls Tryz.prog 85 #[.agg #[.int .i64 N,.slice A0 E.length c0]] w fun e w'=>e= .returned (.func (.func 140) #[] #[.pointer (some ⟨w.heap.size,0,none⟩)])/\w'=w.alloc (.cells #[.int .i64 N,.slice A0 E.length c0] 24):=by
 go_enter Tryz.func85,Tryz.ntmps85
 go_wp2;go_ret;exact⟨rfl,rfl⟩
def gR (s:Nat) (a b:Int):Nat->List (Nat×Int×Int)
 |0=>[]
 |j+1=>gR s a b j++[(s+j,a,b)]
def cy (E:List S83):Nat->List (Nat×Int×Int)
 |0=>[]
 |k+1=>cy E k++gR (cZ E k) (af E k).f0 (af E k).f1 (af E k).f2.toNat
theorem qS (s:Nat) (a b:Int):∀j,(gR s a b j).length=j
 |0=>rfl
 |j+1=>by simp[gR,qS s a b j]
theorem o8 (E:List S83):∀k,(cy E k).length=cZ E k
 |0=>rfl
 |k+1=>by simp[cy,cZ,o8 E k,qS]
def qT (base:Nat) (X Y:World):Prop:=(base<=X.heap.size->Below base X Y)/\∀(k:Nat) (cs:Array Value) (t:TypeId),(t=24\/t=83)->X.heap[k]? =some (Obj.cells cs t (0,0))->Y.heap[k]? =some (Obj.cells cs t (0,0))
theorem uC (s:Nat) (a b:Int) (j:Nat):∀m,j<m->(s+j,a,b)∈gR s a b m
 |0,h=>by omega
 |m+1,h=>by
  by_cases e:j=m
  ·subst e;exact List.mem_append.2 (.inr (List.mem_singleton.2 rfl))
  ·exact List.mem_append.2 (.inl (uC s a b j m (by omega)))
theorem uD (E:List S83):∀(m k:Nat),∀x∈cy E k,x∈cy E (k+m)
 |0,k,x,a=>a
 |m+1,k,x,a=>List.mem_append.2 (.inl (uD E m k x a))
theorem uE (s:Nat) (a b:Int):∀m,∀x∈gR s a b m,x.2.1=a/\x.2.2=b
 |0,x,e=>by cases e
 |m+1,x,e=>by
  rcases List.mem_append.1 e with e|e
  ·exact uE s a b m x e
  ·obtain rfl:=List.mem_singleton.1 e;exact⟨rfl,rfl⟩
theorem qU (E:List S83):∀k,k<=E.length->∀x∈cy E k,∃e∈E,x.2.1=e.f0/\x.2.2=e.f1
 |0,_,x,a=>by cases a
 |k+1,hk,x,a=>by
  rcases List.mem_append.1 a with a|a
  ·exact qU E k (by omega) x a
  ·have h:=uE _ _ _ _ x a
   have e:af E k=E[k]:=by simp[af,aX,bB (show k<E.length by omega)]
   exact⟨af E k,by rw[e];exact List.getElem_mem _,h.1,h.2⟩
theorem uF (g:Nat) (N:Int) (A0:Option Addr) (c0:Nat) (E:List S83) (w0 W:World) (am:Kd.C aN w0 A0 E.length E) (O:e9 E=true) (hB:Below w0.heap.size w0 W)
  (v:W.heap[g]? =some (.cells #[.int .i64 N,.slice A0 E.length c0] 24 (0,0))):
  jw (σ:=Unit) Fence.wide 9 Tryz.prog 140 #[.pointer (some ⟨g,0,none⟩)] (fun x:Nat×Int×Int=>#[.int .i64 x.1,.agg #[.int .i64 x.2.1,.int .i64 x.2.2]]) (fun _ W W1=>W1=W) (fun _ A B=>Below A.heap.size A B) (fun _ x A B=>x∈cy E E.length/\Below A.heap.size A B)
   (fun _ X Y=>qT w0.heap.size X Y)
   (fun _ xs W'=>xs=cy E E.length) (fun _ _ _=>True) (fun pre=>pre.length<2000) W:=by
 intro lp J Jx P Q R S;have ap:=zA P;have bk:=zA Q;have hY:=zA S;have av:=R () W rfl;clear P Q R S;have hu:=Tryz.underlying24;have bn:=Tryz.underlying83;obtain⟨hlen,hm⟩:=qQ O;have aY:=fun i hi=>oW hm i hi
 have HM:=zA hm;have HS:=zA aY;clear hm aY O;refine callsIn_of_wp Tryz.func140 rfl trivial ?_ rfl;simp only[Tryz.ntmps140,List.size_toArray,List.length_cons,List.length_nil,Nat.reduceAdd,Nat.reduceSub,Array.replicate_succ,Array.replicate_zero,List.push_toArray,List.append_toArray,List.nil_append,List.cons_append];have bo:W.cell? ⟨g,1,none⟩=some (.slice A0 E.length c0):=(ah v 1).trans rfl;have aL:=zA v;clear v;gi_wp2;gi_loopg [3,9] (E.length) (fun w s i wr=>∃k:Nat,i= .int .i64 k/\s= .int .i64 (cZ E k:Nat)/\k<=E.length/\Aside0 (J () (cy E k) wr)/\Aside0 (wr.heap[g]? =some (.cells #[.int .i64 N,.slice A0 E.length c0] 24 (0,0)))/\Aside0 (Below w0.heap.size w0 wr)/\Aside0 (w=E.length-k))
 case atStart=>exact⟨0,rfl,rfl,Nat.zero_le _,⟨av⟩,aL,⟨hB⟩,⟨rfl⟩⟩
 case round=>
  obtain⟨k,rfl,rfl,hk,T,HX,p,HK⟩:=hrel;by_cases aR:k<E.length
  ·have y:=HM.out k aR
   have z:=Lib.hid (show cZ E (k+1)=cZ E k+(af E k).f2.toNat from rfl);have D:=Lib.hid (show cy E (k+1)=cy E k++gR (cZ E k) (af E k).f0 (af E k).f1 (af E k).f2.toNat from rfl);have aS:=HS.out (k+1) (by omega);have F:=z.out;obtain⟨ad,rfl,l,n,o⟩:=eN am k (by omega) (by omega);rw[aG] at l n o;generalize af E k=x at y l n o z D F;obtain⟨a,b,m⟩:=x;simp only at y l n o;obtain⟨m,rfl⟩:=Int.eq_ofNat_of_zero_le (show 0<=m by omega);simp only[aG] at F;have bv:cZ E k+m<=2000:=by omega
   have bw:m<=50:=by omega
   have b0:(0:Int)<=(k:Int):=by omega
   have b1:(k:Int)<(E.length:Int):=by omega
   have l:=fU p.out l;have n:=fU p.out n;have o:=fU p.out o;have G:=zA (ap.out () _ _ _ T.out (ao (aq wr.heap.size wr) (.cells #[.int .i64 a,.int .i64 b,.int .i64 m] 83)));have H:=zA (au HX.out (.cells #[.int .i64 a,.int .i64 b,.int .i64 m] 83));have I:=zA (ao p.out (.cells #[.int .i64 a,.int .i64 b,.int .i64 m] 83));have q:=zA (show (wr.alloc (.cells #[.int .i64 a,.int .i64 b,.int .i64 m] 83)).heap[wr.heap.size]? =some (.cells #[.int .i64 a,.int .i64 b,.int .i64 m] 83 (0,0)) from a7 _ _);clear F aS y;gi_wp2;clear l n o;generalize (wr.alloc (.cells #[.int .i64 a,.int .i64 b,.int .i64 m] 83))=W1 at G H I q⊢;generalize wr.heap.size=r at q⊢;gi_loopg [3,15] (m) (fun w s i wi=>∃j:Nat,i= .int .i64 j/\s= .int .i64 (cZ E k+j:Nat)/\j<=m/\Aside0 (J () (cy E k++gR (cZ E k) a b j) wi)/\Aside0 (wi.heap[g]? =some (.cells #[.int .i64 N,.slice (some ad) E.length c0] 24 (0,0)))/\Aside0 (wi.heap[r]? =some (.cells #[.int .i64 a,.int .i64 b,.int .i64 m] 83 (0,0)))/\Aside0 (Below w0.heap.size w0 wi)/\Aside0 (w=m-j))
   case atStart=>exact⟨0,rfl,rfl,Nat.zero_le _,⟨by simpa [gR] using G.out⟩,H,q,I,⟨rfl⟩⟩
   case round=>
    clear G H I q;obtain⟨j,rfl,rfl,hj,U,V,K,L,a0⟩:=hrel;by_cases a1:j<m
    ·have a2:=o8 E k
     have a3:=qS (cZ E k) a b j;obtain⟨fn,tmps,b3,b4,M,Z⟩:=hY.out () (cy E k++gR (cZ E k) a b j) (cZ E k+j,a,b) wr wr U.out ⟨by have h:=uD E (E.length- (k+1)) (k+1) (cZ E k+j,a,b) (by rw[D.out];exact List.mem_append.2 (.inr (uC _ _ _ j _ (by rw[aG];exact a1))));rw[show k+1+(E.length- (k+1))=E.length by omega] at h;exact h,aq _ _⟩ (by rw[List.length_append];omega);have a4:=zA Z;simp only[Int.natCast_add] at M;have aa:wr.cell? ⟨r,0,none⟩=some (.int .i64 a):=(ah K.out 0).trans rfl;have ab:wr.cell? ⟨r,1,none⟩=some (.int .i64 b):=(ah K.out 1).trans rfl;clear Z a2 a3;gi_wp2;refine a4.out.mono ?_;rintro e W3 (⟨rfl,ag,u⟩|⟨rfl,ak⟩)
     ·have a5:=zA ag
      have a9:=zA (u.2 g _ _ (.inl rfl) V.out);have be:=zA (u.2 r _ _ (.inr rfl) K.out);have bf:=zA (L.out.trans (u.1 L.out.size));clear ag u M aa ab;gi_wp2;gi_roundg (m- (j+1))
      case measure=>rw[a0.out];omega
      case rel=>exact⟨j+1,by go_num,by go_num,by omega,⟨by simpa [gR] using a5.out⟩,a9,be,bf,⟨rfl⟩⟩
     ·have bg:=zA ak
      clear ak M aa ab;gi_wp2;refine bodyPost_ret (results_none rfl _ _ _) rfl ?_;exact⟨⟨_,rfl⟩,.inr ⟨(),_,trivial,bg.out⟩⟩
    ·obtain rfl:j=m:=by omega
     gi_wp2;gi_roundg (E.length- (k+1))
     case measure=>rw[HK.out];omega
     case rel=>exact⟨k+1,by go_num,by rw[z.out,aG],by omega,⟨by rw[D.out,aG];exact U.out⟩,V,L,⟨rfl⟩⟩
  ·obtain rfl:k=E.length:=by omega
   gi_wp2;go_end0;exact⟨⟨_,rfl⟩,.inl ⟨(),_,rfl,T.out⟩⟩
theorem BW (b:Nat) (N:Int) (A0:Option Addr) (c0:Nat) (E:List S83) (w0 W:World) (g:Kd.C aN w0 A0 E.length E) (h:e9 E=true) (i:Below w0.heap.size w0 W)
  (j:W.heap[b]? =some (.cells #[.int .i64 N,.slice A0 E.length c0] 24 (0,0))):
  jw (σ:=Unit) Fence.wide 9 Tryz.prog 140 #[.pointer (some ⟨b,0,none⟩)] (fun x:Nat×Int×Int=>#[.int .i64 x.1,.agg #[.int .i64 x.2.1,.int .i64 x.2.2]]) (fun _ W W1=>W1=W) (fun _ A B=>Below A.heap.size A B) (fun _ _ A B=>Below A.heap.size A B)
   (fun _ X Y=>qT w0.heap.size X Y)
   (fun _ xs W'=>xs=cy E E.length) (fun _ _ _=>True) (fun pre=>pre.length<2000) W:=fun k J Jx l m n o=>uF b N A0 c0 E w0 W g h i j k J Jx (fun s pre A B a e=>l s pre A B a e) (fun s pre A B a e=>m s pre A B a e) n (fun s pre x p W1 a q r=>o s pre x p W1 a q.2 r)
end
end Go.Proofs.YtffdiakgjakngaaGreat.P
namespace Go.Proofs.YtffdiakgjakngaaGreat.P
open Go Go.RowKit
set_option linter.unusedVariables false
set_option linter.unusedSimpArgs false
set_option maxHeartbeats 8000000
set_option maxRecDepth 100000
section
variable {F:Fence} {n:Nat} {P:Program}
theorem uG {σ α:Type} {g:Operand} {ps:Array Tmp} {assign body:Code} {Q:Exit->Act->World->Prop} {a:Act} {w:World}
  (aR:F.round=none) (h1:1<=n) {gf:Nat} {lb:Array Value} (hg:a.eval g= .func (.func gf) #[] lb) (a0:F.fn gf) (eg:∀args w,(callFunc gf args).run P w= .ok (.enter gf args) w)
  {bW:α->Array Value} {Start:σ->World->World->Prop} {M:σ->World->World->Prop} {T:σ->α->World->World->Prop} {z:σ->World->World->Prop} {S Sp:σ->List α->World->Prop} {Bd:List α->Prop}
  (a2:∀o,jw F (n-1) P gf lb bW Start M T z S Sp Bd ((w.alloc (.deferred (some []))).alloc (.loop o))) (a4:∀x,(bW x).size=ps.size)
  (m:σ->Prop) (a5:∀o s W1,Start s ((w.alloc (.deferred (some []))).alloc (.loop o)) W1->m s/\cB w.heap.size ((w.alloc (.deferred (some []))).alloc (.loop o)) W1)
  (N:∀s A B,m s->M s A B->cB w.heap.size A B) (a9:∀s x A B,m s->T s x A B->cB w.heap.size A B)
  (I:σ->List α->World->Prop) (u:Code->σ->List α->World->Prop)
  (be:∀s pre A B,m s->I s pre A->M s A B->I s pre B) (bf:∀c s pre A B,m s->u c s pre A->M s A B->u c s pre B)
  (bg:∀s pre A B,I s pre A->Bk (w.heap.size+1) A B->I s pre B) (bi:∀c s pre A B,u c s pre A->Bk (w.heap.size+1) A B->u c s pre B)
  (bk:∀s A B C D,Bk (w.heap.size+1) A B->z s B C->Bk (w.heap.size+1) C D->z s A D)
  (h0:∀o s W1,Start s ((w.alloc (.deferred (some []))).alloc (.loop o)) W1->I s [] W1) (a₁:α->World->Act) (J:α->World->World)
  (bo:∀x W,cB w.heap.size W (J x W)) (bv:∀s x A D,z s (J x A) D->z s A D)
  (bw:∀(l:Nat) (x:α) (W:World) (K:Act->World->Prop),K (a₁ x W) (J x W)->
   assign.wpIn (F.inRound l) (n-1-1) P (Exit.then K (fun _ _ _=>False)) {tmps:=(ps.zip (bW x)).foldl (fun t (p,v)=>t.setIfInBounds p v) a.tmps,defers:=[]} W)
  (bx:∀(l:Nat) (s:σ) (pre:List α) (x:α) (L W1 W:World),m s->I s pre L->T s x L W1->Bd pre->Bk (w.heap.size+1) (J x W1) W->body.wpIn (F.inRound l) (n-1-1) P (qR (σ:=σ) w.heap.size (z s) (I s) (fun c=>u c s) (pre++[x]) W) (a₁ x W1) W)
  (b0:∀(s:σ) (xs:List α) (W W':World),m s->S s xs W->I s xs W->Bk (w.heap.size+1) W W'->W'.heap[w.heap.size]? =some (.deferred (some []))->Q .normal {a with defers:={target:=.collected w.heap.size,args:=#[]}::a.defers} W')
  (b1:∀(c:Code) (s:σ) (pre:List α) (W W':World),m s->Sp s pre W->u c s pre W->Bk (w.heap.size+1) W W'->W'.heap[w.heap.size]? =some (.deferred (some []))->c.wpIn F n P Q {a with defers:={target:=.collected w.heap.size,args:=#[]}::a.defers} W'):
  (Code.rangeFunc g ps assign body).wpIn F n P Q a w:=by
 refine wpIn_rangeFunc ?_;intro fn b2;rw[aR];obtain⟨rec,q⟩:∃rec:LoopState->Option Code->Loop,rec=fun st pe=>{state:=st,pending:=pe,fn,tmps:=a.tmps,params:=ps,assign,body,defers:=w.heap.size}:=⟨_,rfl⟩
 obtain⟨W1,E⟩:∃W1,(w.alloc (.deferred (some []))).alloc (.loop (rec .ready none))=W1:=⟨_,rfl⟩;have b4:W1.heap[w.heap.size+1]? =some (.loop (rec .ready none)):=by
  rw[<-E];have:=World.alloc_heap_new (w.alloc (.deferred (some []))) (.loop (rec .ready none));rwa [World.size_alloc] at this
 have b5:W1.heap[w.heap.size]? =some (.deferred (some [])):=by
  rw[<-E];exact(Below.heap_alloc _ _ _ (by simp)).trans (World.alloc_heap_new w _)
 refine⟨w.heap.size+1,[{target:=.collected w.heap.size,args:=#[]}],W1,{target:=.fn (.func gf) lb,args:=#[.func (.yield (w.heap.size+1)) #[] #[]]},W1,gf,
  #[.func (.yield (w.heap.size+1)) #[] #[]]++lb,W1,?_,?_,?_,?_,fun _=>h1,?_⟩
 ·rw[<-E,q];exact run_enterLoop_outer _ _ _ _ _
 ·simp only[resolve,hg]
  simp[go_sem]
 ·intro f' aB;simp[Target.leads] at aB;subst aB;exact a0
 ·simp[invoke,go_sem,eg]
 ·have hs:=a2 (rec .ready none)
  rw[E] at hs;have ld:∀{A B:World} {r:Loop},cB w.heap.size A B->A.heap[w.heap.size+1]? =some (.loop r)->B.heap[w.heap.size+1]? =some (.loop r):=fun h U=>h _ _ (by omega) (by omega) U rfl
  have G:∀{A B:World},cB w.heap.size A B->A.heap[w.heap.size]? =some (.deferred (some []))->B.heap[w.heap.size]? =some (.deferred (some [])):=fun h U=>h _ _ (by omega) (by omega) U rfl
  refine(hs (w.heap.size+1)
   (fun s pre W=>m s/\I s pre W/\W.heap[w.heap.size+1]? =some (.loop (rec .ready none))/\W.heap[w.heap.size]? =some (.deferred (some [])))
   (fun s pre W=>m s/\∃c,u c s pre W/\W.heap[w.heap.size+1]? =some (.loop (rec .done (some c)))/\W.heap[w.heap.size]? =some (.deferred (some [])))
   (fun s pre A B h j=>⟨h.1,be s pre A B h.1 h.2.1 j,ld (N s A B h.1 j) h.2.2.1,G (N s A B h.1 j) h.2.2.2⟩)
   (fun s pre A B h j=>by
    obtain⟨i,c,hc,b,hk⟩:=h;exact⟨i,c,bf c s pre A B i hc j,ld (N s A B i j) b,G (N s A B i j) hk⟩)
   (fun s W2 j=>by
    rw[<-E] at j;have hk:=a5 (rec .ready none) s W2 j;have y:=hk.2;rw[E] at y;exact⟨hk.1,h0 _ s W2 j,ld y b4,G y b5⟩)
   ?_).mono ?_
  ·rintro s pre x L W ⟨i,hi,aL,aO⟩ V b_
   have y:=a9 s x L W i V;have b:=ld y aL;have hk:=G y aO;have X:=run_yield (P:=P) (args:=bW x) b (by rw[q];exact a4 x);rw[q] at X;obtain⟨Y,b'⟩:∃Y,Y=W:=⟨_,rfl⟩;have O:=bo x W;have b:=ld O b;have hk:=G O hk;have Z:=fun D=>bv s x W D
   have aa:=bx (w.heap.size+1) s pre x L W;have ab:=bw (w.heap.size+1) x W;clear y aL aO;rw[<-b'] at X ab Z aa b hk O V⊢;generalize cg:J x Y=W at b hk O Z aa ab;have ca:w.heap.size+1<W.heap.size:=(Array.getElem?_eq_some_iff.1 b).1;have aP:Bk (w.heap.size+1) W (W.putObj (w.heap.size+1) (.loop {rec .ready none with state:=.busy})):=⟨_,_,b,rfl,rfl⟩;refine⟨fn,_,assign,body,X,roundIn_of_wpIn b2 (ab _ ⟨_,run_beginRound b (by rw[q]),?_⟩)⟩;have cb:(W.putObj (w.heap.size+1) (.loop {rec .ready none with state:=.busy})).heap[w.heap.size+1]? =some (.loop {rec .ready none with state:=.busy}):=World.putObj_heap_same ca;have cc:(W.putObj (w.heap.size+1) (.loop {rec .ready none with state:=.busy})).heap[w.heap.size]? =some (.deferred (some [])):=(World.putObj_heap_other (by omega)).trans hk;refine wpIn_mono (aa _ i hi V b_ aP) ?_;have fin:∀(jump:Option Code) (k:World),cB w.heap.size (W.putObj (w.heap.size+1) (.loop {rec .ready none with state:=.busy})) k->
     (Instr.endRound (w.heap.size+1) jump).run P k= .ok (.bool jump.isNone) (k.putObj (w.heap.size+1) (.loop (rec (if jump.isNone then .ready else .done) jump)))/\
     Bk (w.heap.size+1) k (k.putObj (w.heap.size+1) (.loop (rec (if jump.isNone then .ready else .done) jump)))/\
     (k.putObj (w.heap.size+1) (.loop (rec (if jump.isNone then .ready else .done) jump))).heap[w.heap.size+1]? =some (.loop (rec (if jump.isNone then .ready else .done) jump))/\
     (k.putObj (w.heap.size+1) (.loop (rec (if jump.isNone then .ready else .done) jump))).heap[w.heap.size]? =some (.deferred (some [])):=fun jump k H=>by
    have ad:=ld H cb;have:=run_endRound (P:=P) jump ad;rw[q] at this⊢;exact⟨this,⟨_,_,ad,rfl,rfl⟩,World.putObj_heap_same (Array.getElem?_eq_some_iff.1 ad).1,(World.putObj_heap_other (by omega)).trans (G H cc)⟩
   rintro e a3 k hp;cases e with
   |normal=>
    obtain⟨H,cd,ag⟩:=hp;obtain⟨hr,R,am,an⟩:=fin none k H;exact⟨_,_,hr,.inl ⟨rfl,⟨i,bg s _ _ _ ag R,am,an⟩,Z _ (bk s _ _ _ _ aP cd R)⟩⟩
   |ret=>
    obtain⟨H,ag⟩:=hp;obtain⟨hr,R,am,an⟩:=fin (some .ret) k H;exact⟨_,_,hr,.inr ⟨rfl,i,.ret,bi _ s _ _ _ ag R,am,an⟩⟩
   |exit id=>exact hp.elim
   |goto t=>exact hp.elim
   |panic ch=>exact hp.elim
   |outgrown=>exact hp.elim
  ·rintro e W2 ⟨⟨v,rfl⟩,(⟨s,xs,hS,i,hi,b,hk⟩|⟨s,pre,ce,i,c,hi,b,hk⟩)⟩
   ·exact⟨none,_,by have:=run_endLoop (P:=P) b (by rw[q];simp);rw[q] at this;exact this,b0 s xs W2 _ i hS hi ⟨_,_,b,rfl,rfl⟩ ((World.putObj_heap_other (by omega)).trans hk)⟩
   ·exact⟨some c,_,by have:=run_endLoop (P:=P) b (by rw[q];simp);rw[q] at this;exact this,b1 c s pre W2 _ i ce hi ⟨_,_,b,rfl,rfl⟩ ((World.putObj_heap_other (by omega)).trans hk)⟩
end
end Go.Proofs.YtffdiakgjakngaaGreat.P
namespace Go.Proofs.YtffdiakgjakngaaGreat.P
open Go.RowKit Go.Proofs.YtffdiakgjakngaaGreatW.PrintWords Go.Proofs.YtffdiakgjakngaaGreatW.PrintLast Go.Proofs.YtffdiakgjakngaaGreatW.PrintMore
set_option linter.unusedVariables false
set_option linter.unusedSimpArgs false
set_option maxHeartbeats 8000000
set_option maxRecDepth 100000
section
attribute [local go_sem] Oper.semAt_some
def fY (xs:List (Nat×Int×Int)):List (List Value):=xs.map fun x=>[.int .i64 x.2.1,.int .i64 x.2.2]
theorem BX (k:Nat) (N:Int) (A0:Option Addr) (c0:Nat) (E:List S83) (w:World) (U:Kd.C aN w A0 E.length E) (an:E.length<=c0) (m:bc.f k N E=some 0) (V:e9 E=true):
  Calls Tryz.prog 178 #[.agg #[.int .i64 N,.slice A0 E.length c0]] w fun e w'=>∃v,e= .returned (.tuple #[v,.int .i64 0])/\(Kd.raw 2).R 205 w' w.heap.size (fun _=>True) v (fY (cy E E.length))/\Below w.heap.size w w':=by
 have hu:=Tryz.underlying24;have Ht:=zA m;have HE:=zA V;clear m V;refine(callsIn_wide (n:=10)).1 ?_;refine callsIn_of_wp_marks Tryz.func178 rfl trivial ?_ rfl;simp only[Tryz.ntmps178,List.size_toArray,List.length_cons,List.length_nil,Nat.reduceAdd,Nat.reduceSub,Array.replicate_succ,Array.replicate_zero,List.push_toArray,List.append_toArray,List.nil_append,List.cons_append];gi_wp2_with (first|(refine⟨trivial,?_⟩;gi_at_call 64;refine(callsIn_wide.2 (bc.calls k N A0 c0 E 0 _ (Kd.bz U _) an Ht.out)).mono ?_;rintro e w1 ⟨rfl,hb⟩;have u:=zA (aD (a7 w (.cells #[.int .i64 N,.slice A0 E.length c0] 24)) hb);have aB:w1.cell? ⟨w.heap.size,0,none⟩=some (.int .i64 N):=(ah u.out 0).trans rfl;have aF:w1.cell? ⟨w.heap.size,1,none⟩=some (.slice A0 E.length c0):=(ah u.out 1).trans rfl;have aL:(w1.alloc (.cells #[.slice none 0 0] 156)).cell? ⟨w.heap.size,0,none⟩=some (.int .i64 N):=(ah (au u.out _) 0).trans rfl;have aO:(w1.alloc (.cells #[.slice none 0 0] 156)).cell? ⟨w.heap.size,1,none⟩=some (.slice A0 E.length c0):=(ah (au u.out _) 1).trans rfl;have X:=zA (aW (ao (aq w.heap.size w) _) hb);clear hb)|(refine⟨trivial,?_⟩;gi_at_call 85;refine(callsIn_wide.2 (uB N A0 c0 E _)).mono ?_;rintro e w3 ⟨rfl,rfl⟩))
 have aP:w.heap.size<w1.heap.size:=aC u.out;have G:=zA (show ((w1.alloc (.cells #[.slice none 0 0] 156)).alloc (.cells #[.int .i64 N,.slice A0 E.length c0] 24)).heap[w1.heap.size]? =some (.cells #[.slice none 0 0] 156 (0,0)) from au (a7 w1 _) _);have I:=zA (show ((w1.alloc (.cells #[.slice none 0 0] 156)).alloc (.cells #[.int .i64 N,.slice A0 E.length c0] 24)).heap[w1.heap.size+1]? =some (.cells #[.int .i64 N,.slice A0 E.length c0] 24 (0,0)) from heap_alloc2_new w1 _ _);have J:=zA (ao (ao X.out (.cells #[.slice none 0 0] 156)) (.cells #[.int .i64 N,.slice A0 E.length c0] 24));clear aB aF aL aO u X;generalize ((w1.alloc (.cells #[.slice none 0 0] 156)).alloc (.cells #[.int .i64 N,.slice A0 E.length c0] 24))=y at G I J⊢;have aR:=aC G.out;have aS:=aC I.out;generalize a0:w1.heap.size+1=Y at I aS⊢;generalize w1.heap.size=bo at G aP aR a0⊢;have bk:=J.out.size;refine uG (σ:=Unit) (α:=Nat×Int×Int) (F:=Fence.wide) (n:=10) rfl (by decide) (gf:=140) (lb:=#[.pointer (some ⟨Y,0,none⟩)]) rfl trivial (enters_of Tryz.func140 (by kernel_rfl) rfl)
  (fun o=>BW Y N A0 c0 E w _ U HE.out (ao (ao J.out _) _) (au (au I.out _) _)) (fun _=>rfl)
  (fun _=>True) ?eL ?st ?ar
  (fun _ pre W=>y.heap.size<=W.heap.size/\∃v,W.heap[bo]? =some (.cells #[v] 156 (0,0))/\(Kd.raw 2).R 205 W w.heap.size (fun _=>True) v (fY pre)/\Below w.heap.size w W) (fun _ _ _ _=>False)
  ?is (fun _ _ _ _ _ _ h _=>h) ?ib (fun _ _ _ _ _ h _=>h) ?kt ?h0 ?a1 (fun x W=>W.alloc (.cells #[.int .i64 x.2.1,.int .i64 x.2.2] 116)) ?hw ?sZ ?assign ?body ?done (fun _ _ _ _ _ _ _ h=>h.elim)
 case assign=>
  intro l x W K hK;gi_wp2;exact hK
 case eL=>
  intro o s W1 h;exact⟨trivial,by rw[h];exact cB.refl _ _⟩
 case st=>intro s A B _ h k o h1 z g _;exact(h.block k (Array.getElem?_eq_some_iff.1 g).1).trans g
 case ar=>intro s x A B _ h k o h1 z g _;exact(h.block k (Array.getElem?_eq_some_iff.1 g).1).trans g
 case hw=>intro x W k o h1 z g _;exact au g _
 case sZ=>
  intro s x A D h;exact⟨fun aY=>((aq w.heap.size A).alloc aY _).trans (h.1 (by simp;omega)),fun k cs t m hk=>h.2 k cs t m (au hk _)⟩
 case is=>
  rintro s pre A B _ ⟨r,v,h1,z,g⟩ L;exact⟨Nat.le_trans r L.size,v,aD h1 L,Kd.cY z L,aW g L⟩
 case ib=>
  rintro s pre A B ⟨r,v,h1,z,g⟩ hb;exact⟨by rw[hb.size];exact r,v,hb.cells h1,dD z hb,g.trans (hb.below w.heap.size (by omega))⟩
 case kt=>
  intro s A B C D P Z aa;exact⟨fun aY=>((P.below w.heap.size (by omega)).trans (Z.1 (by rw[P.size];exact aY))).trans (aa.below w.heap.size (by omega)),fun k cs t m hk=>aa.cells (Z.2 k cs t m (P.cells hk))⟩
 case h0=>
  rintro o s W1 rfl;exact⟨by simp;omega,_,au (au G.out _) _,Kd.dm _ _ _ _ _,ao (ao J.out _) _⟩
 case body=>
  rintro l s pre ⟨i,a,b⟩ Wb W1 W _ ⟨r,v,i1,i2,i3⟩ H bv j;have c1:=aD i1 H;have c2:=Kd.cY i2 H;have c3:=aW i3 H;have a3:y.heap.size<=W1.heap.size:=Nat.le_trans r H.size;have p:=zA (j.cells (au c1 (.cells #[.int .i64 a,.int .i64 b] 116)));have q:=zA (dD (Kd.aM c2 (.cells #[.int .i64 a,.int .i64 b] 116)) j);have b3:=zA ((ao c3 (.cells #[.int .i64 a,.int .i64 b] 116)).trans (j.below w.heap.size (by omega)));have b4:=zA (j.cells (a7 W1 (.cells #[.int .i64 a,.int .i64 b] 116)));have aY:W.heap.size=W1.heap.size+1:=by rw[j.size];simp
  have bw:y.heap.size<=W.heap.size:=by omega
  clear i1 i2 i3 H j c1 c2 c3 aY a3 r;generalize W1.heap.size=pb at b4⊢;obtain⟨Ar,cr,rfl⟩:=Kd.bh q.out;have ad:(fY pre).length=pre.length:=by simp[fY]
  rw[ad] at p q;have hc:=dM p.out;have hf:=bF p.out 0;have b5:W.cell? ⟨pb,0,none⟩=some (.int .i64 a):=(ah b4.out 0).trans rfl;have b6:W.cell? ⟨pb,1,none⟩=some (.int .i64 b):=(ah b4.out 1).trans rfl;have LN:Aside0 (((fY pre).length+1)*16<=140737488355328):=⟨by rw[ad];omega⟩;have b_:=Tryz.underlying116;gi_wp2_with (gi_at_builtin;go_loud (refine o6 (Kd.raw 2) (w0:=w) w.heap.size rfl (.tmp 17) (.tmp 23) 156 205 (.agg #[.int .i64 0,.int .i64 0]) 16 rfl Tryz.underlying156 uu rfl (by decide) (by omega) _ _ [.int .i64 a,.int .i64 b] [.int .i64 a,.int .i64 b] (fun _=>True) (fun _=>False) rfl rfl ⟨rfl,rfl,by simp[Value.oneCell']⟩ (fun _ hk=>hk.elim) (fun _ _=>trivial) q.out b3.out b3.out.size LN.out ?_;intro v1 b' Q hb S a9;obtain⟨T,c1,rfl⟩:=Kd.bh Q;have M:=zA ((S.block bo (aC p.out) (Kd.dr q.out p.out (by decide))).trans p.out);have ca:=dM M.out;have cb:=bF M.out 0;have be:=zA Q;have bf:=zA hb;have O:=zA S;clear Q hb S a9))
  have bg:(fY pre++[[Value.int .i64 a,Value.int .i64 b]]).length=pre.length+1:=by simp[fY]
  refine⟨(o7 q.out O.out).trans (fI _ _ (aC G.out)),⟨fun aY=>Below.setCell ((aq w.heap.size W).grown O.out aY (Kd.dK q.out)) (by show w.heap.size<=bo;omega) _,fun k cs t m hk=>?_⟩,by have:=O.out.size;simp;omega,.slice T (pre.length+1) c1,by simpa using bV M.out 0 (.slice T (pre.length+1) c1),?_,dL bf.out (by show w.heap.size<=bo;omega)⟩
  ·have bi:k≠bo:=by
    rintro rfl;have h1:=hk.symm.trans p.out;injection h1 with h1
    injection h1 with _ h1 _
    rcases m with rfl|rfl<;>exact absurd h1 (by decide)
   rw[Below.heap_setCell _ _ _ _ bi];exact(O.out.block k (aC hk) (Kd.dr q.out hk (by rcases m with rfl|rfl<;>decide))).trans hk
  ·have h:=Kd.fl be.out M.out (by decide) 0 (.slice T (pre.length+1) c1)
   rw[bg] at h;simpa [fY] using h
 case done=>
  rintro s xs W W' _ rfl ⟨r,v,i1,i2,i3⟩ j ag;have p:=zA (j.cells i1);have q:=zA (dD i2 j);have b3:=zA (i3.trans (j.below w.heap.size (by omega)));have ak:=zA ag;clear i1 i2 i3 ag;have hc:=dM p.out;gi_wp2_with fail
  have am:Bk y.heap.size W' (W'.putObj y.heap.size (.deferred none)):=⟨_,_,ak.out,rfl,rfl⟩;exact jx (D:=y.heap.size) rfl ak.out (results_tmp2 rfl _ _ _) ⟨_,rfl,dD q.out am,b3.out.trans (am.below w.heap.size (by omega))⟩
end
theorem o9 (w:World) (ok:Nat->Prop) (a:ok w.heap.size) (e:Nat):(Kd.int .i64).R e (w.alloc (.cells #[] e)) w.heap.size ok (.slice (some ⟨w.heap.size,0,none⟩) 0 0) []:=
 ⟨fun k hk=>by
  have:w.heap.size=k:=by simpa [Value.ownBlock] using hk
  subst this;exact a,[],by
  show World.ownsRow _ _ _ 1 _ _ _
  simpa using World.ownsRow_lit (base:=w.heap.size) (e:=e) (size:=1) w #[] 0 (aI _) (by decide) rfl,aT.none _ _⟩
theorem uH {l:List Int} {w:World} (h:Kd.C (Kd.int .i64) w none l.length l):l=[]:=by
 cases l with
 |nil=>rfl
 |cons x xs=>obtain⟨ad,e,_⟩:=h.2.2 (by simp);cases e
def clone.f (l0:List Int):Option (List Int):=if l0.length<17592186044416 then some l0 else none
abbrev fJ.f (l0:List Int):Option (List Int):=clone.f l0
abbrev nz.f (l0:List Int):Option (List Int):=clone.f l0
theorem fJ.calls (A0:Option Addr) (c0:Nat) (l0:List Int) (r:List Int) (w:World) (b:Kd.C (Kd.int .i64) w A0 l0.length l0) (j:l0.length<=c0) (h:fJ.f l0=some r):
  Calls Tryz.prog 57 #[.slice A0 l0.length c0] w fun e w'=>∃g:Value,e= .returned (g)/\Kd.R (Kd.int .i64) 3 w' w.heap.size (fun _=>True) g r/\Below w.heap.size w w':=by
 have hu:=Tryz.underlying26;have k:=fun (w:World) (a:Option Addr) (n c:Nat)=>Lib.run_eql_slice_nil (P:=Tryz.prog) w 26 3 a n c 0 0 hu
 unfold fJ.f clone.f at h;split at h
 ·rename_i l
  obtain rfl:=aQ h;cases A0 with
  |none=>
   go_enter Tryz.func57,Tryz.ntmps57
   go_wp2;go_ret;obtain rfl:=uH b;exact⟨_,rfl,Kd.dm _ _ _ _ _,aq _ _⟩
  |some ad=>
   go_enter Tryz.func57,Tryz.ntmps57
   go_wp2_with (at_builtin;refine Kd.oE (w0:=w) (Value.int .i64) (0:Int) (h1:=fun _=>rfl) w.heap.size rfl (.tmp 5) (.tmp 6) 26 3 (.int .i64 0) 8 rfl Tryz.underlying26 gz rfl (by decide) (.slice (some ⟨w.heap.size,0,none⟩) 0 0) [] l0 (some ad) l0.length c0 (fun _=>True) rfl rfl (fun _ _=>trivial) (o9 w _ trivial 3) (Kd.ax b (ao (aq _ _) _)) (ao (aq _ _) _) (by simp) (by simp;omega) ?_;intro v1 w1 i hb m _)
   go_ret;exact⟨_,rfl,i,hb⟩
 ·cases h
theorem nz.calls (A0:Option Addr) (c0:Nat) (l0:List Int) (r:List Int) (w:World) (b:Kd.C (Kd.int .i64) w A0 l0.length l0) (j:l0.length<=c0) (h:nz.f l0=some r):
  Calls Tryz.prog 217 #[.slice A0 l0.length c0] w fun e w'=>∃g:Value,e= .returned (g)/\Kd.R (Kd.int .i64) 3 w' w.heap.size (fun _=>True) g r/\Below w.heap.size w w':=by
 have hu:=Tryz.underlying25;have k:=fun (w:World) (a:Option Addr) (n c:Nat)=>Lib.run_eql_slice_nil (P:=Tryz.prog) w 25 3 a n c 0 0 hu
 unfold nz.f clone.f at h;split at h
 ·rename_i l
  obtain rfl:=aQ h;cases A0 with
  |none=>
   go_enter Tryz.func217,Tryz.ntmps217
   go_wp2;go_ret;obtain rfl:=uH b;exact⟨_,rfl,Kd.dm _ _ _ _ _,aq _ _⟩
  |some ad=>
   go_enter Tryz.func217,Tryz.ntmps217
   go_wp2_with (at_builtin;refine Kd.oE (w0:=w) (Value.int .i64) (0:Int) (h1:=fun _=>rfl) w.heap.size rfl (.tmp 5) (.tmp 6) 25 3 (.int .i64 0) 8 rfl Tryz.underlying25 gz rfl (by decide) (.slice (some ⟨w.heap.size,0,none⟩) 0 0) [] l0 (some ad) l0.length c0 (fun _=>True) rfl rfl (fun _ _=>trivial) (o9 w _ trivial 3) (Kd.ax b (ao (aq _ _) _)) (ao (aq _ _) _) (by simp) (by simp;omega) ?_;intro v1 w1 i hb m _)
   go_ret;exact⟨_,rfl,i,hb⟩
 ·cases h
section
theorem uI {w w1:World} {g j:Nat} {v:Value} (h:Below w.heap.size w w1):w.grownBy (w1.setCell ⟨g,j,none⟩ v) (some g):=
 ⟨h.os,h.tape,h.output,by simpa using h.size,fun k hk a=>(Below.heap_setCell w1 _ v k (fun e=>a (by rw[e]))).trans (h.block k hk)⟩
structure BY (cs:Array Value) (d:Value) (q:Int) (rows val:Value) (waits:Nat->Bool):Prop where
 size:cs.size=18
 d:cs[0]? =some d
 q:cs[1]? =some (.int .i64 q)
 rows:cs[2]? =some rows
 val:cs[3]? =some val
 waits:∀i,i<12->cs[6+i]? =some (.bool (waits i))
def cU (w:World) (g:Nat) (d:Value) (q:Int) (rows val:Value) (waits:Nat->Bool):Prop:=
 ∃cs:Array Value,w.heap[g]? =some (.cells cs 236 (0,0))/\BY cs d q rows val waits
namespace cU
variable {w w':World} {g:Nat} {d:Value} {q:Int} {rows val:Value} {waits:Nat->Bool}
theorem uJ (h:cU w g d q rows val waits):w.cell? ⟨g,0,none⟩=some d:=by obtain⟨cs,hb,a⟩:=h;exact(ah hb 0).trans a.d
theorem BZ (h:cU w g d q rows val waits):w.cell? ⟨g,1,none⟩=some (.int .i64 q):=by obtain⟨cs,hb,a⟩:=h;exact(ah hb 1).trans a.q
theorem mz (h:cU w g d q rows val waits):w.cell? ⟨g,2,none⟩=some rows:=by obtain⟨cs,hb,a⟩:=h;exact(ah hb 2).trans a.rows
theorem o_ (h:cU w g d q rows val waits):w.cell? ⟨g,3,none⟩=some val:=by obtain⟨cs,hb,a⟩:=h;exact(ah hb 3).trans a.val
theorem B3 (h:cU w g d q rows val waits) (i:Nat) (hi:i<12):w.cell? ⟨g,6+i,none⟩=some (.bool (waits i)):=by obtain⟨cs,hb,a⟩:=h;exact(ah hb _).trans (a.waits i hi)
theorem frozen (h:cU w g d q rows val waits) (k:Nat):w.frozen? ⟨g,k,none⟩=false:=by obtain⟨cs,hb,_⟩:=h;exact bF hb k
theorem below (h:cU w g d q rows val waits) (hb:Below w.heap.size w w'):cU w' g d q rows val waits:=by obtain⟨cs,a,b⟩:=h;exact⟨cs,aD a hb,b⟩
theorem drew (h:cU w g d q rows val waits):cU w.drew g d q rows val waits:=h
theorem grown {row:Option Nat} (h:cU w g d q rows val waits) (a:w.grownBy w' row) (b:some g≠row):cU w' g d q rows val waits:=by obtain⟨cs,e,i⟩:=h;exact⟨cs,dc e a b,i⟩
theorem B4 (h:cU w g d q rows val waits) (i:Nat) (hi:i<12) (b:Bool):cU (w.setCell ⟨g,6+i,none⟩ (.bool b)) g d q rows val (fun j=>if j=i then b else waits j):=by
 obtain⟨cs,l,a⟩:=h;refine⟨cs.setIfInBounds (6+i) (.bool b),by simpa using bV l (6+i) (.bool b),by simp[a.size],?_,?_,?_,?_,?_⟩
 ·rw[Array.getElem?_setIfInBounds_ne (by omega)];exact a.d
 ·rw[Array.getElem?_setIfInBounds_ne (by omega)];exact a.q
 ·rw[Array.getElem?_setIfInBounds_ne (by omega)];exact a.rows
 ·rw[Array.getElem?_setIfInBounds_ne (by omega)];exact a.val
 ·intro k hk
  have m:=a.size;by_cases e:k=i
  ·subst e
   rw[Array.getElem?_setIfInBounds_self_of_lt (by omega)];simp
  ·rw[Array.getElem?_setIfInBounds_ne (by omega),a.waits k hk];simp[e]
theorem B5 (h:cU w g d q rows val waits) (u:Value):cU (w.setCell ⟨g,2,none⟩ u) g d q u val waits:=by
 obtain⟨cs,b,a⟩:=h;have e:=a.size;refine⟨cs.setIfInBounds 2 u,by simpa using bV b 2 u,by simp[a.size],?_,?_,?_,?_,?_⟩
 ·rw[Array.getElem?_setIfInBounds_ne (by omega)];exact a.d
 ·rw[Array.getElem?_setIfInBounds_ne (by omega)];exact a.q
 ·rw[Array.getElem?_setIfInBounds_self_of_lt (by omega)]
 ·rw[Array.getElem?_setIfInBounds_ne (by omega)];exact a.val
 ·intro k hk
  rw[Array.getElem?_setIfInBounds_ne (by omega)];exact a.waits k hk
theorem fl (h:cU w g d q rows val waits) {α:Type} {k:Kd α} {e base:Nat} {ok:Nat->Prop} {v:Value} {xs:List α} (a:k.R e w base ok v xs) (b:∀q,q∈e::k.E->q≠236) (j:Nat) (u:Value):k.R e (w.setCell ⟨g,j,none⟩ u) base ok v xs:=by
 obtain⟨cs,hb,_⟩:=h;exact Kd.fl a hb b j u
theorem qy (h:cU w g d q rows val waits) {α:Type} {k:Kd α} {e base:Nat} {ok:Nat->Prop} {v:Value} {xs:List α} (a:Kd.S k e w base ok v xs) (b:∀q,q∈e::k.E->q≠236) (j:Nat) (u:Value):Kd.S k e (w.setCell ⟨g,j,none⟩ u) base ok v xs:=by
 obtain⟨cs,hb,_⟩:=h;exact Kd.qy a hb b j u
theorem qV (h:cU w g d q rows val waits) {v:Value} {e:Nat} (b:∀k,v.ownBlock=some k->∃cells,w.heap[k]? =some (.cells cells e (0,0))) (i:e≠236):some g≠v.ownBlock:=fun he=>by
 obtain⟨cs,hb,_⟩:=h;obtain⟨cells,a⟩:=b g he.symm;rw[hb] at a;injection a with a
 injection a with _ a _
 exact i a.symm
end cU
def iV (q:Int) (vl dl:List Int) (v:Nat):Bool:=decide ((v:Int)≠q)&&decide (rd vl v<=rd dl v)
theorem B6 (g v:Nat) (q:Int) (b h:Option Addr) (cd k:Nat) (dl vl:List Int) (rows:Value) (waits:Nat->Bool) (w:World) (o:v<dl.length) (p:v<vl.length)
  (hw:cU w g (.slice b dl.length cd) q rows (.slice h vl.length k) waits) (hd:Kd.C (Kd.int .i64) w b dl.length dl) (i:Kd.C (Kd.int .i64) w h vl.length vl):
  Calls Tryz.prog 223 #[.pointer (some ⟨g,0,none⟩),.int .i64 v] w fun e w'=>e= .returned (.bool (iV q vl dl v))/\az w w':=by
 have r:=hw.uJ;have s:=hw.BZ;have u:=hw.o_;have x:=hd.2.1;have y:=i.2.1;unfold iV;by_cases a:(v:Int)=q
 ·rw[aZ (by simpa using a),Bool.false_and]
  subst a;go_enter Tryz.func223,Tryz.ntmps223
  go_wp2_with fail
  go_quiet (fail)
  go_wp2;go_ret;exact⟨rfl,by repeat(first|exact az.refl _|apply az.step)⟩
 ·rw[ay (by simpa using a),Bool.true_and]
  obtain⟨ad,rfl,l⟩:=Kd.bJ hd v (by omega) (by omega);obtain⟨z,rfl,m⟩:=Kd.bJ i v (by omega) (by omega);rw[aG] at l m;have B:(0:Int)<=(v:Int):=by omega
  have D:(v:Int)<(dl.length:Int):=by omega
  have E:(v:Int)<(vl.length:Int):=by omega
  have j:((v:Int) != q)=true:=by simpa using a
  have n:=Lib.hid j;clear j;go_enter Tryz.func223,Tryz.ntmps223
  go_wp2_with fail
  go_quiet (fail)
  go_wp2;go_ret;refine⟨?_,by repeat(first|exact az.refl _|apply az.step)⟩;show Ending.returned (.bool ((v:Int) != q&&decide (rd vl v<=rd dl v)))=_
  rw[n.out,Bool.true_and]
theorem B7 (g v:Nat) (q:Int) (a h:Option Addr) (cd k:Nat) (dl vl:List Int) (rows:Value) (waits:Nat->Bool) (w:World) (n:v<12) (r:v<dl.length) (s:v<vl.length)
  (hw:cU w g (.slice a dl.length cd) q rows (.slice h vl.length k) waits) (hd:Kd.C (Kd.int .i64) w a dl.length dl) (o:Kd.C (Kd.int .i64) w h vl.length vl):
  Calls Tryz.prog 218 #[.pointer (some ⟨g,0,none⟩),.int .i64 v] w fun e w'=>e= .returned (.tuple #[])/\cU w' g (.slice a dl.length cd) q rows (.slice h vl.length k) (fun j=>if j=v then iV q vl dl v else waits j)/\w.grownBy w' (some g):=by
 have E:(0:Int)<=(v:Int):=by omega
 have F:(v:Int)<12:=by omega
 have p:=zA (fun W h1 u x=>B6 g v q a h cd k dl vl rows waits W r s h1 u x);have l:=zA hw;have y:=zA hd;have z:=zA o;clear hw hd o;generalize iV q vl dl v=b at p⊢;go_enter Tryz.func218,Tryz.ntmps218
 go_wp2_with fail
 go_region_with ((go_at_call 223;refine(p.out _ l.out.drew (Kd.fD y.out) (Kd.fD z.out)).mono ?_;rintro e w1 ⟨rfl,i⟩;have G:w1.cell? ⟨g,6+v,none⟩=some (.bool (waits v)):=(by obtain⟨m,rfl⟩:=i.out;exact l.out.B3 v n);have H:w1.frozen? ⟨g,6+v,none⟩=false:=(by obtain⟨m,rfl⟩:=i.out;exact l.out.frozen _);have B:=zA (show cU (w1.setCell ⟨g,6+v,none⟩ (.bool b)) g (.slice a dl.length cd) q rows (.slice h vl.length k) (fun j=>if j=v then b else waits j) from by obtain⟨m,rfl⟩:=i.out;exact cU.B4 (w:=w.drew.drewN m) l.out v n b);have D:=zA (show w.grownBy (w1.setCell ⟨g,6+v,none⟩ (.bool b)) (some g) from by exact uI ((iA (aq w.heap.size w)).trans i.below));clear i))
 all_goals go_wp2
 all_goals go_end0
 all_goals exact⟨rfl,B.out,D.out⟩
end
section
theorem uK (L:List (Nat×Int×Int)):(fY L).length=L.length:=by simp[fY]
theorem uL {s:Nat} {a b:Int}:∀{j:Nat} {x:Nat×Int×Int},x∈gR s a b j->x.2.1=a/\x.2.2=b
 |0,x,h=>absurd h (by simp[gR])
 |j+1,x,h=>by
  simp only[gR,List.mem_append,List.mem_singleton] at h;rcases h with h|rfl
  ·exact uL h
  ·exact⟨rfl,rfl⟩
theorem uM {n:Nat} {E:List S83} (h:∀k,k<E.length->0<=(af E k).f0/\(af E k).f0<n/\0<=(af E k).f1/\(af E k).f1<n/\1<=(af E k).f2/\(af E k).f2<=50):
  ∀k,k<=E.length->∀x∈cy E k,0<=x.2.1/\x.2.1<n/\0<=x.2.2/\x.2.2<n
 |0,_=>fun x a=>absurd a (by simp[cy])
 |k+1,hk=>fun x a=>by
  simp only[cy,List.mem_append] at a;rcases a with a|a
  ·exact uM h k (by omega) x a
  ·obtain⟨h1,b⟩:=uL a
   have:=h k (by omega);omega
theorem B8 {n:Nat} {E:List S83} (h:∀k,k<E.length->0<=(af E k).f0/\(af E k).f0<n/\0<=(af E k).f1/\(af E k).f1<n/\1<=(af E k).f2/\(af E k).f2<=50):
  ∀x∈cy E E.length,0<=x.2.1/\x.2.1<n/\0<=x.2.2/\x.2.2<n:=uM h _ (aI _)
theorem uN {E:List S83} (h:e9 E=true):(cy E E.length).length<=2000:=by
 obtain⟨h1,a⟩:=qQ h;have:=oW a E.length (aI _);rw[o8];omega
def iW (l:List Int) (v:Nat):List Int:=l.set v (rd l v+1)
def ig (l:List Int) (x:Nat×Int×Int):List Int:=if x.2.1=x.2.2 then l else iW (iW l x.2.1.toNat) x.2.2.toNat
def dO (n:Nat) (L:List (Nat×Int×Int)) (k:Nat):List Int:=(L.take k).foldl ig (List.replicate n 0)
theorem B9 (l:List Int) (v:Nat):(iW l v).length=l.length:=by simp[iW]
theorem B_ (l:List Int) (x:Nat×Int×Int):(ig l x).length=l.length:=by
 unfold ig;split<;>simp[B9]
theorem uO:∀(L:List (Nat×Int×Int)) (l:List Int),(L.foldl ig l).length=l.length
 |[],l=>rfl
 |x::L,l=>by rw[List.foldl_cons,uO L,B_]
theorem uP (n:Nat) (L:List (Nat×Int×Int)) (k:Nat):(dO n L k).length=n:=by simp[dO,uO]
theorem Ca (n:Nat) (L:List (Nat×Int×Int)) (k:Nat) (hk:k<L.length):dO n L (k+1)=ig (dO n L k) L[k]:=by
 unfold dO;rw[List.take_succ_eq_append_getElem hk,List.foldl_append];rfl
theorem Cb {l:List Int} {v:Nat} {B:Int} {x:Int} (h:∀i:Nat,0<=rd l i/\rd l i<=B) (a:0<=x/\x<=B+1) (i:Nat):0<=rd (l.set v x) i/\rd (l.set v x) i<=B+1:=by
 have hi:=h i;simp only[rd,aG,aX,List.getElem?_set] at hi⊢;split
 ·split
  ·simpa using a
  ·simp;omega
 ·omega
theorem qW {l:List Int} {v:Nat} {B:Int} (h:∀i:Nat,0<=rd l i/\rd l i<=B) (i:Nat):0<=rd (iW l v) i/\rd (iW l v) i<=B+1:=
 Cb h (by have:=h v;omega) i
theorem Cc {l:List Int} {x:Nat×Int×Int} {B:Int} (h:∀i:Nat,0<=rd l i/\rd l i<=B) (i:Nat):0<=rd (ig l x) i/\rd (ig l x) i<=B+2:=by
 unfold ig;split
 ·have:=h i;omega
 ·have:=qW (v:=x.2.2.toNat) (qW (v:=x.2.1.toNat) h) i;omega
theorem uQ:∀(L:List (Nat×Int×Int)) (l:List Int) (B:Int),(∀i:Nat,0<=rd l i/\rd l i<=B)->∀i:Nat,0<=rd (L.foldl ig l) i/\rd (L.foldl ig l) i<=B+2*L.length
 |[],l,B,h=>fun i=>by have:=h i;simpa using this
 |x::L,l,B,h=>fun i=>by
  have:=uQ L (ig l x) (B+2) (Cc h) i;simp only[List.foldl_cons,List.length_cons];omega
theorem uR (n:Nat) (L:List (Nat×Int×Int)) (k:Nat) (i:Nat):0<=rd (dO n L k) i/\rd (dO n L k) i<=2*L.length:=by
 have h:=uQ (L.take k) (List.replicate n 0) 0 (fun i=>by simp[rd,aX,List.getElem?_replicate];split<;>simp) i;have a:(L.take k).length<=L.length:=by simp;omega
 unfold dO;omega
theorem Cd {W:World} {gb n:Nat} {ok:Nat->Prop} {g0 len cap:Nat} {rows:List (List Int)} (h:Kd.S (Kd.slice 3 (Kd.int .i64)) 25 W gb ok (.slice (some ⟨g0,0,none⟩) len cap) rows) (s:rows.length=len) (m:∀y∈rows,y.length=n) (a b:Nat) (C:a<len) (hb:b<n):
  ∃(gi ci:Nat) (z:Int),W.cell? ⟨g0,a,none⟩=some (.slice (some ⟨gi,0,none⟩) n ci)/\W.cell? ⟨gi,b,none⟩=some (.int .i64 z)/\W.frozen? ⟨gi,b,none⟩=false/\ok gi/\gb<=gi/\(∃cells,W.heap[gi]? =some (.cells cells 3 (0,0)))/\
   ∀x:Int,∃i:List (List Int),i.length=len/\(∀y∈i,y.length=n)/\Kd.S (Kd.slice 3 (Kd.int .i64)) 25 (W.setCell ⟨gi,b,none⟩ (.int .i64 x)) gb ok (.slice (some ⟨g0,0,none⟩) len cap) i:=by
 obtain⟨oki,c,D,⟨ev,rfl,g⟩,j,u,l⟩:=Kd.AN h [] (a:Int) (by omega) (by omega);rw[aG] at g j l;have o:(rows.getD a []).length=n:=by
  rw[aX,bB (by omega)];exact m _ (List.getElem_mem (by omega))
 obtain⟨gi,ci,rfl,v,E,cells,w⟩:=Kd.fE g (by omega);rw[o] at g l j;obtain⟨p,q⟩:=Kd.bO (0:Int) g (b:Int) (by omega) (by omega);rw[aG] at p q;have r:=j 0 _ rfl;refine⟨gi,ci,_,?_,p,q,(u gi (g.1 gi rfl)).1,v,⟨cells,w⟩,fun x=>⟨rows.set a ((rows.getD a []).set b x),by simp[s],?_,?_⟩⟩
 ·rw[show (⟨g0,0,none⟩:Addr).add (a*(Kd.slice 3 (Kd.int .i64)).sz+0)=⟨g0,a,none⟩ from by simp[Kd.slice,Addr.add];intro e;exact e.symm] at r
  exact r
 ·intro y B
  rcases List.mem_or_eq_of_mem_set B with h1|h1
  ·exact m y h1
  ·subst h1;simpa using o
 ·have hp:=Kd.dh g (b:Int) x
  rw[aG] at hp;exact l hp.2 (fun k hk=>by cases hk;exact g.1 gi rfl) ⟨_,rfl,hp.1⟩
theorem Ce {w:World} {A:Option Addr} {n:Nat} {L:List (Nat×Int×Int)} (h:Kd.C (Kd.raw 2) w A n (fY L)) (j:Nat) (m:j<n) (i:j<L.length):∃ad,A=some ad/\w.cell? (ad.add (j*2))=some (.int .i64 L[j].2.1)/\w.cell? ⟨(ad.add (j*2)).block,(ad.add (j*2)).off+1,none⟩=some (.int .i64 L[j].2.2):=by
 obtain⟨ad,c,e,_,a,b⟩:=Kd.l8 h [] (j:Int) (by omega) (by omega);rw[aG] at a b;have l:(fY L).getD j []=[.int .i64 L[j].2.1,.int .i64 L[j].2.2]:=by
  rw[aX,bB (by simpa [fY] using i)];simp[fY]
 rw[l] at a;obtain rfl:=a.1;have g:∀k u,[Value.int .i64 L[j].2.1,.int .i64 L[j].2.2][k]? =some u->w.cell? (ad.add (j*2+k))=some u:=b;exact⟨ad,e,g 0 _ rfl,by rw[<-qc _ _ 1 (by omega)];exact g 1 _ rfl⟩
structure PS (w:World) (gb n gp bv g0 cr:Nat) (q:Int) (dv:Value) (dl:List Int) (ev:Value) (L:List (Nat×Int×Int)) (W:World) (rows:List (List Int)) (vl:List Int):Prop where
 len:rows.length=n
 all:∀y∈rows,y.length=n
 iX:cU W gp dv q (.slice (some ⟨g0,0,none⟩) n cr) (.slice (some ⟨bv,0,none⟩) n n) (fun _=>false)
 d:(Kd.int .i64).R 3 W gb (fun k=>k≠bv) dv dl
 val:(Kd.int .i64).R 3 W gb (fun k=>some k≠dv.ownBlock) (.slice (some ⟨bv,0,none⟩) n n) vl
 rows:Kd.S (Kd.slice 3 (Kd.int .i64)) 25 W gb (fun k=>some k≠dv.ownBlock/\k≠bv) (.slice (some ⟨g0,0,none⟩) n cr) rows
 ends:(Kd.raw 2).R 205 W gb (fun _=>True) ev (fY L)
 below:Below gb w W
namespace PS
variable {w:World} {gb n gp bv g0 cr:Nat} {q:Int} {dv:Value} {dl:List Int} {ev:Value} {L:List (Nat×Int×Int)} {W:World} {rows:List (List Int)} {vl:List Int}
theorem drewN (h:PS w gb n gp bv g0 cr q dv dl ev L W rows vl) (m:Nat):PS w gb n gp bv g0 cr q dv dl ev L (W.drewN m) rows vl:=
 ⟨h.len,h.all,h.iX,Kd.bs h.d m,Kd.bs h.val m,Kd.AB h.rows m,Kd.bs h.ends m,bN h.below m⟩
theorem row (h:PS w gb n gp bv g0 cr q dv dl ev L W rows vl) (a b:Nat) (k:a<n) (hb:b<n):∃(gi ci:Nat) (z:Int),W.cell? ⟨g0,a,none⟩=some (.slice (some ⟨gi,0,none⟩) n ci)/\W.cell? ⟨gi,b,none⟩=some (.int .i64 z)/\W.frozen? ⟨gi,b,none⟩=false/\
  ∀x:Int,∃g,PS w gb n gp bv g0 cr q dv dl ev L (W.setCell ⟨gi,b,none⟩ (.int .i64 x)) g vl:=by
 obtain⟨gi,ci,z,h1,l,m,⟨o,p⟩,r,⟨cells,j⟩,s⟩:=Cd h.rows h.len h.all a b k hb;refine⟨gi,ci,z,h1,l,m,fun x=>?_⟩;obtain⟨g,l1,l2,u⟩:=s x;have i:W.grownBy (W.setCell ⟨gi,b,none⟩ (.int .i64 x)) (some gi):=uI (aq _ _);refine⟨g,l1,l2,h.iX.grown i (fun e=>?_),Kd.iS h.d rfl i o,Kd.iS h.val rfl i (fun e=>p (by simpa [Value.ownBlock] using e)),u,Kd.fl h.ends j (by decide) _ _,Below.setCell h.below r _⟩;obtain⟨cs,hp,_⟩:=h.iX;injection e with e
 subst e;rw[j] at hp;injection hp with hp
 injection hp with _ hp _
 exact absurd hp (by decide)
theorem uS (h:PS w gb n gp bv g0 cr q dv dl ev L W rows vl) (a:Nat) (j:a<n):W.cell? ⟨bv,a,none⟩=some (.int .i64 (rd vl a))/\W.frozen? ⟨bv,a,none⟩=false/\
  ∀x:Int,PS w gb n gp bv g0 cr q dv dl ev L (W.setCell ⟨bv,a,none⟩ (.int .i64 x)) rows (vl.set a x):=by
 obtain⟨h1,i⟩:=Kd.bO (0:Int) h.val (a:Int) (by omega) (by omega);rw[aG] at h1 i;obtain⟨cells,hb⟩:=Kd.gN h.val bv rfl;refine⟨h1,i,fun x=>?_⟩;have hp:=Kd.dh h.val (a:Int) x;rw[aG] at hp;have g:=hp.2;refine⟨h.len,h.all,h.iX.grown g (fun e=>?_),Kd.iS h.d rfl g (fun e=>h.d.1 bv e.symm rfl),hp.1,Kd.tM h.rows g (fun k hk e=>hk.2 (by injection e)),Kd.fl h.ends hb (by decide) _ _,Below.setCell h.below (Kd.dK h.val bv rfl) _⟩;obtain⟨cs,b,_⟩:=h.iX;injection e with e
 subst e;rw[hb] at b;injection b with b
 injection b with _ b _
 exact absurd b (by decide)
end PS
def gB (n:Nat) (E:List S83):List Int:=dO n (cy E E.length) (cy E E.length).length
theorem Cf (g v n:Nat) (q:Int) (a b:Option Addr) (cd h:Nat) (dl vl:List Int) (rows:Value) (waits:Nat->Bool) (w:World) (i:v<12) (k:v<dl.length) (l:vl.length=n) (m:v<n)
  (hw:cU w g (.slice a dl.length cd) q rows (.slice b n h) waits) (hd:Kd.C (Kd.int .i64) w a dl.length dl) (o:Kd.C (Kd.int .i64) w b n vl):
  Calls Tryz.prog 218 #[.pointer (some ⟨g,0,none⟩),.int .i64 v] w fun e w'=>e= .returned (.tuple #[])/\cU w' g (.slice a dl.length cd) q rows (.slice b n h) (fun j=>if j=v then iV q vl dl v else waits j)/\w.grownBy w' (some g):=by
 subst l;exact B7 g v q a b cd h dl vl rows waits w i k m hw hd o
theorem Cg (q:Int) (vl dl:List Int) (v:Nat):(fun j=>if j=v then iV q vl dl v else(if j<v then iV q vl dl j else false))=fun j=>if j<v+1 then iV q vl dl j else false:=by
 funext j
 by_cases e:j=v
 ·subst e;simp
 ·by_cases h:j<v
  ·rw[if_neg e,if_pos h,if_pos (by omega)]
  ·rw[if_neg e,if_neg h,if_neg (by omega)]
end
end Go.Proofs.YtffdiakgjakngaaGreat.P


namespace Go.Proofs.YtffdiakgjakngaaGreat.P
open Go.RowKit Go.Proofs.YtffdiakgjakngaaGreatW.PrintWords Go.Proofs.YtffdiakgjakngaaGreatW.PrintLast Go.Proofs.YtffdiakgjakngaaGreatW.PrintMore
set_option linter.unusedVariables false
set_option linter.unusedSimpArgs false
set_option maxHeartbeats 8000000
set_option maxRecDepth 100000
theorem lH (t:TypeId) (g:Tryz.prog.underlying t=some (.slice 3)) (n:Nat) (hn:n<=1000):∃zs:Array Value,(∀W:World,(Instr.makeSlice t (.int .i64 n) (.int .i64 n)).run Tryz.prog W= .ok (.slice (some ⟨W.heap.size,0,none⟩) n n) (W.alloc (.cells zs 3)))/\
  ∀(W:World) (ok:Nat->Prop),ok W.heap.size->(Kd.int .i64).R 3 (W.alloc (.cells zs 3)) W.heap.size ok (.slice (some ⟨W.heap.size,0,none⟩) n n) (List.replicate n 0):=by
 obtain⟨i0,hi,b⟩:=Option.map_eq_some_iff.1 gz;simp only[Prod.mk.injEq] at b;obtain⟨i,j,l⟩:=b;refine⟨madeCells (Value.int .i64 0).cells (n*1),fun W=>?_,fun W ok m=>⟨fun k hk=>?_,(madeCells (Value.int .i64 0).cells (n*1)).toList,?_,?_⟩⟩
 ·have a:=run_make (P:=Tryz.prog) W t 3 i0 (.int .i64 0) g hi i .i64 .i64 (n:Int) (n:Int) (by omega) (by omega) (by rw[l];omega) (by omega)
  simp only[aG] at a;rw[j] at a;exact a
 ·have:W.heap.size=k:=by simpa [Value.ownBlock] using hk
  subst this;exact m
 ·have h:=World.ownsRow_lit (base:=W.heap.size) (e:=3) (size:=1) W (madeCells (Value.int .i64 0).cells (n*1)) n (aI _) (by simp only[maxLen];omega) (size_madeCells _ _)
  rw[List.length_replicate];exact h
 ·exact Kd.th (R:=(Kd.int .i64).M (W.alloc (.cells (madeCells (Value.int .i64 0).cells (n*1)) 3)) W.heap.size (fun k=>ok k/\some k≠(Value.slice (some ⟨W.heap.size,0,none⟩) n n).ownBlock)) (size:=1) (z:=Value.int .i64 0) (z0:=(0:Int)) rfl (by decide) rfl n
theorem Ch {w W:World} {gb:Nat} {v:Value} {cs:Array Value} {t:TypeId} (h1:W.heap[gb]? =some (.cells cs t (0,0))) (a:W.cell? ⟨gb,0,none⟩=some v) (b:Below gb w W):W.drew.heap[gb]? =some (.cells cs t (0,0))/\W.drew.cell? ⟨gb,0,none⟩=some v/\Below gb w W.drew:=⟨h1,a,bR b⟩
theorem Ci {w W:World} {gb:Nat} {v:Value} {cs:Array Value} {t:TypeId} {o:Obj} (h1:W.heap[gb]? =some (.cells cs t (0,0))) (a:W.cell? ⟨gb,0,none⟩=some v) (b:Below gb w W):(W.alloc o).heap[gb]? =some (.cells cs t (0,0))/\(W.alloc o).cell? ⟨gb,0,none⟩=some v/\Below gb w (W.alloc o):=
 ⟨au h1 _,by rw[ah (au h1 _) 0,<-ah h1 0];exact a,b.alloc (Nat.le_of_lt (aC h1)) _⟩
theorem Cj {w W W1:World} {gb:Nat} {v:Value} {cs:Array Value} {t:TypeId} (h1:W.heap[gb]? =some (.cells cs t (0,0))) (a:W.cell? ⟨gb,0,none⟩=some v) (b:Below gb w W) (hb:Below W.heap.size W W1):W1.heap[gb]? =some (.cells cs t (0,0))/\W1.cell? ⟨gb,0,none⟩=some v/\Below gb w W1:=
 ⟨aD h1 hb,by rw[ah (aD h1 hb) 0,<-ah h1 0];exact a,b.trans ⟨hb.os,hb.tape,hb.output,hb.size,fun k hk=>hb.block k (by have:=aC h1;omega)⟩⟩
theorem mA {W:World} {o:Obj} {g:Nat} (h:g=W.heap.size):(W.alloc o).heap[g]? =some o:=by rw[h];exact a7 W o
theorem mB {a w1 W':World} {gb bv:Nat} {v:Value} {dl:List Int} (b:(Kd.int .i64).R 3 w1 a.heap.size (fun _=>True) v dl) (e:gb<=a.heap.size)
  (g:∀{ok:Nat->Prop},(Kd.int .i64).R 3 w1 gb ok v dl->(Kd.int .i64).R 3 W' gb ok v dl) (h:bv<a.heap.size\/w1.heap.size<=bv):(Kd.int .i64).R 3 W' gb (fun k=>k≠bv) v dl:=
 g (Kd.bd (Kd.a_ (Kd.ef b) (fun k hk=>by have i:=hk.2.1;have a2:=hk.2.2.1;omega)) e)
theorem dZ {a w1 W' Y:World} {gb bv n:Nat} {v:Value} {dl:List Int} {zs:Array Value} (g:(Kd.int .i64).R 3 (Y.alloc (.cells zs 3)) Y.heap.size (fun k=>k=Y.heap.size) (.slice (some ⟨Y.heap.size,0,none⟩) n n) (List.replicate n 0)) (h:bv=Y.heap.size)
  (hb:Below (Y.alloc (.cells zs 3)).heap.size (Y.alloc (.cells zs 3)) W') (b:(Kd.int .i64).R 3 w1 a.heap.size (fun _=>True) v dl) (i:gb<=bv) (j:bv<a.heap.size\/w1.heap.size<=bv):
  (Kd.int .i64).R 3 W' gb (fun k=>some k≠v.ownBlock) (.slice (some ⟨bv,0,none⟩) n n) (List.replicate n 0):=by
 subst h;refine Kd.bd (Kd.a_ (Kd.cY g hb) (fun k hk e=>?_)) i;have h1:=Kd.dK b k e.symm;have l:=Kd.ba b k e.symm;omega
theorem Ck (k n:Nat) (A0:Option Addr) (c0:Nat) (E:List S83) (q:Int) (Ad:Option Addr) (cd:Nat) (dl:List Int) (w:World) (ea:Kd.C aN w A0 E.length E) (eb:E.length<=c0) (hd:Kd.C (Kd.int .i64) w Ad dl.length dl) (ed:dl.length<=cd)
  (hn:n<=12) (b6:dl.length=n) (ht:bc.f k n E=some 0) (hE:e9 E=true) (ca:ez n E):
  Calls Tryz.prog 212 #[.agg #[.int .i64 n,.slice A0 E.length c0],.int .i64 q,.slice Ad dl.length cd] w fun e w'=>∃(gp:Nat) (o cb:Option Addr) (r cc:Nat) (rv:Value),e= .returned (.tuple #[.pointer (some ⟨gp,0,none⟩),.int .i64 0])/\cU w' gp (.slice o dl.length r) q rv (.slice cb n cc) (fun x=>if x<dl.length then iV q (gB n E) dl x else false)/\(Kd.int .i64).R 3 w' w.heap.size (fun _=>True) (.slice cb n cc) (gB n E)/\Below w.heap.size w w':=by
 have hu:=Tryz.underlying24;have gf:=Tryz.underlying236;have gg:=Tryz.underlying234;have gl:=Tryz.underlying205;have gm:dl.length<=12:=by omega
 have eg:=zA b6;clear b6;have Ht:=zA ht;have HE:=zA hE;have HI:=zA ca.get;clear ht hE ca;have HC:=zA (fun W h=>nz.calls Ad cd dl dl W h ed (by unfold nz.f clone.f;rw[if_pos (by omega)]));obtain⟨zs,gn,cg⟩:=lH 25 Tryz.underlying25 n (by omega);have s:=zA cg;clear cg;go_enter Tryz.func212,Tryz.ntmps212
 go_wp2_with fail
 have Z:=zA (show (w.alloc (.cells #[.int .i64 n,.slice A0 E.length c0] 24)).heap[w.heap.size]? =some (.cells #[.int .i64 n,.slice A0 E.length c0] 24 (0,0)) from a7 w _);have I:(w.alloc (.cells #[.int .i64 n,.slice A0 E.length c0] 24)).cell? ⟨w.heap.size,0,none⟩=some (.int .i64 n):=(ah Z.out 0).trans rfl;have B:=zA (ao (aq w.heap.size w) (.cells #[.int .i64 n,.slice A0 E.length c0] 24));generalize (w.alloc (.cells #[.int .i64 n,.slice A0 E.length c0] 24))=W0 at I Z B⊢;have ch:=aC Z.out;have cj:=fun W h=>Kd.ax (w:=w) (w1:=W) hd h
 have a1:=zA cj;clear cj;generalize a2:w.heap.size=gb at I Z ch B a1⊢;refine Code.wp_mono (Q:=fun e a W'=>e=Exit.normal/\∃(gp bv bf r:Nat) (o:Option Addr) (u16 u17 u18 u19 u20 u21 u22 u23 u24 u25 u26:Value),a={tmps:=#[.agg #[.int .i64 n,.slice A0 E.length c0],.int .i64 q,.slice Ad dl.length cd,.pointer (some ⟨gb,0,none⟩),undef,undef,.pointer none,.int .i64 0,.pointer (some ⟨gp,0,none⟩),undef,undef,undef,undef,undef,undef,undef,u16,u17,u18,u19,u20,u21,u22,u23,u24,u25,u26,undef,undef,undef,undef,undef,undef,undef,undef,undef,undef,undef,undef,undef,undef,undef,undef,undef,undef,undef,undef,undef,undef,undef,undef,undef,undef,undef,undef,undef,undef,undef,undef,undef,undef,undef,undef,undef,undef,undef,undef,undef,undef,undef,undef,undef,undef,undef,undef,undef,undef,undef,undef,undef,undef,undef,undef,undef,undef,undef,undef,undef,undef,undef,undef,undef,undef,undef,undef,undef,undef,undef,undef,undef,undef,undef,undef,undef,undef,undef,undef,undef,undef,undef,undef,undef,undef,undef,undef,undef,undef,undef,undef,undef,undef],defers:=[]}/\gb<gp/\W'.heap[gp]? =some (.cells #[.slice o dl.length r,.int .i64 q,.slice none 0 0,.slice (some ⟨bv,0,none⟩) n n,.slice (some ⟨bf,0,none⟩) n n,.int .i64 0,.bool false,.bool false,.bool false,.bool false,.bool false,.bool false,.bool false,.bool false,.bool false,.bool false,.bool false,.bool false] 236 (0,0))/\(Kd.int .i64).R 3 W' gb (fun k=>k≠bv) (.slice o dl.length r) dl/\(Kd.int .i64).R 3 W' gb (fun k=>some k≠(Value.slice o dl.length r).ownBlock) (.slice (some ⟨bv,0,none⟩) n n) (List.replicate n 0)/\W'.heap[gb]? =some (.cells #[.int .i64 n,.slice A0 E.length c0] 24 (0,0))/\Below gb w W') ?_ ?_
 ·rintro e a W' ⟨rfl,gp,bv,bf,r,o,u16,u17,u18,u19,u20,u21,u22,u23,u24,u25,u26,rfl,go,cl,cn,co,a3,hB⟩
  dsimp only;have u:=zA (show cU W' gp (.slice o dl.length r) q (.slice none 0 0) (.slice (some ⟨bv,0,none⟩) n n) (fun _=>false) from⟨_,cl,rfl,rfl,rfl,rfl,rfl,fun i hi=>by match i,hi with|0,_=>rfl|1,_=>rfl|2,_=>rfl|3,_=>rfl|4,_=>rfl|5,_=>rfl|6,_=>rfl|7,_=>rfl|8,_=>rfl|9,_=>rfl|10,_=>rfl|11,_=>rfl⟩);have P:=zA cn;have T:=zA co;have F:=zA a3;have cq:=zA hB;have aB:W'.cell? ⟨gb,0,none⟩=some (.int .i64 n):=(ah a3 0).trans rfl;clear cl cn co a3 hB I Z B ch HC a1;clear W0;go_wp2;go_loopw [29] (fun i wr=>∃(j:Nat) (rv:Value) (rows:List (List Int)),j<=n/\i= .int .i64 j/\Aside0 (rows.length=j)/\Aside0 (∀y∈rows,y.length=n)/\Aside0 (cU wr gp (.slice o dl.length r) q rv (.slice (some ⟨bv,0,none⟩) n n) (fun _=>false))/\Aside0 ((Kd.int .i64).R 3 wr gb (fun k=>k≠bv) (.slice o dl.length r) dl)/\Aside0 ((Kd.int .i64).R 3 wr gb (fun k=>some k≠(Value.slice o dl.length r).ownBlock) (.slice (some ⟨bv,0,none⟩) n n) (List.replicate n 0))/\Aside0 (Kd.S (Kd.slice 3 (Kd.int .i64)) 25 wr gb (fun k=>some k≠(Value.slice o dl.length r).ownBlock/\k≠bv) rv rows)/\Aside0 (wr.heap[gb]? =some (.cells #[.int .i64 n,.slice A0 E.length c0] 24 (0,0)))/\Aside0 (Below gb w wr)) (fun i _=>n- (intOf i).toNat)
  case atStart=>exact⟨0,_,[],by omega,rfl,⟨rfl⟩,⟨fun y hy=>absurd hy (by simp)⟩,u,P,T,⟨Kd.ic _ _ _ _ _⟩,F,cq⟩
  case round=>
   clear u P T F cq aB;obtain⟨j,rv,rows,hj,rfl,J,U,u,P,T,G,F,B⟩:=hrel;by_cases gq:j<n
   ·have aY:=aC F.out
    obtain⟨M,cr,rfl⟩:=Kd.mh G.out;have em:=(ah F.out 0).trans (show _=some (.int .i64 n) from rfl);have er:(wr.alloc (.cells zs 3)).drew.cell? ⟨gb,0,none⟩=some (.int .i64 n):=(ah (au F.out _) 0).trans rfl;have es:=u.out.mz;have ev:(wr.alloc (.cells zs 3)).drew.cell? ⟨gp,2,none⟩=some (.slice M rows.length cr):=(u.out.below (ao (aq _ _) _)).mz;have ew:((wr.alloc (.cells zs 3)).alloc (.cells #[.slice (some ⟨wr.heap.size,0,none⟩) n n] 25)).drew.cell? ⟨gp,2,none⟩=some (.slice M rows.length cr):=(u.out.below (ao (ao (aq _ _) _) _)).mz;have gr:rows.length<=12:=by have:=J.out;omega
    have a9:∀k,wr.heap.size<=k->some k≠(Value.slice o dl.length r).ownBlock/\k≠bv:=fun k hk=>⟨fun e=>by have:=Kd.ba P.out k e.symm;omega,fun e=>by have:=Kd.ba T.out bv (by simp[Value.ownBlock]);omega⟩
    have ex:=zA (Kd.lu (Kd.bj (Kd.bd (s.out wr (fun k=>k=wr.heap.size) rfl) (Nat.le_of_lt aY))));have ey:=zA (Kd.tL (Kd.qw (Kd.lC (ok':=fun k=>(some k≠(Value.slice o dl.length r).ownBlock/\k≠bv)/\¬k=wr.heap.size) (Kd.m_ G.out) (fun k hk=>⟨hk.1,by have:=hk.2.2.1;omega⟩)) (.cells zs 3)));have e0:=zA (bR (B.out.alloc (Nat.le_of_lt aY) (.cells zs 3)));have e1:Aside0 (∀k,k=wr.heap.size->(some k≠(Value.slice o dl.length r).ownBlock/\k≠bv)/\some k≠(Value.slice M rows.length cr).ownBlock):=⟨fun k hk=>⟨a9 k (by omega),fun e=>by have:=Kd.AF G.out k e.symm;omega⟩⟩;have e2:Aside0 (∀k,(wr.alloc (.cells zs 3)).drew.heap.size<=k->some k≠(Value.slice o dl.length r).ownBlock/\k≠bv):=⟨fun k hk=>a9 k (by have h1:(wr.alloc (.cells zs 3)).drew.heap.size=wr.heap.size+1:=World.size_alloc wr _;omega)⟩;have e3:Aside0 (gb<=(wr.alloc (.cells zs 3)).drew.heap.size):=⟨by have h1:(wr.alloc (.cells zs 3)).drew.heap.size=wr.heap.size+1:=World.size_alloc wr _;omega⟩;have cs:=zA (show cU (wr.alloc (.cells zs 3)).drew gp (.slice o dl.length r) q (.slice M rows.length cr) (.slice (some ⟨bv,0,none⟩) n n) (fun _=>false) from(u.out.below (ao (aq wr.heap.size wr) (.cells zs 3))).drew);have ct:=zA (show (wr.alloc (.cells zs 3)).drew.heap[gb]? =some (.cells #[.int .i64 n,.slice A0 E.length c0] 24 (0,0)) from au F.out _);have aF:=zA (Kd.tL (Kd.qw G.out (.cells zs 3)));have e4:=zA (Kd.bj (Kd.aM P.out (.cells zs 3)));have e5:=zA (Kd.bj (Kd.aM T.out (.cells zs 3)));clear a9;have e6:=zA (show (wr.alloc (.cells zs 3)).drew.heap.size=wr.heap.size+1 from World.size_alloc wr _);go_wp2;go_region_law ((refine Kd.AJ (Kd.slice 3 (Kd.int .i64)) (w0:=w) (W:=(wr.alloc (.cells zs 3)).drew) gb (by rfl) (.tmp 35) (.tmp 39) 73 25 (.slice none 0 0) 24 (by rfl) Tryz.underlying73 jU rfl (by decide) (by omega) _ rows (List.replicate n 0) [.slice (some ⟨wr.heap.size,0,none⟩) n n] (fun k=>some k≠(Value.slice o dl.length r).ownBlock/\k≠bv) (fun k=>k=wr.heap.size) (by rfl) (by rw[e6.out];rfl) ex.out e1.out e2.out ey.out e0.out e3.out (by omega) ?_;intro v4 w4 be cv ak e';obtain⟨V,c4,cx⟩:=Kd.mh be;rw[show (rows++[List.replicate n (0:Int)]).length=rows.length+1 by simp] at cx;subst cx;have c1:=zA be;have c2:=zA cv;have X:=zA (cs.out.grown ak (cs.out.qV (Kd.oI aF.out) (by decide)));have c3:=zA (dc ct.out ak (Kd.AH aF.out ct.out (by decide)));have c5:=zA (Kd.qo e4.out (Kd.oI aF.out) (by decide) ak);have c6:=zA (Kd.qo e5.out (Kd.oI aF.out) (by decide) ak);have fb:=X.out.mz;have fd:=X.out.frozen 2;clear be cv ak e'))
    all_goals have n0:=zA (X.out.B5 (.slice V (rows.length+1) c4))
    all_goals have n1:=zA (X.out.fl c5.out (by decide) 2 (.slice V (rows.length+1) c4))
    all_goals have n2:=zA (X.out.fl c6.out (by decide) 2 (.slice V (rows.length+1) c4))
    all_goals have n3:=zA (X.out.qy c1.out (by decide) 2 (.slice V (rows.length+1) c4))
    all_goals have n4:=zA (aE (p:=⟨gp,2,none⟩) c3.out (show gb≠gp by omega) (.slice V (rows.length+1) c4))
    all_goals have n5:=zA (c2.out.setCell (p:=⟨gp,2,none⟩) (by show gb<=gp;omega) (.slice V (rows.length+1) c4))
    all_goals clear fb fd em er es ev ew X c3 c5 c6 c2 c1
    all_goals generalize (w4.setCell ⟨gp,2,none⟩ (.slice V (rows.length+1) c4))=w5 at n0 n1 n2 n3 n4 n5⊢
    all_goals go_wp2
    all_goals exact⟨⟨j+1,_,_,by omega,by go_num,⟨by simp[J.out]⟩,⟨fun y hy=>by rcases List.mem_append.1 hy with h|h;exact U.out y h;(simp at h;subst h;simp)⟩,n0,n1,n2,n3,n4,n5⟩,(show n- ((j:Int)+1).toNat<n- ((j:Int)).toNat by omega)⟩
   ·obtain rfl:n=j:=by omega
    have aB:wr.cell? ⟨gb,0,none⟩=some (.int .i64 n):=(ah F.out 0).trans rfl;have g:wr.cell? ⟨gb,1,none⟩=some (.slice A0 E.length c0):=(ah F.out 1).trans rfl;have aY:=aC F.out;have dk:=zA (BX k n A0 c0 E wr (Kd.ax ea (by rw[a2];exact B.out)) eb Ht.out HE.out);go_wp2_with (first|(go_at_call 178;refine dk.out.mono ?_;rintro e w1 ⟨v9,rfl,bg,aa⟩;obtain⟨A9,c9,ds⟩:=Kd.bh bg;rw[uK] at ds;subst ds;have am:=zA bg;have dv:=zA (u.out.below aa);have bi:=zA (Kd.oH G.out aa);have dx:=zA (Kd.cY P.out aa);have bk:=zA (Kd.cY T.out aa);have d0:=zA (B.out.trans (aa.mono (Nat.le_of_lt aY)));clear bg aa))
    all_goals go_wp2
    have bn:=zA (B8 (n:=n) HI.out);have bo:=zA (uN HE.out);obtain⟨M,cr,ab⟩:=Kd.mh bi.out;rw[J.out] at ab;subst ab;replace am:=zA (Kd.bd (Kd.na am.out) (Nat.le_of_lt aY));have aL:=zA (show gB n E=dO n (cy E E.length) (cy E E.length).length from rfl);generalize cy E E.length=L at am bn bo aL⊢;have fr:=bo.out;have d1:List.replicate n (0:Int)=dO n L 0:=rfl;rw[d1] at bk;clear d1 dk u G P T B F aB g aY;go_loopw [54] (fun i wr=>∃(j:Nat) (rows:List (List Int)),j<=L.length/\i= .int .i64 j/\Aside0 (rows.length=n)/\Aside0 (∀y∈rows,y.length=n)/\Aside0 (cU wr gp (.slice o dl.length r) q (.slice M n cr) (.slice (some ⟨bv,0,none⟩) n n) (fun _=>false))/\Aside0 ((Kd.int .i64).R 3 wr gb (fun k=>k≠bv) (.slice o dl.length r) dl)/\Aside0 ((Kd.int .i64).R 3 wr gb (fun k=>some k≠(Value.slice o dl.length r).ownBlock) (.slice (some ⟨bv,0,none⟩) n n) (dO n L j))/\Aside0 (Kd.S (Kd.slice 3 (Kd.int .i64)) 25 wr gb (fun k=>some k≠(Value.slice o dl.length r).ownBlock/\k≠bv) (.slice M n cr) rows)/\Aside0 ((Kd.raw 2).R 205 wr gb (fun _=>True) (.slice A9 L.length c9) (fY L))/\Aside0 (Below gb w wr)) (fun i _=>L.length- (intOf i).toNat)
    case atStart=>exact⟨0,_,by omega,rfl,J,U,dv,dx,bk,bi,am,d0⟩
    case round=>
     clear dv dx bk bi am d0 J U;obtain⟨j,rows,hj,rfl,J,U,u,N,K,G,HR,B⟩:=hrel;by_cases an:j<L.length
     ·obtain⟨-, -,d2⟩:=Kd.aH HR.out
      obtain⟨ad,rfl,I,ap⟩:=Ce d2 j (by rw[uK];exact an) an;have O:=bn.out _ (List.getElem_mem an);have bw:=Lib.hid (Ca n L j an);generalize L[j]=x at I ap O bw;obtain⟨i,a,b⟩:=x;simp only at I ap O;obtain⟨a,rfl⟩:=Int.eq_ofNat_of_zero_le O.1;obtain⟨b,rfl⟩:=Int.eq_ofNat_of_zero_le O.2.2.1;have ha:a<n:=by omega
      have hb:b<n:=by omega
      have gs:(0:Int)<=(j:Int):=by omega
      have gt:(j:Int)<(L.length:Int):=by omega
      clear O d2;have HO:=zA (show (wr.alloc (.cells #[.int .i64 a,.int .i64 b] 205)).heap[wr.heap.size]? =some (.cells #[.int .i64 a,.int .i64 b] 205 (0,0)) from a7 wr _);obtain⟨g0,ft,ab, -, -, -⟩:=Kd.qz G.out (by have:=J.out;omega);injection ab with ab _ fv
      subst ab;have D:=zA (PS.mk (L:=L) J.out U.out (u.out.below (ao (aq _ _) (.cells #[.int .i64 a,.int .i64 b] 205))) (Kd.aM N.out (.cells #[.int .i64 a,.int .i64 b] 205)) (Kd.aM K.out (.cells #[.int .i64 a,.int .i64 b] 205)) (Kd.qw G.out (.cells #[.int .i64 a,.int .i64 b] 205)) (Kd.aM HR.out (.cells #[.int .i64 a,.int .i64 b] 205)) (B.out.alloc (by have:=B.out.size;omega) (.cells #[.int .i64 a,.int .i64 b] 205)));go_wp2;clear u N K G HR B I ap J U fv ft;generalize (wr.alloc (.cells #[.int .i64 a,.int .i64 b] 205))=W1 at HO D⊢;generalize wr.heap.size=ob at HO⊢;have I:W1.cell? ⟨ob,0,none⟩=some (.int .i64 a):=(ah HO.out 0).trans rfl;have ap:W1.cell? ⟨ob,1,none⟩=some (.int .i64 b):=(ah HO.out 1).trans rfl;go_quiet (fail)
      replace D:=zA (D.out.drewN nq);clear I ap HO;generalize W1.drewN nq=W2 at D⊢;clear W1;have gx:(0:Int)<=(a:Int):=by omega
      have g1:(a:Int)<(n:Int):=by omega
      have aB:(0:Int)<=(b:Int):=by omega
      have g:(b:Int)<(n:Int):=by omega
      by_cases O:a=b
      ·subst O
       have d4:dO n L j=dO n L (j+1):=by rw[bw.out];unfold ig;rw[if_pos rfl]
       rw[d4] at D;clear d4;go_wp2;exact⟨⟨j+1,rows,by omega,by go_num,⟨D.out.len⟩,⟨D.out.all⟩,⟨D.out.iX⟩,⟨D.out.d⟩,⟨D.out.val⟩,⟨D.out.rows⟩,⟨D.out.ends⟩,⟨D.out.below⟩⟩,(show L.length- ((j:Int)+1).toNat<L.length- ((j:Int)).toNat by omega)⟩
      ·have g2:((a:Int) != (b:Int))=true:=by simp;omega
       have g3:=D.out.iX.mz;have b0:=uR n L j;have f0:=b0 a;obtain⟨gi,ci,z,g4,g5,g6,d5⟩:=D.out.row a b ha hb;obtain⟨g7,h3⟩:=d5 (wrap64 (z+1));have H3:=zA h3;have g8:=h3.iX.mz;obtain⟨g9,g',z3,hc,he,hf,d6⟩:=h3.row b a hb ha;obtain⟨f2,h4⟩:=d6 (wrap64 (z3+1));have H4:=zA h4;have hg:=h4.iX.o_;obtain⟨f4,hh,d7⟩:=h4.uS a ha;have h5:=d7 (rd (dO n L j) a+1);have H5:=zA h5;have f6:=h5.iX.o_;obtain⟨b1,f7,b2⟩:=h5.uS b hb;have d8:=qW (v:=a) b0 b;rw[show (dO n L j).set a (rd (dO n L j) a+1)=iW (dO n L j) a from rfl] at b1 b2;have H:=zA (b2 (rd (iW (dO n L j) a) b+1));rw[show (iW (dO n L j) a).set b (rd (iW (dO n L j) a) b+1)=dO n L (j+1) from by rw[bw.out];unfold ig;rw[if_neg (show ¬((i,(a:Int),(b:Int)).2.1=(i,(a:Int),(b:Int)).2.2) from fun e=>O (Int.ofNat.inj e))];rfl] at H;clear d5 d6 d7 b2 h3 h4 h5 b0 H3 H4 H5;generalize rd (dO n L j) a=va at f0 f4 f6 b1 f7 d8 H;generalize rd (iW (dO n L j) a) b=vb at d8 b1 H;go_wp2;exact⟨⟨j+1,f2,by omega,by go_num,⟨H.out.len⟩,⟨H.out.all⟩,⟨H.out.iX⟩,⟨H.out.d⟩,⟨H.out.val⟩,⟨H.out.rows⟩,⟨H.out.ends⟩,⟨H.out.below⟩⟩,(show L.length- ((j:Int)+1).toNat<L.length- ((j:Int)).toNat by omega)⟩
     ·obtain rfl:j=L.length:=by omega
      have f8:=u.out.uJ;go_wp2;have b3:=zA (uP n L L.length);generalize dO n L L.length=vl at K b3 aL⊢;clear G HR J U f8 fr bn bo an hj;go_loopw [113] (fun i wr=>∃(j:Nat),j<=dl.length/\i= .int .i64 j/\Aside0 (cU wr gp (.slice o dl.length r) q (.slice M n cr) (.slice (some ⟨bv,0,none⟩) n n) (fun x=>if x<j then iV q vl dl x else false))/\Aside0 ((Kd.int .i64).R 3 wr gb (fun k=>k≠bv) (.slice o dl.length r) dl)/\Aside0 ((Kd.int .i64).R 3 wr gb (fun k=>some k≠(Value.slice o dl.length r).ownBlock) (.slice (some ⟨bv,0,none⟩) n n) vl)/\Aside0 (Below gb w wr)) (fun i _=>dl.length- (intOf i).toNat)
      case atStart=>exact⟨0,by omega,rfl,⟨by simpa using u.out⟩,N,K,B⟩
      case round=>
       clear u N K B;obtain⟨j,hj,rfl,u,N,K,B⟩:=hrel;by_cases f9:j<dl.length
       ·obtain⟨-, -,d9⟩:=Kd.aH N.out
        obtain⟨-, -,b4⟩:=Kd.aH K.out;rw[b3.out] at b4;have HW:=zA (Cf gp j n q o (some ⟨bv,0,none⟩) r n dl vl (.slice M n cr) _ wr (by omega) f9 b3.out (by have:=eg.out;omega) u.out d9 b4);clear d9 b4;go_wp2_with (go_at_call 218;refine HW.out.mono ?_;rintro e w5 ⟨rfl,b5,a0⟩;rw[Cg] at b5;have ga:=zA b5;have gc:=zA (Kd.iS N.out rfl a0 (u.out.qV (Kd.gN N.out) (by decide)));have gd:=zA (Kd.iS K.out rfl a0 (u.out.qV (Kd.gN K.out) (by decide)));have ge:=zA (kx B.out (some gp) (by have:=B.out.size;omega) a0 (fun k e=>by cases e;omega));clear b5 a0)
        all_goals go_wp2
        all_goals go_roundw
        case rel=>exact⟨j+1,by omega,by go_num,ga,gc,gd,ge⟩
        case measure=>exact(show dl.length- ((j:Int)+1).toNat<dl.length- ((j:Int)).toNat by omega)
       ·obtain rfl:j=dl.length:=by omega
        go_wp2;go_ret2;exact⟨gp,o,_,r,n,_,rfl,by rw[aL.out];exact u.out,by rw[aL.out,a2];exact Kd.a_ K.out (fun _ _=>trivial),by rw[a2];exact B.out⟩
 ·go_region_held3 (fun w'=>w'.heap[gb]? =some (.cells #[.int .i64 n,.slice A0 E.length c0] 24 (0,0))/\w'.cell? ⟨gb,0,none⟩=some (.int .i64 n)/\Below gb w w')
   (first
    |exact Ch Z.out I B.out
    |((try go_split_ands);refine⟨by assumption,by assumption,by assumption⟩)
    |((try go_split_ands);exact Ci (by assumption) (by assumption) (by assumption))
    |((try go_split_ands);exact Cj (by assumption) (by assumption) (by assumption) (by assumption))
    |fail)
   ((go_at_call 217;refine(HC.out _ (a1.out _ (by go_split_ands;assumption))).mono ?_;rintro e w1 ⟨v1,rfl,m,g⟩;obtain⟨o,r,rfl⟩:=Kd.bh m))
  ·refine⟨rfl,?Kx,?Le,?KA,?LY,?LM,?KO,?KU,?LD,?LJ,?LU,?Lc,?Lr,?K_,?Lp,?LB,?LS,?JF,?JP,?JN,?JO,?JI,by(go_split_ands;assumption),by(go_split_ands;assumption)⟩
   case JF=>rfl
   case JN=>(refine mA ?_;first|rfl|(simp;done))
   case JP=>(have h1:=g.size;first|omega|(simp at h1⊢;done)|(simp at h1⊢;omega)|(have l:W0.drew.heap.size=W0.heap.size:=rfl;simp[World.drew] at h1⊢;omega))
   case JO=>
    refine mB m ?_ ?_ ?_
    ·(have h1:=g.size;first|omega|(simp at h1⊢;done)|(simp at h1⊢;omega)|(have l:W0.drew.heap.size=W0.heap.size:=rfl;simp[World.drew] at h1⊢;omega))
    ·(first|exact fun h=>h|exact fun h=>Kd.aM h _|exact fun h=>Kd.aM (Kd.aM h _) _|exact fun h=>Kd.aM (Kd.aM (Kd.aM h _) _) _)
    ·(have h1:=g.size;first|omega|(simp at h1⊢;done)|(simp at h1⊢;omega)|(have l:W0.drew.heap.size=W0.heap.size:=rfl;simp[World.drew] at h1⊢;omega))
   case JI=>
    first
     |(refine dZ (Y:=w1) (s.out _ _ rfl) ?_ ?_ m ?_ ?_;(focus (first|rfl|(simp;done)));(focus ((repeat(first|exact aq _ _|apply ao|apply bR|refine aW ?_ g));done));(focus (have h1:=g.size;first|omega|(simp at h1⊢;done)|(simp at h1⊢;omega)|(have l:W0.drew.heap.size=W0.heap.size:=rfl;simp[World.drew] at h1⊢;omega)));(focus (have h1:=g.size;first|omega|(simp at h1⊢;done)|(simp at h1⊢;omega)|(have l:W0.drew.heap.size=W0.heap.size:=rfl;simp[World.drew] at h1⊢;omega))))
     |(refine dZ (Y:=(w1.alloc (.cells zs 3))) (s.out _ _ rfl) ?_ ?_ m ?_ ?_;(focus (first|rfl|(simp;done)));(focus ((repeat(first|exact aq _ _|apply ao|apply bR|refine aW ?_ g));done));(focus (have h1:=g.size;first|omega|(simp at h1⊢;done)|(simp at h1⊢;omega)|(have l:W0.drew.heap.size=W0.heap.size:=rfl;simp[World.drew] at h1⊢;omega)));(focus (have h1:=g.size;first|omega|(simp at h1⊢;done)|(simp at h1⊢;omega)|(have l:W0.drew.heap.size=W0.heap.size:=rfl;simp[World.drew] at h1⊢;omega))))
     |(refine dZ (Y:=W0) (s.out _ _ rfl) ?_ ?_ m ?_ ?_;(focus (first|rfl|(simp;done)));(focus ((repeat(first|exact aq _ _|apply ao|apply bR|refine aW ?_ g));done));(focus (have h1:=g.size;first|omega|(simp at h1⊢;done)|(simp at h1⊢;omega)|(have l:W0.drew.heap.size=W0.heap.size:=rfl;simp[World.drew] at h1⊢;omega)));(focus (have h1:=g.size;first|omega|(simp at h1⊢;done)|(simp at h1⊢;omega)|(have l:W0.drew.heap.size=W0.heap.size:=rfl;simp[World.drew] at h1⊢;omega))))
     |(refine dZ (Y:=(W0.alloc (.cells zs 3))) (s.out _ _ rfl) ?_ ?_ m ?_ ?_;(focus (first|rfl|(simp;done)));(focus ((repeat(first|exact aq _ _|apply ao|apply bR|refine aW ?_ g));done));(focus (have h1:=g.size;first|omega|(simp at h1⊢;done)|(simp at h1⊢;omega)|(have l:W0.drew.heap.size=W0.heap.size:=rfl;simp[World.drew] at h1⊢;omega)));(focus (have h1:=g.size;first|omega|(simp at h1⊢;done)|(simp at h1⊢;omega)|(have l:W0.drew.heap.size=W0.heap.size:=rfl;simp[World.drew] at h1⊢;omega))))
     |fail
  ·refine⟨rfl,?KE,?LR,?Lz,?K9,?Lh,?Ls,?Lq,?K8,?Kn,?Kq,?KD,?Lb,?Lj,?Lo,?KB,?Lw,?eq_1,?JJ,?JU,?Jz,?JS,by(go_split_ands;assumption),by(go_split_ands;assumption)⟩
   case eq_1=>rfl
   case JU=>(refine mA ?_;first|rfl|(simp;done))
   case JJ=>(have h1:=g.size;first|omega|(simp at h1⊢;done)|(simp at h1⊢;omega)|(have l:W0.drew.heap.size=W0.heap.size:=rfl;simp[World.drew] at h1⊢;omega))
   case Jz=>
    refine mB m ?_ ?_ ?_
    ·(have h1:=g.size;first|omega|(simp at h1⊢;done)|(simp at h1⊢;omega)|(have l:W0.drew.heap.size=W0.heap.size:=rfl;simp[World.drew] at h1⊢;omega))
    ·(first|exact fun h=>h|exact fun h=>Kd.aM h _|exact fun h=>Kd.aM (Kd.aM h _) _|exact fun h=>Kd.aM (Kd.aM (Kd.aM h _) _) _)
    ·(have h1:=g.size;first|omega|(simp at h1⊢;done)|(simp at h1⊢;omega)|(have l:W0.drew.heap.size=W0.heap.size:=rfl;simp[World.drew] at h1⊢;omega))
   case JS=>
    first
     |(refine dZ (Y:=w1) (s.out _ _ rfl) ?_ ?_ m ?_ ?_;(focus (first|rfl|(simp;done)));(focus ((repeat(first|exact aq _ _|apply ao|apply bR|refine aW ?_ g));done));(focus (have h1:=g.size;first|omega|(simp at h1⊢;done)|(simp at h1⊢;omega)|(have l:W0.drew.heap.size=W0.heap.size:=rfl;simp[World.drew] at h1⊢;omega)));(focus (have h1:=g.size;first|omega|(simp at h1⊢;done)|(simp at h1⊢;omega)|(have l:W0.drew.heap.size=W0.heap.size:=rfl;simp[World.drew] at h1⊢;omega))))
     |(refine dZ (Y:=(w1.alloc (.cells zs 3))) (s.out _ _ rfl) ?_ ?_ m ?_ ?_;(focus (first|rfl|(simp;done)));(focus ((repeat(first|exact aq _ _|apply ao|apply bR|refine aW ?_ g));done));(focus (have h1:=g.size;first|omega|(simp at h1⊢;done)|(simp at h1⊢;omega)|(have l:W0.drew.heap.size=W0.heap.size:=rfl;simp[World.drew] at h1⊢;omega)));(focus (have h1:=g.size;first|omega|(simp at h1⊢;done)|(simp at h1⊢;omega)|(have l:W0.drew.heap.size=W0.heap.size:=rfl;simp[World.drew] at h1⊢;omega))))
     |(refine dZ (Y:=W0) (s.out _ _ rfl) ?_ ?_ m ?_ ?_;(focus (first|rfl|(simp;done)));(focus ((repeat(first|exact aq _ _|apply ao|apply bR|refine aW ?_ g));done));(focus (have h1:=g.size;first|omega|(simp at h1⊢;done)|(simp at h1⊢;omega)|(have l:W0.drew.heap.size=W0.heap.size:=rfl;simp[World.drew] at h1⊢;omega)));(focus (have h1:=g.size;first|omega|(simp at h1⊢;done)|(simp at h1⊢;omega)|(have l:W0.drew.heap.size=W0.heap.size:=rfl;simp[World.drew] at h1⊢;omega))))
     |(refine dZ (Y:=(W0.alloc (.cells zs 3))) (s.out _ _ rfl) ?_ ?_ m ?_ ?_;(focus (first|rfl|(simp;done)));(focus ((repeat(first|exact aq _ _|apply ao|apply bR|refine aW ?_ g));done));(focus (have h1:=g.size;first|omega|(simp at h1⊢;done)|(simp at h1⊢;omega)|(have l:W0.drew.heap.size=W0.heap.size:=rfl;simp[World.drew] at h1⊢;omega)));(focus (have h1:=g.size;first|omega|(simp at h1⊢;done)|(simp at h1⊢;omega)|(have l:W0.drew.heap.size=W0.heap.size:=rfl;simp[World.drew] at h1⊢;omega))))
     |fail
  ·refine⟨rfl,?KN,?K6,?KJ,?KC,?KQ,?L3,?Ko,?KZ,?LF,?Lt,?Lk,?La,?Kr,?KW,?Kv,?KV,?eq_2,?JM,?JQ,?JR,?JG,by(go_split_ands;assumption),by(go_split_ands;assumption)⟩
   case eq_2=>rfl
   case JQ=>(refine mA ?_;first|rfl|(simp;done))
   case JM=>(have h1:=g.size;first|omega|(simp at h1⊢;done)|(simp at h1⊢;omega)|(have l:W0.drew.heap.size=W0.heap.size:=rfl;simp[World.drew] at h1⊢;omega))
   case JR=>
    refine mB m ?_ ?_ ?_
    ·(have h1:=g.size;first|omega|(simp at h1⊢;done)|(simp at h1⊢;omega)|(have l:W0.drew.heap.size=W0.heap.size:=rfl;simp[World.drew] at h1⊢;omega))
    ·(first|exact fun h=>h|exact fun h=>Kd.aM h _|exact fun h=>Kd.aM (Kd.aM h _) _|exact fun h=>Kd.aM (Kd.aM (Kd.aM h _) _) _)
    ·(have h1:=g.size;first|omega|(simp at h1⊢;done)|(simp at h1⊢;omega)|(have l:W0.drew.heap.size=W0.heap.size:=rfl;simp[World.drew] at h1⊢;omega))
   case JG=>
    first
     |(refine dZ (Y:=w1) (s.out _ _ rfl) ?_ ?_ m ?_ ?_;(focus (first|rfl|(simp;done)));(focus ((repeat(first|exact aq _ _|apply ao|apply bR|refine aW ?_ g));done));(focus (have h1:=g.size;first|omega|(simp at h1⊢;done)|(simp at h1⊢;omega)|(have l:W0.drew.heap.size=W0.heap.size:=rfl;simp[World.drew] at h1⊢;omega)));(focus (have h1:=g.size;first|omega|(simp at h1⊢;done)|(simp at h1⊢;omega)|(have l:W0.drew.heap.size=W0.heap.size:=rfl;simp[World.drew] at h1⊢;omega))))
     |(refine dZ (Y:=(w1.alloc (.cells zs 3))) (s.out _ _ rfl) ?_ ?_ m ?_ ?_;(focus (first|rfl|(simp;done)));(focus ((repeat(first|exact aq _ _|apply ao|apply bR|refine aW ?_ g));done));(focus (have h1:=g.size;first|omega|(simp at h1⊢;done)|(simp at h1⊢;omega)|(have l:W0.drew.heap.size=W0.heap.size:=rfl;simp[World.drew] at h1⊢;omega)));(focus (have h1:=g.size;first|omega|(simp at h1⊢;done)|(simp at h1⊢;omega)|(have l:W0.drew.heap.size=W0.heap.size:=rfl;simp[World.drew] at h1⊢;omega))))
     |(refine dZ (Y:=W0) (s.out _ _ rfl) ?_ ?_ m ?_ ?_;(focus (first|rfl|(simp;done)));(focus ((repeat(first|exact aq _ _|apply ao|apply bR|refine aW ?_ g));done));(focus (have h1:=g.size;first|omega|(simp at h1⊢;done)|(simp at h1⊢;omega)|(have l:W0.drew.heap.size=W0.heap.size:=rfl;simp[World.drew] at h1⊢;omega)));(focus (have h1:=g.size;first|omega|(simp at h1⊢;done)|(simp at h1⊢;omega)|(have l:W0.drew.heap.size=W0.heap.size:=rfl;simp[World.drew] at h1⊢;omega))))
     |(refine dZ (Y:=(W0.alloc (.cells zs 3))) (s.out _ _ rfl) ?_ ?_ m ?_ ?_;(focus (first|rfl|(simp;done)));(focus ((repeat(first|exact aq _ _|apply ao|apply bR|refine aW ?_ g));done));(focus (have h1:=g.size;first|omega|(simp at h1⊢;done)|(simp at h1⊢;omega)|(have l:W0.drew.heap.size=W0.heap.size:=rfl;simp[World.drew] at h1⊢;omega)));(focus (have h1:=g.size;first|omega|(simp at h1⊢;done)|(simp at h1⊢;omega)|(have l:W0.drew.heap.size=W0.heap.size:=rfl;simp[World.drew] at h1⊢;omega))))
     |fail
  ·refine⟨rfl,?LL,?KL,?LV,?LO,?K5,?K0,?Ld,?L4,?KH,?LC,?KF,?LW,?KK,?L0,?Ks,?LA,?eq_3,?JD,?JC,?Jv,?JE,by(go_split_ands;assumption),by(go_split_ands;assumption)⟩
   case eq_3=>rfl
   case JC=>(refine mA ?_;first|rfl|(simp;done))
   case JD=>(have h1:=g.size;first|omega|(simp at h1⊢;done)|(simp at h1⊢;omega)|(have l:W0.drew.heap.size=W0.heap.size:=rfl;simp[World.drew] at h1⊢;omega))
   case Jv=>
    refine mB m ?_ ?_ ?_
    ·(have h1:=g.size;first|omega|(simp at h1⊢;done)|(simp at h1⊢;omega)|(have l:W0.drew.heap.size=W0.heap.size:=rfl;simp[World.drew] at h1⊢;omega))
    ·(first|exact fun h=>h|exact fun h=>Kd.aM h _|exact fun h=>Kd.aM (Kd.aM h _) _|exact fun h=>Kd.aM (Kd.aM (Kd.aM h _) _) _)
    ·(have h1:=g.size;first|omega|(simp at h1⊢;done)|(simp at h1⊢;omega)|(have l:W0.drew.heap.size=W0.heap.size:=rfl;simp[World.drew] at h1⊢;omega))
   case JE=>
    first
     |(refine dZ (Y:=w1) (s.out _ _ rfl) ?_ ?_ m ?_ ?_;(focus (first|rfl|(simp;done)));(focus ((repeat(first|exact aq _ _|apply ao|apply bR|refine aW ?_ g));done));(focus (have h1:=g.size;first|omega|(simp at h1⊢;done)|(simp at h1⊢;omega)|(have l:W0.drew.heap.size=W0.heap.size:=rfl;simp[World.drew] at h1⊢;omega)));(focus (have h1:=g.size;first|omega|(simp at h1⊢;done)|(simp at h1⊢;omega)|(have l:W0.drew.heap.size=W0.heap.size:=rfl;simp[World.drew] at h1⊢;omega))))
     |(refine dZ (Y:=(w1.alloc (.cells zs 3))) (s.out _ _ rfl) ?_ ?_ m ?_ ?_;(focus (first|rfl|(simp;done)));(focus ((repeat(first|exact aq _ _|apply ao|apply bR|refine aW ?_ g));done));(focus (have h1:=g.size;first|omega|(simp at h1⊢;done)|(simp at h1⊢;omega)|(have l:W0.drew.heap.size=W0.heap.size:=rfl;simp[World.drew] at h1⊢;omega)));(focus (have h1:=g.size;first|omega|(simp at h1⊢;done)|(simp at h1⊢;omega)|(have l:W0.drew.heap.size=W0.heap.size:=rfl;simp[World.drew] at h1⊢;omega))))
     |(refine dZ (Y:=W0) (s.out _ _ rfl) ?_ ?_ m ?_ ?_;(focus (first|rfl|(simp;done)));(focus ((repeat(first|exact aq _ _|apply ao|apply bR|refine aW ?_ g));done));(focus (have h1:=g.size;first|omega|(simp at h1⊢;done)|(simp at h1⊢;omega)|(have l:W0.drew.heap.size=W0.heap.size:=rfl;simp[World.drew] at h1⊢;omega)));(focus (have h1:=g.size;first|omega|(simp at h1⊢;done)|(simp at h1⊢;omega)|(have l:W0.drew.heap.size=W0.heap.size:=rfl;simp[World.drew] at h1⊢;omega))))
     |(refine dZ (Y:=(W0.alloc (.cells zs 3))) (s.out _ _ rfl) ?_ ?_ m ?_ ?_;(focus (first|rfl|(simp;done)));(focus ((repeat(first|exact aq _ _|apply ao|apply bR|refine aW ?_ g));done));(focus (have h1:=g.size;first|omega|(simp at h1⊢;done)|(simp at h1⊢;omega)|(have l:W0.drew.heap.size=W0.heap.size:=rfl;simp[World.drew] at h1⊢;omega)));(focus (have h1:=g.size;first|omega|(simp at h1⊢;done)|(simp at h1⊢;omega)|(have l:W0.drew.heap.size=W0.heap.size:=rfl;simp[World.drew] at h1⊢;omega))))
     |fail
  ·refine⟨rfl,?LQ,?LH,?KG,?Ly,?KX,?KM,?LP,?LZ,?KR,?Kt,?KY,?Kw,?Li,?LK,?KI,?Ky,?eq_4,?Jw,?JA,?JH,?JB,by(go_split_ands;assumption),by(go_split_ands;assumption)⟩
   case eq_4=>rfl
   case JA=>(refine mA ?_;first|rfl|(simp;done))
   case Jw=>(have h1:=g.size;first|omega|(simp at h1⊢;done)|(simp at h1⊢;omega)|(have l:W0.drew.heap.size=W0.heap.size:=rfl;simp[World.drew] at h1⊢;omega))
   case JH=>
    refine mB m ?_ ?_ ?_
    ·(have h1:=g.size;first|omega|(simp at h1⊢;done)|(simp at h1⊢;omega)|(have l:W0.drew.heap.size=W0.heap.size:=rfl;simp[World.drew] at h1⊢;omega))
    ·(first|exact fun h=>h|exact fun h=>Kd.aM h _|exact fun h=>Kd.aM (Kd.aM h _) _|exact fun h=>Kd.aM (Kd.aM (Kd.aM h _) _) _)
    ·(have h1:=g.size;first|omega|(simp at h1⊢;done)|(simp at h1⊢;omega)|(have l:W0.drew.heap.size=W0.heap.size:=rfl;simp[World.drew] at h1⊢;omega))
   case JB=>
    first
     |(refine dZ (Y:=w1) (s.out _ _ rfl) ?_ ?_ m ?_ ?_;(focus (first|rfl|(simp;done)));(focus ((repeat(first|exact aq _ _|apply ao|apply bR|refine aW ?_ g));done));(focus (have h1:=g.size;first|omega|(simp at h1⊢;done)|(simp at h1⊢;omega)|(have l:W0.drew.heap.size=W0.heap.size:=rfl;simp[World.drew] at h1⊢;omega)));(focus (have h1:=g.size;first|omega|(simp at h1⊢;done)|(simp at h1⊢;omega)|(have l:W0.drew.heap.size=W0.heap.size:=rfl;simp[World.drew] at h1⊢;omega))))
     |(refine dZ (Y:=(w1.alloc (.cells zs 3))) (s.out _ _ rfl) ?_ ?_ m ?_ ?_;(focus (first|rfl|(simp;done)));(focus ((repeat(first|exact aq _ _|apply ao|apply bR|refine aW ?_ g));done));(focus (have h1:=g.size;first|omega|(simp at h1⊢;done)|(simp at h1⊢;omega)|(have l:W0.drew.heap.size=W0.heap.size:=rfl;simp[World.drew] at h1⊢;omega)));(focus (have h1:=g.size;first|omega|(simp at h1⊢;done)|(simp at h1⊢;omega)|(have l:W0.drew.heap.size=W0.heap.size:=rfl;simp[World.drew] at h1⊢;omega))))
     |(refine dZ (Y:=W0) (s.out _ _ rfl) ?_ ?_ m ?_ ?_;(focus (first|rfl|(simp;done)));(focus ((repeat(first|exact aq _ _|apply ao|apply bR|refine aW ?_ g));done));(focus (have h1:=g.size;first|omega|(simp at h1⊢;done)|(simp at h1⊢;omega)|(have l:W0.drew.heap.size=W0.heap.size:=rfl;simp[World.drew] at h1⊢;omega)));(focus (have h1:=g.size;first|omega|(simp at h1⊢;done)|(simp at h1⊢;omega)|(have l:W0.drew.heap.size=W0.heap.size:=rfl;simp[World.drew] at h1⊢;omega))))
     |(refine dZ (Y:=(W0.alloc (.cells zs 3))) (s.out _ _ rfl) ?_ ?_ m ?_ ?_;(focus (first|rfl|(simp;done)));(focus ((repeat(first|exact aq _ _|apply ao|apply bR|refine aW ?_ g));done));(focus (have h1:=g.size;first|omega|(simp at h1⊢;done)|(simp at h1⊢;omega)|(have l:W0.drew.heap.size=W0.heap.size:=rfl;simp[World.drew] at h1⊢;omega)));(focus (have h1:=g.size;first|omega|(simp at h1⊢;done)|(simp at h1⊢;omega)|(have l:W0.drew.heap.size=W0.heap.size:=rfl;simp[World.drew] at h1⊢;omega))))
     |fail
  ·refine⟨rfl,?Lg,?Lu,?KS,?KT,?Ln,?Ll,?Lf,?K7,?KP,?Kz,?Km,?LG,?Ku,?Lm,?LX,?Lx,?eq_5,?JT,?JL,?JK,?Jy,by(go_split_ands;assumption),by(go_split_ands;assumption)⟩
   case eq_5=>rfl
   case JL=>(refine mA ?_;first|rfl|(simp;done))
   case JT=>(have h1:=g.size;first|omega|(simp at h1⊢;done)|(simp at h1⊢;omega)|(have l:W0.drew.heap.size=W0.heap.size:=rfl;simp[World.drew] at h1⊢;omega))
   case JK=>
    refine mB m ?_ ?_ ?_
    ·(have h1:=g.size;first|omega|(simp at h1⊢;done)|(simp at h1⊢;omega)|(have l:W0.drew.heap.size=W0.heap.size:=rfl;simp[World.drew] at h1⊢;omega))
    ·(first|exact fun h=>h|exact fun h=>Kd.aM h _|exact fun h=>Kd.aM (Kd.aM h _) _|exact fun h=>Kd.aM (Kd.aM (Kd.aM h _) _) _)
    ·(have h1:=g.size;first|omega|(simp at h1⊢;done)|(simp at h1⊢;omega)|(have l:W0.drew.heap.size=W0.heap.size:=rfl;simp[World.drew] at h1⊢;omega))
   case Jy=>
    first
     |(refine dZ (Y:=w1) (s.out _ _ rfl) ?_ ?_ m ?_ ?_;(focus (first|rfl|(simp;done)));(focus ((repeat(first|exact aq _ _|apply ao|apply bR|refine aW ?_ g));done));(focus (have h1:=g.size;first|omega|(simp at h1⊢;done)|(simp at h1⊢;omega)|(have l:W0.drew.heap.size=W0.heap.size:=rfl;simp[World.drew] at h1⊢;omega)));(focus (have h1:=g.size;first|omega|(simp at h1⊢;done)|(simp at h1⊢;omega)|(have l:W0.drew.heap.size=W0.heap.size:=rfl;simp[World.drew] at h1⊢;omega))))
     |(refine dZ (Y:=(w1.alloc (.cells zs 3))) (s.out _ _ rfl) ?_ ?_ m ?_ ?_;(focus (first|rfl|(simp;done)));(focus ((repeat(first|exact aq _ _|apply ao|apply bR|refine aW ?_ g));done));(focus (have h1:=g.size;first|omega|(simp at h1⊢;done)|(simp at h1⊢;omega)|(have l:W0.drew.heap.size=W0.heap.size:=rfl;simp[World.drew] at h1⊢;omega)));(focus (have h1:=g.size;first|omega|(simp at h1⊢;done)|(simp at h1⊢;omega)|(have l:W0.drew.heap.size=W0.heap.size:=rfl;simp[World.drew] at h1⊢;omega))))
     |(refine dZ (Y:=W0) (s.out _ _ rfl) ?_ ?_ m ?_ ?_;(focus (first|rfl|(simp;done)));(focus ((repeat(first|exact aq _ _|apply ao|apply bR|refine aW ?_ g));done));(focus (have h1:=g.size;first|omega|(simp at h1⊢;done)|(simp at h1⊢;omega)|(have l:W0.drew.heap.size=W0.heap.size:=rfl;simp[World.drew] at h1⊢;omega)));(focus (have h1:=g.size;first|omega|(simp at h1⊢;done)|(simp at h1⊢;omega)|(have l:W0.drew.heap.size=W0.heap.size:=rfl;simp[World.drew] at h1⊢;omega))))
     |(refine dZ (Y:=(W0.alloc (.cells zs 3))) (s.out _ _ rfl) ?_ ?_ m ?_ ?_;(focus (first|rfl|(simp;done)));(focus ((repeat(first|exact aq _ _|apply ao|apply bR|refine aW ?_ g));done));(focus (have h1:=g.size;first|omega|(simp at h1⊢;done)|(simp at h1⊢;omega)|(have l:W0.drew.heap.size=W0.heap.size:=rfl;simp[World.drew] at h1⊢;omega)));(focus (have h1:=g.size;first|omega|(simp at h1⊢;done)|(simp at h1⊢;omega)|(have l:W0.drew.heap.size=W0.heap.size:=rfl;simp[World.drew] at h1⊢;omega))))
     |fail
end Go.Proofs.YtffdiakgjakngaaGreat.P
namespace Go.Proofs.YtffdiakgjakngaaGreat.P
open Go Go.RowKit Go.Proofs.YtffdiakgjakngaaGreatW.PrintWords Go.Proofs.YtffdiakgjakngaaGreatW.PrintLast Go.Proofs.YtffdiakgjakngaaGreatW.PrintMore
set_option linter.unusedVariables false
set_option linter.unusedSimpArgs false
set_option maxHeartbeats 8000000
set_option maxRecDepth 100000
def cO (e b:Nat) (ds:List Deferred) (w:World):Prop:=∃a:List Nat,ds=a.map (fun D=>{target:=.collected D,args:=#[]})/\a.Nodup/\∀D,D∈a->e<=D/\D<b/\w.heap[D]? =some (.deferred (some []))
theorem cO.nil (a b:Nat) (w:World):cO a b [] w:=⟨[],rfl,List.nodup_nil,fun _ h=>by cases h⟩
theorem cO.iY {g b:Nat} {ds:List Deferred} {w w':World} (h:cO g b ds w) (hk:∀D,D<b->w.heap[D]? =some (.deferred (some []))->w'.heap[D]? =some (.deferred (some []))):cO g b ds w':=by
 obtain⟨i,h1,j,a⟩:=h;exact⟨i,h1,j,fun D e=>⟨(a D e).1,(a D e).2.1,hk D (a D e).2.1 (a D e).2.2⟩⟩
theorem cO.below {a b:Nat} {ds:List Deferred} {w w':World} (h:cO a b ds w) (hb:Below w.heap.size w w'):cO a b ds w':=
 h.iY fun D _ e=>(hb.block D (Array.getElem?_eq_some_iff.1 e).1).trans e
theorem cO.bk {a b l:Nat} {ds:List Deferred} {w w':World} (h:cO a b ds w) (hb:Bk l w w') (e:b<=l):cO a b ds w':=
 h.iY fun D g hd=>(hb.heap D (by omega)).trans hd
theorem cO.set {a b:Nat} {ds:List Deferred} {w:World} (h:cO a b ds w) {p:Addr} {cs:Array Value} {t:TypeId} {fr:Nat×Nat} (hp:w.heap[p.block]? =some (.cells cs t fr)) (v:Value):cO a b ds (w.setCell p v):=
 h.iY fun D _ hd=>by
  rw[Below.heap_setCell _ _ _ _ (fun e=>by rw[e,hp] at hd;cases hd)];exact hd
theorem cO.push {a b D:Nat} {ds:List Deferred} {w:World} (h:cO a b ds w) (g:a<=D) (hb:b<=D) (hd:w.heap[D]? =some (.deferred (some []))):cO a (D+1) ({target:=.collected D,args:=#[]}::ds) w:=by
 obtain⟨i,h1,j,e⟩:=h;refine⟨D::i,by rw[h1];rfl,List.nodup_cons.2 ⟨fun hm=>by have:=(e D hm).2.1;omega,j⟩,fun D' k=>?_⟩;rcases List.mem_cons.1 k with rfl|hm
 ·exact⟨g,by omega,hd⟩
 ·have:=e D' hm
  exact⟨this.1,by omega,this.2.2⟩
inductive fZ (b:Nat):World->World->Prop
 |refl (w:World):fZ b w w
 |step {w w':World} (D:Nat) (h:w.heap[D]? =some (.deferred (some []))) (hb:b<=D) (a:fZ b (w.putObj D (.deferred none)) w'):fZ b w w'
theorem fZ.lI {b:Nat} {w w':World} (h:fZ b w w'):Below b w w':=by
 induction h with
 |refl w=>exact aq _ _
 |step D h hb _ a=>exact(Bk.below (l:=D) ⟨_,_,h,rfl,rfl⟩ b hb).trans a
theorem fZ.cells {b:Nat} {w w':World} (h:fZ b w w') {k:Nat} {cs:Array Value} {t:TypeId} {fr:Nat×Nat} (hk:w.heap[k]? =some (.cells cs t fr)):w'.heap[k]? =some (.cells cs t fr):=by
 induction h with
 |refl w=>exact hk
 |step D h hb _ a=>exact a (Bk.cells (l:=D) ⟨_,_,h,rfl,rfl⟩ hk)
theorem fZ.size {b:Nat} {w w':World} (h:fZ b w w'):w'.heap.size=w.heap.size:=by
 induction h with
 |refl w=>rfl
 |step D h hb _ a=>rw[a];simp[World.putObj]
theorem fZ.R {α:Type} {d:Kd α} {e base b:Nat} {ok:Nat->Prop} {v:Value} {xs:List α} {A B:World} (h:fZ b A B) (g:d.R e A base ok v xs):d.R e B base ok v xs:=
 Kd.a_ (Kd.fC (Kd.ef g) (fun k hk=>by obtain⟨_,_,_,q,_,cells,a⟩:=hk;exact(h.cells a).trans a.symm)) (fun k hk=>hk.1)
theorem uT {F:Fence} {n:Nat} {P:Program} {fn:Func} {R:Ending->World->Prop} {tm:Array Value} {g:Nat}:∀(a:List Nat) (w:World),a.Nodup->(∀D,D∈a->g<=D/\w.heap[D]? =some (.deferred (some [])))->
  (∀w',fZ g w w'->∃v,(results fn tm).run P w'= .ok v w'/\R (.returned v) w')->LeavesInM F n P fn tm R (a.map (fun D=>{target:=.collected D,args:=#[]})) .returning w
 |[],w,_,_,h=>by
  obtain⟨v,h1,l⟩:=h w (fZ.refl w);exact⟨_,h1,l⟩
 |D::a,w,hn,i,h=>by
  have b:=i D (List.mem_cons_self ..);have j:=List.nodup_cons.1 hn;refine⟨by simp,.inl ⟨_,_,rfl,run_takeDeferred b.2,uT a _ j.2 (fun D' k=>?_) fun w' m=>h w' (fZ.step D b.2 b.1 m)⟩⟩;have h1:=i D' (List.mem_cons_of_mem _ k);exact⟨h1.1,(World.putObj_heap_other (fun e=>j.1 (by rw[<-e];exact k))).trans h1.2⟩
theorem uU {F:Fence} {n:Nat} {P:Program} {fn:Func} {R:Ending->World->Prop} {tm:Array Value} {ds:List Deferred} {a b:Nat} {w:World} (i:cO a b ds w)
  (h:∀w',fZ a w w'->∃v,(results fn tm).run P w'= .ok v w'/\R (.returned v) w'):bodyPostM F n P fn R .ret {tmps:=tm,defers:=ds} w/\bodyPostM F n P fn R .normal {tmps:=tm,defers:=ds} w:=by
 obtain⟨j,rfl,k,e⟩:=i;have:=uT (F:=F) (n:=n) (P:=P) (fn:=fn) (R:=R) (tm:=tm) j w k (fun D g=>⟨(e D g).1,(e D g).2.2⟩) h;exact⟨this,this⟩
def lJ (e:Nat) (J:Nat->Array Value->World->Prop) (n:Nat) (a:Act) (w:World):Prop:=(∃n',n'<n/\J n' a.tmps w)/\∃b,b<=w.heap.size/\cO e b a.defers w
theorem lJ.intro {a:Nat} {J:Nat->Array Value->World->Prop} {n:Nat} {tm:Array Value} {ds:List Deferred} {w:World} (k:Nat) (h1:k<n) (e:J k tm w) (b:Nat) (hb:b<=w.heap.size) (g:cO a b ds w):lJ a J n {tmps:=tm,defers:=ds} w:=⟨⟨k,h1,e⟩,b,hb,g⟩
theorem uV {F:Fence} {h:Nat} {P:Program} {Q:Exit->Act->World->Prop} {tm:Array Value} {ds:List Deferred} {w:World} {c:Code} (e:Nat) (I:Nat->Array Value->World->Prop) (i:Nat) (l:I i tm w) (b:Nat) (hb:b<=w.heap.size) (g:cO e b ds w)
  (round:∀n tm w,I n tm w->∀ds b,b<=w.heap.size->cO e b ds w->∀(J:Nat->Array Value->World->Prop) (K:Act->World->Prop),(∀k j w',I k j w'->J k j w')->(∀a' w',lJ e J n a' w'->K a' w')->c.wpIn F h P (Exit.then K Q) {tmps:=tm,defers:=ds} w):
  (Code.loop c).wpIn F h P Q {tmps:=tm,defers:=ds} w:=by
 refine wpIn_loop_ghost (fun k a w=>I k a.tmps w/\∃b,b<=w.heap.size/\cO e b a.defers w) i ⟨l,b,hb,g⟩ ?_;rintro n ⟨tm,ds⟩ w ⟨m,b,hb,g⟩;exact round n tm w m ds b hb g I _ (fun _ _ _ q=>q) fun a' w' ⟨⟨n',h1,o⟩,p⟩=>⟨n',h1,o,p⟩
end Go.Proofs.YtffdiakgjakngaaGreat.P
namespace Go.Proofs.YtffdiakgjakngaaGreat.P
open Go.RowKit Go.Proofs.YtffdiakgjakngaaGreatW.PrintWords Go.Proofs.YtffdiakgjakngaaGreatW.PrintLast Go.Proofs.YtffdiakgjakngaaGreatW.PrintMore
set_option linter.unusedVariables false
set_option linter.unusedSimpArgs false
set_option maxHeartbeats 8000000
set_option maxRecDepth 100000
theorem qX:Tryz.zeroCells252=((List.replicate 145 (Value.int .i64 0))++[Value.slice none 0 0]++List.replicate 12 (Value.bool false)).toArray:=by kernel_rfl
theorem oX.new (n:Int) (chips:Value):oX ((Tryz.zeroCells252.setIfInBounds 0 (.int .i64 n)).setIfInBounds 145 chips) n (fun _ _=>0) chips (fun _=>false):=by
 have a:Tryz.zeroCells252.size=158:=by rw[qX];simp
 refine⟨by simp[a],?_,?_,?_,?_⟩
 ·rw[Array.getElem?_setIfInBounds_ne (by omega),Array.getElem?_setIfInBounds_self_of_lt (by omega)]
 ·intro i j hi b
  rw[Array.getElem?_setIfInBounds_ne (by omega),Array.getElem?_setIfInBounds_ne (by omega),qX];rw[List.getElem?_toArray,List.getElem?_append_left (by simp;omega),List.getElem?_append_left (by simp;omega),List.getElem?_replicate,if_pos (by omega)]
 ·rw[Array.getElem?_setIfInBounds_self_of_lt (by simp[a])]
 ·intro i hi
  rw[Array.getElem?_setIfInBounds_ne (by omega),Array.getElem?_setIfInBounds_ne (by omega),qX];rw[List.getElem?_toArray,List.getElem?_append_right (by simp),List.getElem?_replicate,if_pos (by simp;omega)]
theorem Cl (n q:Nat) (A0:Option Addr) (c0:Nat) (E:List S83) (L:Option Addr) (c2:Nat) (l:List Int) (w:World) (T:Kd.C aN w A0 E.length E) (aS:E.length<=c0) (am:Kd.C (Kd.int .i64) w L l.length l) (an:l.length<=c2) (hn:n<=12) (hq:q<n) (hE:ez n E) (a1:l.length<=n) (a2:n<=l.length):
  Calls Tryz.prog 220 #[.agg #[.int .i64 n,.slice A0 E.length c0],.int .i64 q,.slice L l.length c2] w (fun e w'=>∃g h o,e= .returned (.pointer (some ⟨g,0,none⟩))/\cQ w' g n (ae E) (.slice h l.length o) (fun i=>if i=q then true else false)/\Kd.R (Kd.int .i64) 3 w' w.heap.size (fun _=>True) (.slice h l.length o) l/\Below w.heap.size w w'/\w.heap.size<=g):=by
 have hu:=Tryz.underlying24;go_enter Tryz.func220,Tryz.ntmps220
 go_wp2_with fail
 go_region_held3 (fun w'=>w'.cell? ⟨w.heap.size,0,none⟩=some (.int .i64 n)/\w'.cell? ⟨w.heap.size,1,none⟩=some (.slice A0 E.length c0)) (first|go_keep|(go_split_ands;exact⟨(G.cell (p:=⟨w.heap.size,0,none⟩) (by simp)).trans (by go_simp),(G.cell (p:=⟨w.heap.size,1,none⟩) (by simp)).trans (by go_simp)⟩))
  (first|(go_at_call 57;refine(fJ.calls L c2 l l _ (Kd.ax am (iA (ao (aq _ _) _))) an (by unfold fJ.f clone.f;rw[if_pos (by omega)])).mono ?_;rintro e w1 ⟨v0,rfl,M,G⟩;obtain⟨h,o,rfl⟩:=Kd.bh M))
 rename_i hHeld;have N:cQ (w1.alloc (.cells ((Tryz.zeroCells252.setIfInBounds 0 (.int .i64 n)).setIfInBounds 145 (.slice h l.length o)) 252)) w1.heap.size n (fun _ _=>0) (.slice h l.length o) (fun _=>false):=⟨_,by simpa using a7 w1 _,oX.new _ _⟩;have U:Below w.heap.size w (w1.alloc (.cells ((Tryz.zeroCells252.setIfInBounds 0 (.int .i64 n)).setIfInBounds 145 (.slice h l.length o)) 252)):=ao (lZ (iA (ao (aq _ _) _)) (by simp) G) _;have V:Kd.R (Kd.int .i64) 3 (w1.alloc (.cells ((Tryz.zeroCells252.setIfInBounds 0 (.int .i64 n)).setIfInBounds 145 (.slice h l.length o)) 252)) w.heap.size (fun _=>True) (.slice h l.length o) l:=Kd.bd (Kd.aM M _) (by simp);have hg:w.heap.size<w1.heap.size:=by have:=G.size;simp at this;omega
 clear G M;generalize av:w1.heap.size=g at N hg⊢;generalize (w1.alloc (.cells ((Tryz.zeroCells252.setIfInBounds 0 (.int .i64 n)).setIfInBounds 145 (.slice h l.length o)) 252))=W0 at N hHeld U V⊢;clear av;obtain⟨a3,a4⟩:=hHeld;go_wp2;go_loopw [19] (fun u wr=>∃k:Nat,k<=E.length/\u= .int .i64 k/\Aside0 (cQ wr g n (ae (E.take k)) (.slice h l.length o) (fun _=>false))/\Aside0 (Kd.R (Kd.int .i64) 3 wr w.heap.size (fun _=>True) (.slice h l.length o) l)/\Aside0 (Below w.heap.size w wr)) (fun u _=>E.length- (intOf u).toNat)
 case atStart=>exact⟨0,Nat.zero_le _,rfl,⟨by simpa [ae] using N⟩,⟨V⟩,⟨U⟩⟩
 case round=>
  obtain⟨k,hk,rfl,y,O,z⟩:=hrel;have a5:=T.2.1;by_cases W:k<E.length
  ·obtain⟨P,X,e2,Y,Z,e5⟩:=hE.get k W
   have ab:=uq E k W;have Q:=Lib.hid ab;clear ab;obtain⟨ad,rfl,B,D,F⟩:=eN T k (by omega) (by omega);rw[aG] at B D F;replace B:=(z.out.cell (bu w _ B)).trans B;replace D:=(z.out.cell (bu w _ D)).trans D;replace F:=(z.out.cell (bu w _ F)).trans F;generalize af E k=x at P X e2 Y Z e5 B D F Q;obtain⟨a,b,m⟩:=x;simp only at P X e2 Y Z e5 B D F;obtain⟨a,rfl⟩:=Int.eq_ofNat_of_zero_le P;obtain⟨b,rfl⟩:=Int.eq_ofNat_of_zero_le e2;have a12:a<12:=by omega
   have s:b<12:=by omega
   by_cases H:a=b
   ·have aB:((a:Int) != (b:Int))=false:=by rw[H];simp
    have S:=Lib.hid H;clear H;go_wp2;go_roundw
    case rel=>exact⟨k+1,by omega,by go_num,⟨by rw[Q.out];simp only[dn];rw[if_pos (by rw[S.out])];exact y.out.below (ao (aq _ _) _)⟩,⟨Kd.aM O.out _⟩,⟨ao z.out _⟩⟩
    case measure=>simp[intOf];omega
   ·have aB:((a:Int) != (b:Int))=true:=by rw[bne_iff_ne];omega
    have a9:1+a*12+b≠1+b*12+a:=by omega
    have be:1+b*12+a≠1+a*12+b:=by omega
    have S:=Lib.hid H;clear H;have bf:=y.out.lt;have r:=zA (y.out.below (ao (aq _ _) (.cells #[.int .i64 a,.int .i64 b,.int .i64 m] 83)));have f1:=r.out.frozen (1+a*12+b);have f2:=r.out.frozen (1+b*12+a);have c1:=r.out.nn a b a12 s;have c2:=r.out.nn b a s a12;go_wp2;have s0:(wr.alloc (.cells #[.int .i64 a,.int .i64 b,.int .i64 m] 83)).cell? ⟨wr.heap.size,0,none⟩=some (.int .i64 a):=by go_simp
    have s1:(wr.alloc (.cells #[.int .i64 a,.int .i64 b,.int .i64 m] 83)).cell? ⟨wr.heap.size,1,none⟩=some (.int .i64 b):=by go_simp
    have s2:(wr.alloc (.cells #[.int .i64 a,.int .i64 b,.int .i64 m] 83)).cell? ⟨wr.heap.size,2,none⟩=some (.int .i64 m):=by go_simp
    have ag:=zA (Kd.aM O.out (.cells #[.int .i64 a,.int .i64 b,.int .i64 m] 83));have ak:=zA (ao z.out (.cells #[.int .i64 a,.int .i64 b,.int .i64 m] 83));have aF:g≠wr.heap.size:=by omega
    have aL:wr.heap.size≠g:=by omega
    generalize (wr.alloc (.cells #[.int .i64 a,.int .i64 b,.int .i64 m] 83))=W2 at s0 s1 s2 r ag ak f1 f2 c1 c2⊢;generalize wr.heap.size=eb at aF aL s0 s1 s2⊢;have d1:=(r.out.np b a s a12 m).nn a b a12 s;have d2:=(r.out.np a b a12 s m).nn b a s a12;go_region
    have I:=(r.out.np a b a12 s m).np b a s a12 m;have J:=(r.out.np a b a12 s m).fl (r.out.fl ag.out (by decide) (1+a*12+b) (.int .i64 m)) (by decide) (1+b*12+a) (.int .i64 m);have K:=dL (dL ak.out (g:=g) (j:=1+a*12+b) (v:=.int .i64 m) (by omega)) (g:=g) (j:=1+b*12+a) (v:=.int .i64 m) (by omega);generalize ((W2.setCell ⟨g,1+a*12+b,none⟩ (.int .i64 m)).setCell ⟨g,1+b*12+a,none⟩ (.int .i64 m))=W3 at I J K⊢;replace I:=zA I;replace J:=zA J;replace K:=zA K;go_wp2;go_roundw
    case rel=>exact⟨k+1,by omega,by go_num,⟨by rw[Q.out];simp only[dn];rw[if_neg (by have:=S.out;omega)];exact I.out.drew⟩,⟨Kd.bj J.out⟩,⟨iA K.out⟩⟩
    case measure=>simp[intOf];omega
  ·obtain rfl:k=E.length:=by omega
   have fq:=y.out.frozen (146+q);have cq:=y.out.my q (by omega);have aO:=zA (y.out.uw q (by omega) true);have aP:=zA (y.out.fl O.out (by decide) (146+q) (.bool true));have aR:=zA (dL z.out (g:=g) (j:=146+q) (v:=.bool true) (by omega));go_wp2;go_ret;exact⟨g,h,o,rfl,by simpa using aO.out,aP.out,aR.out,by omega⟩
def ij.f (a0:Int):Option (Bool):=if a0>=(-1048576) then(some (decide (a0<=1048576))) else(some false)
theorem ij.calls (a0:Int) (r:Bool) (w:World) (h:ij.f a0=some r):
  Calls Tryz.prog 119 #[.int .i64 a0] w fun e w'=>e= .returned (.bool r)/\az w w':=by
 have H:(if a0>=(-1048576) then(some (decide (a0<=1048576))) else(some false))=some r:=h;clear h;by_cases c2:a0>=(-1048576)
 ·rw[if_pos c2] at H
  have a:=ay c2;clear c2;obtain rfl:=aQ H;go_enter Tryz.func119,Tryz.ntmps119
  go_wp2;go_ret;exact⟨zT,by repeat(first|exact az.refl _|apply az.step)⟩
 ·rw[if_neg c2] at H
  have a:=aZ c2;clear c2;obtain rfl:=aQ H;go_enter Tryz.func119,Tryz.ntmps119
  go_wp2;go_ret;exact⟨zT,by repeat(first|exact az.refl _|apply az.step)⟩
def jy.f (a0:Int):Option (Int):=if a0<1 then(some 2) else(if a0>12 then(some 2) else(some 0))
theorem jy.calls (a0:Int) (r:Int) (w:World) (h:jy.f a0=some r):
  Calls Tryz.prog 141 #[.int .i64 a0] w fun e w'=>e= .returned (.int .i64 r)/\az w w':=by
 have H:(if a0<1 then(some 2) else(if a0>12 then(some 2) else(some 0)))=some r:=h;clear h;by_cases c2:a0<1
 ·rw[if_pos c2] at H
  have a:=ay c2;clear c2;obtain rfl:=aQ H;go_enter Tryz.func141,Tryz.ntmps141
  go_wp2;go_ret;exact⟨zT,by repeat(first|exact az.refl _|apply az.step)⟩
 ·rw[if_neg c2] at H
  have a:=aZ c2;clear c2;by_cases c3:a0>12
  ·rw[if_pos c3] at H
   have b:=ay c3;clear c3;obtain rfl:=aQ H;go_enter Tryz.func141,Tryz.ntmps141
   go_wp2;go_ret;exact⟨zT,by repeat(first|exact az.refl _|apply az.step)⟩
  ·rw[if_neg c3] at H
   have b:=aZ c3;clear c3;obtain rfl:=aQ H;go_enter Tryz.func141,Tryz.ntmps141
   go_wp2;go_ret;exact⟨zT,by repeat(first|exact az.refl _|apply az.step)⟩
def bq.l0:Nat->List Int->Int->Int->Option (Int)
 |0,_,_,_=>none
 |k+1,b,e,a=>if a<e then(if 0<=a then(if a<(b.length:Int) then((ij.f (rd b a)).bind fun t192=>(if t192=true then(bq.l0 k b e (wrap64 (a+1))) else(some 2))) else(none)) else(none)) else(some 0)
def bq.f (k:Nat) (l0:List Int) (a:Int):Option (Int):=(jy.f a).bind fun t190=>(if t190=0 then(if(l0.length:Int)=a then(bq.l0 k l0 (l0.length:Int) 0) else(some 8)) else(some t190))
theorem bq.cD:∀k,(∀a b e,ai (bq.l0 k a b e) (bq.l0 (k+1) a b e))
 |0=>fun _ _ _ r h=>by simp[bq.l0] at h
 |k+1=>by
  have g:=bq.cD k
  ·intro a b e
   unfold bq.l0;with_reducible repeat' first|exact g _ _ _|exact ai.refl _|exact ai.none _|refine ai.ite ?_ ?_|refine ai.bind ?_ (fun _=>?_)
theorem bq.mono:∀a0 a k,ai (bq.f k a0 a) (bq.f (k+1) a0 a):=by
 intro a0 a k;have b:=bq.cD k;unfold bq.f;with_reducible repeat' first|exact b _ _ _|exact ai.refl _|exact ai.none _|refine ai.ite ?_ ?_|refine ai.bind ?_ (fun _=>?_)
theorem bq.calls (k:Nat) (A0:Option Addr) (c0:Nat) (l0:List Int) (b:Int) (r:Int) (w:World) (x:Kd.C (Kd.int .i64) w A0 l0.length l0) (y:l0.length<=c0) (h:bq.f k l0 b=some r):
  Calls Tryz.prog 87 #[.slice A0 l0.length c0,.int .i64 b] w fun e w'=>e= .returned (.int .i64 r)/\az w w':=by
 have z:=zA x;have P:=zA y;clear x y;unfold bq.f at h;have H:=h;clear h;obtain⟨t190,s,H⟩:=zo H;by_cases c4:t190=0
 ·rw[if_pos c4] at H
  obtain⟨B,D⟩:=bT c4;clear c4;by_cases l:(l0.length:Int)=b
  ·rw[if_pos l] at H
   obtain⟨E,F⟩:=bT l;clear l;have m:=zA H;clear H;go_enter Tryz.func87,Tryz.ntmps87
   go_wp2_with (first|((with_reducible refine aJ (f:=141) rfl ?_);refine zL (some 9) Tryz.func141 #[.int .i64 b] ?_;(with_reducible refine(jy.calls b t190 _ s.out).mono ?_);rintro e w' ⟨rfl,⟨n,rfl⟩⟩;refine⟨_,rfl,?_⟩))
   go_loopg [19] k (fun G K w'=>∃(a:Int),K= .int .i64 a/\Aside0 (bq.l0 G l0 (l0.length:Int) a=some r)/\Aside0 (G<=k)/\az w w')
   case atStart=>exact⟨(0),zT,m,⟨aI _⟩,by repeat(first|exact az.refl _|apply az.step)⟩
   case round=>
    clear m;clear B D E F;obtain⟨a,rfl,u,I,⟨m1,rfl⟩⟩:=hrel;cases gk with
    |zero=>exact absurd u.out (by simp[bq.l0])
    |succ L=>
     have H:=u.out;clear u;simp only[bq.l0] at H;by_cases j:a<(l0.length:Int)
     ·rw[if_pos j] at H
      have M:=ay j;clear j;by_cases o:0<=a
      ·rw[if_pos o] at H
       have Q:=ay o;clear o;by_cases p:a<(l0.length:Int)
       ·rw[if_pos p] at H
        have R:=ay p;clear p;obtain⟨t192,J,H⟩:=zo H;by_cases q:t192=true
        ·subst q
         replace H:=zi H;have m:=zA H;clear H;have g:0<=(a:Int):=aw ‹_›;have i:a<(l0.length:Int):=aw ‹_›;obtain⟨N,v,O⟩:=Kd.bJ z.out a g i;cases v;replace g:=eq_true g;replace i:=eq_true i;go_wp2_with (first|((with_reducible refine aJ (f:=119) rfl ?_);refine zL (some 24) Tryz.func119 #[.int .i64 (rd l0 a)] ?_;(with_reducible refine(ij.calls (rd l0 a) true _ J.out).mono ?_);rintro e w' ⟨rfl,⟨n,rfl⟩⟩;refine⟨_,rfl,?_⟩))
         go_roundg L
         case measure=>have:=I.out;omega
         case rel=>exact⟨(wrap64 (a+1)),zT,m,⟨by have:=I.out;omega⟩,by repeat(first|exact az.refl _|apply az.step)⟩
        ·replace q:=Bool.eq_false_iff.mpr q
         subst q;replace H:=zj H;obtain rfl:=aQ H;have g:0<=(a:Int):=aw ‹_›;have i:a<(l0.length:Int):=aw ‹_›;obtain⟨N,v,O⟩:=Kd.bJ z.out a g i;cases v;replace g:=eq_true g;replace i:=eq_true i;go_wp2_with (first|((with_reducible refine aJ (f:=119) rfl ?_);refine zL (some 24) Tryz.func119 #[.int .i64 (rd l0 a)] ?_;(with_reducible refine(ij.calls (rd l0 a) false _ J.out).mono ?_);rintro e w' ⟨rfl,⟨n,rfl⟩⟩;refine⟨_,rfl,?_⟩))
         go_ret;exact⟨zT,by repeat(first|exact az.refl _|apply az.step)⟩
       ·rw[if_neg p] at H
        exact absurd H (by simp)
      ·rw[if_neg o] at H
       exact absurd H (by simp)
     ·rw[if_neg j] at H
      have M:=aZ j;clear j;obtain rfl:=aQ H;go_wp2;go_ret;exact⟨zT,by repeat(first|exact az.refl _|apply az.step)⟩
  ·rw[if_neg l] at H
   obtain⟨E,F⟩:=bU l;obtain rfl:=aQ H;go_enter Tryz.func87,Tryz.ntmps87
   go_wp2_with (first|((with_reducible refine aJ (f:=141) rfl ?_);refine zL (some 9) Tryz.func141 #[.int .i64 b] ?_;(with_reducible refine(jy.calls b t190 _ s.out).mono ?_);rintro e w' ⟨rfl,⟨n,rfl⟩⟩;refine⟨_,rfl,?_⟩))
   go_ret;exact⟨zT,by repeat(first|exact az.refl _|apply az.step)⟩
 ·rw[if_neg c4] at H
  obtain⟨B,D⟩:=bU c4;obtain rfl:=aQ H;go_enter Tryz.func87,Tryz.ntmps87
  go_wp2_with (first|((with_reducible refine aJ (f:=141) rfl ?_);refine zL (some 9) Tryz.func141 #[.int .i64 b] ?_;(with_reducible refine(jy.calls b t190 _ s.out).mono ?_);rintro e w' ⟨rfl,⟨n,rfl⟩⟩;refine⟨_,rfl,?_⟩))
  go_ret;exact⟨zT,by repeat(first|exact az.refl _|apply az.step)⟩
section
theorem kK (w:World) (g j:Nat) (v:Value):w.grownBy (w.setCell ⟨g,j,none⟩ v) (some g):=⟨rfl,rfl,rfl,by simp,fun k _ hk=>Below.heap_setCell w _ v k (fun e=>hk (by rw[e]))⟩
def en (w:World) (g:Nat) (p:Nat->Nat):Prop:=∃cs:Array Value,w.heap[g]? =some (.cells cs 217 (0,0))/\cs.size=12/\∀i,i<12->cs[i]? =some (.int .i64 (p i:Nat))
namespace en
variable {w w':World} {g:Nat} {p:Nat->Nat}
theorem lt (h:en w g p):g<w.heap.size:=by
 obtain⟨cs,hb,_⟩:=h;exact aC hb
theorem cell (h:en w g p) (i:Nat) (hi:i<12):w.cell? ⟨g,i,none⟩=some (.int .i64 (p i:Nat)):=by
 obtain⟨cs,hb,_,a⟩:=h;exact(ah hb i).trans (a i hi)
theorem frozen (h:en w g p) (k:Nat):w.frozen? ⟨g,k,none⟩=false:=by
 obtain⟨cs,hb,_⟩:=h;exact bF hb k
theorem below (h:en w g p) (hb:Below w.heap.size w w'):en w' g p:=by
 obtain⟨cs,a,b⟩:=h;exact⟨cs,aD a hb,b⟩
theorem alloc (h:en w g p) (o:Obj):en (w.alloc o) g p:=h.below (ao (aq _ _) o)
theorem set (h:en w g p) (i:Nat) (hi:i<12) (x:Nat):en (w.setCell ⟨g,i,none⟩ (.int .i64 x)) g (fun j=>if j=i then x else p j):=by
 obtain⟨cs,a,b,l⟩:=h;refine⟨cs.setIfInBounds i (.int .i64 x),by simpa using bV a i (.int .i64 x),by simp[b],?_⟩;intro k hk;by_cases e:k=i
 ·subst e
  rw[Array.getElem?_setIfInBounds_self_of_lt (by omega)];simp
 ·rw[Array.getElem?_setIfInBounds_ne (by omega),l k hk];simp[e]
theorem congr {q:Nat->Nat} (h:en w g p) (he:∀i,i<12->q i=p i):en w g q:=by
 obtain⟨cs,a,b,e⟩:=h;exact⟨cs,a,b,fun i hi=>by rw[he i hi];exact e i hi⟩
end en
def iG (p:Nat->Nat):Prop:=∀i,p i<=i
def rootOf (p:Nat->Nat) (v:Nat):Nat:=if h:p v<v then rootOf p (p v) else v
termination_by v
theorem iZ (p:Nat->Nat) (v:Nat):rootOf p v<=v:=by
 induction v using Nat.strongRecOn with
 |ind v a=>
  rw[rootOf];split
  ·rename_i h
   exact Nat.le_trans (a _ h) (Nat.le_of_lt h)
  ·exact aI _
def dP (p:Nat->Nat) (a b:Nat):Nat->Nat:=fun j=>if j=max (rootOf p a) (rootOf p b) then min (rootOf p a) (rootOf p b) else p j
theorem uW {p:Nat->Nat} (h:iG p) (a b:Nat):iG (dP p a b):=fun i=>by
 unfold dP;split
 ·subst_vars;omega
 ·exact h i
def aK (E:List S83):Nat->Nat:=E.foldl (fun p x=>dP p x.f0.toNat x.f1.toNat) id
theorem Cm (E:List S83) (k:Nat) (h:k<E.length):aK (E.take (k+1))=dP (aK (E.take k)) (af E k).f0.toNat (af E k).f1.toNat:=by
 unfold aK;rw[List.take_succ_eq_append_getElem h,List.foldl_append];simp[af,aX,bB h]
theorem uX (E:List S83):iG (aK E):=by
 suffices h:∀(E:List S83) p,iG p->iG (E.foldl (fun p x=>dP p x.f0.toNat x.f1.toNat) p) from h E id (fun i=>aI _)
 intro E;induction E with
 |nil=>exact fun p h=>h
 |cons x E a=>exact fun p h=>a _ (uW h _ _)
theorem uY {k:IntKind} {a b:Int} (h:a=b):Ending.returned (.int k a)= .returned (.int k b):=by rw[h]
theorem qY (g v:Nat) (p:Nat->Nat) (w:World) (hf:iG p) (m:v<12) (hw:en w g p):
  Calls Tryz.prog 210 #[.pointer (some ⟨g,0,none⟩),.int .i64 v] w fun e w'=>e= .returned (.int .i64 (rootOf p v:Nat))/\w=w':=by
 go_enter Tryz.func210,Tryz.ntmps210
 go_wp2;go_loop [1] (fun u=>∃k:Nat,k<12/\u= .int .i64 k/\rootOf p k=rootOf p v) (fun u=>(intOf u).toNat)
 case atStart=>exact⟨v,m,rfl,rfl⟩
 case round=>
  obtain⟨k,hk,rfl,h⟩:=hrel;have i:=Lib.hid h;clear h;have n:=hw.cell k hk;have o:(0:Int)<=(k:Int):=by omega
  have q:(k:Int)<12:=by omega
  have hle:=hf k;by_cases j:p k<k
  ·have a:rootOf p k=rootOf p (p k):=by rw[rootOf,dif_pos j]
   have b:=Lib.hid a;clear a;have r:((p k:Nat):Int)≠(k:Int):=by omega
   go_wp2;go_round
   case rel=>exact⟨p k,by omega,rfl,by rw[<-i.out,b.out]⟩
   case measure=>simp[intOf];omega
  ·have a:rootOf p k=k:=by rw[rootOf,dif_neg j]
   have b:=Lib.hid a;clear a;have l:p k=k:=by omega
   rw[l] at n;clear l;go_wp2;go_ret;exact⟨uY (by rw[<-i.out,b.out]),rfl⟩
theorem Cn (g a b:Nat) (p:Nat->Nat) (w:World) (hf:iG p) (u:a<12) (hb:b<12) (hw:en w g p):
  Calls Tryz.prog 209 #[.pointer (some ⟨g,0,none⟩),.int .i64 a,.int .i64 b] w fun e w'=>e= .returned (.tuple #[])/\en w' g (dP p a b)/\w.grownBy w' (some g):=by
 have h1:=iZ p a;have q:=iZ p b;generalize k:rootOf p a=h at h1;generalize l:rootOf p b=i at q;have m:=qY g a p w hf u hw;have cb:=qY g b p w hf hb hw;rw[k] at m;rw[l] at cb;have n:=zA m;have o:=zA cb;have j:Aside0 (en (w.setCell ⟨g,max h i,none⟩ (.int .i64 (min h i:Nat))) g (dP p a b)):=⟨by unfold dP;rw[k,l];exact hw.set _ (by omega) _⟩;have Hg:Aside0 (w.grownBy (w.setCell ⟨g,max h i,none⟩ (.int .i64 (min h i:Nat))) (some g)):=⟨kK ..⟩;clear k l m cb;have r:h<12:=by omega
 have s:i<12:=by omega
 have G:(0:Int)<=(h:Int):=by omega
 have H:(h:Int)<12:=by omega
 have v:(0:Int)<=(i:Int):=by omega
 have x:(i:Int)<12:=by omega
 have I:=hw.cell h r;have J:=hw.frozen h;have y:=hw.cell i s;have z:=hw.frozen i;have K:=zA hw;clear hw h1 q r s;rcases Nat.lt_trichotomy h i with B|heq|B
 ·rw[show max h i=i from by omega,show min h i=h from by omega] at j Hg
  have C:(h:Int)<(i:Int):=by omega
  have D:¬(i:Int)<(h:Int):=by omega
  have E:(h:Int)<=(i:Int):=by omega
  have F:¬(i:Int)<=(h:Int):=by omega
  go_enter Tryz.func209,Tryz.ntmps209
  go_wp2_with (first|(go_at_call 210;(first|(with_reducible refine n.out.mono ?_)|(with_reducible refine o.out.mono ?_));rintro e w1 ⟨rfl,rfl⟩))
  go_end0;exact⟨rfl,j.out,Hg.out⟩
 ·subst heq
  rw[Nat.max_self,Nat.min_self] at j Hg;clear y z v x;go_enter Tryz.func209,Tryz.ntmps209
  go_wp2_with (first|(go_at_call 210;(first|(with_reducible refine n.out.mono ?_)|(with_reducible refine o.out.mono ?_));rintro e w1 ⟨rfl,rfl⟩))
  go_end0;exact⟨rfl,j.out,Hg.out⟩
 ·rw[show max h i=h from by omega,show min h i=i from by omega] at j Hg
  have C:(i:Int)<(h:Int):=by omega
  have D:¬(h:Int)<(i:Int):=by omega
  have E:(i:Int)<=(h:Int):=by omega
  have F:¬(h:Int)<=(i:Int):=by omega
  go_enter Tryz.func209,Tryz.ntmps209
  go_wp2_with (first|(go_at_call 210;(first|(with_reducible refine n.out.mono ?_)|(with_reducible refine o.out.mono ?_));rintro e w1 ⟨rfl,rfl⟩))
  go_end0;exact⟨rfl,j.out,Hg.out⟩
theorem Co (w:World):Calls Tryz.prog 208 #[] w fun e w'=>e= .returned (.agg #[.int .i64 0,.int .i64 1,.int .i64 2,.int .i64 3,.int .i64 4,.int .i64 5,.int .i64 6,.int .i64 7,.int .i64 8,.int .i64 9,.int .i64 10,.int .i64 11])/\Below w.heap.size w w':=by
 go_enter Tryz.func208,Tryz.ntmps208
 go_wp2;have g:=ao (ao (aq w.heap.size w) (.cells #[.int .i64 0,.int .i64 0,.int .i64 0,.int .i64 0,.int .i64 0,.int .i64 0,.int .i64 0,.int .i64 0,.int .i64 0,.int .i64 0,.int .i64 0,.int .i64 0] 217)) (.cells #[.int .i64 0,.int .i64 0,.int .i64 0,.int .i64 0,.int .i64 0,.int .i64 0,.int .i64 0,.int .i64 0,.int .i64 0,.int .i64 0,.int .i64 0,.int .i64 0] 217);have h:((w.alloc (.cells #[.int .i64 0,.int .i64 0,.int .i64 0,.int .i64 0,.int .i64 0,.int .i64 0,.int .i64 0,.int .i64 0,.int .i64 0,.int .i64 0,.int .i64 0,.int .i64 0] 217)).alloc (.cells #[.int .i64 0,.int .i64 0,.int .i64 0,.int .i64 0,.int .i64 0,.int .i64 0,.int .i64 0,.int .i64 0,.int .i64 0,.int .i64 0,.int .i64 0,.int .i64 0] 217)).heap[w.heap.size]? =some (.cells #[.int .i64 0,.int .i64 0,.int .i64 0,.int .i64 0,.int .i64 0,.int .i64 0,.int .i64 0,.int .i64 0,.int .i64 0,.int .i64 0,.int .i64 0,.int .i64 0] 217 (0,0)):=au (a7 w _) _;have h1:en ((w.alloc (.cells #[.int .i64 0,.int .i64 0,.int .i64 0,.int .i64 0,.int .i64 0,.int .i64 0,.int .i64 0,.int .i64 0,.int .i64 0,.int .i64 0,.int .i64 0,.int .i64 0] 217)).alloc (.cells #[.int .i64 0,.int .i64 0,.int .i64 0,.int .i64 0,.int .i64 0,.int .i64 0,.int .i64 0,.int .i64 0,.int .i64 0,.int .i64 0,.int .i64 0,.int .i64 0] 217)) (w.heap.size+1) (fun i=>if i<0 then i else 0):=by
  refine⟨#[.int .i64 0,.int .i64 0,.int .i64 0,.int .i64 0,.int .i64 0,.int .i64 0,.int .i64 0,.int .i64 0,.int .i64 0,.int .i64 0,.int .i64 0,.int .i64 0],by simpa using a7 (w.alloc (.cells #[.int .i64 0,.int .i64 0,.int .i64 0,.int .i64 0,.int .i64 0,.int .i64 0,.int .i64 0,.int .i64 0,.int .i64 0,.int .i64 0,.int .i64 0,.int .i64 0] 217)) (.cells #[.int .i64 0,.int .i64 0,.int .i64 0,.int .i64 0,.int .i64 0,.int .i64 0,.int .i64 0,.int .i64 0,.int .i64 0,.int .i64 0,.int .i64 0,.int .i64 0] 217),rfl,fun i hi=>?_⟩;match i,hi with|0,_=>rfl|1,_=>rfl|2,_=>rfl|3,_=>rfl|4,_=>rfl|5,_=>rfl|6,_=>rfl|7,_=>rfl|8,_=>rfl|9,_=>rfl|10,_=>rfl|11,_=>rfl
 generalize n:w.heap.size=gb at h h1 g⊢;generalize ((w.alloc (.cells #[.int .i64 0,.int .i64 0,.int .i64 0,.int .i64 0,.int .i64 0,.int .i64 0,.int .i64 0,.int .i64 0,.int .i64 0,.int .i64 0,.int .i64 0,.int .i64 0] 217)).alloc (.cells #[.int .i64 0,.int .i64 0,.int .i64 0,.int .i64 0,.int .i64 0,.int .i64 0,.int .i64 0,.int .i64 0,.int .i64 0,.int .i64 0,.int .i64 0,.int .i64 0] 217))=W0 at h h1 g⊢;go_loopw [2,3] (fun _ i wr=>∃k:Nat,k<=12/\i= .int .i64 k/\Aside0 (wr.heap[gb]? =some (.cells #[.int .i64 0,.int .i64 0,.int .i64 0,.int .i64 0,.int .i64 0,.int .i64 0,.int .i64 0,.int .i64 0,.int .i64 0,.int .i64 0,.int .i64 0,.int .i64 0] 217 (0,0)))/\Aside0 (en wr (gb+1) (fun i=>if i<k then i else 0))/\Aside0 (Below gb w wr)) (fun _ i _=>12- (intOf i).toNat)
 case atStart=>exact⟨0,by omega,rfl,⟨h⟩,⟨h1⟩,⟨g⟩⟩
 case round=>
  obtain⟨k,hk,rfl,a,H1,l⟩:=hrel;by_cases m:k<12
  ·have r:=H1.out.cell k m
   have hf:=H1.out.frozen k;have s:(0:Int)<=(k:Int):=by omega
   have u:(k:Int)<12:=by omega
   have o:=zA (dc a.out (kK wr (gb+1) k (.int .i64 k)) (by simp));have n1:=zA ((H1.out.set k m k).congr (q:=fun i=>if i<k+1 then i else 0) (fun i hi=>by(try dsimp only);split<;>split<;>(try split)<;>omega));have p:=zA (l.out.grown (kK wr (gb+1) k (.int .i64 k)) (by have:=H1.out.lt;omega) (fun j e=>by cases e;omega));go_wp2;go_roundw
   case rel=>exact⟨k+1,by omega,by go_num,o,n1,p⟩
   case measure=>(show 12- ((k:Int)+1).toNat<12- ((k:Int)).toNat;omega)
  ·obtain rfl:k=12:=by omega
   have x:wr.cell? ⟨gb+1,0,none⟩=some (.int .i64 0):=H1.out.cell 0 (by omega);have y:wr.cell? ⟨gb,0,none⟩=some (.int .i64 0):=(ah a.out 0).trans rfl;have z:=bF a.out 0;have B:wr.cell? ⟨gb+1,1,none⟩=some (.int .i64 1):=H1.out.cell 1 (by omega);have C:wr.cell? ⟨gb,1,none⟩=some (.int .i64 0):=(ah a.out 1).trans rfl;have D:=bF a.out 1;have E:wr.cell? ⟨gb+1,2,none⟩=some (.int .i64 2):=H1.out.cell 2 (by omega);have F:wr.cell? ⟨gb,2,none⟩=some (.int .i64 0):=(ah a.out 2).trans rfl;have G:=bF a.out 2;have H:wr.cell? ⟨gb+1,3,none⟩=some (.int .i64 3):=H1.out.cell 3 (by omega);have I:wr.cell? ⟨gb,3,none⟩=some (.int .i64 0):=(ah a.out 3).trans rfl;have J:=bF a.out 3;have K:wr.cell? ⟨gb+1,4,none⟩=some (.int .i64 4):=H1.out.cell 4 (by omega);have L:wr.cell? ⟨gb,4,none⟩=some (.int .i64 0):=(ah a.out 4).trans rfl;have M:=bF a.out 4;have N:wr.cell? ⟨gb+1,5,none⟩=some (.int .i64 5):=H1.out.cell 5 (by omega);have O:wr.cell? ⟨gb,5,none⟩=some (.int .i64 0):=(ah a.out 5).trans rfl;have P:=bF a.out 5;have Q:wr.cell? ⟨gb+1,6,none⟩=some (.int .i64 6):=H1.out.cell 6 (by omega);have R:wr.cell? ⟨gb,6,none⟩=some (.int .i64 0):=(ah a.out 6).trans rfl;have S:=bF a.out 6;have T:wr.cell? ⟨gb+1,7,none⟩=some (.int .i64 7):=H1.out.cell 7 (by omega);have U:wr.cell? ⟨gb,7,none⟩=some (.int .i64 0):=(ah a.out 7).trans rfl;have V:=bF a.out 7;have W:wr.cell? ⟨gb+1,8,none⟩=some (.int .i64 8):=H1.out.cell 8 (by omega);have X:wr.cell? ⟨gb,8,none⟩=some (.int .i64 0):=(ah a.out 8).trans rfl;have Y:=bF a.out 8;have Z:wr.cell? ⟨gb+1,9,none⟩=some (.int .i64 9):=H1.out.cell 9 (by omega);have aa:wr.cell? ⟨gb,9,none⟩=some (.int .i64 0):=(ah a.out 9).trans rfl;have ab:=bF a.out 9;have ad:wr.cell? ⟨gb+1,10,none⟩=some (.int .i64 10):=H1.out.cell 10 (by omega);have ag:wr.cell? ⟨gb,10,none⟩=some (.int .i64 0):=(ah a.out 10).trans rfl;have ak:=bF a.out 10;have am:wr.cell? ⟨gb+1,11,none⟩=some (.int .i64 11):=H1.out.cell 11 (by omega);have an:wr.cell? ⟨gb,11,none⟩=some (.int .i64 0):=(ah a.out 11).trans rfl;have ap:=bF a.out 11;go_wp2;have b:=a.out;replace b:=bV b 0 (.int .i64 0);replace b:=bV b 1 (.int .i64 1);replace b:=bV b 2 (.int .i64 2);replace b:=bV b 3 (.int .i64 3);replace b:=bV b 4 (.int .i64 4);replace b:=bV b 5 (.int .i64 5);replace b:=bV b 6 (.int .i64 6);replace b:=bV b 7 (.int .i64 7);replace b:=bV b 8 (.int .i64 8);replace b:=bV b 9 (.int .i64 9);replace b:=bV b 10 (.int .i64 10);replace b:=bV b 11 (.int .i64 11);simp only[List.setIfInBounds_toArray,List.set_cons_zero,List.set_cons_succ] at b;refine bodyPost_ret (v:=.agg #[.int .i64 0,.int .i64 1,.int .i64 2,.int .i64 3,.int .i64 4,.int .i64 5,.int .i64 6,.int .i64 7,.int .i64 8,.int .i64 9,.int .i64 10,.int .i64 11]) (results_cell_row rfl _ _ gb 217 #[.int .i64 0,.int .i64 1,.int .i64 2,.int .i64 3,.int .i64 4,.int .i64 5,.int .i64 6,.int .i64 7,.int .i64 8,.int .i64 9,.int .i64 10,.int .i64 11] (0,0) _ rfl b Tryz.underlying217 rfl rfl) rfl ⟨rfl,?_⟩;iterate 12 (refine dL ?_ (by omega))
   rw[n];exact l.out
end
theorem Cp (N:Int) (A0:Option Addr) (c0:Nat) (E:List S83) (w:World) (G:Kd.C aN w A0 E.length E) (H:ez 12 E):
  Calls Tryz.prog 196 #[.agg #[.int .i64 N,.slice A0 E.length c0]] w fun e w'=>e= .returned (.agg #[.int .i64 (aK E 0:Nat),.int .i64 (aK E 1:Nat),.int .i64 (aK E 2:Nat),.int .i64 (aK E 3:Nat),.int .i64 (aK E 4:Nat),.int .i64 (aK E 5:Nat),.int .i64 (aK E 6:Nat),.int .i64 (aK E 7:Nat),.int .i64 (aK E 8:Nat),.int .i64 (aK E 9:Nat),.int .i64 (aK E 10:Nat),.int .i64 (aK E 11:Nat)])/\Below w.heap.size w w':=by
 have hu:=Tryz.underlying24;have W:=Tryz.underlying83;have M:=zA H.get;clear H;go_enter Tryz.func196,Tryz.ntmps196
 go_wp2_with (first|(go_at_call 208;refine(Co _).mono ?_;rintro e w1 ⟨rfl,hb⟩;have z:w1.heap[w.heap.size]? =some (.cells #[.int .i64 N,.slice A0 E.length c0] 24 (0,0)):=aD (au (a7 w _) _) hb;have B:w1.heap[w.heap.size+1]? =some (.cells #[.int .i64 0,.int .i64 0,.int .i64 0,.int .i64 0,.int .i64 0,.int .i64 0,.int .i64 0,.int .i64 0,.int .i64 0,.int .i64 0,.int .i64 0,.int .i64 0] 217 (0,0)):=aD (heap_alloc2_new w _ _) hb;have I:=zA (aW (ao (ao (aq w.heap.size w) _) _) hb);clear hb;have J:(w1.alloc (.cells #[.int .i64 0,.int .i64 1,.int .i64 2,.int .i64 3,.int .i64 4,.int .i64 5,.int .i64 6,.int .i64 7,.int .i64 8,.int .i64 9,.int .i64 10,.int .i64 11] 217)).cell? ⟨w.heap.size,1,none⟩=some (.slice A0 E.length c0):=(ah (au z _) 1).trans rfl))
 have o:=zA (au z (.cells #[.int .i64 0,.int .i64 1,.int .i64 2,.int .i64 3,.int .i64 4,.int .i64 5,.int .i64 6,.int .i64 7,.int .i64 8,.int .i64 9,.int .i64 10,.int .i64 11] 217));have g:=zA (au B (.cells #[.int .i64 0,.int .i64 1,.int .i64 2,.int .i64 3,.int .i64 4,.int .i64 5,.int .i64 6,.int .i64 7,.int .i64 8,.int .i64 9,.int .i64 10,.int .i64 11] 217));have n:=zA (ao I.out (.cells #[.int .i64 0,.int .i64 1,.int .i64 2,.int .i64 3,.int .i64 4,.int .i64 5,.int .i64 6,.int .i64 7,.int .i64 8,.int .i64 9,.int .i64 10,.int .i64 11] 217));have l:Aside0 (en (w1.alloc (.cells #[.int .i64 0,.int .i64 1,.int .i64 2,.int .i64 3,.int .i64 4,.int .i64 5,.int .i64 6,.int .i64 7,.int .i64 8,.int .i64 9,.int .i64 10,.int .i64 11] 217)) w1.heap.size (aK (E.take 0))):=⟨⟨#[.int .i64 0,.int .i64 1,.int .i64 2,.int .i64 3,.int .i64 4,.int .i64 5,.int .i64 6,.int .i64 7,.int .i64 8,.int .i64 9,.int .i64 10,.int .i64 11],a7 _ _,rfl,fun i hi=>by
  match i,hi with|0,_=>rfl|1,_=>rfl|2,_=>rfl|3,_=>rfl|4,_=>rfl|5,_=>rfl|6,_=>rfl|7,_=>rfl|8,_=>rfl|9,_=>rfl|10,_=>rfl|11,_=>rfl⟩⟩
 have O:w.heap.size+1<w1.heap.size:=aC B;clear z B I J;generalize (w1.alloc (.cells #[.int .i64 0,.int .i64 1,.int .i64 2,.int .i64 3,.int .i64 4,.int .i64 5,.int .i64 6,.int .i64 7,.int .i64 8,.int .i64 9,.int .i64 10,.int .i64 11] 217))=W0 at o g n l⊢;generalize w1.heap.size=gf at l O⊢;clear w1;go_loopw [10] (fun i wr=>∃k:Nat,k<=E.length/\i= .int .i64 k/\Aside0 (wr.heap[w.heap.size]? =some (.cells #[.int .i64 N,.slice A0 E.length c0] 24 (0,0)))/\Aside0 (wr.heap[w.heap.size+1]? =some (.cells #[.int .i64 0,.int .i64 0,.int .i64 0,.int .i64 0,.int .i64 0,.int .i64 0,.int .i64 0,.int .i64 0,.int .i64 0,.int .i64 0,.int .i64 0,.int .i64 0] 217 (0,0)))/\Aside0 (en wr gf (aK (E.take k)))/\Aside0 (Below w.heap.size w wr)) (fun i _=>E.length- (intOf i).toNat)
 case atStart=>exact⟨0,by omega,rfl,o,g,l,n⟩
 case round=>
  clear o g l n;obtain⟨k,hk,rfl,o,g,l,p⟩:=hrel;by_cases K:k<E.length
  ·obtain⟨h1,D,u,F, -, -⟩:=M.out k K
   have L:=Lib.hid (Cm E k K);obtain⟨ad,rfl,q,r,s⟩:=eN G k (by omega) (by omega);rw[aG] at q r s;generalize af E k=x at h1 D u F q r s L;obtain⟨a,b,m⟩:=x;simp only at h1 D u F q r s;obtain⟨a,rfl⟩:=Int.eq_ofNat_of_zero_le h1;obtain⟨b,rfl⟩:=Int.eq_ofNat_of_zero_le u;have q:=fU p.out q;have r:=fU p.out r;have s:=fU p.out s;have X:(0:Int)<=(k:Int):=by omega
   have Y:(k:Int)<(E.length:Int):=by omega
   have Z:=G.2.1;have aa:wrap64 ((k:Int)+1)=(k:Int)+1:=by unfold wrap64;omega
   have P:=zA (l.out.alloc (.cells #[.int .i64 a,.int .i64 b,.int .i64 m] 83));have Q:=zA (au o.out (.cells #[.int .i64 a,.int .i64 b,.int .i64 m] 83));have R:=zA (au g.out (.cells #[.int .i64 a,.int .i64 b,.int .i64 m] 83));have n:=zA (ao p.out (.cells #[.int .i64 a,.int .i64 b,.int .i64 m] 83));have S:a<12:=by omega
   have hb:b<12:=by omega
   clear h1 D u F;go_wp2_with (first|(go_at_call 209;refine(Cn gf a b _ _ (uX _) S hb P.out).mono ?_;rintro e w2 ⟨rfl,hf,y⟩;have T:=zA hf;have n1:=zA (dc Q.out y (by simp;omega));have U:=zA (dc R.out y (by simp;omega));have V:=zA (Below.grown n.out y n.out.size (fun j e=>by cases e;omega));clear hf y))
   go_roundw
   case rel=>exact⟨k+1,by omega,by go_num,n1,U,⟨by rw[L.out];exact T.out⟩,V⟩
   case measure=>(show E.length- ((k:Int)+1).toNat<E.length- ((k:Int)).toNat;omega)
  ·obtain rfl:k=E.length:=by omega
   rw[List.take_length] at l;have ab:=l.out.cell 0 (by omega);have ag:wr.cell? ⟨w.heap.size+1,0,none⟩=some (.int .i64 0):=(ah g.out 0).trans rfl;have ak:=bF g.out 0;have J:=l.out.cell 1 (by omega);have am:wr.cell? ⟨w.heap.size+1,1,none⟩=some (.int .i64 0):=(ah g.out 1).trans rfl;have an:=bF g.out 1;have ap:=l.out.cell 2 (by omega);have ar:wr.cell? ⟨w.heap.size+1,2,none⟩=some (.int .i64 0):=(ah g.out 2).trans rfl;have av:=bF g.out 2;have aB:=l.out.cell 3 (by omega);have aF:wr.cell? ⟨w.heap.size+1,3,none⟩=some (.int .i64 0):=(ah g.out 3).trans rfl;have aL:=bF g.out 3;have aO:=l.out.cell 4 (by omega);have aP:wr.cell? ⟨w.heap.size+1,4,none⟩=some (.int .i64 0):=(ah g.out 4).trans rfl;have aR:=bF g.out 4;have aS:=l.out.cell 5 (by omega);have a0:wr.cell? ⟨w.heap.size+1,5,none⟩=some (.int .i64 0):=(ah g.out 5).trans rfl;have a1:=bF g.out 5;have a2:=l.out.cell 6 (by omega);have a3:wr.cell? ⟨w.heap.size+1,6,none⟩=some (.int .i64 0):=(ah g.out 6).trans rfl;have a4:=bF g.out 6;have a5:=l.out.cell 7 (by omega);have a9:wr.cell? ⟨w.heap.size+1,7,none⟩=some (.int .i64 0):=(ah g.out 7).trans rfl;have be:=bF g.out 7;have bf:=l.out.cell 8 (by omega);have bg:wr.cell? ⟨w.heap.size+1,8,none⟩=some (.int .i64 0):=(ah g.out 8).trans rfl;have bi:=bF g.out 8;have bk:=l.out.cell 9 (by omega);have bn:wr.cell? ⟨w.heap.size+1,9,none⟩=some (.int .i64 0):=(ah g.out 9).trans rfl;have bo:=bF g.out 9;have bv:=l.out.cell 10 (by omega);have bw:wr.cell? ⟨w.heap.size+1,10,none⟩=some (.int .i64 0):=(ah g.out 10).trans rfl;have bx:=bF g.out 10;have b0:=l.out.cell 11 (by omega);have b1:wr.cell? ⟨w.heap.size+1,11,none⟩=some (.int .i64 0):=(ah g.out 11).trans rfl;have b2:=bF g.out 11;go_wp2;have h:=g.out;replace h:=bV h 0 (.int .i64 (aK E 0:Nat));replace h:=bV h 1 (.int .i64 (aK E 1:Nat));replace h:=bV h 2 (.int .i64 (aK E 2:Nat));replace h:=bV h 3 (.int .i64 (aK E 3:Nat));replace h:=bV h 4 (.int .i64 (aK E 4:Nat));replace h:=bV h 5 (.int .i64 (aK E 5:Nat));replace h:=bV h 6 (.int .i64 (aK E 6:Nat));replace h:=bV h 7 (.int .i64 (aK E 7:Nat));replace h:=bV h 8 (.int .i64 (aK E 8:Nat));replace h:=bV h 9 (.int .i64 (aK E 9:Nat));replace h:=bV h 10 (.int .i64 (aK E 10:Nat));replace h:=bV h 11 (.int .i64 (aK E 11:Nat));simp only[List.setIfInBounds_toArray,List.set_cons_zero,List.set_cons_succ] at h;refine bodyPost_ret (v:=.agg #[.int .i64 (aK E 0:Nat),.int .i64 (aK E 1:Nat),.int .i64 (aK E 2:Nat),.int .i64 (aK E 3:Nat),.int .i64 (aK E 4:Nat),.int .i64 (aK E 5:Nat),.int .i64 (aK E 6:Nat),.int .i64 (aK E 7:Nat),.int .i64 (aK E 8:Nat),.int .i64 (aK E 9:Nat),.int .i64 (aK E 10:Nat),.int .i64 (aK E 11:Nat)]) (results_cell_row rfl _ _ (w.heap.size+1) 217 #[.int .i64 (aK E 0:Nat),.int .i64 (aK E 1:Nat),.int .i64 (aK E 2:Nat),.int .i64 (aK E 3:Nat),.int .i64 (aK E 4:Nat),.int .i64 (aK E 5:Nat),.int .i64 (aK E 6:Nat),.int .i64 (aK E 7:Nat),.int .i64 (aK E 8:Nat),.int .i64 (aK E 9:Nat),.int .i64 (aK E 10:Nat),.int .i64 (aK E 11:Nat)] (0,0) _ rfl h Tryz.underlying217 rfl rfl) rfl ⟨rfl,?_⟩;iterate 12 (refine dL ?_ (by simp))
   exact p.out
end Go.Proofs.YtffdiakgjakngaaGreat.P


namespace Go.Proofs.YtffdiakgjakngaaGreat.P
open Go.RowKit Go.Maps Go.Proofs.YtffdiakgjakngaaGreatW.PrintWords Go.Proofs.YtffdiakgjakngaaGreatW.PrintLast Go.Proofs.YtffdiakgjakngaaGreatW.PrintMore
set_option linter.unusedVariables false
set_option linter.unusedSimpArgs false
set_option maxHeartbeats 8000000
set_option maxRecDepth 100000
def bY (p:Nat->Nat):Nat->Nat
 |0=>0
 |u+1=>bY p u+(if rootOf p u=u then 1 else 0)
theorem nA (p:Nat->Nat):∀u,bY p u<=u
 |0=>aI _
 |u+1=>by
  have:=nA p u;simp only[bY];split<;>omega
theorem mC (p:Nat->Nat) (v:Nat):rootOf p (rootOf p v)=rootOf p v:=by
 induction v using Nat.strongRecOn with
 |ind v a=>
  by_cases h:p v<v
  ·rw[show rootOf p v=rootOf p (p v) by rw[rootOf,dif_pos h]]
   exact a _ h
  ·have e:rootOf p v=v:=by rw[rootOf,dif_neg h]
   rw[e,e]
theorem qZ (w:World):(zeroValue 3).run Tryz.prog w= .ok (.int .i64 0) w:=by kernel_rfl
theorem q6:Keyed Tryz.prog 3:=int_keyed Tryz.underlying3
theorem q9 {a:Nat} (h:a<=1000):keyOf Tryz.prog 3 (.int .i64 a)=some (.int .i64 a):=keyOf_int_mk Tryz.underlying3 (WalkArith.wf_i64 (by omega))
def lK (p:Nat->Nat) (k m:Nat) (D:DataW Unit):Prop:=IsMap D/\∀r,r<k->rootOf p r=r->∃c:Nat,c<m/\D.atKey (.int .i64 r) (.lit (.int .i64 0))= .lit (.int .i64 c)
theorem lK.skip {p:Nat->Nat} {k m:Nat} {D:DataW Unit} (h:lK p k m D) (b:rootOf p k≠k):lK p (k+1) m D:=by
 refine⟨h.1,fun r g a=>?_⟩;by_cases e:r=k
 ·subst e;exact absurd a b
 ·exact h.2 r (by omega) a
theorem lK.put {p:Nat->Nat} {k m:Nat} {D:DataW Unit} (h:lK p k m D) (hk:k<=1000):lK p (k+1) (m+1) (D.put (.int .i64 k) (.lit (.int .i64 m))):=by
 refine⟨h.1.put _ _,fun r g a=>?_⟩;by_cases e:r=k
 ·subst e
  exact⟨m,by omega,atKey_put_same h.1 (by simp[WideAt.IsKeyLit]) _ _⟩
 ·obtain⟨c,i,b⟩:=h.2 r (by omega) a
  refine⟨c,by omega,?_⟩;rw[atKey_put_other (fun e2=>e (by injection e2;omega))];exact b
theorem uZ {W a:World} {b g0 cap c:Nat} {X:List (List Int)} {oki:Nat->Prop} {ev s:Value} {e:List Int} (hH:Kd.H (Kd.slice 3 (Kd.int .i64)) 25 W b (fun q=>True/\¬W.heap.size<=q) (.slice (some ⟨g0,0,none⟩) X.length cap) X (c:Int) oki [ev]) (m:c<X.length)
  (i:W.drew.grownBy a ev.ownBlock) (k:∀q,ev.ownBlock=some q->oki q) (l:(Kd.int .i64).R 3 a b (fun q=>oki q\/W.heap.size<=q) s e) (n:g0<W.heap.size):
  Kd.S (Kd.slice 3 (Kd.int .i64)) 25 (a.setCell ⟨g0,c,none⟩ s) b (fun _=>True) (.slice (some ⟨g0,0,none⟩) X.length cap) (X.set c e):=by
 have h:=(Kd.AQ (d:=Kd.slice 3 (Kd.int .i64)) (okg:=fun q=>W.heap.size<=q) (ok:=fun _=>True) (okp:=fun q=>oki q\/W.heap.size<=q) (seg:=[s]) (j:=0) (x':=e) (Kd.tS (Kd.AL hH) i k) (by omega) (by omega) (by simp[Kd.slice]) (Kd.lu l) (fun q g=>g) (fun q g=>⟨trivial,by omega⟩)).1;rw[aG] at h;simpa [Kd.slice,World.setCells] using h
theorem u_ {X:List (List Int)} {c k:Nat} {y:List Int} {x:Int} (h:∀z∈X,z.length<=k) (b:y.length<=k):∀z∈X.set c (y++[x]),z.length<=k+1:=fun z a=>by
 rcases List.mem_or_eq_of_mem_set a with h1|h1
 ·exact Nat.le_succ_of_le (h z h1)
 ·subst h1;simp;omega
theorem Cq (g n:Nat) (p:Nat->Nat) (w:World) (hn:n<=12) (hf:iG p) (hw:en w g p):
  Calls Tryz.prog 197 #[.pointer (some ⟨g,0,none⟩),.int .i64 n] w fun e w'=>∃A c,e= .returned (.slice A (bY p n) c)/\Below w.heap.size w w':=by
 have c1:=@run_makeMap Tryz.prog;have d1:=hw.lt;go_enter Tryz.func197,Tryz.ntmps197
 go_wp2;have hB:=ao (aq w.heap.size w) (.map #[] 0);have hM:=World.ownsMap_made (H:=Unit) w Tryz.prog 3 (plainElem Tryz.prog 3);generalize ci:w.heap.size=b at hM hB⊢;generalize (w.alloc (.map #[] 0))=W0 at hM hB⊢;clear c1;go_loopw [5,11] (fun v i wr=>∃(k:Nat) (xs:List (List Int)) (D:DataW Unit),k<=n/\i= .int .i64 k/\Aside0 (xs.length=bY p k)/\Aside0 (∀y∈xs,y.length<=k)/\Aside0 (Kd.S (Kd.slice 3 (Kd.int .i64)) 25 wr b (fun _=>True) v xs)/\Aside0 (wr.ownsMap Tryz.prog 3 (plainElem Tryz.prog 3) b k D)/\Aside0 (lK p k (bY p k) D)/\Aside0 (Below b w wr)) (fun _ i _=>n- (intOf i).toNat)
 case atStart=>exact⟨0,[],_,by omega,rfl,⟨rfl⟩,⟨fun y hy=>absurd hy (by simp)⟩,⟨Kd.ic _ _ _ _ _⟩,⟨hM⟩,⟨isMap_empty,fun r hr=>absurd hr (by omega)⟩,⟨hB⟩⟩
 case round=>
  clear hM hB;obtain⟨k,xs,D,hk,rfl,Y,HY,Z,HM,HP,HB⟩:=hrel;by_cases d2:k<n
  ·have hle:=iZ p k
   have d3:=nA p k;have CR:=zA (qY g k p wr hf (by omega) (hw.below (by rw[ci];exact HB.out)));have cj:=Lib.hid (mC p k);have Hs:Hid (bY p (k+1)=bY p k+(if rootOf p k=k then 1 else 0)):=Lib.hid rfl;by_cases F:rootOf p k=k
   ·have cn:=Lib.hid F
    rw[F] at CR;clear F hle;obtain⟨Ao,co,rfl⟩:=Kd.mh Z.out;have d4:xs.length<=12:=by have:=Y.out;omega
    obtain⟨es,ck,s, -⟩:=HM.out;have c3:some b≠(Value.slice Ao xs.length co).ownBlock:=fun e=>by
     obtain⟨cs,u⟩:=Kd.oI Z.out b e.symm;rw[s] at u;cases u
    have c4:=zA (Kd.lC (ok':=fun q=>q≠b) (Kd.m_ Z.out) (fun q m e=>by obtain⟨t,_,cs,u⟩:=m.2.2.2;subst e;rw[s] at u;cases u));clear s es ck;have bo:=HP.out.put (by omega);have G:bY p (k+1)=bY p k+1:=by rw[Hs.out,if_pos cn.out]
    rw[<-G,<-Y.out] at bo;have bg:bY p (k+1)=xs.length+1:=by rw[G,Y.out]
    have c5:=zA bg;clear G bg;have c6:=zA bo;clear bo;go_wp2_with (first|(go_at_call 210;refine CR.out.mono ?_;rintro e w1 ⟨rfl,rfl⟩)|(at_mapUpdate;refine wpList_mapUpdate_own _ rfl _ _ _ 229 rfl 3 3 q6 Tryz.underlying229 _ b k _ rfl HM.out (by unfold maxLen;omega) _ _ _ rfl rfl (q9 (by omega)) _ [] (plainElem_int Tryz.underlying3 (WalkArith.wf_i64 (by omega))) ?_;intro w2 cq bv;have cr:=zA cq;have c7:=zA (Kd.tM c4.out bv (fun q m e=>m (by injection e)));have c8:=zA (HB.out.grown bv (by have:=HM.out.lt;omega) (fun q e=>by injection e with e;omega));clear cq bv)|(at_builtin;refine Kd.AI (Kd.slice 3 (Kd.int .i64)) (w0:=w) b rfl (.tmp 24) (.tmp 25) 73 25 (.slice none 0 0) 24 rfl Tryz.underlying73 jU rfl (by decide) (by omega) _ xs [] [.slice none 0 0] (fun _=>True) (fun _=>False) rfl rfl (Kd.lu (Kd.dm _ _ _ _ _)) (fun _ hk=>hk.elim) (fun _ _=>trivial) (Kd.lC c7.out (fun q _=>⟨trivial,fun h=>h⟩)) c8.out (by have:=cr.out.lt;omega) (by omega) ?_;intro v3 W ct cv cx c9;have I:=zA ct;have am:=zA cv;have l:=zA (cr.out.kept cx c3);have J:=c6;clear ct cv cx c9))
    generalize d5:D.put (.int .i64 k) (.lit (.int .i64 xs.length))=K at l J;have aa:Aside0 ((xs++[[]]).length=bY p (k+1)):=⟨by rw[c5.out];simp⟩;have ab:Aside0 (∀y∈xs++[[]],y.length<=k):=⟨fun y hy=>by
     rcases List.mem_append.1 hy with h|h
     ·exact HY.out y h
     ·simp at h;subst h;simp⟩
    generalize hX:xs++[[]]=X at I aa ab;obtain⟨c,bw,an⟩:=J.out.2 k (by omega) cn.out;have C:∀w':World,w'.ownsMap Tryz.prog 3 (plainElem Tryz.prog 3) b (k+1) K->(Instr.lookup 229 (.map (some b)) (.int .i64 (k:Nat)) false).run Tryz.prog w'= .ok (.int .i64 c) w':=fun w' h=>by
     obtain⟨c',bx,o,_⟩:=h.lookup_int q6 Tryz.underlying229 Tryz.underlying3 (qZ _) (q9 (a:=k) (by omega));rw[an] at o;injection o with o
     injection o with _ o
     rw[bx,o]
    have b0:=aa.out;have b1:=nA p (k+1);obtain⟨g0,cap,hv,dd,L,cells,M⟩:=Kd.qz I.out (by omega)
    (first|subst hv|(injection hv with b2 _ b3;subst b2;subst b3))
    obtain⟨oki,cc,b4,⟨ev,rfl,j⟩,ar,av,N,hH⟩:=Kd.tT (Kd.lC (ok':=fun q=>True/\¬W.heap.size<=q) (Kd.m_ I.out) (fun q m=>⟨trivial,by have:=m.2.2.1;omega⟩)) [] (c:Int) (by omega) (by omega);have O:(X.getD (c:Int).toNat []).length<=k:=by
     have P:c<X.length:=by omega
     rw[aG,aX,bB P];exact ab.out _ (List.getElem_mem P)
    have aB:W.cell? ⟨g0,c,none⟩=some ev:=by have h1:=ar 0 _ rfl;rw[aG] at h1;simpa [Kd.slice] using h1
    have aF:W.frozen? ⟨g0,c,none⟩=false:=by have h1:=av 0;rw[aG] at h1;simpa [Kd.slice] using h1
    rw[aG] at j O;have b5:=Lib.hid (show (X.getD (c:Int).toNat [])=X.getD c [] by rw[aG]);generalize X.getD c []=y at j O b5;obtain⟨Q,ce,rfl⟩:=Kd.bh j;have aL:some b≠(Value.slice Q y.length ce).ownBlock:=fun e=>by
     obtain⟨cs,u⟩:=Kd.gN j b e.symm;obtain⟨es,ck,s, -⟩:=l.out;rw[s] at u;cases u
    have dk:g0≠b:=fun e=>by
     subst e;obtain⟨es,ck,s, -⟩:=l.out;rw[s] at M;cases M
    have aO:some g0≠(Value.slice Q y.length ce).ownBlock:=fun e=>(N g0 (j.1 g0 e.symm)).2 rfl
    have HR:=zA (Kd.bj (Kd.a_ (ok':=fun q=>oki q\/W.heap.size<=q) j (fun q m=>.inl m)));have aR:=zA hH;have aS:=zA j.1;have b6:=zA N;clear hH ar av j N M cells b4;have b_:=C _ l.out.drew;have b':=C _ ((l.out.alloc (.cells #[.int .i64 k] 3)).drew);have dl:(0:Int)<=(c:Int):=by omega
    have ds:(c:Int)<(X.length:Int):=by omega
    have a0:=zA C;have dv:c<12:=by omega
    have bg:X.length<=12:=by omega
    have P:c<X.length:=by omega
    clear C an bw b0 b1;go_region_law ((refine Kd.qg (Kd.int .i64) (w0:=w) (W:=W.drew) b (by rfl) (.tmp 36) (.tmp 38) 25 3 (.int .i64 0) 8 (by rfl) Tryz.underlying25 gz rfl (by decide) (by omega) _ y (k:Int) [.int .i64 k] (fun q=>oki q\/W.heap.size<=q) (fun _=>False) (by rfl) (by rfl) rfl (fun _ hk=>hk.elim) (fun q m=>.inr m) HR.out (bR am.out) (by have:=am.out.size;show b<=W.heap.size;omega) (by omega) ?_;intro v4 x R a1 B ca;obtain⟨T,U,a2⟩:=Kd.bh R;rw[show (y++[(k:Int)]).length=y.length+1 by simp] at a2;subst a2;have a3:=zA R;have V:=zA a1;have E:=zA B;have cb:=a0.out _ (l.out.drew.kept B aL);have cd:x.cell? ⟨g0,c,none⟩=some (.slice Q y.length ce):=(B.cell_far ⟨g0,c,none⟩ L aO).trans aB;have cf:x.frozen? ⟨g0,c,none⟩=false:=(B.frozen_far ⟨g0,c,none⟩ L aO).trans aF;clear R a1 B ca))
    all_goals have n0:=zA (uZ aR.out (by omega) E.out aS.out a3.out L)
    all_goals have n1:=zA ((l.out.drew.kept E.out aL).kept (kK x g0 c (.slice T (y.length+1) U)) (by simp;omega))
    all_goals have n2:=zA (V.out.grown (kK x g0 c (.slice T (y.length+1) U)) (by have:=V.out.size;have:=l.out.lt;have:W.drew.heap.size=W.heap.size:=rfl;have:=E.out.size;omega) (fun q e=>by injection e with e;omega))
    all_goals have n3:=zA (J.out)
    all_goals have n4:Aside0 (∀z∈X.set c (y++[(k:Int)]),z.length<=k+1):=⟨u_ ab.out O⟩
    all_goals have n5:Aside0 ((X.set c (y++[(k:Int)])).length=X.length):=⟨List.length_set⟩
    all_goals clear b_ b' cb aB aF cd cf E V a3 a0 aR aS b6 HR
    all_goals generalize (x.setCell ⟨g0,c,none⟩ (.slice T (y.length+1) U))=w5 at n0 n1 n2⊢
    all_goals go_wp2
    all_goals exact⟨⟨k+1,_,K,by omega,by go_num,⟨by rw[n5.out];exact aa.out⟩,n4,n0,n1,n3,n2⟩,(show n- ((k:Int)+1).toNat<n- ((k:Int)).toNat by omega)⟩
   ·have d0:rootOf p k<k:=by omega
    have d7:=Lib.hid F;have J:=zA (HP.out.skip F);have G:bY p (k+1)=bY p k:=by rw[Hs.out,if_neg F];rfl
    have aa:=zA (Y.out.trans G.symm);rw[<-G] at J;clear G F hle;have ab:=HY;have l:=zA (HM.out.mono (Nat.le_succ k));have I:=Z;have am:=HB;clear HM Z HB HP Y HY;obtain⟨Ao,co,rfl⟩:=Kd.mh I.out;obtain⟨W,rfl⟩:∃W,W=wr:=⟨_,rfl⟩;obtain⟨X,rfl⟩:∃X,X=xs:=⟨_,rfl⟩;obtain⟨K,rfl⟩:∃K,K=D:=⟨_,rfl⟩;generalize c0:rootOf p k=r at d0 CR cj;have d8:=Lib.hid c0;clear c0;have d9:((r:Nat):Int)≠(k:Int):=by omega
    go_wp2_with (first|(go_at_call 210;refine CR.out.mono ?_;rintro e w1 ⟨rfl,rfl⟩))
    obtain⟨c,bw,an⟩:=J.out.2 r (by omega) cj.out;have C:∀w':World,w'.ownsMap Tryz.prog 3 (plainElem Tryz.prog 3) b (k+1) K->(Instr.lookup 229 (.map (some b)) (.int .i64 (r:Nat)) false).run Tryz.prog w'= .ok (.int .i64 c) w':=fun w' h=>by
     obtain⟨c',bx,o,_⟩:=h.lookup_int q6 Tryz.underlying229 Tryz.underlying3 (qZ _) (q9 (a:=r) (by omega));rw[an] at o;injection o with o
     injection o with _ o
     rw[bx,o]
    have b0:=aa.out;have b1:=nA p (k+1);obtain⟨g0,cap,hv,dd,L,cells,M⟩:=Kd.qz I.out (by omega)
    (first|subst hv|(injection hv with b2 _ b3;subst b2;subst b3))
    obtain⟨oki,cc,b4,⟨ev,rfl,j⟩,ar,av,N,hH⟩:=Kd.tT (Kd.lC (ok':=fun q=>True/\¬W.heap.size<=q) (Kd.m_ I.out) (fun q m=>⟨trivial,by have:=m.2.2.1;omega⟩)) [] (c:Int) (by omega) (by omega);have O:(X.getD (c:Int).toNat []).length<=k:=by
     have P:c<X.length:=by omega
     rw[aG,aX,bB P];exact ab.out _ (List.getElem_mem P)
    have aB:W.cell? ⟨g0,c,none⟩=some ev:=by have h1:=ar 0 _ rfl;rw[aG] at h1;simpa [Kd.slice] using h1
    have aF:W.frozen? ⟨g0,c,none⟩=false:=by have h1:=av 0;rw[aG] at h1;simpa [Kd.slice] using h1
    rw[aG] at j O;have b5:=Lib.hid (show (X.getD (c:Int).toNat [])=X.getD c [] by rw[aG]);generalize X.getD c []=y at j O b5;obtain⟨Q,ce,rfl⟩:=Kd.bh j;have aL:some b≠(Value.slice Q y.length ce).ownBlock:=fun e=>by
     obtain⟨cs,u⟩:=Kd.gN j b e.symm;obtain⟨es,ck,s, -⟩:=l.out;rw[s] at u;cases u
    have dk:g0≠b:=fun e=>by
     subst e;obtain⟨es,ck,s, -⟩:=l.out;rw[s] at M;cases M
    have aO:some g0≠(Value.slice Q y.length ce).ownBlock:=fun e=>(N g0 (j.1 g0 e.symm)).2 rfl
    have HR:=zA (Kd.bj (Kd.a_ (ok':=fun q=>oki q\/W.heap.size<=q) j (fun q m=>.inl m)));have aR:=zA hH;have aS:=zA j.1;have b6:=zA N;clear hH ar av j N M cells b4;have b_:=C _ l.out.drew;have b':=C _ ((l.out.alloc (.cells #[.int .i64 k] 3)).drew);have dl:(0:Int)<=(c:Int):=by omega
    have ds:(c:Int)<(X.length:Int):=by omega
    have a0:=zA C;have dv:c<12:=by omega
    have bg:X.length<=12:=by omega
    have P:c<X.length:=by omega
    clear C an bw b0 b1;go_region_law ((refine Kd.qg (Kd.int .i64) (w0:=w) (W:=W.drew) b (by rfl) (.tmp 36) (.tmp 38) 25 3 (.int .i64 0) 8 (by rfl) Tryz.underlying25 gz rfl (by decide) (by omega) _ y (k:Int) [.int .i64 k] (fun q=>oki q\/W.heap.size<=q) (fun _=>False) (by rfl) (by rfl) rfl (fun _ hk=>hk.elim) (fun q m=>.inr m) HR.out (bR am.out) (by have:=am.out.size;show b<=W.heap.size;omega) (by omega) ?_;intro v4 x R a1 B ca;obtain⟨T,U,a2⟩:=Kd.bh R;rw[show (y++[(k:Int)]).length=y.length+1 by simp] at a2;subst a2;have a3:=zA R;have V:=zA a1;have E:=zA B;have cb:=a0.out _ (l.out.drew.kept B aL);have cd:x.cell? ⟨g0,c,none⟩=some (.slice Q y.length ce):=(B.cell_far ⟨g0,c,none⟩ L aO).trans aB;have cf:x.frozen? ⟨g0,c,none⟩=false:=(B.frozen_far ⟨g0,c,none⟩ L aO).trans aF;clear R a1 B ca))
    all_goals have n0:=zA (uZ aR.out (by omega) E.out aS.out a3.out L)
    all_goals have n1:=zA ((l.out.drew.kept E.out aL).kept (kK x g0 c (.slice T (y.length+1) U)) (by simp;omega))
    all_goals have n2:=zA (V.out.grown (kK x g0 c (.slice T (y.length+1) U)) (by have:=V.out.size;have:=l.out.lt;have:W.drew.heap.size=W.heap.size:=rfl;have:=E.out.size;omega) (fun q e=>by injection e with e;omega))
    all_goals have n3:=zA (J.out)
    all_goals have n4:Aside0 (∀z∈X.set c (y++[(k:Int)]),z.length<=k+1):=⟨u_ ab.out O⟩
    all_goals have n5:Aside0 ((X.set c (y++[(k:Int)])).length=X.length):=⟨List.length_set⟩
    all_goals clear b_ b' cb aB aF cd cf E V a3 a0 aR aS b6 HR
    all_goals generalize (x.setCell ⟨g0,c,none⟩ (.slice T (y.length+1) U))=w5 at n0 n1 n2⊢
    all_goals go_wp2
    all_goals exact⟨⟨k+1,_,K,by omega,by go_num,⟨by rw[n5.out];exact aa.out⟩,n4,n0,n1,n3,n2⟩,(show n- ((k:Int)+1).toNat<n- ((k:Int)).toNat by omega)⟩
  ·obtain rfl:k=n:=by omega
   go_wp2;go_ret;obtain⟨A,c,rfl⟩:=Kd.mh Z.out;exact⟨A,c,by rw[Y.out];rfl,by rw[ci];exact HB.out⟩
end Go.Proofs.YtffdiakgjakngaaGreat.P
namespace Go.Proofs.YtffdiakgjakngaaGreat.P
open Go.RowKit Go.Proofs.YtffdiakgjakngaaGreatW.PrintWords Go.Proofs.YtffdiakgjakngaaGreatW.PrintLast Go.Proofs.YtffdiakgjakngaaGreatW.PrintMore
set_option linter.unusedVariables false
set_option linter.unusedSimpArgs false
set_option maxHeartbeats 8000000
set_option maxRecDepth 100000
def jz (N:Int) (E:List S83):Bool:=decide (0<=N/\N<=12)&&iT 12 E
def cz.f (k:Nat) (N:Int) (E:List S83):Option (Bool×Int):=
 (bc.f k N E).bind fun t=>if t=0 then(if jz N E=true then some (decide (bY (aK E) N.toNat=1),0) else none) else some (false,t)
theorem cz.mono:∀a b k,ai (cz.f k a b) (cz.f (k+1) a b):=by
 intro a b k;unfold cz.f;exact ai.bind (bc.mono _ _ _) (fun _=>ai.refl _)
theorem Cr (k:Nat) (N:Int) (A0:Option Addr) (c0:Nat) (E:List S83) (t:Int) (w:World) (b:Kd.C aN w A0 E.length E) (g:E.length<=c0) (a:bc.f k N E=some t) (j:t≠0):
  Calls Tryz.prog 172 #[.agg #[.int .i64 N,.slice A0 E.length c0]] w fun e w'=>e= .returned (.tuple #[.slice none 0 0,.int .i64 t])/\Below w.heap.size w w':=by
 have hu:=Tryz.underlying24;have h:=zA a;clear a;go_enter Tryz.func172,Tryz.ntmps172
 go_wp2_with (first|(go_at_call 64;refine(bc.calls k N A0 c0 E t _ (Kd.bz b _) g h.out).mono ?_;rintro e w1 ⟨rfl,hb⟩;have i:=zA (aW (ao (aq w.heap.size w) _) hb);clear hb))
 go_ret2;exact⟨rfl,i.out⟩
theorem Cs (E:List S83):∀i,i<12->(#[.int .i64 (aK E 0:Nat),.int .i64 (aK E 1:Nat),.int .i64 (aK E 2:Nat),.int .i64 (aK E 3:Nat),.int .i64 (aK E 4:Nat),.int .i64 (aK E 5:Nat),.int .i64 (aK E 6:Nat),.int .i64 (aK E 7:Nat),.int .i64 (aK E 8:Nat),.int .i64 (aK E 9:Nat),.int .i64 (aK E 10:Nat),.int .i64 (aK E 11:Nat)]:Array Value)[i]? =some (.int .i64 (aK E i:Nat)):=fun i hi=>by
 match i,hi with|0,_=>rfl|1,_=>rfl|2,_=>rfl|3,_=>rfl|4,_=>rfl|5,_=>rfl|6,_=>rfl|7,_=>rfl|8,_=>rfl|9,_=>rfl|10,_=>rfl|11,_=>rfl
theorem Ct (k:Nat) (n:Nat) (A0:Option Addr) (c0:Nat) (E:List S83) (w:World) (b:Kd.C aN w A0 E.length E) (j:E.length<=c0) (g:bc.f k n E=some 0) (hn:n<=12) (h:ez 12 E):
  Calls Tryz.prog 172 #[.agg #[.int .i64 n,.slice A0 E.length c0]] w fun e w'=>∃A c,e= .returned (.tuple #[.slice A (bY (aK E) n) c,.int .i64 0])/\Below w.heap.size w w':=by
 have hu:=Tryz.underlying24;have l:=zA g;clear g;have m:=zA h;clear h;go_enter Tryz.func172,Tryz.ntmps172
 go_wp2_with (first|(go_at_call 64;refine(bc.calls k n A0 c0 E 0 _ (Kd.bz b _) j l.out).mono ?_;rintro e w1 ⟨rfl,hb⟩;have a:w1.heap[w.heap.size]? =some (.cells #[.int .i64 n,.slice A0 E.length c0] 24 (0,0)):=aD (a7 w _) hb;have o:=zA (Kd.ax b (aW (ao (aq w.heap.size w) _) hb));have p:=zA (aW (ao (aq w.heap.size w) _) hb);clear hb;have v:w1.cell? ⟨w.heap.size,0,none⟩=some (.int .i64 n):=(ah a 0).trans rfl;have x:w1.cell? ⟨w.heap.size,1,none⟩=some (.slice A0 E.length c0):=(ah a 1).trans rfl)|(go_at_call 196;(with_reducible refine(Cp _ _ _ E _ o.out m.out).mono ?_);rintro e w2 ⟨rfl,hb⟩;have i:=au (aD a hb) (.cells #[.int .i64 (aK E 0:Nat),.int .i64 (aK E 1:Nat),.int .i64 (aK E 2:Nat),.int .i64 (aK E 3:Nat),.int .i64 (aK E 4:Nat),.int .i64 (aK E 5:Nat),.int .i64 (aK E 6:Nat),.int .i64 (aK E 7:Nat),.int .i64 (aK E 8:Nat),.int .i64 (aK E 9:Nat),.int .i64 (aK E 10:Nat),.int .i64 (aK E 11:Nat)] 217);have y:(w2.alloc (.cells #[.int .i64 (aK E 0:Nat),.int .i64 (aK E 1:Nat),.int .i64 (aK E 2:Nat),.int .i64 (aK E 3:Nat),.int .i64 (aK E 4:Nat),.int .i64 (aK E 5:Nat),.int .i64 (aK E 6:Nat),.int .i64 (aK E 7:Nat),.int .i64 (aK E 8:Nat),.int .i64 (aK E 9:Nat),.int .i64 (aK E 10:Nat),.int .i64 (aK E 11:Nat)] 217)).cell? ⟨w.heap.size,0,none⟩=some (.int .i64 n):=(ah i 0).trans rfl;have q:=zA (ao (aW p.out hb) (.cells #[.int .i64 (aK E 0:Nat),.int .i64 (aK E 1:Nat),.int .i64 (aK E 2:Nat),.int .i64 (aK E 3:Nat),.int .i64 (aK E 4:Nat),.int .i64 (aK E 5:Nat),.int .i64 (aK E 6:Nat),.int .i64 (aK E 7:Nat),.int .i64 (aK E 8:Nat),.int .i64 (aK E 9:Nat),.int .i64 (aK E 10:Nat),.int .i64 (aK E 11:Nat)] 217));have r:=zA (show en (w2.alloc (.cells #[.int .i64 (aK E 0:Nat),.int .i64 (aK E 1:Nat),.int .i64 (aK E 2:Nat),.int .i64 (aK E 3:Nat),.int .i64 (aK E 4:Nat),.int .i64 (aK E 5:Nat),.int .i64 (aK E 6:Nat),.int .i64 (aK E 7:Nat),.int .i64 (aK E 8:Nat),.int .i64 (aK E 9:Nat),.int .i64 (aK E 10:Nat),.int .i64 (aK E 11:Nat)] 217)) w2.heap.size (aK E) from⟨_,a7 _ _,rfl,Cs E⟩);clear hb i)|(go_at_call 197;(with_reducible refine(Cq _ n (aK E) _ hn (uX E) r.out).mono ?_);rintro e w3 ⟨s,c3,rfl,hb⟩;have u:=zA (aW q.out hb);clear hb))
 go_ret2;exact⟨s,c3,rfl,u.out⟩
theorem cz.calls (k:Nat) (p:Int) (j:Option Addr) (l:Nat) (a:List (S83)) (v:Bool) (x:Int) (w:World) (q:Kd.C aN w j a.length a) (y:a.length<=l) (h:cz.f k p a=some (v,x)):
  Calls Tryz.prog 113 #[.agg #[.int .i64 p,.slice j a.length l]] w fun e w'=>e= .returned (.tuple #[.bool v,.int .i64 x])/\Below w.heap.size w w':=by
 unfold cz.f at h;obtain⟨t,o,h⟩:=Option.bind_eq_some_iff.1 h;split at h
 ·rename_i r
  subst r;split at h
  case isFalse=>cases h
  rename_i z;simp only[jz,Bool.and_eq_true,decide_eq_true_eq] at z;obtain⟨⟨D,H⟩,B⟩:=z;obtain⟨n,rfl⟩:=Int.eq_ofNat_of_zero_le D;injection h with h
  injection h with h1 s
  subst s;rw[aG] at h1;have b:=fun W u=>Ct k n j l a W u y o (by omega) (iE (n:=12) B)
  have g:=zA b;have H1:=zA h1;clear b o B h1;have E:=nA (aK a) n;generalize bY (aK a) n=m at g H1 E;by_cases hm:m=1
  ·subst hm
   go_enter Tryz.func113,Tryz.ntmps113
   go_wp2_with (first|(go_at_call 172;refine(g.out _ (Kd.bz q _)).mono ?_;rintro e w1 ⟨F,c1,rfl,hb⟩;have i:=zA (aW (ao (aq w.heap.size w) _) hb);clear hb))
   go_ret2;exact⟨by rw[<-H1.out];rfl,i.out⟩
  ·have G:((m:Nat):Int)≠1:=by omega
   go_enter Tryz.func113,Tryz.ntmps113
   go_wp2_with (first|(go_at_call 172;refine(g.out _ (Kd.bz q _)).mono ?_;rintro e w1 ⟨F,c1,rfl,hb⟩;have i:=zA (aW (ao (aq w.heap.size w) _) hb);clear hb))
   go_ret2;exact⟨by rw[<-H1.out,aZ hm,<-(beq_eq_false_iff_ne.2 G:((m:Int)==1)=false)];rfl,i.out⟩
 ·rename_i r
  injection h with h
  injection h with h1 s
  subst h1;subst s;have b:=fun W u=>Cr k p j l a t W u y o r
  have g:=zA b;clear b o;go_enter Tryz.func113,Tryz.ntmps113
  go_wp2_with (first|(go_at_call 172;refine(g.out _ (Kd.bz q _)).mono ?_;rintro e w1 ⟨rfl,hb⟩;have i:=zA (aW (ao (aq w.heap.size w) _) hb);clear hb))
  go_ret2;exact⟨rfl,i.out⟩
def du.f (k:Nat) (b:Int) (g:List (S83)) (e:Int):Option (Int):=(cz.f k b g).bind fun a=>(if a.2=0 then(if a.1=true then(if e<0 then(some 2) else(if e>=b then(some 2) else(some 0))) else(some 13)) else(some a.2))
theorem du.mono:∀a0 a a2 k,ai (du.f k a0 a a2) (du.f (k+1) a0 a a2):=by
 intro a0 a a2 k;unfold du.f;with_reducible repeat' first|exact cz.mono _ _ _|exact ai.refl _|exact ai.none _|refine ai.ite ?_ ?_|refine ai.bind ?_ (fun _=>?_)
theorem du.calls (k:Nat) (j:Int) (m:Option Addr) (n:Nat) (g:List (S83)) (x:Int) (r:Int) (w:World) (E:Kd.C aN w m g.length g) (F:g.length<=n) (h:du.f k j g x=some r):
  Calls Tryz.prog 211 #[.agg #[.int .i64 j,.slice m g.length n],.int .i64 x] w fun e w'=>e= .returned (.int .i64 r)/\Below w.heap.size w w':=by
 have M:=Tryz.underlying24;have s:=zA E;have u:=zA F;clear E F;have a:=zA (aq w.heap.size w);unfold du.f at h;have H:=h;clear h;obtain⟨⟨G,o⟩,v,H⟩:=zo H;dsimp only at H;by_cases c4:o=0
 ·rw[if_pos c4] at H
  obtain⟨I,J⟩:=bT c4;clear c4;by_cases y:G=true
  ·subst y
   replace H:=zi H;by_cases p:x<0
   ·rw[if_pos p] at H
    have K:=ay p;clear p;obtain rfl:=aQ H;go_enter Tryz.func211,Tryz.ntmps211
    go_wp2_with (first|((with_reducible refine aU (N:=2) rfl ?_);refine zX 2 #[.int .i64 j,.slice m g.length n] 24 ?_;intro z i O l hb;have b:=zA (l);have B:=zG a i;have D:=zG a i;replace a:=zS a hb;clear hb l i;obtain⟨P,Q,R,S⟩:=aA b)|((with_reducible refine aJ (f:=113) rfl ?_);refine zL (some 9) Tryz.func113 #[.agg #[.int .i64 j,.slice m g.length n]] ?_;(with_reducible refine(cz.calls k j _ _ g true o _ ?al ?aj v.out).mono ?_);(case al=>exact Kd.ax s.out zB);(case aj=>exact u.out);rintro e T ⟨rfl,hb⟩;refine⟨_,rfl,?_⟩;replace b:=zb b hb;replace a:=zS a hb;(try clear hb)))
    go_ret;exact⟨zE,zB⟩
   ·rw[if_neg p] at H
    have K:=aZ p;clear p;by_cases q:x>=j
    ·rw[if_pos q] at H
     have L:=ay q;clear q;obtain rfl:=aQ H;go_enter Tryz.func211,Tryz.ntmps211
     go_wp2_with (first|((with_reducible refine aU (N:=2) rfl ?_);refine zX 2 #[.int .i64 j,.slice m g.length n] 24 ?_;intro z i U l hb;have b:=zA (l);have B:=zG a i;have D:=zG a i;replace a:=zS a hb;clear hb l i;obtain⟨V,W,X,Y⟩:=aA b)|((with_reducible refine aJ (f:=113) rfl ?_);refine zL (some 9) Tryz.func113 #[.agg #[.int .i64 j,.slice m g.length n]] ?_;(with_reducible refine(cz.calls k j _ _ g true o _ ?al ?aj v.out).mono ?_);(case al=>exact Kd.ax s.out zB);(case aj=>exact u.out);rintro e Z ⟨rfl,hb⟩;refine⟨_,rfl,?_⟩;replace b:=zb b hb;replace a:=zS a hb;(try clear hb);obtain⟨aa,ab,ad,ag⟩:=aA b))
     go_ret;exact⟨zE,zB⟩
    ·rw[if_neg q] at H
     have L:=aZ q;clear q;obtain rfl:=aQ H;go_enter Tryz.func211,Tryz.ntmps211
     go_wp2_with (first|((with_reducible refine aU (N:=2) rfl ?_);refine zX 2 #[.int .i64 j,.slice m g.length n] 24 ?_;intro z i ak l hb;have b:=zA (l);have B:=zG a i;have D:=zG a i;replace a:=zS a hb;clear hb l i;obtain⟨am,an,ap,ar⟩:=aA b)|((with_reducible refine aJ (f:=113) rfl ?_);refine zL (some 9) Tryz.func113 #[.agg #[.int .i64 j,.slice m g.length n]] ?_;(with_reducible refine(cz.calls k j _ _ g true o _ ?al ?aj v.out).mono ?_);(case al=>exact Kd.ax s.out zB);(case aj=>exact u.out);rintro e av ⟨rfl,hb⟩;refine⟨_,rfl,?_⟩;replace b:=zb b hb;replace a:=zS a hb;(try clear hb);obtain⟨aB,aF,aL,aO⟩:=aA b))
     go_ret;exact⟨zE,zB⟩
  ·replace y:=Bool.eq_false_iff.mpr y
   subst y;replace H:=zj H;obtain rfl:=aQ H;go_enter Tryz.func211,Tryz.ntmps211
   go_wp2_with (first|((with_reducible refine aU (N:=2) rfl ?_);refine zX 2 #[.int .i64 j,.slice m g.length n] 24 ?_;intro z i aP l hb;have b:=zA (l);have B:=zG a i;have D:=zG a i;replace a:=zS a hb;clear hb l i;obtain⟨aR,aS,a0,a2⟩:=aA b)|((with_reducible refine aJ (f:=113) rfl ?_);refine zL (some 9) Tryz.func113 #[.agg #[.int .i64 j,.slice m g.length n]] ?_;(with_reducible refine(cz.calls k j _ _ g false o _ ?al ?aj v.out).mono ?_);(case al=>exact Kd.ax s.out zB);(case aj=>exact u.out);rintro e a3 ⟨rfl,hb⟩;refine⟨_,rfl,?_⟩;replace b:=zb b hb;replace a:=zS a hb;(try clear hb)))
   go_ret;exact⟨zE,zB⟩
 ·rw[if_neg c4] at H
  obtain⟨I,J⟩:=bU c4;obtain rfl:=aQ H;go_enter Tryz.func211,Tryz.ntmps211
  go_wp2_with (first|((with_reducible refine aU (N:=2) rfl ?_);refine zX 2 #[.int .i64 j,.slice m g.length n] 24 ?_;intro z i a4 l hb;have b:=zA (l);have B:=zG a i;have D:=zG a i;replace a:=zS a hb;clear hb l i;obtain⟨a5,a9,be,bf⟩:=aA b)|((with_reducible refine aJ (f:=113) rfl ?_);refine zL (some 9) Tryz.func113 #[.agg #[.int .i64 j,.slice m g.length n]] ?_;(with_reducible refine(cz.calls k j _ _ g G o _ ?al ?aj v.out).mono ?_);(case al=>exact Kd.ax s.out zB);(case aj=>exact u.out);rintro e bg ⟨rfl,hb⟩;refine⟨_,rfl,?_⟩;replace b:=zb b hb;replace a:=zS a hb;(try clear hb)))
  go_ret;exact⟨zE,zB⟩
def cV.l0:Nat->Int->List Int->Int->Int->Option (Int)
 |0,_,_,_,_=>none
 |k+1,x1,b,e,a=>if a<e then(if 0<=a then(if a<(b.length:Int) then(if a=x1 then(cV.l0 k x1 b e (wrap64 (a+1))) else(if(rd b a)<0 then(some 2) else(cV.l0 k x1 b e (wrap64 (a+1))))) else(none)) else(none)) else(some 0)
def cV.f (k:Nat) (a:Int) (h:List (S83)) (b:Int) (l2:List Int):Option (Int):=(du.f k a h b).bind fun e=>(if e=0 then((bq.f k l2 a).bind fun g=>(if g=0 then(cV.l0 k b l2 (l2.length:Int) 0) else(some g))) else(some e))
theorem cV.cD:∀k,(∀a b e g,ai (cV.l0 k a b e g) (cV.l0 (k+1) a b e g))
 |0=>fun _ _ _ _ r h=>by simp[cV.l0] at h
 |k+1=>by
  have i:=cV.cD k
  ·intro a b e g
   unfold cV.l0;with_reducible repeat' first|exact i _ _ _ _|exact bq.mono _ _ _|exact du.mono _ _ _ _|exact ai.refl _|exact ai.none _|refine ai.ite ?_ ?_|refine ai.bind ?_ (fun _=>?_)
theorem cV.mono:∀a0 a a2 a3 k,ai (cV.f k a0 a a2 a3) (cV.f (k+1) a0 a a2 a3):=by
 intro a0 a a2 a3 k;have b:=cV.cD k;unfold cV.f;with_reducible repeat' first|exact b _ _ _ _|exact bq.mono _ _ _|exact du.mono _ _ _ _|exact ai.refl _|exact ai.none _|refine ai.ite ?_ ?_|refine ai.bind ?_ (fun _=>?_)
theorem cV.calls (k:Nat) (i:Int) (q:Option Addr) (s:Nat) (j:List (S83)) (p:Int) (G:Option Addr) (c2:Nat) (l2:List Int) (r:Int) (w:World) (T:Kd.C aN w q j.length j) (U:j.length<=s) (V:Kd.C (Kd.int .i64) w G l2.length l2) (W:l2.length<=c2) (h:cV.f k i j p l2=some r):
  Calls Tryz.prog 224 #[.agg #[.int .i64 i,.slice q j.length s],.int .i64 p,.slice G l2.length c2] w fun e w'=>e= .returned (.int .i64 r)/\Below w.heap.size w w':=by
 have a5:=Tryz.underlying24;have M:=zA T;have O:=zA U;clear T U;have z:=zA V;have X:=zA W;clear V W;have a:=zA (aq w.heap.size w);unfold cV.f at h;have H:=h;clear h;obtain⟨I,P,H⟩:=zo H;by_cases B:I=0
 ·rw[if_pos B] at H
  obtain⟨Y,Z⟩:=bT B;clear B;obtain⟨Q,A6,H⟩:=zo H;by_cases D:Q=0
  ·rw[if_pos D] at H
   obtain⟨ab,ad⟩:=bT D;clear D;have v:=zA H;clear H;go_enter Tryz.func224,Tryz.ntmps224
   go_wp2_with (first|((with_reducible refine aU (N:=3) rfl ?_);refine zX 3 #[.int .i64 i,.slice q j.length s] 24 ?_;intro R l w8 u hb;have g:=zA (u);have ag:=zG a l;have ak:=zG a l;replace a:=zS a hb;clear hb u l;obtain⟨ar,av,aB,aF⟩:=aA g)|((with_reducible refine aJ (f:=211) rfl ?_);refine zL (some 13) Tryz.func211 #[.agg #[.int .i64 i,.slice q j.length s],.int .i64 p] ?_;(with_reducible refine(du.calls k i _ _ j p I _ ?al ?aj P.out).mono ?_);(case al=>exact Kd.ax M.out zB);(case aj=>exact O.out);rintro e be ⟨rfl,hb⟩;refine⟨_,rfl,?_⟩;replace g:=zb g hb;replace a:=zS a hb;(try clear hb);obtain⟨aL,aO,aP,aR⟩:=aA g)|((with_reducible refine aJ (f:=87) rfl ?_);refine zL (some 20) Tryz.func87 #[.slice G l2.length c2,.int .i64 i] ?_;(with_reducible refine(bq.calls k _ _ l2 i Q _ ?al ?aj A6.out).mono ?_);(case al=>exact Kd.ax z.out zB);(case aj=>exact X.out);rintro e w' ⟨rfl,⟨nd,rfl⟩⟩;refine⟨_,rfl,?_⟩))
   go_loopg [26] k (fun kq v26 w'=>∃(b:Int),v26= .int .i64 b/\Aside0 (cV.l0 kq p l2 (l2.length:Int) b=some r)/\Aside0 (kq<=k)/\Aside0 (w'.heap[R]? =some (.cells #[.int .i64 i,(.slice q j.length s)] 24 (0,0)))/\Aside0 (Below w.heap.size w w'))
   case atStart=>exact⟨(0),zT,v,⟨aI _⟩,⟨zK g⟩,⟨zB⟩⟩
   case round=>
    clear v;clear Y Z ab ad aL aO ar av aP aR aB aF;obtain⟨b,rfl,S,J,g,a⟩:=hrel;cases gk with
    |zero=>exact absurd S.out (by simp[cV.l0])
    |succ k1=>
     have H:=S.out;clear S;simp only[cV.l0] at H;by_cases x:b<(l2.length:Int)
     ·rw[if_pos x] at H
      have a0:=ay x;clear x;by_cases K:0<=b
      ·rw[if_pos K] at H
       have bf:=ay K;clear K;by_cases L:b<(l2.length:Int)
       ·rw[if_pos L] at H
        have bg:=ay L;clear L;by_cases E:b=p
        ·rw[if_pos E] at H
         obtain⟨a2,a3⟩:=bT E;clear E;have v:=zA H;clear H;have m:0<=(b:Int):=aw ‹_›;have n:b<(l2.length:Int):=aw ‹_›;obtain⟨ap,F,o⟩:=Kd.bJ z.out b m n;cases F;replace o:=(a.out.cell (bu w _ o)).trans o;replace m:=eq_true m;replace n:=eq_true n;go_wp2;go_roundg k1
         case measure=>have:=J.out;omega
         case rel=>exact⟨(wrap64 (b+1)),zT,v,⟨by have:=J.out;omega⟩,⟨zK g⟩,⟨zB⟩⟩
        ·rw[if_neg E] at H
         obtain⟨a2,a3⟩:=bU E;by_cases y:(rd l2 b)<0
         ·rw[if_pos y] at H
          have a4:=ay y;clear y;obtain rfl:=aQ H;have m:0<=(b:Int):=aw ‹_›;have n:b<(l2.length:Int):=aw ‹_›;obtain⟨ap,F,o⟩:=Kd.bJ z.out b m n;cases F;replace o:=(a.out.cell (bu w _ o)).trans o;replace m:=eq_true m;replace n:=eq_true n;go_wp2;go_ret;exact⟨zE,zB⟩
         ·rw[if_neg y] at H
          have a4:=aZ y;clear y;have v:=zA H;clear H;have m:0<=(b:Int):=aw ‹_›;have n:b<(l2.length:Int):=aw ‹_›;obtain⟨ap,F,o⟩:=Kd.bJ z.out b m n;cases F;replace o:=(a.out.cell (bu w _ o)).trans o;replace m:=eq_true m;replace n:=eq_true n;go_wp2;go_roundg k1
          case measure=>have:=J.out;omega
          case rel=>exact⟨(wrap64 (b+1)),zT,v,⟨by have:=J.out;omega⟩,⟨zK g⟩,⟨zB⟩⟩
       ·rw[if_neg L] at H
        exact absurd H (by simp)
      ·rw[if_neg K] at H
       exact absurd H (by simp)
     ·rw[if_neg x] at H
      have a0:=aZ x;clear x;obtain rfl:=aQ H;go_wp2;go_ret;exact⟨zE,zB⟩
  ·rw[if_neg D] at H
   obtain⟨ab,ad⟩:=bU D;obtain rfl:=aQ H;go_enter Tryz.func224,Tryz.ntmps224
   go_wp2_with (first|((with_reducible refine aU (N:=3) rfl ?_);refine zX 3 #[.int .i64 i,.slice q j.length s] 24 ?_;intro R l bi u hb;have g:=zA (u);have ag:=zG a l;have ak:=zG a l;replace a:=zS a hb;clear hb u l;obtain⟨bk,bn,bo,bv⟩:=aA g)|((with_reducible refine aJ (f:=211) rfl ?_);refine zL (some 13) Tryz.func211 #[.agg #[.int .i64 i,.slice q j.length s],.int .i64 p] ?_;(with_reducible refine(du.calls k i _ _ j p I _ ?al ?aj P.out).mono ?_);(case al=>exact Kd.ax M.out zB);(case aj=>exact O.out);rintro e bw ⟨rfl,hb⟩;refine⟨_,rfl,?_⟩;replace g:=zb g hb;replace a:=zS a hb;(try clear hb);obtain⟨bx,b0,b1,b2⟩:=aA g)|((with_reducible refine aJ (f:=87) rfl ?_);refine zL (some 20) Tryz.func87 #[.slice G l2.length c2,.int .i64 i] ?_;(with_reducible refine(bq.calls k _ _ l2 i Q _ ?al ?aj A6.out).mono ?_);(case al=>exact Kd.ax z.out zB);(case aj=>exact X.out);rintro e w' ⟨rfl,⟨nd,rfl⟩⟩;refine⟨_,rfl,?_⟩))
   go_ret;exact⟨zE,zB⟩
 ·rw[if_neg B] at H
  obtain⟨Y,Z⟩:=bU B;obtain rfl:=aQ H;go_enter Tryz.func224,Tryz.ntmps224
  go_wp2_with (first|((with_reducible refine aU (N:=3) rfl ?_);refine zX 3 #[.int .i64 i,.slice q j.length s] 24 ?_;intro R l b3 u hb;have g:=zA (u);have ag:=zG a l;have ak:=zG a l;replace a:=zS a hb;clear hb u l;obtain⟨b4,b5,b6,b_⟩:=aA g)|((with_reducible refine aJ (f:=211) rfl ?_);refine zL (some 13) Tryz.func211 #[.agg #[.int .i64 i,.slice q j.length s],.int .i64 p] ?_;(with_reducible refine(du.calls k i _ _ j p I _ ?al ?aj P.out).mono ?_);(case al=>exact Kd.ax M.out zB);(case aj=>exact O.out);rintro e b' ⟨rfl,hb⟩;refine⟨_,rfl,?_⟩;replace g:=zb g hb;replace a:=zS a hb;(try clear hb)))
  go_ret;exact⟨zE,zB⟩
def gC.f (k:Nat) (e:Int) (g:List (S83)) (a:Int) (l2:List Int):Option (Int):=(cV.f k e g a l2).bind fun b=>(if b=0 then(if 0<=a then(if a<(l2.length:Int) then(if(rd l2 a)=0 then(some 0) else(some 3)) else(none)) else(none)) else(some b))
theorem gC.mono:∀a0 a a2 a3 k,ai (gC.f k a0 a a2 a3) (gC.f (k+1) a0 a a2 a3):=by
 intro a0 a a2 a3 k;unfold gC.f;with_reducible repeat' first|exact cV.mono _ _ _ _ _|exact ai.refl _|exact ai.none _|refine ai.ite ?_ ?_|refine ai.bind ?_ (fun _=>?_)
theorem gC.calls (k:Nat) (i:Int) (m:Option Addr) (n:Nat) (g:List (S83)) (b:Int) (u:Option Addr) (c2:Nat) (l2:List Int) (r:Int) (w:World) (K:Kd.C aN w m g.length g) (L:g.length<=n) (M:Kd.C (Kd.int .i64) w u l2.length l2) (O:l2.length<=c2) (h:gC.f k i g b l2=some r):
  Calls Tryz.prog 219 #[.agg #[.int .i64 i,.slice m g.length n],.int .i64 b,.slice u l2.length c2] w fun e w'=>e= .returned (.int .i64 r)/\Below w.heap.size w w':=by
 have X:=Tryz.underlying24;have E:=zA K;have F:=zA L;clear K L;have v:=zA M;have G:=zA O;clear M O;have a:=zA (aq w.heap.size w);unfold gC.f at h;have H:=h;clear h;obtain⟨z,I,H⟩:=zo H;by_cases x:z=0
 ·rw[if_pos x] at H
  obtain⟨S,T⟩:=bT x;clear x;by_cases B:0<=b
  ·rw[if_pos B] at H
   have Y:=ay B;clear B;by_cases D:b<(l2.length:Int)
   ·rw[if_pos D] at H
    have Z:=ay D;clear D;by_cases y:(rd l2 b)=0
    ·rw[if_pos y] at H
     obtain⟨U,V⟩:=bT y;clear y;obtain rfl:=aQ H;go_enter Tryz.func219,Tryz.ntmps219
     go_wp2_with (first|((with_reducible refine aU (N:=3) rfl ?_);refine zX 3 #[.int .i64 i,.slice m g.length n] 24 ?_;intro P j w9 o hb;have l:=zA (o);have Q:=zG a j;have R:=zG a j;replace a:=zS a hb;clear hb o j;obtain⟨ab,ad,ag,ak⟩:=aA l)|((with_reducible refine aJ (f:=224) rfl ?_);refine zL (some 11) Tryz.func224 #[.agg #[.int .i64 i,.slice m g.length n],.int .i64 b,.slice u l2.length c2] ?_;(with_reducible refine(cV.calls k i _ _ g b _ _ l2 z _ ?al ?aj ?bl ?bm I.out).mono ?_);(case al=>exact Kd.ax E.out zB);(case aj=>exact F.out);(case bl=>exact Kd.ax v.out zB);(case bm=>exact G.out);rintro e am ⟨rfl,hb⟩;refine⟨_,rfl,?_⟩;replace l:=zb l hb;replace a:=zS a hb;(try clear hb);have p:0<=(b:Int):=aw ‹_›;have q:b<(l2.length:Int):=aw ‹_›;obtain⟨W,J,s⟩:=Kd.bJ v.out b p q;cases J;replace s:=(a.out.cell (bu w _ s)).trans s;replace p:=eq_true p;replace q:=eq_true q))
     go_ret;exact⟨zE,zB⟩
    ·rw[if_neg y] at H
     obtain⟨U,V⟩:=bU y;obtain rfl:=aQ H;go_enter Tryz.func219,Tryz.ntmps219
     go_wp2_with (first|((with_reducible refine aU (N:=3) rfl ?_);refine zX 3 #[.int .i64 i,.slice m g.length n] 24 ?_;intro P j an o hb;have l:=zA (o);have Q:=zG a j;have R:=zG a j;replace a:=zS a hb;clear hb o j;obtain⟨ap,ar,av,aB⟩:=aA l)|((with_reducible refine aJ (f:=224) rfl ?_);refine zL (some 11) Tryz.func224 #[.agg #[.int .i64 i,.slice m g.length n],.int .i64 b,.slice u l2.length c2] ?_;(with_reducible refine(cV.calls k i _ _ g b _ _ l2 z _ ?al ?aj ?bl ?bm I.out).mono ?_);(case al=>exact Kd.ax E.out zB);(case aj=>exact F.out);(case bl=>exact Kd.ax v.out zB);(case bm=>exact G.out);rintro e aF ⟨rfl,hb⟩;refine⟨_,rfl,?_⟩;replace l:=zb l hb;replace a:=zS a hb;(try clear hb);have p:0<=(b:Int):=aw ‹_›;have q:b<(l2.length:Int):=aw ‹_›;obtain⟨W,J,s⟩:=Kd.bJ v.out b p q;cases J;replace s:=(a.out.cell (bu w _ s)).trans s;replace p:=eq_true p;replace q:=eq_true q))
     go_ret;exact⟨zE,zB⟩
   ·rw[if_neg D] at H
    exact absurd H (by simp)
  ·rw[if_neg B] at H
   exact absurd H (by simp)
 ·rw[if_neg x] at H
  obtain⟨S,T⟩:=bU x;obtain rfl:=aQ H;go_enter Tryz.func219,Tryz.ntmps219
  go_wp2_with (first|((with_reducible refine aU (N:=3) rfl ?_);refine zX 3 #[.int .i64 i,.slice m g.length n] 24 ?_;intro P j aL o hb;have l:=zA (o);have Q:=zG a j;have R:=zG a j;replace a:=zS a hb;clear hb o j;obtain⟨aO,aP,aR,aS⟩:=aA l)|((with_reducible refine aJ (f:=224) rfl ?_);refine zL (some 11) Tryz.func224 #[.agg #[.int .i64 i,.slice m g.length n],.int .i64 b,.slice u l2.length c2] ?_;(with_reducible refine(cV.calls k i _ _ g b _ _ l2 z _ ?al ?aj ?bl ?bm I.out).mono ?_);(case al=>exact Kd.ax E.out zB);(case aj=>exact F.out);(case bl=>exact Kd.ax v.out zB);(case bm=>exact G.out);rintro e a0 ⟨rfl,hb⟩;refine⟨_,rfl,?_⟩;replace l:=zb l hb;replace a:=zS a hb;(try clear hb)))
  go_ret;exact⟨zE,zB⟩
section
theorem cQ.bk {l:Nat} {A B:World} {g:Nat} {n:Int} {times:Nat->Nat->Int} {chips:Value} {burnt:Nat->Bool} (h:cQ A g n times chips burnt) (hb:Bk l A B):cQ B g n times chips burnt:=by
 obtain⟨cs,a,b⟩:=h;exact⟨cs,hb.cells a,b⟩
attribute [local go_sem] Oper.semAt_some
theorem Cu (g:Nat) (w:World):Calls Tryz.prog 221 #[.pointer (some ⟨g,0,none⟩)] w fun e w'=>e= .returned (.func (.func 225) #[] #[.pointer (some ⟨w.heap.size,0,none⟩)])/\w'=w.alloc (.cells #[.pointer (some ⟨g,0,none⟩)] 245):=by
 go_enter Tryz.func221,Tryz.ntmps221
 go_wp2;go_ret;exact⟨rfl,rfl⟩
def mD (N:Int) (E:List S83) (q:Int) (c:List Int):Bool:=decide (0<=q/\q<N/\N<=12/\(c.length:Int)=N)&&iT N E
def cI (q:Nat):Nat->Bool:=fun i=>if i=q then true else false
def jW (n:Nat) (E:List S83) (q:Nat) (c:List Int):List Nat:=eF n (cC n (ae E) c) (cI q)
def iH.f (k:Nat) (N:Int) (E:List S83) (q:Int) (c:List Int):Option (List Int×List Int×Int):=
 (gC.f k N E q c).bind fun t=>if t=0 then(if mD N E q c=true then
  some (q::(jW N.toNat E q.toNat c).map Int.ofNat,gA (cN (cI q.toNat) (jW N.toNat E q.toNat c)) N.toNat,0) else none) else some ([],[],t)
theorem iH.mono:∀N E q c k,ai (iH.f k N E q c) (iH.f (k+1) N E q c):=by
 intro N E q c k;unfold iH.f;exact ai.bind (gC.mono _ _ _ _ _) (fun _=>ai.refl _)
theorem iH.calls (k:Nat) (N:Int) (be:Option Addr) (O:Nat) (a:List (S83)) (a1:Int) (A2:Option Addr) (c2:Nat) (l2:List Int) (r1:List Int) (r2:List Int) (r3:Int) (w:World) (am:Kd.C aN w be a.length a) (an:a.length<=O) (ap:Kd.C (Kd.int .i64) w A2 l2.length l2) (av:l2.length<=c2) (h:iH.f k N a a1 l2=some (r1,r2,r3)):
  Calls Tryz.prog 213 #[.agg #[.int .i64 N,.slice be a.length O],.int .i64 a1,.slice A2 l2.length c2] w fun e w'=>∃aB aF:Value,e= .returned (.tuple #[aB,aF,.int .i64 r3])/\Kd.R (Kd.int .i64) 3 w' w.heap.size (fun E=>some E≠(aF:Value).ownBlock) aB r1/\Kd.R (Kd.int .i64) 3 w' w.heap.size (fun E=>some E≠(aB:Value).ownBlock) aF r2/\Below w.heap.size w w':=by
 have hu:=Tryz.underlying24;obtain⟨t,ht,H⟩:=Option.bind_eq_some_iff.mp h;clear h;by_cases h0:t=0
 ·subst h0
  rw[if_pos rfl] at H;by_cases X:mD N a a1 l2=true
  ·rw[if_pos X] at H
   simp only[Option.some.injEq,Prod.mk.injEq] at H;obtain⟨rfl,rfl,rfl⟩:=H;simp only[mD,Bool.and_eq_true,decide_eq_true_eq] at X;obtain⟨⟨q0,qn,n12,hlen⟩,hE⟩:=X;obtain⟨n,rfl⟩:=Int.eq_ofNat_of_zero_le (show 0<=N by omega);obtain⟨q,rfl⟩:=Int.eq_ofNat_of_zero_le q0;simp only[aG];have bx:=zA (iE hE);have cn:l2.length<=n:=by omega
   have b5:n<=l2.length:=by omega
   have Ht:=zA ht;clear hlen hE ht;refine(callsIn_wide (n:=10)).1 ?_;refine callsIn_of_wp_marks Tryz.func213 rfl trivial ?_ rfl;simp only[Tryz.ntmps213,List.size_toArray,List.length_cons,List.length_nil,Nat.reduceAdd,Nat.reduceSub,Array.replicate_succ,Array.replicate_zero,List.push_toArray,List.append_toArray,List.nil_append,List.cons_append];gi_wp2_with (first|(refine⟨trivial,?_⟩;gi_at_call 219;refine(callsIn_wide.2 (gC.calls k _ _ O a _ _ c2 l2 0 _ (Kd.bz am _) an (Kd.bz ap _) av Ht.out)).mono ?_;rintro e w1 ⟨rfl,hb⟩;have hx:=(hb.cell (p:=⟨w.heap.size,0,none⟩) (by simp));have hy:=(hb.cell (p:=⟨w.heap.size,1,none⟩) (by simp));have z:=zA (lZ (ao (aq _ _) _) (by simp) hb);clear hb)|(refine⟨trivial,?_⟩;gi_at_call 220;refine(callsIn_wide.2 (Cl n q _ O a _ c2 l2 _ (Kd.ax am z.out) an (Kd.ax ap z.out) av (by omega) (by omega) bx.out cn b5)).mono ?_;rintro e w2 ⟨g,m,r,rfl,hW,hR,hB,hg⟩;have aO:=zA hW;have aP:=zA hR;have aR:=zA (lZ z.out z.out.size hB);clear hW hR hB)|(refine⟨trivial,?_⟩;gi_at_call 221;refine(callsIn_wide.2 (Cu g _)).mono ?_;rintro e w3 ⟨rfl,rfl⟩))
   have co:=aO.out.lt;have dv:w.heap.size<=w1.heap.size:=z.out.size;have cp:w.heap.size<=w2.heap.size:=aR.out.size;have aS:∀k,some k=(Value.slice m l2.length r).ownBlock->k<w2.heap.size:=fun k hk=>Kd.ba aP.out k hk.symm
   have I:=zA (aO.out.below (ao (ao (ao (aq _ _) (.cells #[.int .i64 q] 3)) (.cells #[.slice (some ⟨w2.heap.size,0,none⟩) 1 1] 25)) (.cells #[.pointer (some ⟨g,0,none⟩)] 245)));have P:=zA (Kd.aM (Kd.aM (Kd.aM (Kd.ia rfl aP.out) (.cells #[.int .i64 q] 3)) (.cells #[.slice (some ⟨w2.heap.size,0,none⟩) 1 1] 25)) (.cells #[.pointer (some ⟨g,0,none⟩)] 245));have J:=zA (ao (ao (ao aR.out (.cells #[.int .i64 q] 3)) (.cells #[.slice (some ⟨w2.heap.size,0,none⟩) 1 1] 25)) (.cells #[.pointer (some ⟨g,0,none⟩)] 245));have ca:Aside0 (Kd.R (Kd.int .i64) 3 (((w2.alloc (.cells #[.int .i64 q] 3)).alloc (.cells #[.slice (some ⟨w2.heap.size,0,none⟩) 1 1] 25)).alloc (.cells #[.pointer (some ⟨g,0,none⟩)] 245)) w.heap.size (fun k=>k≠g/\some k≠(Value.slice m l2.length r).ownBlock) (.slice (some ⟨w2.heap.size,0,none⟩) 1 1) [(q:Int)]):=by
    refine⟨Kd.aM (Kd.aM (Kd.mU (enc:=Value.int .i64) (h1:=fun _=>rfl) ?_ ?_) _) _⟩
    ·simpa [bW] using World.ownsRow_lit (base:=w.heap.size) (e:=3) (size:=1) w2 #[.int .i64 q] 1 cp (by decide) rfl
    ·intro k hk
     have e:w2.heap.size=k:=by simpa [Value.ownBlock] using hk
     refine⟨by omega,fun e2=>?_⟩;have:=aS k e2;omega
   have Y:Aside0 ((((w2.alloc (.cells #[.int .i64 q] 3)).alloc (.cells #[.slice (some ⟨w2.heap.size,0,none⟩) 1 1] 25)).alloc (.cells #[.pointer (some ⟨g,0,none⟩)] 245)).heap[w2.heap.size+1]? =some (.cells #[.slice (some ⟨w2.heap.size,0,none⟩) 1 1] 25 (0,0))):=
    ⟨by have h:=a7 (w2.alloc (.cells #[.int .i64 q] 3)) (.cells #[.slice (some ⟨w2.heap.size,0,none⟩) 1 1] 25);rw[World.size_alloc] at h;exact au h _⟩
   have Q:Aside0 ((((w2.alloc (.cells #[.int .i64 q] 3)).alloc (.cells #[.slice (some ⟨w2.heap.size,0,none⟩) 1 1] 25)).alloc (.cells #[.pointer (some ⟨g,0,none⟩)] 245)).heap[w2.heap.size+1+1]? =some (.cells #[.pointer (some ⟨g,0,none⟩)] 245 (0,0))):=
    ⟨by have h:=a7 ((w2.alloc (.cells #[.int .i64 q] 3)).alloc (.cells #[.slice (some ⟨w2.heap.size,0,none⟩) 1 1] 25)) (.cells #[.pointer (some ⟨g,0,none⟩)] 245);simpa using h⟩
   have Z:w2.heap.size+1≠g:=by omega
   have aa:w2.heap.size+1+1≠g:=by omega
   have ab:w2.heap.size+1+1≠w2.heap.size+1:=by omega
   have cb:some (w2.heap.size+1)≠(Value.slice m l2.length r).ownBlock:=fun e=>by have:=aS _ e;omega
   have cc:w.heap.size<=w2.heap.size+1:=by omega
   have cd:w.heap.size<=g:=by omega
   clear aS aO aP aR z;generalize (((w2.alloc (.cells #[.int .i64 q] 3)).alloc (.cells #[.slice (some ⟨w2.heap.size,0,none⟩) 1 1] 25)).alloc (.cells #[.pointer (some ⟨g,0,none⟩)] 245))=G at I P J ca Y Q⊢;generalize w2.heap.size+1+1=L at Q aa ab⊢;generalize w2.heap.size+1=bo at Y Z ab cb cc⊢;refine iU (σ:=Unit) (α:=Nat) (F:=Fence.wide) (n:=10) rfl (by decide) (gf:=225) (lb:=#[.pointer (some ⟨L,0,none⟩)]) rfl trivial (enters_of Tryz.func225 (by kernel_rfl) rfl)
    (fun o=>BQ g L n (ae a) m r l2 (cI q) _ w1.heap.size (by omega) b5 ?ht aa (I.out.below (ao (ao (aq _ _) _) _)) (au (au Q.out _) _) (Kd.a_ (Kd.aM (Kd.aM P.out _) _) (fun _ h=>h))) (fun _=>rfl)
    (fun _=>True) ?eL ?st ?ar
    (fun _ pre W=>G.heap.size<=W.heap.size/\∃v,W.heap[L]? =some (.cells #[.pointer (some ⟨g,0,none⟩)] 245 (0,0))/\W.heap[bo]? =some (.cells #[v] 25 (0,0))/\Kd.R (Kd.int .i64) 3 W w.heap.size (fun k=>k≠g/\some k≠(Value.slice m l2.length r).ownBlock) v ((q:Int)::pre.map Int.ofNat)/\Below w.heap.size w W) (fun _ _ _ _=>False)
    ?is (fun _ _ _ _ _ _ h _=>h) ?ib (fun _ _ _ _ _ h _=>h) ?kt ?h0 ?a1 ?assign ?body ?done (fun _ _ _ _ _ _ _ h=>h.elim)
   case assign=>
    intro l x W K hK;gi_wp2;exact hK
   case ht=>exact bx.out.times
   case eL=>
    intro o s W1 h;exact⟨trivial,by rw[h];exact cB.refl _ _⟩
   case st=>intro s A B _ h k o h1 u i _;exact(h.block k (Array.getElem?_eq_some_iff.1 i).1 (fun e=>by cases e;have:=I.out.lt;omega)).trans i
   case ar=>intro s x A B _ h k o h1 u i _;exact(h.block k (Array.getElem?_eq_some_iff.1 i).1 (fun e=>by cases e;have:=I.out.lt;omega)).trans i
   case is=>
    rintro s pre A B _ ⟨S,v,h0,h1,u,i⟩ T;exact⟨Nat.le_trans S T.size,v,(T.block L (aC h0) (fun e=>by cases e;exact aa rfl)).trans h0,(T.block bo (aC h1) (fun e=>by cases e;exact Z rfl)).trans h1,Kd.l7 u T (fun k hk e=>hk.1 (by cases e;rfl)),kx i (some g) i.size T (fun k e=>by cases e;exact cd)⟩
   case ib=>
    rintro s pre A B ⟨S,v,h0,h1,u,i⟩ hb;exact⟨by rw[hb.size];exact S,v,hb.cells h0,hb.cells h1,dD u hb,i.trans (hb.below w.heap.size (by have:=J.out.size;omega))⟩
   case kt=>
    intro s A B C D cs ct cx k hk;have ce:k≠G.heap.size+1:=by
     rcases hk with rfl|rfl|hk
     ·have:=I.out.lt;omega
     ·have:=aC Q.out;omega
     ·have:=Kd.ba P.out k hk.symm;omega
    exact(cx.heap k ce).trans ((ct k hk).trans (cs.heap k ce))
   case h0=>
    rintro o s W1 rfl;exact⟨by simp;omega,_,au (au Q.out _) _,au (au Y.out _) _,Kd.aM (Kd.aM ca.out _) _,ao (ao J.out _) _⟩
   case body=>
    rintro l s pre x Wb W1 W _ ⟨S,v,i0,i1,i2,i3⟩ M d0 j;have U:=zA (j.cells ((M.block L (aC i0) (fun e=>by cases e;exact aa rfl)).trans i0));have y:=zA (j.cells ((M.block bo (aC i1) (fun e=>by cases e;exact Z rfl)).trans i1));have b:=zA (dD (Kd.l7 i2 M (fun k hk e=>hk.1 (by cases e;rfl))) j);have b3:=zA ((kx i3 (some g) i3.size M (fun k e=>by cases e;exact cd)).trans (j.below w.heap.size (by have:=J.out.size;omega)));have co:G.heap.size<=W.heap.size:=by have:=j.size;have:=M.size;omega
    have d1:=I.out.lt;clear i0 i1 i2 i3 M;obtain⟨Ar,cr,rfl⟩:=Kd.bh b.out;replace b:=zA (show Kd.R (Kd.int .i64) 3 W w.heap.size (fun k=>k≠g/\some k≠(Value.slice m l2.length r).ownBlock) (.slice Ar (pre.length+1) cr) ((q:Int)::pre.map Int.ofNat) from by have h:=b.out;rw[show ((q:Int)::pre.map Int.ofNat).length=pre.length+1 from by simp] at h;exact h);rw[show ((q:Int)::pre.map Int.ofNat).length=pre.length+1 from by simp] at y;have hc:=dM y.out;have hf:=bF y.out 0;have FR:Aside0 (∀k,W.heap.size<=k->k≠g/\some k≠(Value.slice m l2.length r).ownBlock):=⟨fun k hk=>⟨by omega,fun e=>by have:=Kd.ba P.out k e.symm;omega⟩⟩;have LN:Aside0 ((((q:Int)::pre.map Int.ofNat).length+1)*8<=140737488355328):=⟨by simp;omega⟩;gi_wp2_with (gi_at_builtin;go_loud (refine o6 (Kd.int .i64) (w0:=w) w.heap.size rfl (.tmp 29) (.tmp 31) 25 3 (.int .i64 0) 8 rfl Tryz.underlying25 gz rfl (by decide) (by omega) _ _ (x:Int) [.int .i64 x] (fun k=>k≠g/\some k≠(Value.slice m l2.length r).ownBlock) (fun _=>False) rfl rfl rfl (fun _ hk=>hk.elim) FR.out b.out b3.out b3.out.size LN.out ?_;intro v1 d2 a0 hb ag c4;obtain⟨A1,c1,rfl⟩:=Kd.bh a0;have X1:=zA ((ag.block bo (aC y.out) (Kd.dr b.out y.out (by decide))).trans y.out);have X0:=zA ((ag.block L (aC U.out) (Kd.dr b.out U.out (by decide))).trans U.out);have d3:=dM X1.out;have d4:=bF X1.out 0;have c6:=zA a0;have c7:=zA hb;have V:=zA ag;clear a0 hb ag c4))
    refine⟨(o7 b.out V.out).trans (fI _ _ (aC Y.out)),fun k hk=>?_,by have:=V.out.size;simp;omega,_,aE X0.out ab _,by simpa using bV X1.out 0 (.slice A1 (pre.length+1+1) c1),?_,dL c7.out cc⟩
    ·have c8:k≠bo:=by
      rcases hk with rfl|rfl|hk
      ·exact fun e=>Z e.symm
      ·exact ab
      ·rintro rfl;exact cb hk
     rw[Below.heap_setCell _ _ _ _ c8];rcases hk with rfl|rfl|hk
     ·exact V.out.block k (by omega) (fun e=>(b.out.1 k e.symm).1 rfl)
     ·exact V.out.block k (aC U.out) (Kd.dr b.out U.out (by decide))
     ·exact V.out.block k (by have:=Kd.ba P.out k hk.symm;omega) (fun e=>(b.out.1 k e.symm).2 hk)
    ·have h:=Kd.fl c6.out X1.out (by decide) 0 (.slice A1 (pre.length+1+1) c1)
     simpa using h
   case done=>
    rintro s xs W W' _ ⟨rfl,ch⟩ ⟨S,v,i0,i1,i2,i3⟩ j ci;have y:=zA (j.cells i1);have b:=zA (dD i2 j);have b3:=zA (i3.trans (j.below w.heap.size (by have:=J.out.size;omega)));have b4:=zA (ch.bk j);have cj:=zA ci;clear i0 i1 i2 i3 ch ci;have hc:=dM y.out;obtain⟨Ar,cr,rfl⟩:=Kd.bh b.out;have c9:=aC y.out;gi_wp2_with fail
    refine BR ?_;gi_region_with (refine⟨trivial,?_⟩;gi_at_call 222;refine(callsIn_wide.2 (BL g n (ae a) _ _ _ (by omega) b4.out.drew)).mono ?_;rintro e w5 ⟨v1,rfl,ck,a3⟩;have d5:=(a3.cell (p:=⟨bo,0,none⟩) c9).trans hc;have a4:=zA ck;have a5:=zA a3;clear ck a3)
    all_goals gi_wp2
    all_goals
     have cl:w5.heap[G.heap.size]? =some (.deferred (some [])):=(a5.out.block _ (Array.getElem?_eq_some_iff.1 cj.out).1).trans cj.out;have a9:Bk G.heap.size w5 (w5.putObj G.heap.size (.deferred none)):=⟨_,_,cl,rfl,rfl⟩;have c':=Kd.cY (w:=W'.drew) b.out a5.out;refine jx (D:=G.heap.size) rfl cl (results_tmp3 rfl _ _ _) ⟨_,_,rfl,dD (ok:=fun E=>some E≠v1.ownBlock) (v:=.slice Ar ((eF n (cC n (ae a) l2) (cI q)).length+1) cr) ?_ a9,dD (ok:=fun E=>some E≠(Value.slice Ar ((eF n (cC n (ae a) l2) (cI q)).length+1) cr).ownBlock) (v:=v1) ?_ a9,?_⟩
     ·refine Kd.t_ rfl (ok1:=fun k=>k≠g/\some k≠(Value.slice m l2.length r).ownBlock) ?_ (fun k hk e=>?_)
      ·have h:=c'
       rw[show ((q:Int)::(eF n (cC n (ae a) l2) (cI q)).map Int.ofNat).length=(eF n (cC n (ae a) l2) (cI q)).length+1 from by simp] at h;exact h
      ·have h1:=Kd.ba b.out k ((uA _ _ _ _).trans hk)
       have u:=Kd.dK a4.out k e.symm;exact absurd h1 (Nat.not_lt.2 u)
     ·refine Kd.t_ rfl (ok1:=fun _=>True) (Kd.bd a4.out b3.out.size) (fun k hk e=>?_)
      have h1:=Kd.ba b.out k ((uA _ _ _ _).trans e.symm);have u:=Kd.dK a4.out k hk;exact absurd h1 (Nat.not_lt.2 u)
     ·exact(lZ (iA b3.out) b3.out.size a5.out).trans (a9.below w.heap.size J.out.size)
  ·rw[if_neg X] at H
   cases H
 ·rw[if_neg h0] at H
  simp only[Option.some.injEq,Prod.mk.injEq] at H;obtain⟨rfl,rfl,rfl⟩:=H;have Ht:=zA ht;have d6:(t != 0)=true:=by simpa using h0
  clear ht h0;go_enter Tryz.func213,Tryz.ntmps213
  go_wp2_with (go_at_call 219;refine(gC.calls k N _ O a a1 _ c2 l2 t _ (Kd.bz am _) an (Kd.bz ap _) av Ht.out).mono ?_;rintro e w1 ⟨rfl,hb⟩;have z:=zA (lZ (ao (aq _ _) _) (by simp) hb);clear hb)
  go_ret3
  exact⟨_,_,rfl,Kd.dm _ _ _ _ _,Kd.dm _ _ _ _ _,z.out⟩
end
section
attribute [local go_sem] Oper.semAt_some
def ik (w:World) (g:Nat) (N:Int) (ev:Value) (q:Int) (dv a:Value) (e:Int):Prop:=w.heap[g]? =some (.cells #[.int .i64 N,ev,.int .i64 q,dv,a,.int .i64 e] 188 (0,0))
theorem mE (g:Nat) (v:Int) (w:World):Calls Tryz.prog 194 #[.pointer (some ⟨g,0,none⟩),.int .i64 v] w fun e w'=>e= .returned (.func (.func 207) #[] #[.pointer (some ⟨w.heap.size,0,none⟩),.pointer (some ⟨w.heap.size+1,0,none⟩)])/\w'=(w.alloc (.cells #[.pointer (some ⟨g,0,none⟩)] 135)).alloc (.cells #[.int .i64 v] 3):=by
 go_enter Tryz.func194,Tryz.ntmps194
 go_wp2;go_ret;exact⟨rfl,rfl⟩
def cJ (E:List S83) (v:Int):Nat->List (Int×Int)
 |0=>[]
 |k+1=>cJ E v k++(if(af E k).f0≠(af E k).f1/\((af E k).f0=v\/(af E k).f1=v) then[((af E k).f0+(af E k).f1-v,(af E k).f2)] else[])
def u' (base a b c:Nat) (X Y:World):Prop:=(base<=X.heap.size->Below base X Y)/\∀k,(k=a\/k=b\/k=c)->k<X.heap.size->Y.heap[k]? =X.heap[k]?
theorem ve (E:List S83) (v:Int):∀(m k:Nat),∀x∈cJ E v k,x∈cJ E v (k+m)
 |0,k,x,a=>a
 |m+1,k,x,a=>List.mem_append.2 (.inl (ve E v m k x a))
theorem q_ (l bv g n:Nat) (A0:Option Addr) (c0:Nat) (E:List S83) (q:Int) (dv V:Value) (Z:Int) (v:Nat) (w0 W:World) (aa:Kd.C aN w0 A0 E.length E) (hE:ez n E) (hn:n<=1000) (hv:v<n) (hB:Below w0.heap.size w0 W)
  (M:W.heap[l]? =some (.cells #[.pointer (some ⟨g,0,none⟩)] 135 (0,0))) (z:W.heap[bv]? =some (.cells #[.int .i64 v] 3 (0,0))) (N:ik W g n (.slice A0 E.length c0) q dv V Z):
  jw (σ:=Unit) Fence.wide 9 Tryz.prog 207 #[.pointer (some ⟨l,0,none⟩),.pointer (some ⟨bv,0,none⟩)] (fun x:Int×Int=>#[.int .i64 x.1,.int .i64 x.2]) (fun _ W W1=>W1=W) (fun _ A B=>Below A.heap.size A B) (fun _ x A B=>((0<=x.1/\x.1<n/\1<=x.2/\x.2<=50)/\x∈cJ E v E.length)/\Below A.heap.size A B)
   (fun _ X Y=>u' w0.heap.size l bv g X Y)
   (fun _ xs W'=>xs=cJ E v E.length) (fun _ _ _=>True) (fun pre=>∃k,k<E.length/\pre=cJ E v k) W:=by
 intro lp J Jx ag ak am ap;have a5:=zA ag;have ca:=zA ak;have hY:=zA ap;have ar:=am () W rfl;clear ag ak am ap;have cb:=Tryz.underlying188;have hu:=Tryz.underlying24;have cc:=Tryz.underlying83;refine callsIn_of_wp Tryz.func207 rfl trivial ?_ rfl;simp only[Tryz.ntmps207,List.size_toArray,List.length_cons,List.length_nil,Nat.reduceAdd,Nat.reduceSub,Array.replicate_succ,Array.replicate_zero,List.push_toArray,List.append_toArray,List.nil_append,List.cons_append];have b0:W.cell? ⟨l,0,none⟩=some (.pointer (some ⟨g,0,none⟩)):=(ah M 0).trans rfl;have s1:W.cell? ⟨g,1,none⟩=some (.slice A0 E.length c0):=(ah N 1).trans rfl;have av:=zA M;have aB:=zA z;have p:=zA N;clear M z N;gi_wp2;clear b0 s1;gi_loopg [13] (E.length) (fun kq i wr=>∃k:Nat,i= .int .i64 k/\k<=E.length/\Aside0 (J () (cJ E v k) wr)/\Aside0 (wr.heap[l]? =some (.cells #[.pointer (some ⟨g,0,none⟩)] 135 (0,0)))/\Aside0 (wr.heap[bv]? =some (.cells #[.int .i64 v] 3 (0,0)))/\Aside0 (ik wr g n (.slice A0 E.length c0) q dv V Z)/\Aside0 (Below w0.heap.size w0 wr)/\Aside0 (kq=E.length-k))
 case atStart=>exact⟨0,rfl,Nat.zero_le _,⟨ar⟩,av,aB,p,⟨hB⟩,⟨rfl⟩⟩
 case round=>
  clear ar hB av aB p;have cd:E.length<=9223372036854775807:=Kd.mV aa;obtain⟨k,rfl,hk,O,HX,P,p,r,Q⟩:=hrel;by_cases aL:k<E.length
  ·obtain⟨e0,D,e2,F,e4,e5⟩:=hE.get k aL
   have G:=Lib.hid (show cJ E v (k+1)=cJ E v k++(if(af E k).f0≠(af E k).f1/\((af E k).f0=v\/(af E k).f1=v) then[((af E k).f0+(af E k).f1-v,(af E k).f2)] else[]) from rfl);obtain⟨ad,rfl,s,u,w⟩:=eN aa k (by omega) (by omega);rw[aG] at s u w;generalize af E k=x at e0 D e2 F e4 e5 s u w G;obtain⟨a,b,m⟩:=x;simp only at e0 D e2 F e4 e5 s u w;have ce:(0:Int)<=(k:Int):=by omega
   have cf:(k:Int)<(E.length:Int):=by omega
   have cg:(0:Int)<=(v:Int):=by omega
   have ch:(v:Int)<=1000:=by omega
   have s:=fU r.out s;have u:=fU r.out u;have w:=fU r.out w;have v0:(wr.alloc (.cells #[.int .i64 a,.int .i64 b,.int .i64 m] 83)).cell? ⟨bv,0,none⟩=some (.int .i64 v):=(ah (au P.out _) 0).trans rfl;have R:=zA (a5.out () _ _ _ O.out (ao (aq wr.heap.size wr) (.cells #[.int .i64 a,.int .i64 b,.int .i64 m] 83)));have H:=zA (au HX.out (.cells #[.int .i64 a,.int .i64 b,.int .i64 m] 83));have I:=zA (au P.out (.cells #[.int .i64 a,.int .i64 b,.int .i64 m] 83));have K:=zA (au p.out (.cells #[.int .i64 a,.int .i64 b,.int .i64 m] 83));have L:=zA (ao r.out (.cells #[.int .i64 a,.int .i64 b,.int .i64 m] 83));have an:a<=1000:=by omega
   have bn:b<=1000:=by omega
   have HE:=zA (And.intro D F);clear D F O HX P p r;by_cases o:a=b
   ·have bi:(a != b)=false:=by simpa using o
    have S:=zA o;clear o;gi_wp2;refine⟨(fun _ h=>(by cases h)),?_⟩;gi_wp2;gi_roundg (E.length- (k+1))
    case measure=>rw[Q.out];omega
    case rel=>exact⟨k+1,by go_num,by omega,⟨by rw[G.out,if_neg (fun h=>h.1 S.out),List.append_nil];exact R.out⟩,H,I,K,L,⟨rfl⟩⟩
   ·have bi:(a != b)=true:=by simpa using o
    have S:=zA o;clear o;by_cases j:a=v\/b=v
    ·have aS:=zA (show cJ E v (k+1)=cJ E v k++[(a+b-v,m)] from by rw[G.out,if_pos ⟨S.out,j⟩])
     obtain⟨fn,tmps,ck,cl,T,a0⟩:=hY.out () (cJ E v k) (a+b-v,m) _ _ R.out ⟨⟨by have:=HE.out;show 0<=a+b- (v:Int)/\a+b- (v:Int)<n/\1<=m/\m<=50;omega,by have h:=ve E v (E.length- (k+1)) (k+1) (a+b-v,m) (by rw[aS.out];simp);rw[show k+1+(E.length- (k+1))=E.length by omega] at h;exact h⟩,aq _ _⟩ ⟨k,aL,rfl⟩;have bk:=zA a0;simp only at T;clear a0;have bo:(a==(v:Int))=true\/((a==(v:Int))=false/\(b==(v:Int))=true):=by
      by_cases h:a=v
      ·left;simpa using h
      ·right;refine⟨by simpa using h,?_⟩
       rcases j with U|U
       ·exact absurd U h
       ·simpa using U
     clear j;rcases bo with a1|⟨a1,z⟩
     all_goals
      gi_wp2;refine bk.out.mono ?_;rintro e W3 (⟨rfl,a2,y⟩|⟨rfl,a3⟩)
      ·have bw:=zA a2
       have b1:=zA ((y.2 l (.inl rfl) (aC H.out)).trans H.out);have b2:=zA ((y.2 bv (.inr (.inl rfl)) (aC I.out)).trans I.out);have b3:=zA ((y.2 g (.inr (.inr rfl)) (aC K.out)).trans K.out);have b4:=zA (L.out.trans (y.1 L.out.size));clear a2 y T v0;gi_wp2;gi_roundg (E.length- (k+1))
       case measure=>rw[Q.out];omega
       case rel=>exact⟨k+1,by go_num,by omega,⟨by rw[aS.out];exact bw.out⟩,b1,b2,b3,b4,⟨rfl⟩⟩
      ·have b5:=zA a3
       clear a3 T v0;gi_wp2;refine bodyPost_ret (results_none rfl _ _ _) rfl ?_;exact⟨⟨_,rfl⟩,.inr ⟨(),_,trivial,b5.out⟩⟩
    ·have a1:(a==(v:Int))=false:=by simp;exact fun h=>j (.inl h)
     have z:(b==(v:Int))=false:=by simp;exact fun h=>j (.inr h)
     have b6:=zA j;clear j;gi_wp2;refine⟨(fun _ h=>(by cases h)),?_⟩;gi_wp2;gi_roundg (E.length- (k+1))
     case measure=>rw[Q.out];omega
     case rel=>exact⟨k+1,by go_num,by omega,⟨by rw[G.out,if_neg (fun h=>b6.out h.2),List.append_nil];exact R.out⟩,H,I,K,L,⟨rfl⟩⟩
  ·obtain rfl:k=E.length:=by omega
   gi_wp2;go_end0;exact⟨⟨_,rfl⟩,.inl ⟨(),_,rfl,O.out⟩⟩
theorem pa (b bv g n:Nat) (A0:Option Addr) (c0:Nat) (E:List S83) (q:Int) (dv h:Value) (i:Int) (v:Nat) (w0 W:World) (l:Kd.C aN w0 A0 E.length E) (m:ez n E) (hn:n<=1000) (o:v<n) (p:Below w0.heap.size w0 W)
  (r:W.heap[b]? =some (.cells #[.pointer (some ⟨g,0,none⟩)] 135 (0,0))) (u:W.heap[bv]? =some (.cells #[.int .i64 v] 3 (0,0))) (w:ik W g n (.slice A0 E.length c0) q dv h i):
  jw (σ:=Unit) Fence.wide 9 Tryz.prog 207 #[.pointer (some ⟨b,0,none⟩),.pointer (some ⟨bv,0,none⟩)] (fun x:Int×Int=>#[.int .i64 x.1,.int .i64 x.2]) (fun _ W W1=>W1=W) (fun _ A B=>Below A.heap.size A B) (fun _ x A B=>(0<=x.1/\x.1<n/\1<=x.2/\x.2<=50)/\Below A.heap.size A B)
   (fun _ X Y=>u' w0.heap.size b bv g X Y)
   (fun _ xs W'=>xs=cJ E v E.length) (fun _ _ _=>True) (fun pre=>∃k,k<E.length/\pre=cJ E v k) W:=fun y J Jx z D F G=>q_ b bv g n A0 c0 E q dv h i v w0 W l m hn o p r u w y J Jx (fun s pre A B a e=>z s pre A B a e) (fun s pre A B a e=>D s pre A B a e) F (fun s pre x H W1 a j I=>G s pre x H W1 a ⟨j.1.1,j.2⟩ I)
end
def dG.l0:Nat->List Int->Int->Int->Int->List (S83)->Option (Int)
 |0,_,_,_,_,_=>none
 |k+1,b,e,a,g,h=>if a<e then(if 0<=a then(if a<(b.length:Int) then((fX.f g (rd b a)).bind fun t222=>(if t222=true then(dG.l0 k b e (wrap64 (a+1)) g h) else(some 2))) else(none)) else(none)) else(some 0)
def dG.f (k:Nat) (a:Int) (b:List (S83)) (l1:List Int):Option (Int):=(bc.f k a b).bind fun t220=>(if t220=0 then(dG.l0 k l1 (l1.length:Int) 0 a b) else(some t220))
theorem dG.cD:∀k,(∀a b e g i,ai (dG.l0 k a b e g i) (dG.l0 (k+1) a b e g i))
 |0=>fun _ _ _ _ _ r h=>by simp[dG.l0] at h
 |k+1=>by
  have j:=dG.cD k
  ·intro a b e g i
   unfold dG.l0;with_reducible repeat' first|exact j _ _ _ _ _|exact bc.mono _ _ _|exact ai.refl _|exact ai.none _|refine ai.ite ?_ ?_|refine ai.bind ?_ (fun _=>?_)
theorem dG.mono:∀a0 a a2 k,ai (dG.f k a0 a a2) (dG.f (k+1) a0 a a2):=by
 intro a0 a a2 k;have b:=dG.cD k;unfold dG.f;with_reducible repeat' first|exact b _ _ _ _ _|exact bc.mono _ _ _|exact ai.refl _|exact ai.none _|refine ai.ite ?_ ?_|refine ai.bind ?_ (fun _=>?_)
theorem dG.calls (k:Nat) (g:Int) (l:Option Addr) (m:Nat) (i:List (S83)) (E:Option Addr) (c1:Nat) (l1:List Int) (r:Int) (w:World) (F:Kd.C aN w l i.length i) (G:i.length<=m) (I:Kd.C (Kd.int .i64) w E l1.length l1) (J:l1.length<=c1) (h:dG.f k g i l1=some r):
  Calls Tryz.prog 203 #[.agg #[.int .i64 g,.slice l i.length m],.slice E l1.length c1] w fun e w'=>e= .returned (.int .i64 r)/\Below w.heap.size w w':=by
 have an:=Tryz.underlying24;have K:=zA F;have L:=zA G;clear F G;have M:=zA I;have ap:=zA J;clear I J;have b:=zA (aq w.heap.size w);unfold dG.f at h;have H:=h;clear h;obtain⟨t220,O,H⟩:=zo H;by_cases c4:t220=0
 ·rw[if_pos c4] at H
  obtain⟨P,Q⟩:=bT c4;clear c4;have v:=zA H;clear H;go_enter Tryz.func203,Tryz.ntmps203
  go_wp2_with (first|((with_reducible refine aU (N:=2) rfl ?_);refine zX 2 #[.int .i64 g,.slice l i.length m] 24 ?_;intro R n w5 u hb;have j:=zA (u);have V:=zG b n;have W:=zG b n;replace b:=zS b hb;clear hb u n;obtain⟨X,Y,Z,aa⟩:=aA j)|((with_reducible refine aJ (f:=64) rfl ?_);refine zL (some 9) Tryz.func64 #[.agg #[.int .i64 g,.slice l i.length m]] ?_;(with_reducible refine(bc.calls k g _ _ i t220 _ ?al ?aj O.out).mono ?_);(case al=>exact Kd.ax K.out zB);(case aj=>exact L.out);rintro e w7 ⟨rfl,hb⟩;refine⟨_,rfl,?_⟩;replace j:=zb j hb;replace b:=zS b hb;(try clear hb)))
  go_loopg [15] k (fun S ab w'=>∃(a:Int),ab= .int .i64 a/\Aside0 (dG.l0 S l1 (l1.length:Int) a g i=some r)/\Aside0 (S<=k)/\Aside0 (w'.heap[R]? =some (.cells #[.int .i64 g,(.slice l i.length m)] 24 (0,0)))/\Aside0 (Below w.heap.size w w'))
  case atStart=>exact⟨(0),zT,v,⟨aI _⟩,⟨zK j⟩,⟨zB⟩⟩
  case round=>
   clear v;clear P Q X Y Z aa;obtain⟨a,rfl,B,T,j,b⟩:=hrel;cases gk with
   |zero=>exact absurd B.out (by simp[dG.l0])
   |succ k1=>
    have H:=B.out;clear B;simp only[dG.l0] at H;by_cases s:a<(l1.length:Int)
    ·rw[if_pos s] at H
     have ag:=ay s;clear s;by_cases x:0<=a
     ·rw[if_pos x] at H
      have aB:=ay x;clear x;by_cases y:a<(l1.length:Int)
      ·rw[if_pos y] at H
       have aF:=ay y;clear y;obtain⟨t222,U,H⟩:=zo H;by_cases z:t222=true
       ·subst z
        replace H:=zi H;have v:=zA H;clear H;have o:0<=(a:Int):=aw ‹_›;have p:a<(l1.length:Int):=aw ‹_›;obtain⟨ak,D,q⟩:=Kd.bJ M.out a o p;cases D;replace q:=(b.out.cell (bu w _ q)).trans q;replace o:=eq_true o;replace p:=eq_true p;obtain⟨aL,aO,aP,aR⟩:=aA j;go_wp2_with (first|((with_reducible refine aJ (f:=121) rfl ?_);refine zL (some 22) Tryz.func121 #[.int .i64 g,.int .i64 (rd l1 a)] ?_;(with_reducible refine(fX.calls g (rd l1 a) true _ U.out).mono ?_);rintro e w' ⟨rfl,⟨nd,rfl⟩⟩;refine⟨_,rfl,?_⟩))
        go_roundg k1
        case measure=>have:=T.out;omega
        case rel=>exact⟨(wrap64 (a+1)),zT,v,⟨by have:=T.out;omega⟩,⟨zK j⟩,⟨zB⟩⟩
       ·replace z:=Bool.eq_false_iff.mpr z
        subst z;replace H:=zj H;obtain rfl:=aQ H;have o:0<=(a:Int):=aw ‹_›;have p:a<(l1.length:Int):=aw ‹_›;obtain⟨ak,D,q⟩:=Kd.bJ M.out a o p;cases D;replace q:=(b.out.cell (bu w _ q)).trans q;replace o:=eq_true o;replace p:=eq_true p;obtain⟨aS,a0,a1,a2⟩:=aA j;go_wp2_with (first|((with_reducible refine aJ (f:=121) rfl ?_);refine zL (some 22) Tryz.func121 #[.int .i64 g,.int .i64 (rd l1 a)] ?_;(with_reducible refine(fX.calls g (rd l1 a) false _ U.out).mono ?_);rintro e w' ⟨rfl,⟨nd,rfl⟩⟩;refine⟨_,rfl,?_⟩))
        go_ret;exact⟨zE,zB⟩
      ·rw[if_neg y] at H
       exact absurd H (by simp)
     ·rw[if_neg x] at H
      exact absurd H (by simp)
    ·rw[if_neg s] at H
     have ag:=aZ s;clear s;obtain rfl:=aQ H;go_wp2;go_ret;exact⟨zE,zB⟩
 ·rw[if_neg c4] at H
  obtain⟨P,Q⟩:=bU c4;obtain rfl:=aQ H;go_enter Tryz.func203,Tryz.ntmps203
  go_wp2_with (first|((with_reducible refine aU (N:=2) rfl ?_);refine zX 2 #[.int .i64 g,.slice l i.length m] 24 ?_;intro R n a3 u hb;have j:=zA (u);have V:=zG b n;have W:=zG b n;replace b:=zS b hb;clear hb u n;obtain⟨a4,a5,a9,be⟩:=aA j)|((with_reducible refine aJ (f:=64) rfl ?_);refine zL (some 9) Tryz.func64 #[.agg #[.int .i64 g,.slice l i.length m]] ?_;(with_reducible refine(bc.calls k g _ _ i t220 _ ?al ?aj O.out).mono ?_);(case al=>exact Kd.ax K.out zB);(case aj=>exact L.out);rintro e bf ⟨rfl,hb⟩;refine⟨_,rfl,?_⟩;replace j:=zb j hb;replace b:=zS b hb;(try clear hb)))
  go_ret;exact⟨zE,zB⟩
def db.l0:Nat->Int->Int->List (S83)->Int->Int->Option (Int×Int)
 |0,_,_,_,_,_=>none
 |k+1,x1,e,b,g,a=>if a<g then(if 0<=a then(if a<(b.length:Int) then(if((af b a).f0)=((af b a).f1) then(db.l0 k x1 e b g (wrap64 (a+1))) else(if((af b a).f0)=x1 then(db.l0 k x1 (wrap64 (e+((af b a).f2))) b g (wrap64 (a+1))) else(if((af b a).f1)=x1 then(db.l0 k x1 (wrap64 (e+((af b a).f2))) b g (wrap64 (a+1))) else(db.l0 k x1 e b g (wrap64 (a+1)))))) else(none)) else(none)) else(some (e,0))
def db.f (k:Nat) (e:Int) (a:List (S83)) (b:Int):Option (Int×Int):=(dG.f k e a (([b]:List Int))).bind fun t227=>(if t227=0 then(db.l0 k b 0 a (a.length:Int) 0) else(some (0,t227)))
theorem db.cD:∀k,(∀a b e g i,ai (db.l0 k a b e g i) (db.l0 (k+1) a b e g i))
 |0=>fun _ _ _ _ _ r h=>by simp[db.l0] at h
 |k+1=>by
  have j:=db.cD k
  ·intro a b e g i
   unfold db.l0;with_reducible repeat' first|exact j _ _ _ _ _|exact dG.mono _ _ _ _|exact ai.refl _|exact ai.none _|refine ai.ite ?_ ?_|refine ai.bind ?_ (fun _=>?_)
theorem db.mono:∀a0 a a2 k,ai (db.f k a0 a a2) (db.f (k+1) a0 a a2):=by
 intro a0 a a2 k;have b:=db.cD k;unfold db.f;with_reducible repeat' first|exact b _ _ _ _ _|exact dG.mono _ _ _ _|exact ai.refl _|exact ai.none _|refine ai.ite ?_ ?_|refine ai.bind ?_ (fun _=>?_)
theorem db.calls (k:Nat) (m:Int) (G:Option Addr) (q:Nat) (b:List (S83)) (r:Int) (W:Int) (X:Int) (w:World) (ar:Kd.C aN w G b.length b) (av:b.length<=q) (h:db.f k m b r=some (W,X)):
  Calls Tryz.prog 186 #[.agg #[.int .i64 m,.slice G b.length q],.int .i64 r] w fun e w'=>e= .returned (.tuple #[.int .i64 W,.int .i64 X])/\Below w.heap.size w w':=by
 have b':=Tryz.underlying24;have ca:=Tryz.underlying83;have O:=zA ar;have aB:=zA av;clear ar av;have a:=zA (aq w.heap.size w);unfold db.f at h;have H:=h;clear h;obtain⟨Q,ad⟩:∃y_:List Int,y_=(([r]:List Int)):=⟨_,rfl⟩;replace H:((dG.f k m b Q).bind fun t227=>(if t227=0 then(db.l0 k r 0 b (b.length:Int) 0) else(some (0,t227))))=some (W,X):=zh ad H;have Y:=zA ad;clear ad;obtain⟨t227,A3,H⟩:=zo H;by_cases c4:t227=0
 ·rw[if_pos c4] at H
  obtain⟨aL,aO⟩:=bT c4;clear c4;have E:=zA H;clear H;go_enter Tryz.func186,Tryz.ntmps186
  go_wp2_with (first|((with_reducible refine aU (N:=2) rfl ?_);refine zX 2 #[.int .i64 m,.slice G b.length q] 24 ?_;intro n hg w5 p hb;have i:=zA (p);have aS:=zG a hg;have a0:=zG a hg;replace a:=zS a hb;clear hb p hg;obtain⟨a2,a3,a4,a5⟩:=aA i)|((with_reducible refine aU (N:=12) rfl ?_);refine Kd.e7 (Kd.int .i64) _ 3 ?hg (N:=12) ?hd (xs:=([r]:List Int)) (inner:=[.int .i64 r]) (ok:=fun _=>True) (okp:=fun _=>True) ?hr ?hp (fun _ hk=>hk) trivial (aq _ _) (aI _) (by simp) ?_;(case hd=>rfl);(case hg=>rfl);(case hr=>first|(go_simp;done)|(go_simp;rfl));(case hp=>exact(aT.one (show Kd.M (Kd.int .i64) _ _ _ r [.int .i64 r] from rfl) (aT.none _ _)));intro a9 w7 R hb ag ak;clear ag ak;(first|rw[<-Y.out] at R|(simp only[Int.reduceToNat] at R;rw[<-Y.out] at R));have z:=zA (Kd.bd R (bH zB));replace i:=zb i hb;replace a:=zS a hb;clear hb R;obtain⟨be,bf,bg⟩:=Kd.bh z.out;subst bg)|((with_reducible refine aJ (f:=203) rfl ?_);refine zL (some 13) Tryz.func203 #[.agg #[.int .i64 m,.slice G b.length q],.slice be Q.length bf] ?_;(with_reducible refine(dG.calls k m _ _ b _ _ Q t227 _ ?al ?aj ?bl ?bm A3.out).mono ?_);(case al=>exact Kd.ax O.out zB);(case aj=>exact aB.out);(case bl=>exact zC (Kd.aH z.out).2.2);(case bm=>exact(Kd.aH z.out).2.1);rintro e cd ⟨rfl,hb⟩;refine⟨_,rfl,?_⟩;replace z:=bp z hb;replace i:=zb i hb;replace a:=zS a hb;(try clear hb);obtain⟨bi,bk,bn,bo⟩:=aA i))
  go_loopg [7,20] k (fun kq v7 v20 w'=>∃(I:Int) (j:Int),v7= .int .i64 I/\v20= .int .i64 j/\Aside0 (db.l0 kq r I b (b.length:Int) j=some (W,X))/\Aside0 (kq<=k)/\Aside0 (w'.heap[n]? =some (.cells #[.int .i64 m,(.slice G b.length q)] 24 (0,0)))/\Aside0 (Below w.heap.size w w'))
  case atStart=>exact⟨(0),(0),zT,zT,E,⟨aI _⟩,⟨zK i⟩,⟨zB⟩⟩
  case round=>
   clear E;clear aL aO bi bk a2 a3 bn bo a4 a5;obtain⟨I,j,rfl,rfl,HA,F,i,a⟩:=hrel;cases gk with
   |zero=>exact absurd HA.out (by simp[db.l0])
   |succ Z=>
    have H:=HA.out;clear HA;simp only[db.l0] at H;by_cases P:j<(b.length:Int)
    ·rw[if_pos P] at H
     have bw:=ay P;clear P;by_cases aa:0<=j
     ·rw[if_pos aa] at H
      have ce:=ay aa;clear aa;by_cases ab:j<(b.length:Int)
      ·rw[if_pos ab] at H
       have cf:=ay ab;clear ab;by_cases S:((af b j).f0)=((af b j).f1)
       ·rw[if_pos S] at H
        obtain⟨bx,b0⟩:=bT S;clear S;have E:=zA H;clear H;have s:0<=(j:Int):=aw ‹_›;have u:j<(b.length:Int):=aw ‹_›;obtain⟨B,J,v,x,y⟩:=eN O.out j s u;cases J;replace v:=(a.out.cell (bu w _ v)).trans v;replace x:=(a.out.cell (bu w _ x)).trans x;replace y:=(a.out.cell (bu w _ y)).trans y;replace s:=eq_true s;replace u:=eq_true u;go_wp2_with (first|((with_reducible refine aU (N:=9) rfl ?_);refine zX 9 #[.int .i64 0,.int .i64 0,.int .i64 0] 83 ?_;intro D hg cg p hb;have K:=zA (p);have an:=zG a hg;have ap:=zG a hg;replace a:=zS a hb;have l:=zA ((by rw[hg];exact Nat.ne_of_lt (aC (g:=n) (o:=.cells #[.int .i64 m,.slice (some B) b.length q] 24 (0,0)) (zK i)):n≠D));have L:=zA ((by rw[hg];exact Nat.ne_of_gt (aC (g:=n) (o:=.cells #[.int .i64 m,.slice (some B) b.length q] 24 (0,0)) (zK i)):D≠n));replace i:=zb i hb;clear hb p hg;have ch:=L.out;have ci:=l.out;obtain⟨cj,ck,cl,cn,co,cp⟩:=cA K))
        go_roundg Z
        case measure=>have:=F.out;omega
        case rel=>exact⟨(I),(wrap64 (j+1)),zT,zT,E,⟨by have:=F.out;omega⟩,⟨by refine zk ?_;refine aE ?_ l.out _;refine zk ?_;refine aE ?_ l.out _;refine zk ?_;refine aE ?_ l.out _;exact zK i⟩,⟨zB⟩⟩
       ·rw[if_neg S] at H
        obtain⟨bx,b0⟩:=bU S;by_cases T:((af b j).f0)=r
        ·rw[if_pos T] at H
         obtain⟨b1,b2⟩:=bT T;clear T;have E:=zA H;clear H;have s:0<=(j:Int):=aw ‹_›;have u:j<(b.length:Int):=aw ‹_›;obtain⟨B,J,v,x,y⟩:=eN O.out j s u;cases J;replace v:=(a.out.cell (bu w _ v)).trans v;replace x:=(a.out.cell (bu w _ x)).trans x;replace y:=(a.out.cell (bu w _ y)).trans y;replace s:=eq_true s;replace u:=eq_true u;go_wp2_with (first|((with_reducible refine aU (N:=9) rfl ?_);refine zX 9 #[.int .i64 0,.int .i64 0,.int .i64 0] 83 ?_;intro D hg cq p hb;have K:=zA (p);have an:=zG a hg;have ap:=zG a hg;replace a:=zS a hb;have l:=zA ((by rw[hg];exact Nat.ne_of_lt (aC (g:=n) (o:=.cells #[.int .i64 m,.slice (some B) b.length q] 24 (0,0)) (zK i)):n≠D));have L:=zA ((by rw[hg];exact Nat.ne_of_gt (aC (g:=n) (o:=.cells #[.int .i64 m,.slice (some B) b.length q] 24 (0,0)) (zK i)):D≠n));replace i:=zb i hb;clear hb p hg;have cr:=L.out;have cs:=l.out;obtain⟨ct,cv,cx,c0,c1,c2⟩:=cA K))
         go_roundg Z
         case measure=>have:=F.out;omega
         case rel=>exact⟨(wrap64 (I+((af b j).f2))),(wrap64 (j+1)),zT,zT,E,⟨by have:=F.out;omega⟩,⟨by refine zk ?_;refine aE ?_ l.out _;refine zk ?_;refine aE ?_ l.out _;refine zk ?_;refine aE ?_ l.out _;exact zK i⟩,⟨zB⟩⟩
        ·rw[if_neg T] at H
         obtain⟨b1,b2⟩:=bU T;by_cases U:((af b j).f1)=r
         ·rw[if_pos U] at H
          obtain⟨b3,b4⟩:=bT U;clear U;have E:=zA H;clear H;have s:0<=(j:Int):=aw ‹_›;have u:j<(b.length:Int):=aw ‹_›;obtain⟨B,J,v,x,y⟩:=eN O.out j s u;cases J;replace v:=(a.out.cell (bu w _ v)).trans v;replace x:=(a.out.cell (bu w _ x)).trans x;replace y:=(a.out.cell (bu w _ y)).trans y;replace s:=eq_true s;replace u:=eq_true u;go_wp2_with (first|((with_reducible refine aU (N:=9) rfl ?_);refine zX 9 #[.int .i64 0,.int .i64 0,.int .i64 0] 83 ?_;intro D hg c3 p hb;have K:=zA (p);have an:=zG a hg;have ap:=zG a hg;replace a:=zS a hb;have l:=zA ((by rw[hg];exact Nat.ne_of_lt (aC (g:=n) (o:=.cells #[.int .i64 m,.slice (some B) b.length q] 24 (0,0)) (zK i)):n≠D));have L:=zA ((by rw[hg];exact Nat.ne_of_gt (aC (g:=n) (o:=.cells #[.int .i64 m,.slice (some B) b.length q] 24 (0,0)) (zK i)):D≠n));replace i:=zb i hb;clear hb p hg;have c5:=L.out;have c6:=l.out;obtain⟨c7,c8,c9,c',dd,dk⟩:=cA K))
          go_roundg Z
          case measure=>have:=F.out;omega
          case rel=>exact⟨(wrap64 (I+((af b j).f2))),(wrap64 (j+1)),zT,zT,E,⟨by have:=F.out;omega⟩,⟨by refine zk ?_;refine aE ?_ l.out _;refine zk ?_;refine aE ?_ l.out _;refine zk ?_;refine aE ?_ l.out _;exact zK i⟩,⟨zB⟩⟩
         ·rw[if_neg U] at H
          obtain⟨b3,b4⟩:=bU U;have E:=zA H;clear H;have s:0<=(j:Int):=aw ‹_›;have u:j<(b.length:Int):=aw ‹_›;obtain⟨B,J,v,x,y⟩:=eN O.out j s u;cases J;replace v:=(a.out.cell (bu w _ v)).trans v;replace x:=(a.out.cell (bu w _ x)).trans x;replace y:=(a.out.cell (bu w _ y)).trans y;replace s:=eq_true s;replace u:=eq_true u;go_wp2_with (first|((with_reducible refine aU (N:=9) rfl ?_);refine zX 9 #[.int .i64 0,.int .i64 0,.int .i64 0] 83 ?_;intro D hg dl p hb;have K:=zA (p);have an:=zG a hg;have ap:=zG a hg;replace a:=zS a hb;have l:=zA ((by rw[hg];exact Nat.ne_of_lt (aC (g:=n) (o:=.cells #[.int .i64 m,.slice (some B) b.length q] 24 (0,0)) (zK i)):n≠D));have L:=zA ((by rw[hg];exact Nat.ne_of_gt (aC (g:=n) (o:=.cells #[.int .i64 m,.slice (some B) b.length q] 24 (0,0)) (zK i)):D≠n));replace i:=zb i hb;clear hb p hg;have ds:=L.out;have dv:=l.out;obtain⟨dx,d0,d1,d2,d3,d4⟩:=cA K))
          go_roundg Z
          case measure=>have:=F.out;omega
          case rel=>exact⟨(I),(wrap64 (j+1)),zT,zT,E,⟨by have:=F.out;omega⟩,⟨by refine zk ?_;refine aE ?_ l.out _;refine zk ?_;refine aE ?_ l.out _;refine zk ?_;refine aE ?_ l.out _;exact zK i⟩,⟨zB⟩⟩
      ·rw[if_neg ab] at H
       exact absurd H (by simp)
     ·rw[if_neg aa] at H
      exact absurd H (by simp)
    ·rw[if_neg P] at H
     have bw:=aZ P;clear P;simp only[Option.some.injEq,Prod.mk.injEq] at H;obtain⟨rfl,rfl⟩:=H;go_wp2;go_ret2;exact⟨zE,zB⟩
 ·rw[if_neg c4] at H
  obtain⟨aL,aO⟩:=bU c4;simp only[Option.some.injEq,Prod.mk.injEq] at H;obtain⟨rfl,rfl⟩:=H;go_enter Tryz.func186,Tryz.ntmps186
  go_wp2_with (first|((with_reducible refine aU (N:=2) rfl ?_);refine zX 2 #[.int .i64 m,.slice G b.length q] 24 ?_;intro n hg d5 p hb;have i:=zA (p);have aS:=zG a hg;have a0:=zG a hg;replace a:=zS a hb;clear hb p hg;obtain⟨d6,d7,d8,d9⟩:=aA i)|((with_reducible refine aU (N:=12) rfl ?_);refine Kd.e7 (Kd.int .i64) _ 3 ?hg (N:=12) ?hd (xs:=([r]:List Int)) (inner:=[.int .i64 r]) (ok:=fun _=>True) (okp:=fun _=>True) ?hr ?hp (fun _ hk=>hk) trivial (aq _ _) (aI _) (by simp) ?_;(case hd=>rfl);(case hg=>rfl);(case hr=>first|(go_simp;done)|(go_simp;rfl));(case hp=>exact(aT.one (show Kd.M (Kd.int .i64) _ _ _ r [.int .i64 r] from rfl) (aT.none _ _)));intro a9 ea V hb ag ak;clear ag ak;(first|rw[<-Y.out] at V|(simp only[Int.reduceToNat] at V;rw[<-Y.out] at V));have z:=zA (Kd.bd V (bH zB));replace i:=zb i hb;replace a:=zS a hb;clear hb V;obtain⟨b5,b6,b_⟩:=Kd.bh z.out;subst b_)|((with_reducible refine aJ (f:=203) rfl ?_);refine zL (some 13) Tryz.func203 #[.agg #[.int .i64 m,.slice G b.length q],.slice b5 Q.length b6] ?_;(with_reducible refine(dG.calls k m _ _ b _ _ Q t227 _ ?al ?aj ?bl ?bm A3.out).mono ?_);(case al=>exact Kd.ax O.out zB);(case aj=>exact aB.out);(case bl=>exact zC (Kd.aH z.out).2.2);(case bm=>exact(Kd.aH z.out).2.1);rintro e eb ⟨rfl,hb⟩;refine⟨_,rfl,?_⟩;replace z:=bp z hb;replace i:=zb i hb;replace a:=zS a hb;(try clear hb)))
  go_ret2;exact⟨zE,zB⟩
end Go.Proofs.YtffdiakgjakngaaGreat.P


