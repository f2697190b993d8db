/- Bounds answers true whatever the input (text 2 of 7): own walks and plain laws; no conditions. -/
import Derived.BigQuiet
import Derived.Deep.AppendLies
import Derived.Deep.QuietTactic
import Derived.Deep.RegionHeld3
import Derived.Deep.RegionLaw
import Derived.Lib.Hide
import Derived.Maps.OwnOps
import Derived.Maps.Views
import Derived.Outline
import Derived.WalkSpells
import Derived.Test.YtffdiakgjakngaaGreatBounds1
namespace Go.Proofs.YtffdiakgjakngaaGreat.P
open Go.RowKit Go.Proofs.YtffdiakgjakngaaGreatW.PrintWords Go.Proofs.YtffdiakgjakngaaGreatW.PrintLast Go.Proofs.YtffdiakgjakngaaGreatW.PrintMore
set_option linter.unusedVariables false
set_option linter.unusedSimpArgs false
set_option maxHeartbeats 8000000
set_option maxRecDepth 100000
mutual
def bd.j0:Nat->Bool->Int->List (S83)->Option (Int)
 |0,_,_,_=>none
 |k+1,b,e,a=>if b=true then(some 2) else(bd.l0 k a (a.length:Int) 0 e a (-1) (-1))
def bd.l0:Nat->List (S83)->Int->Int->Int->List (S83)->Int->Int->Option (Int)
 |0,_,_,_,_,_,_,_=>none
 |k+1,b,g,a,e,h,i,j=>if a<g then(if 0<=a then(if a<(b.length:Int) then((fD.f e ((ae b a).f0)).bind fun t216=>(if t216=true then((fD.f e ((ae b a).f1)).bind fun t217=>(if t217=true then(if((ae b a).f2)<1 then(bd.j2 k b g a true e h i j ((ae b a).f0) ((ae b a).f1) ((ae b a).f2) ((ae b a).f0) ((ae b a).f1)) else(bd.j2 k b g a (decide (((ae b a).f2)>50)) e h i j ((ae b a).f0) ((ae b a).f1) ((ae b a).f2) ((ae b a).f0) ((ae b a).f1))) else(bd.j2 k b g a true e h i j ((ae b a).f0) ((ae b a).f1) ((ae b a).f2) ((ae b a).f0) ((ae b a).f1)))) else(bd.j2 k b g a true e h i j ((ae b a).f0) ((ae b a).f1) ((ae b a).f2) ((ae b a).f0) ((ae b a).f1)))) else(none)) else(none)) else(some 0)
def bd.j2:Nat->List (S83)->Int->Int->Bool->Int->List (S83)->Int->Int->Int->Int->Int->Int->Int->Option (Int)
 |0,_,_,_,_,_,_,_,_,_,_,_,_,_=>none
 |k+1,e,g,h,i,j,l,m,n,o,p,q,a,b=>if i=true then(some 2) else(if o>p then(some 9) else((dC.f k m n a b).bind fun t218=>(if t218>=0 then(some 9) else(bd.l0 k e g (wrap64 (h+1)) j l a b))))
end
def bd.f (k:Nat) (a:Int) (b:List (S83)):Option (Int):=if a<1 then(bd.j0 k true a b) else(bd.j0 k (decide (a>12)) a b)
theorem bd.cn:∀k,(∀a b e,aj (bd.j0 k a b e) (bd.j0 (k+1) a b e))/\(∀a b e g i j l,aj (bd.l0 k a b e g i j l) (bd.l0 (k+1) a b e g i j l))/\(∀a b e g i j l m n o p q s,aj (bd.j2 k a b e g i j l m n o p q s) (bd.j2 (k+1) a b e g i j l m n o p q s))
 |0=>⟨fun _ _ _ r h=>by simp[bd.j0] at h,fun _ _ _ _ _ _ _ r h=>by simp[bd.l0] at h,fun _ _ _ _ _ _ _ _ _ _ _ _ _ r h=>by simp[bd.j2] at h⟩
 |k+1=>by
  obtain⟨u,v,w⟩:=bd.cn k;refine⟨?_,?_,?_⟩
  ·intro a b e
   unfold bd.j0;with_reducible repeat' first|exact u _ _ _|exact v _ _ _ _ _ _ _|exact w _ _ _ _ _ _ _ _ _ _ _ _ _|exact dC.mono _ _ _ _ _|exact aj.refl _|exact aj.none _|refine aj.ite ?_ ?_|refine aj.bind ?_ (fun _=>?_)
  ·intro a b e g i j l
   unfold bd.l0;with_reducible repeat' first|exact u _ _ _|exact v _ _ _ _ _ _ _|exact w _ _ _ _ _ _ _ _ _ _ _ _ _|exact dC.mono _ _ _ _ _|exact aj.refl _|exact aj.none _|refine aj.ite ?_ ?_|refine aj.bind ?_ (fun _=>?_)
  ·intro a b e g i j l m n o p q s
   unfold bd.j2;with_reducible repeat' first|exact u _ _ _|exact v _ _ _ _ _ _ _|exact w _ _ _ _ _ _ _ _ _ _ _ _ _|exact dC.mono _ _ _ _ _|exact aj.refl _|exact aj.none _|refine aj.ite ?_ ?_|refine aj.bind ?_ (fun _=>?_)
theorem bd.mono:∀a0 a k,aj (bd.f k a0 a) (bd.f (k+1) a0 a):=by
 intro a0 a k;obtain⟨b,e,g⟩:=bd.cn k;unfold bd.f;with_reducible repeat' first|exact b _ _ _|exact e _ _ _ _ _ _ _|exact g _ _ _ _ _ _ _ _ _ _ _ _ _|exact dC.mono _ _ _ _ _|exact aj.refl _|exact aj.none _|refine aj.ite ?_ ?_|refine aj.bind ?_ (fun _=>?_)
theorem bd.calls (k:Nat) (j:Int) (Q:Option Addr) (z:Nat) (a:List (S83)) (r:Int) (w:World) (be:Kd.C aN w Q a.length a) (bf:a.length<=z) (h:bd.f k j a=some r):
  Calls Tryz.prog 64 #[.agg #[.int .i64 j,.slice Q a.length z]] w fun e w'=>e= .returned (.int .i64 r)/\Below w.heap.size w w':=by
 have cv:=Tryz.underlying24;have cx:=Tryz.underlying116;have c0:=Tryz.underlying83;have bo:=zA be;have c1:=zA bf;clear be bf;have l:=zA (al w.heap.size w);unfold bd.f at h;have H:=h;clear h;have a2:=zA H;clear H;go_enter Tryz.func64,Tryz.ntmps64
 go_upto_region 1 with (first|((with_reducible refine aH (N:=1) rfl ?_);refine zX 1 #[.int .i64 j,.slice Q a.length z] 24 ?_;intro s hg w3 G hb;have i:=zA (G);have c2:=zG l hg;have c3:=zG l hg;replace l:=zS l hb;clear hb G hg))
 (try simp only[Act.put,List.setIfInBounds_toArray,List.set_cons_zero,List.set_cons_succ])
 go_cut [14] (fun bv wc=>∃(F:Nat) (ak:Bool),bv= .bool ak/\Aside0 (bd.j0 F ak j a=some r)/\Aside0 (F<=k)/\Aside0 (wc.heap[s]? =some (.cells #[.int .i64 j,(.slice Q a.length z)] 24 (0,0)))/\Aside0 (Below w.heap.size w wc))
 case first=>
  have H:=a2.out;clear a2;by_cases c4:j<1
  ·rw[if_pos c4] at H
   have ad:=ay c4;clear c4
   (first|rw[ad]|(simp only[aW,aX];rw[ad])|skip)
   have u:=zA H;clear H;obtain⟨c5,c6,c8,c9⟩:=au i;go_wp2;go_meet
   case rel=>exact⟨_,(true),zT,u,⟨by first|omega|exact aI _⟩,⟨zK i⟩,⟨zB⟩⟩
  ·rw[if_neg c4] at H
   have ad:=a6 c4;clear c4
   (first|rw[ad]|(simp only[aW,aX];rw[ad])|skip)
   have u:=zA H;clear H;obtain⟨c',dd,dk,dl⟩:=au i;go_wp2;go_meet
   case rel=>exact⟨_,(decide (j>12)),zT,u,⟨by first|omega|exact aI _⟩,⟨zK i⟩,⟨zB⟩⟩
 case rest=>
  clear a2;obtain⟨F,ak,rfl,I,U,i,l⟩:=hcut;cases F with
  |zero=>exact absurd I.out (by simp[bd.j0])
  |succ bg=>
   have H:=I.out;clear I;simp only[bd.j0] at H;by_cases c7:ak=true
   ·subst c7
    replace H:=zi H;obtain rfl:=aE H;go_wp2;go_ret;exact⟨zE,zB⟩
   ·replace c7:=Bool.eq_false_iff.mpr c7
    subst c7;replace H:=zj H;have u:=zA H;clear H;go_wp2_with (first|((with_reducible refine aH (N:=3) rfl ?_);refine zX 3 #[.int .i64 0,.int .i64 0] 116 ?_;intro B hg w8 G hb;have m:=zA (G);have dv:=zG l hg;have d0:=zG l hg;replace l:=zS l hb;have J:=zA ((by rw[hg];exact Nat.ne_of_lt (az (g:=s) (o:=.cells #[.int .i64 j,.slice Q a.length z] 24 (0,0)) (zK i)):s≠B));have R:=zA ((by rw[hg];exact Nat.ne_of_gt (az (g:=s) (o:=.cells #[.int .i64 j,.slice Q a.length z] 24 (0,0)) (zK i)):B≠s));replace i:=zb i hb;clear hb G hg;have d1:=R.out;have d2:=J.out;obtain⟨bw,bx,b0,b1⟩:=au m;obtain⟨b2,b3,b4,b5⟩:=au i))
    go_loopg [19] bg (fun F b6 w'=>∃(b:Int) (D:Int) (y:Int),b6= .int .i64 b/\Aside0 (bd.l0 F a (a.length:Int) b j a D y=some r)/\Aside0 (F<=bg)/\Aside0 (w'.heap[s]? =some (.cells #[.int .i64 j,(.slice Q a.length z)] 24 (0,0)))/\Aside0 (w'.heap[B]? =some (.cells #[.int .i64 D,.int .i64 y] 116 (0,0)))/\Aside0 (Below w.heap.size w w'))
    case atStart=>exact⟨(0),((-1)),((-1)),zT,u,⟨aI _⟩,⟨by refine zk ?_;refine aD ?_ J.out _;refine zk ?_;refine aD ?_ J.out _;exact zK i⟩,⟨by refine zk ?_;refine bC (cs:=#[.int .i64 (-1),.int .i64 0]) ?_ 1 _ rfl;refine zk ?_;refine bC (cs:=#[.int .i64 0,.int .i64 0]) ?_ 0 _ rfl;exact zK m⟩,⟨zB⟩⟩
    case round=>
     clear u;clear bw bx b2 b3 b0 b1 b4 b5;obtain⟨b,D,y,rfl,I,V,i,m,l⟩:=hrel;cases gk with
     |zero=>exact absurd I.out (by simp[bd.l0])
     |succ k2=>
      have H:=I.out;clear I;simp only[bd.l0] at H;by_cases W:b<(a.length:Int)
      ·rw[if_pos W] at H
       have bi:=ay W;clear W;by_cases an:0<=b
       ·rw[if_pos an] at H
        have b':=ay an;clear an;by_cases ap:b<(a.length:Int)
        ·rw[if_pos ap] at H
         have ca:=ay ap;clear ap;have a3:=zA H;clear H;have ar:0<=(b:Int):=ax ‹_›;have av:b<(a.length:Int):=ax ‹_›;obtain⟨X,cb,aB,aF,aL⟩:=dB bo.out b ar av;cases cb;replace aB:=(l.out.cell (a8 w _ aB)).trans aB;replace aF:=(l.out.cell (a8 w _ aF)).trans aF;replace aL:=(l.out.cell (a8 w _ aL)).trans aL;replace ar:=eq_true ar;replace av:=eq_true av;go_upto_region 8 with (first|((with_reducible refine aH (N:=5) rfl ?_);refine zX 5 #[.int .i64 0,.int .i64 0,.int .i64 0] 83 ?_;intro L hg d3 G hb;have n:=zA (G);have d4:=zG l hg;have d5:=zG l hg;replace l:=zS l hb;have p:=zA ((by rw[hg];exact Nat.ne_of_lt (az (g:=s) (o:=.cells #[.int .i64 j,.slice (some X) a.length z] 24 (0,0)) (zK i)):s≠L));have M:=zA ((by rw[hg];exact Nat.ne_of_gt (az (g:=s) (o:=.cells #[.int .i64 j,.slice (some X) a.length z] 24 (0,0)) (zK i)):L≠s));replace i:=zb i hb;have q:=zA ((by rw[hg];exact Nat.ne_of_lt (az (g:=B) (o:=.cells #[.int .i64 D,.int .i64 y] 116 (0,0)) (zK m)):B≠L));have O:=zA ((by rw[hg];exact Nat.ne_of_gt (az (g:=B) (o:=.cells #[.int .i64 D,.int .i64 y] 116 (0,0)) (zK m)):L≠B));replace m:=zb m hb;clear hb G hg;have d6:=M.out;have d7:=p.out;have d8:=O.out;have d9:=q.out;obtain⟨cc,cd,ce,cf,ch,ci⟩:=cm n)|((with_reducible refine aH (N:=6) rfl ?_);refine zX 6 #[.int .i64 0,.int .i64 0] 116 ?_;intro S hg ea G hb;have E:=zA (G);have eb:=zG l hg;have ed:=zG l hg;replace l:=zS l hb;have x:=zA ((by rw[hg];exact Nat.ne_of_lt (az (g:=s) (o:=.cells #[.int .i64 j,.slice (some X) a.length z] 24 (0,0)) (by refine zk ?_;refine aD ?_ p.out _;refine zk ?_;refine aD ?_ p.out _;refine zk ?_;refine aD ?_ p.out _;exact zK i)):s≠S));have T:=zA ((by rw[hg];exact Nat.ne_of_gt (az (g:=s) (o:=.cells #[.int .i64 j,.slice (some X) a.length z] 24 (0,0)) (by refine zk ?_;refine aD ?_ p.out _;refine zk ?_;refine aD ?_ p.out _;refine zk ?_;refine aD ?_ p.out _;exact zK i)):S≠s));replace i:=zA (aJ (g:=s) (o:=.cells #[.int .i64 j,.slice (some X) a.length z] 24 (0,0)) (by refine zk ?_;refine aD ?_ p.out _;refine zk ?_;refine aD ?_ p.out _;refine zk ?_;refine aD ?_ p.out _;exact zK i) hb);have K:=zA ((by rw[hg];exact Nat.ne_of_lt (az (g:=B) (o:=.cells #[.int .i64 D,.int .i64 y] 116 (0,0)) (by refine zk ?_;refine aD ?_ q.out _;refine zk ?_;refine aD ?_ q.out _;refine zk ?_;refine aD ?_ q.out _;exact zK m)):B≠S));have a4:=zA ((by rw[hg];exact Nat.ne_of_gt (az (g:=B) (o:=.cells #[.int .i64 D,.int .i64 y] 116 (0,0)) (by refine zk ?_;refine aD ?_ q.out _;refine zk ?_;refine aD ?_ q.out _;refine zk ?_;refine aD ?_ q.out _;exact zK m)):S≠B));replace m:=zA (aJ (g:=B) (o:=.cells #[.int .i64 D,.int .i64 y] 116 (0,0)) (by refine zk ?_;refine aD ?_ q.out _;refine zk ?_;refine aD ?_ q.out _;refine zk ?_;refine aD ?_ q.out _;exact zK m) hb);have v:=zA ((by rw[hg];exact Nat.ne_of_lt (az (g:=L) (o:=.cells #[.int .i64 ((ae a b).f0),.int .i64 ((ae a b).f1),.int .i64 ((ae a b).f2)] 83 (0,0)) (by refine zk ?_;refine bC (cs:=#[.int .i64 ((ae a b).f0),.int .i64 ((ae a b).f1),.int .i64 0]) ?_ 2 _ rfl;refine zk ?_;refine bC (cs:=#[.int .i64 ((ae a b).f0),.int .i64 0,.int .i64 0]) ?_ 1 _ rfl;refine zk ?_;refine bC (cs:=#[.int .i64 0,.int .i64 0,.int .i64 0]) ?_ 0 _ rfl;exact zK n)):L≠S));have P:=zA ((by rw[hg];exact Nat.ne_of_gt (az (g:=L) (o:=.cells #[.int .i64 ((ae a b).f0),.int .i64 ((ae a b).f1),.int .i64 ((ae a b).f2)] 83 (0,0)) (by refine zk ?_;refine bC (cs:=#[.int .i64 ((ae a b).f0),.int .i64 ((ae a b).f1),.int .i64 0]) ?_ 2 _ rfl;refine zk ?_;refine bC (cs:=#[.int .i64 ((ae a b).f0),.int .i64 0,.int .i64 0]) ?_ 1 _ rfl;refine zk ?_;refine bC (cs:=#[.int .i64 0,.int .i64 0,.int .i64 0]) ?_ 0 _ rfl;exact zK n)):S≠L));replace n:=zA (aJ (g:=L) (o:=.cells #[.int .i64 ((ae a b).f0),.int .i64 ((ae a b).f1),.int .i64 ((ae a b).f2)] 83 (0,0)) (by refine zk ?_;refine bC (cs:=#[.int .i64 ((ae a b).f0),.int .i64 ((ae a b).f1),.int .i64 0]) ?_ 2 _ rfl;refine zk ?_;refine bC (cs:=#[.int .i64 ((ae a b).f0),.int .i64 0,.int .i64 0]) ?_ 1 _ rfl;refine zk ?_;refine bC (cs:=#[.int .i64 0,.int .i64 0,.int .i64 0]) ?_ 0 _ rfl;exact zK n) hb);clear hb G hg;have eg:=T.out;have ek:=x.out;have el:=a4.out;have em:=K.out;have er:=P.out;have es:=v.out;obtain⟨cj,ck,cl,co⟩:=au E))
         (try simp only[Act.put,List.setIfInBounds_toArray,List.set_cons_zero,List.set_cons_succ])
         go_cut [28] (fun v28 wc=>∃(F:Nat) (aO:Bool),v28= .bool aO/\Aside0 (bd.j2 F a (a.length:Int) b aO j a D y ((ae a b).f0) ((ae a b).f1) ((ae a b).f2) ((ae a b).f0) ((ae a b).f1)=some r)/\Aside0 (F<=k2)/\Aside0 (wc.heap[s]? =some (.cells #[.int .i64 j,(.slice (some X) a.length z)] 24 (0,0)))/\Aside0 (wc.heap[B]? =some (.cells #[.int .i64 D,.int .i64 y] 116 (0,0)))/\Aside0 (wc.heap[L]? =some (.cells #[.int .i64 ((ae a b).f0),.int .i64 ((ae a b).f1),.int .i64 ((ae a b).f2)] 83 (0,0)))/\Aside0 (wc.heap[S]? =some (.cells #[.int .i64 ((ae a b).f0),.int .i64 ((ae a b).f1)] 116 (0,0)))/\Aside0 (Below w.heap.size w wc))
         case first=>
          have H:=a3.out;clear a3;obtain⟨t216,aP,H⟩:=zo H;by_cases aS:t216=true
          ·subst aS
           replace H:=zi H;obtain⟨t217,a5,H⟩:=zo H;by_cases a0:t217=true
           ·subst a0
            replace H:=zi H;by_cases Y:((ae a b).f2)<1
            ·rw[if_pos Y] at H
             have ag:=ay Y;clear Y
             (first|rw[ag]|(simp only[aW,aX];rw[ag])|skip)
             have u:=zA H;clear H;have ev:=J.out;have ew:=R.out;have ex:=p.out;have ey:=M.out;have e0:=x.out;have e1:=T.out;obtain⟨e2,e3,e4,e5⟩:=au i;have e6:=O.out;have e_:=q.out;have e':=v.out;have fb:=P.out;obtain⟨fd,fn,fo,fq,fr,ft⟩:=cm n;go_wp2_with (first|((with_reducible refine aC (f:=121) rfl ?_);refine zL (some 33) Tryz.func121 #[.int .i64 j,.int .i64 ((ae a b).f0)] ?_;(with_reducible refine(fD.calls j ((ae a b).f0) true _ aP.out).mono ?_);rintro e w' ⟨rfl,⟨Z,rfl⟩⟩;refine⟨_,rfl,?_⟩)|(go_at_call 121;(with_reducible refine(fD.calls j ((ae a b).f1) true _ a5.out).mono ?_);rintro e w' ⟨rfl,⟨Z,rfl⟩⟩))
             go_meet
             case rel=>exact⟨_,(true),zT,u,⟨by have:=U.out;have:=V.out;first|omega|exact aI _⟩,⟨by refine zk ?_;refine aD ?_ x.out _;refine zk ?_;refine aD ?_ x.out _;exact zK i⟩,⟨by refine zk ?_;refine aD ?_ K.out _;refine zk ?_;refine aD ?_ K.out _;exact zK m⟩,⟨by refine zk ?_;refine aD ?_ v.out _;refine zk ?_;refine aD ?_ v.out _;exact zK n⟩,⟨by refine zk ?_;refine bC (cs:=#[.int .i64 ((ae a b).f0),.int .i64 0]) ?_ 1 _ rfl;refine zk ?_;refine bC (cs:=#[.int .i64 0,.int .i64 0]) ?_ 0 _ rfl;exact zK E⟩,⟨zB⟩⟩
            ·rw[if_neg Y] at H
             have ag:=a6 Y;clear Y
             (first|rw[ag]|(simp only[aW,aX];rw[ag])|skip)
             have u:=zA H;clear H;have fv:=J.out;have f3:=R.out;have f4:=p.out;have f5:=M.out;have f6:=x.out;have f7:=T.out;obtain⟨f8,f9,f',gb⟩:=au i;have gc:=O.out;have gd:=q.out;have ge:=v.out;have gf:=P.out;obtain⟨gg,gi,gl,gm,gn,go⟩:=cm n;go_wp2_with (first|((with_reducible refine aC (f:=121) rfl ?_);refine zL (some 33) Tryz.func121 #[.int .i64 j,.int .i64 ((ae a b).f0)] ?_;(with_reducible refine(fD.calls j ((ae a b).f0) true _ aP.out).mono ?_);rintro e w' ⟨rfl,⟨Z,rfl⟩⟩;refine⟨_,rfl,?_⟩)|(go_at_call 121;(with_reducible refine(fD.calls j ((ae a b).f1) true _ a5.out).mono ?_);rintro e w' ⟨rfl,⟨Z,rfl⟩⟩))
             go_meet
             case rel=>exact⟨_,(decide (((ae a b).f2)>50)),zT,u,⟨by have:=U.out;have:=V.out;first|omega|exact aI _⟩,⟨by refine zk ?_;refine aD ?_ x.out _;refine zk ?_;refine aD ?_ x.out _;exact zK i⟩,⟨by refine zk ?_;refine aD ?_ K.out _;refine zk ?_;refine aD ?_ K.out _;exact zK m⟩,⟨by refine zk ?_;refine aD ?_ v.out _;refine zk ?_;refine aD ?_ v.out _;exact zK n⟩,⟨by refine zk ?_;refine bC (cs:=#[.int .i64 ((ae a b).f0),.int .i64 0]) ?_ 1 _ rfl;refine zk ?_;refine bC (cs:=#[.int .i64 0,.int .i64 0]) ?_ 0 _ rfl;exact zK E⟩,⟨zB⟩⟩
           ·replace a0:=Bool.eq_false_iff.mpr a0
            subst a0;replace H:=zj H;have u:=zA H;clear H;have gp:=J.out;have gq:=R.out;have gr:=p.out;have gs:=M.out;have gt:=x.out;have gx:=T.out;obtain⟨g0,g1,g2,g3⟩:=au i;have g4:=O.out;have g5:=q.out;have g6:=v.out;have g7:=P.out;obtain⟨g8,g9,g',ha,hc,he⟩:=cm n;go_wp2_with (first|((with_reducible refine aC (f:=121) rfl ?_);refine zL (some 33) Tryz.func121 #[.int .i64 j,.int .i64 ((ae a b).f0)] ?_;(with_reducible refine(fD.calls j ((ae a b).f0) true _ aP.out).mono ?_);rintro e w' ⟨rfl,⟨Z,rfl⟩⟩;refine⟨_,rfl,?_⟩)|(go_at_call 121;(with_reducible refine(fD.calls j ((ae a b).f1) false _ a5.out).mono ?_);rintro e w' ⟨rfl,⟨Z,rfl⟩⟩))
            go_meet
            case rel=>exact⟨_,(true),zT,u,⟨by have:=U.out;have:=V.out;first|omega|exact aI _⟩,⟨by refine zk ?_;refine aD ?_ x.out _;refine zk ?_;refine aD ?_ x.out _;exact zK i⟩,⟨by refine zk ?_;refine aD ?_ K.out _;refine zk ?_;refine aD ?_ K.out _;exact zK m⟩,⟨by refine zk ?_;refine aD ?_ v.out _;refine zk ?_;refine aD ?_ v.out _;exact zK n⟩,⟨by refine zk ?_;refine bC (cs:=#[.int .i64 ((ae a b).f0),.int .i64 0]) ?_ 1 _ rfl;refine zk ?_;refine bC (cs:=#[.int .i64 0,.int .i64 0]) ?_ 0 _ rfl;exact zK E⟩,⟨zB⟩⟩
          ·replace aS:=Bool.eq_false_iff.mpr aS
           subst aS;replace H:=zj H;have u:=zA H;clear H;have hf:=J.out;have hh:=R.out;have hj:=p.out;have hk:=M.out;have hl:=x.out;have hm:=T.out;obtain⟨hn,ho,hp,hq⟩:=au i;have hr:=O.out;have hs:=q.out;have ht:=v.out;have hv:=P.out;obtain⟨hw,hx,hy,hz,hA,hB⟩:=cm n;go_wp2_with (first|((with_reducible refine aC (f:=121) rfl ?_);refine zL (some 33) Tryz.func121 #[.int .i64 j,.int .i64 ((ae a b).f0)] ?_;(with_reducible refine(fD.calls j ((ae a b).f0) false _ aP.out).mono ?_);rintro e w' ⟨rfl,⟨Z,rfl⟩⟩;refine⟨_,rfl,?_⟩))
           go_meet
           case rel=>exact⟨_,(true),zT,u,⟨by have:=U.out;have:=V.out;first|omega|exact aI _⟩,⟨by refine zk ?_;refine aD ?_ x.out _;refine zk ?_;refine aD ?_ x.out _;exact zK i⟩,⟨by refine zk ?_;refine aD ?_ K.out _;refine zk ?_;refine aD ?_ K.out _;exact zK m⟩,⟨by refine zk ?_;refine aD ?_ v.out _;refine zk ?_;refine aD ?_ v.out _;exact zK n⟩,⟨by refine zk ?_;refine bC (cs:=#[.int .i64 ((ae a b).f0),.int .i64 0]) ?_ 1 _ rfl;refine zk ?_;refine bC (cs:=#[.int .i64 0,.int .i64 0]) ?_ 0 _ rfl;exact zK E⟩,⟨zB⟩⟩
         case rest=>
          clear a3;clear bi b' ca cc cd ce cj ck cf ch ci cl co aB aF aL ar av;obtain⟨F,aO,rfl,I,bk,i,m,n,E,l⟩:=hcut;cases F with
          |zero=>exact absurd I.out (by simp[bd.j2])
          |succ a9=>
           have H:=I.out;clear I;simp only[bd.j2] at H;by_cases a1:aO=true
           ·subst a1
            replace H:=zi H;obtain rfl:=aE H;go_wp2;go_ret;exact⟨zE,zB⟩
           ·replace a1:=Bool.eq_false_iff.mpr a1
            subst a1;replace H:=zj H;by_cases aa:((ae a b).f0)>((ae a b).f1)
            ·rw[if_pos aa] at H
             have cq:=ay aa;clear aa;obtain rfl:=aE H;have hC:=M.out;have hD:=p.out;have hE:=O.out;have hG:=q.out;have hH:=v.out;have hI:=P.out;obtain⟨hJ,hK,hL,hM,hN,hO⟩:=cm n;go_wp2;go_ret;exact⟨zE,zB⟩
            ·rw[if_neg aa] at H
             have cq:=a6 aa;clear aa;obtain⟨t218,bn,H⟩:=zo H;by_cases ab:t218>=0
             ·rw[if_pos ab] at H
              have cr:=ay ab;clear ab;obtain rfl:=aE H;have hP:=M.out;have hQ:=p.out;have hR:=O.out;have hT:=q.out;have hV:=v.out;have hW:=P.out;obtain⟨hX,hY,h0,h1,h2,h3⟩:=cm n;have h4:=R.out;have h5:=J.out;have h6:=K.out;have h7:=a4.out;obtain⟨h8,h9,h_,h'⟩:=au m;have ib:=T.out;have id:=x.out;obtain⟨ih,ii,im,io⟩:=au E;go_wp2_with (first|(go_at_call 122;(with_reducible refine(dC.calls a9 D y ((ae a b).f0) ((ae a b).f1) t218 _ bn.out).mono ?_);rintro e ip ⟨rfl,hb⟩;replace i:=zb i hb;replace m:=zb m hb;replace n:=zb n hb;replace E:=zb E hb;replace l:=zS l hb;(try clear hb)))
              go_ret;exact⟨zE,zB⟩
             ·rw[if_neg ab] at H
              have cr:=a6 ab;clear ab;have u:=zA H;clear H;have it:=M.out;have iv:=p.out;have i0:=O.out;have i1:=q.out;have i2:=v.out;have i3:=P.out;obtain⟨i4,i5,i6,i7,i8,i9⟩:=cm n;have jj:=R.out;have jp:=J.out;have jT:=K.out;have j1:=a4.out;obtain⟨j3,j_,j',kd⟩:=au m;have kk:=T.out;have km:=x.out;obtain⟨ks,kt,kv,kw⟩:=au E;go_wp2_with (first|(go_at_call 122;(with_reducible refine(dC.calls a9 D y ((ae a b).f0) ((ae a b).f1) t218 _ bn.out).mono ?_);rintro e kW ⟨rfl,hb⟩;replace i:=zb i hb;replace m:=zb m hb;replace n:=zb n hb;replace E:=zb E hb;replace l:=zS l hb;(try clear hb);obtain⟨k0,k1,k3,k4⟩:=au E;obtain⟨k5,k6,k7,k8⟩:=au m))
              go_roundg a9
              case measure=>have:=U.out;have:=V.out;have:=bk.out;omega
              case rel=>exact⟨(wrap64 (b+1)),(((ae a b).f0)),(((ae a b).f1)),zT,u,⟨by have:=U.out;have:=V.out;have:=bk.out;omega⟩,⟨by refine zk ?_;refine aD ?_ J.out _;refine zk ?_;refine aD ?_ J.out _;exact zK i⟩,⟨by refine zk ?_;refine bC (cs:=#[.int .i64 ((ae a b).f0),.int .i64 y]) ?_ 1 _ rfl;refine zk ?_;refine bC (cs:=#[.int .i64 D,.int .i64 y]) ?_ 0 _ rfl;exact zK m⟩,⟨zB⟩⟩
        ·rw[if_neg ap] at H
         exact absurd H (by simp)
       ·rw[if_neg an] at H
        exact absurd H (by simp)
      ·rw[if_neg W] at H
       have bi:=a6 W;clear W;obtain rfl:=aE H;go_wp2;go_ret;exact⟨zE,zB⟩
def bX (N:Int) (x:S83):Bool:=decide (0<=x.f0/\x.f0<N/\0<=x.f1/\x.f1<N/\1<=x.f2/\x.f2<=50)
def dM (N:Int) (a b:Int) (x:S83):Int:=if bX N x=false then 2 else if x.f0<a\/x.f0=a/\x.f1<=b\/x.f0>x.f1 then 9 else 0
def gF (N:Int):Int->Int->List S83->Int
 |_,_,[]=>0
 |a,b,x::E=>if dM N a b x=0 then gF N x.f0 x.f1 E else dM N a b x
def cJ (N:Int) (E:List S83):Int:=if N<1\/N>12 then 2 else gF N (-1) (-1) E
theorem lB {E:List S83} {i:Nat} (h:i<E.length):E.drop i=ae E i::E.drop (i+1):=by
 rw[List.drop_eq_getElem_cons h];simp[ae,bb,bP h]
theorem sJ (N v:Int):fD.f N v=some (decide (0<=v/\v<N)):=by
 unfold fD.f;by_cases h:v>=0
 ·rw[if_pos h];congr 1;simp[show 0<=v from h]
 ·rw[if_neg h];congr 1;simp;omega
theorem zw (a b:Int):gZ.f a b=some (if a<b then -1 else if a>b then 1 else 0):=by
 unfold gZ.f cmp_isNaN_int.f;simp only[bne_self_eq_false,Option.bind_some,Bool.false_eq_true,if_false];split
 ·rfl
 ·split<;>rfl
theorem zx (a b:Int):Ev (fun k=>de.f k [a,b]) (if a=0 then b else a):=by
 unfold de.f;refine Ev.of_succ ?_;simp only[de.l0,List.length_cons,List.length_nil,rd];by_cases e:a=0
 ·subst e
  refine Ev.of_succ ?_;simp only[de.l0,List.length_cons,List.length_nil,rd,wrap64];simp;by_cases hb:b=0
  ·subst hb
   refine Ev.of_succ ?_;simp[de.l0,wrap64];exact Ev.const _
  ·simp[hb];exact Ev.const _
 ·simp[e];exact Ev.const _
theorem zy (a b c d:Int):Ev (fun k=>dC.f k a b c d) (if a<c then -1 else if a>c then 1 else if b<d then -1 else if b>d then 1 else 0):=by
 unfold dC.f;simp only[zw,Option.bind_some];refine Ev.bind (zx _ _) ?_;have e:(if(if a<c then(-1:Int) else if a>c then 1 else 0)=0 then(if b<d then(-1:Int) else if b>d then 1 else 0) else(if a<c then(-1:Int) else if a>c then 1 else 0))=(if a<c then -1 else if a>c then 1 else if b<d then -1 else if b>d then 1 else 0):=by
  by_cases h1:a<c
  ·simp[h1]
  ·by_cases g:a>c
   ·simp[h1,g]
   ·simp[h1,g]
 rw[e];exact Ev.const _
theorem sK (N:Int) (E:List S83) (r:E.length<=1000):∀(m i:Nat) (a g:Int),i+m=E.length->Ev (fun k=>bd.l0 k E E.length i N E a g) (gF N a g (E.drop i))
 |0,i,a,g,hi=>by
  refine Ev.of_succ ?_;simp only[bd.l0,if_neg (show ¬((i:Int)<(E.length:Int)) by omega)];rw[List.drop_eq_nil_of_le (by omega)];exact Ev.const _
 |m+1,i,a,g,hi=>by
  have o:=sK N E r m (i+1) (ae E i).f0 (ae E i).f1 (by omega);refine Ev.of_succ ?_;simp only[bd.l0,if_pos (show (i:Int)<(E.length:Int) by omega),if_pos (show (0:Int)<=(i:Int) by omega),sJ,Option.bind_some];rw[lB (by omega),gF];generalize u:ae E i=x at o⊢;have key:∀b:Bool,b= !bX N x->Ev (fun k=>bd.j2 k E E.length i b N E a g x.f0 x.f1 x.f2 x.f0 x.f1) (if dM N a g x=0 then gF N x.f0 x.f1 (E.drop (i+1)) else dM N a g x):=by
   rintro b rfl;refine Ev.of_succ ?_;simp only[bd.j2];cases l:bX N x with
   |false=>simp[dM,l];exact Ev.const _
   |true=>
    simp only[Bool.not_true,Bool.false_eq_true,if_false];by_cases n:x.f0>x.f1
    ·have e:dM N a g x=9:=by simp[dM,l,n]
     rw[e];simp only[if_pos n];exact Ev.const _
    ·simp only[if_neg n]
     refine Ev.bind (zy _ _ _ _) ?_;by_cases s:x.f0<a\/x.f0=a/\x.f1<=g
     ·have e:dM N a g x=9:=by
       unfold dM;rw[l,if_neg (by decide),if_pos (by rcases s with h|h;exact .inl h;exact .inr (.inl h))]
      rw[e];have j:(if a<x.f0 then(-1:Int) else if a>x.f0 then 1 else if g<x.f1 then -1 else if g>x.f1 then 1 else 0)>=0:=by
       rw[if_neg (by omega)];split
       ·decide
       ·rw[if_neg (by omega)];split<;>decide
      simp only[if_pos j];exact Ev.const _
     ·have e:dM N a g x=0:=by
       unfold dM;rw[l,if_neg (by decide),if_neg (by omega)]
      rw[e];have j:¬(if a<x.f0 then(-1:Int) else if a>x.f0 then 1 else if g<x.f1 then -1 else if g>x.f1 then 1 else 0)>=0:=by
       split
       ·decide
       ·rw[if_neg (by omega),if_pos (by omega)];decide
      simp only[if_neg j,eh (show i<=1000000 by omega),if_true];exact o
  by_cases p:0<=x.f0/\x.f0<N
  ·simp only[ay p,if_true]
   by_cases h1:0<=x.f1/\x.f1<N
   ·simp only[ay h1,if_true]
    by_cases q:x.f2<1
    ·simp only[if_pos q]
     exact key true (by simp[bX];omega)
    ·simp only[if_neg q]
     exact key _ (by unfold bX;by_cases j:x.f2>50<;>simp[j]<;>omega)
   ·simp only[a6 h1,Bool.false_eq_true,if_false]
    exact key true (by simp[bX];omega)
  ·simp only[a6 p,Bool.false_eq_true,if_false]
   exact key true (by simp[bX];omega)
theorem nT (N:Int) (E:List S83) (a:E.length<=1000):Ev (fun k=>bd.f k N E) (cJ N E):=by
 unfold bd.f cJ;have key:∀b:Bool,b=decide (N<1\/N>12)->Ev (fun k=>bd.j0 k b N E) (if N<1\/N>12 then 2 else gF N (-1) (-1) E):=by
  rintro b rfl;refine Ev.of_succ ?_;simp only[bd.j0];by_cases h:N<1\/N>12
  ·simp[h];exact Ev.const _
  ·simp only[a6 h,Bool.false_eq_true,if_false,if_neg h]
   have:=sK N E a E.length 0 (-1) (-1) (by omega);simpa using this
 by_cases h:N<1
 ·simp only[if_pos h];exact key true (by simp[h])
 ·simp only[if_neg h];exact key _ (by simp[h])
theorem zz (N:Int) (E:List S83) (v:Int):gE.f N E v=some (decide (0<=v/\v<N)):=by
 unfold gE.f;by_cases h:v>=0
 ·rw[if_pos h];congr 1;simp[show 0<=v from h]
 ·rw[if_neg h];congr 1;simp;omega
def iA (E:List S83) (i:Nat):Int:=if i=0 then -1 else(ae E (i-1:Nat)).f0
def iB (E:List S83) (i:Nat):Int:=if i=0 then -1 else(ae E (i-1:Nat)).f1
theorem zD {i:Nat} (h:(i:Int)<9223372036854775807):wrap64 ((i:Int)+1)=((i+1:Nat):Int):=by unfold wrap64;omega
theorem zF (N:Int) (E:List S83) (m:E.length<=9223372036854775807) (i:Nat) (hi:i<E.length):Ev (fun k=>e9.f k N E i) (dM N (iA E i) (iB E i) (ae E i)):=by
 unfold e9.f;simp only[if_pos (show (0:Int)<=(i:Int) by omega),if_pos (show (i:Int)<(E.length:Int) by omega),zz,Option.bind_some];generalize n:ae E i=x;have key:∀b:Bool,b= !bX N x->Ev (fun k=>e9.j0 k i b N E x.f0 x.f1 x.f2) (dM N (iA E i) (iB E i) x):=by
  rintro b rfl;refine Ev.of_succ ?_;simp only[e9.j0];cases h:bX N x with
  |false=>simp[dM,h];exact Ev.const _
  |true=>
   simp only[Bool.not_true,Bool.false_eq_true,if_false];have o:0<=x.f0:=by simp[bX] at h;omega
   by_cases l:x.f0>x.f1
   ·have e:dM N (iA E i) (iB E i) x=9:=by simp[dM,h,l]
    rw[e];simp only[if_pos l];exact Ev.const _
   ·simp only[if_neg l]
    by_cases a:i=0
    ·subst a
     have e:dM N (iA E 0) (iB E 0) x=0:=by
      unfold dM iA iB;rw[h,if_neg (by decide),if_neg (by simp;omega)]
     rw[e];simp;exact Ev.const _
    ·simp only[if_pos (show (i:Int)>0 by omega),show wrap64 ((i:Int)-1)=((i-1:Nat):Int) by unfold wrap64;omega,if_pos (show (0:Int)<=((i-1:Nat):Int) by omega),if_pos (show ((i-1:Nat):Int)<(E.length:Int) by omega)]
     unfold iA iB;rw[if_neg a,if_neg a];generalize ae E (i-1:Nat)=y;unfold dM;rw[h,if_neg (show ¬(true=false) by decide)];by_cases h1:x.f0<y.f0
     ·simp only[if_pos h1];rw[if_pos (.inl h1)];exact Ev.const _
     ·simp only[if_neg h1]
      by_cases g:x.f0=y.f0
      ·simp only[if_pos g]
       by_cases j:x.f1<=y.f1
       ·simp only[if_pos j];rw[if_pos (.inr (.inl ⟨g,j⟩))];exact Ev.const _
       ·simp only[if_neg j];rw[if_neg (by omega)];exact Ev.const _
      ·simp only[if_neg g];rw[if_neg (by omega)];exact Ev.const _
 by_cases a:0<=x.f0/\x.f0<N
 ·simp only[ay a,if_true]
  by_cases h1:0<=x.f1/\x.f1<N
  ·simp only[ay h1,if_true]
   by_cases g:x.f2<1
   ·simp only[if_pos g]
    exact key true (by simp[bX];omega)
   ·simp only[if_neg g]
    exact key _ (by unfold bX;by_cases j:x.f2>50<;>simp[j]<;>omega)
  ·simp only[a6 h1,Bool.false_eq_true,if_false]
   exact key true (by simp[bX];omega)
 ·simp only[a6 a,Bool.false_eq_true,if_false]
  exact key true (by simp[bX];omega)
theorem sL (N:Int) (E:List S83) (a:E.length<=9223372036854775807):∀(m i:Nat),i+m=E.length->Ev (fun k=>c_.l0 k i N E) (gF N (iA E i) (iB E i) (E.drop i))
 |0,i,hi=>by
  refine Ev.of_succ ?_;simp only[c_.l0,if_neg (show ¬((i:Int)<(E.length:Int)) by omega)];rw[List.drop_eq_nil_of_le (by omega)];exact Ev.const _
 |m+1,i,hi=>by
  have b:=sL N E a m (i+1) (by omega);refine Ev.of_succ ?_;simp only[c_.l0,if_pos (show (i:Int)<(E.length:Int) by omega)];rw[lB (by omega),gF];refine Ev.bind (zF N E a i (by omega)) ?_;have e:iA E (i+1)=(ae E i).f0:=by simp[iA]
  have g:iB E (i+1)=(ae E i).f1:=by simp[iB]
  rw[e,g] at b;by_cases h:dM N (iA E i) (iB E i) (ae E i)=0
  ·simp only[if_pos h,zD (show (i:Int)<9223372036854775807 by omega)];exact b
  ·simp only[if_neg h];exact Ev.const _
theorem sM (N:Int) (E:List S83) (a:E.length<=9223372036854775807):Ev (fun k=>c_.f k N E) (cJ N E):=by
 unfold c_.f cJ;have key:∀b:Bool,b=decide (N<1\/N>12)->Ev (fun k=>c_.j0 k b N E) (if N<1\/N>12 then 2 else gF N (-1) (-1) E):=by
  rintro b rfl;refine Ev.of_succ ?_;simp only[c_.j0];by_cases h:N<1\/N>12
  ·simp[h];exact Ev.const _
  ·simp only[a6 h,Bool.false_eq_true,if_false,if_neg h]
   have:=sL N E a E.length 0 (by omega);simpa [iA,iB] using this
 by_cases h:N<1
 ·simp only[if_pos h];exact key true (by simp[h])
 ·simp only[if_neg h];exact key _ (by simp[h])
end Go.Proofs.YtffdiakgjakngaaGreat.P
namespace Go.Proofs.YtffdiakgjakngaaGreat.T
set_option linter.unusedVariables false
set_option linter.unusedSimpArgs false
set_option maxHeartbeats 8000000
set_option maxRecDepth 100000
def sN (f:Nat->Int):Nat->Int
 |0=>0
 |n+1=>sN f n+f n
theorem ei (f:Nat->Int) (n:Nat):sN f (n+1)=sN f n+f n:=rfl
theorem bI {f g:Nat->Int}:∀{n:Nat},(∀u,u<n->f u=g u)->sN f n=sN g n
 |0,_=>rfl
 |n+1,h=>by rw[ei,ei,bI (n:=n) (fun u hu=>h u (by omega)),h n (by omega)]
theorem cT {f g:Nat->Int}:∀{n:Nat},(∀u,u<n->f u<=g u)->sN f n<=sN g n
 |0,_=>Int.le_refl _
 |n+1,h=>by
  have h1:=cT (n:=n) (fun u hu=>h u (by omega));have a:=h n (by omega);rw[ei,ei];omega
theorem iY:∀(n:Nat),sN (fun _=>0) n=0
 |0=>rfl
 |n+1=>by rw[ei,iY n];rfl
theorem gG {f:Nat->Int} {n:Nat} (h:∀u,u<n->f u=0):sN f n=0:=(bI h).trans (iY n)
theorem dm {f:Nat->Int} {n:Nat} (h:∀u,u<n->0<=f u):0<=sN f n:=by
 have:=cT (f:=fun _=>0) (g:=f) (n:=n) h;rw[iY] at this;exact this
theorem dD (f g:Nat->Int):∀n:Nat,sN (fun v=>f v+g v) n=sN f n+sN g n
 |0=>rfl
 |n+1=>by rw[ei,ei,ei,dD f g n];omega
theorem da (f g:Nat->Int):∀n:Nat,sN (fun v=>f v-g v) n=sN f n-sN g n
 |0=>rfl
 |n+1=>by rw[ei,ei,ei,da f g n];omega
theorem mA (f:Nat->Int):∀n:Nat,sN (fun v=> -f v) n= -sN f n
 |0=>rfl
 |n+1=>by rw[ei,ei,mA f n];omega
theorem eP (c:Int) (f:Nat->Int):∀n:Nat,sN (fun v=>c*f v) n=c*sN f n
 |0=>by simp[sN]
 |n+1=>by rw[ei,ei,eP c f n,Int.mul_add]
theorem gH (c:Int):∀n:Nat,sN (fun _=>c) n=n*c
 |0=>by simp[sN]
 |n+1=>by rw[ei,gH c n,Int.natCast_add,Int.add_mul];simp
theorem mB (f:Nat->Nat->Int) (m:Nat):∀n:Nat,sN (fun v=>sN (fun u=>f v u) m) n=sN (fun u=>sN (fun v=>f v u) n) m
 |0=>by show (0:Int)=sN (fun u=>0) m;rw[iY]
 |n+1=>by
  rw[ei,mB f m n,<-dD];exact bI fun u _=>rfl
theorem jo {f:Nat->Int} {v:Nat}:∀{n:Nat},v<n->(∀u,u<n->u≠v->f u=0)->sN f n=f v
 |0,h,_=>by omega
 |n+1,h,a=>by
  rw[ei];by_cases e:v=n
  ·subst e
   rw[gG fun u hu=>a u (by omega) (by omega)];omega
  ·rw[jo (n:=n) (by omega) fun u hu b=>a u (by omega) b,a n (by omega) (fun h=>e h.symm)];omega
theorem gI {f:Nat->Int} {n v:Nat} (a:v<n) (h:∀u,u<n->0<=f u):f v<=sN f n:=by
 have h1:sN (fun u=>if u=v then f v else 0) n=f v:=by
  rw[jo (f:=fun u=>if u=v then f v else 0) a (fun u _ hu=>if_neg hu)];exact if_pos rfl
 rw[<-h1];refine cT fun u hu=>?_
 show (if u=v then f v else 0)<=f u
 by_cases e:u=v
 ·subst e;rw[if_pos rfl];exact Int.le_refl _
 ·rw[if_neg e];exact h u hu
theorem pJ (s:Nat->Int):∀{n:Nat},0<n->∃v,v<n/\∀u,u<n->s u<=s v
 |0,h=>by omega
 |1,_=>⟨0,by omega,fun u hu=>by
   obtain rfl:u=0:=by omega
   exact Int.le_refl _⟩
 |n+2,_=>by
  obtain⟨v,b,h⟩:=pJ s (n:=n+1) (by omega);by_cases a:s (n+1)<=s v
  ·exact⟨v,by omega,fun u hu=>by
    by_cases e:u=n+1
    ·subst e;exact a
    ·exact h u (by omega)⟩
  ·exact⟨n+1,by omega,fun u hu=>by
    by_cases e:u=n+1
    ·subst e;exact Int.le_refl _
    ·have:=h u (by omega);omega⟩
theorem exists_least {P:Nat->Prop} (f:Nat->Nat) (h:∃v,P v):∃v,P v/\∀u,P u->f v<=f u:=by
 obtain⟨v,a⟩:=h;have key:∀(k:Nat) (v:Nat),f v<=k->P v->∃v,P v/\∀u,P u->f v<=f u:=by
  intro k;induction k with
  |zero=>intro v hk a;exact⟨v,a,fun u _=>by omega⟩
  |succ k g=>
   intro v hk a;by_cases b:∃u,P u/\f u<f v
   ·obtain⟨u,hu,e⟩:=b
    exact g u (by omega) hu
   ·exact⟨v,a,fun u hu=>by
     by_cases e:f u<f v
     ·exact absurd ⟨u,hu,e⟩ b
     ·omega⟩
 exact key (f v) v (Nat.le_refl _) a
theorem zH {P:Nat->Prop} (h:∃k,P k):∃k,P k/\∀j,P j->k<=j:=exists_least id h
structure Wt (n:Nat) (t:Nat->Nat->Int):Prop where
 pos:∀u v,0<=t u v
 sym:∀u v,t u v=t v u
 self:∀v,t v v=0
def aV (n:Nat) (t:Nat->Nat->Int) (s:Nat->Int) (v:Nat):Int:=sN (fun u=>t v u*(s v-s u)) n
theorem kB (n:Nat) (t:Nat->Nat->Int) (s r:Nat->Int) (v:Nat):aV n t (fun u=>s u+r u) v=aV n t s v+aV n t r v:=by
 unfold aV;rw[<-dD];refine bI fun u _=>?_
 rw[<-Int.mul_add];congr 1;show s v+r v- (s u+r u)=_;omega
theorem lC (n:Nat) (t:Nat->Nat->Int) (s:Nat->Int) (v:Nat):aV n t (fun u=> -s u) v= -aV n t s v:=by
 unfold aV;rw[<-mA];refine bI fun u _=>?_
 rw[<-Int.mul_neg];congr 1;show -s v- -s u=_;omega
theorem lD (n:Nat) (t:Nat->Nat->Int) (s r:Nat->Int) (v:Nat):aV n t (fun u=>s u-r u) v=aV n t s v-aV n t r v:=by
 unfold aV;rw[<-da];refine bI fun u _=>?_
 rw[<-Int.mul_sub];congr 1;show s v-r v- (s u-r u)=_;omega
theorem sO (n:Nat) (t:Nat->Nat->Int) (c:Int) (s:Nat->Int) (v:Nat):aV n t (fun u=>c*s u) v=c*aV n t s v:=by
 unfold aV;rw[<-eP];refine bI fun u _=>?_
 rw[<-Int.mul_sub,Int.mul_left_comm]
theorem lE {n:Nat} {t:Nat->Nat->Int} {s r:Nat->Int} (h:∀u,u<n->s u=r u) {v:Nat} (a:v<n):aV n t s v=aV n t r v:=by
 unfold aV;refine bI fun u hu=>?_
 rw[h u hu,h v a]
theorem jV (n:Nat) (t:Nat->Nat->Int) (c:Int) (v:Nat):aV n t (fun _=>c) v=0:=by
 unfold aV;exact gG fun u _=>by rw[Int.sub_self,Int.mul_zero]
theorem zI {n:Nat} {t:Nat->Nat->Int} (a:Wt n t) (s h:Nat->Int):sN (fun v=>h v*aV n t s v) n=sN (fun v=>s v*aV n t h v) n:=by
 have b:sN (fun v=>h v*aV n t s v) n=sN (fun v=>h v*s v*sN (fun u=>t v u) n) n-sN (fun v=>sN (fun u=>h v*t v u*s u) n) n:=by
  rw[<-da];refine bI fun v _=>?_
  unfold aV;rw[<-eP,<-eP,<-da];refine bI fun u _=>?_
  rw[Int.mul_sub,Int.mul_sub];congr 1
  ·rw[Int.mul_comm (t v u),<-Int.mul_assoc]
  ·rw[<-Int.mul_assoc]
 have e2:sN (fun v=>s v*aV n t h v) n=sN (fun v=>s v*h v*sN (fun u=>t v u) n) n-sN (fun v=>sN (fun u=>s v*t v u*h u) n) n:=by
  rw[<-da];refine bI fun v _=>?_
  unfold aV;rw[<-eP,<-eP,<-da];refine bI fun u _=>?_
  rw[Int.mul_sub,Int.mul_sub];congr 1
  ·rw[Int.mul_comm (t v u),<-Int.mul_assoc]
  ·rw[<-Int.mul_assoc]
 rw[b,e2];congr 1
 ·exact bI fun v _=>by rw[Int.mul_comm (h v)]
 ·rw[mB]
  refine bI fun u _=>bI fun v _=>?_
  rw[a.sym v u,Int.mul_comm (h v),Int.mul_comm _ (s u),Int.mul_assoc]
theorem mC {n:Nat} {t:Nat->Nat->Int} (a:Wt n t) (s:Nat->Int):sN (fun v=>aV n t s v) n=0:=by
 have h:=zI a s (fun _=>1);rw[gG (f:=fun v=>s v*aV n t (fun _=>1) v) fun v _=>by rw[jV,Int.mul_zero]] at h;rw[<-h];exact bI fun v _=>by rw[Int.one_mul]
def bQ (n:Nat) (t:Nat->Nat->Int) (D D':Nat->Int):Prop:=∃s:Nat->Int,∀v,v<n->D' v=D v-aV n t s v
theorem bQ.refl (n:Nat) (t:Nat->Nat->Int) (D:Nat->Int):bQ n t D D:=⟨fun _=>0,fun v _=>by rw[jV];omega⟩
theorem bQ.of_eq {n:Nat} {t:Nat->Nat->Int} {D D':Nat->Int} (h:∀v,v<n->D' v=D v):bQ n t D D':=⟨fun _=>0,fun v a=>by rw[jV,h v a];omega⟩
theorem bQ.symm {n:Nat} {t:Nat->Nat->Int} {D D':Nat->Int} (h:bQ n t D D'):bQ n t D' D:=by
 obtain⟨s,h⟩:=h;exact⟨fun u=> -s u,fun v a=>by rw[lC,h v a];omega⟩
theorem bQ.trans {n:Nat} {t:Nat->Nat->Int} {D D' b:Nat->Int} (h:bQ n t D D') (a:bQ n t D' b):bQ n t D b:=by
 obtain⟨s,h⟩:=h;obtain⟨r,a⟩:=a;exact⟨fun u=>s u+r u,fun v e=>by rw[kB,a v e,h v e];omega⟩
theorem bQ.add {n:Nat} {t:Nat->Nat->Int} {D D' F a:Nat->Int} (h:bQ n t D D') (b:bQ n t F a):bQ n t (fun v=>D v+F v) (fun v=>D' v+a v):=by
 obtain⟨s,h⟩:=h;obtain⟨r,b⟩:=b;exact⟨fun u=>s u+r u,fun v e=>by show D' v+a v=D v+F v-_;rw[kB,b v e,h v e];omega⟩
theorem bQ.neg {n:Nat} {t:Nat->Nat->Int} {D D':Nat->Int} (h:bQ n t D D'):bQ n t (fun v=> -D v) (fun v=> -D' v):=by
 obtain⟨s,h⟩:=h;exact⟨fun u=> -s u,fun v a=>by show -D' v= -D v-_;rw[lC,h v a];omega⟩
theorem bQ.bh {n:Nat} {t:Nat->Nat->Int} (a:Wt n t) {D D':Nat->Int} (h:bQ n t D D'):sN D' n=sN D n:=by
 obtain⟨s,h⟩:=h;rw[bI h,da,mC a];omega
def lF (n:Nat) (D:Nat->Int):Prop:=∀v,v<n->0<=D v
def b9 (n:Nat) (t:Nat->Nat->Int) (D:Nat->Int):Prop:=∃D',bQ n t D D'/\lF n D'
theorem b9.fs {n:Nat} {t:Nat->Nat->Int} {D D':Nat->Int} (h:bQ n t D D') (hw:b9 n t D):b9 n t D':=by
 obtain⟨F,h1,a⟩:=hw;exact⟨F,h.symm.trans h1,a⟩
theorem zJ {n:Nat} {t:Nat->Nat->Int} {D D':Nat->Int} (h:bQ n t D D'):b9 n t D↔b9 n t D':=⟨b9.fs h,b9.fs h.symm⟩
theorem b9.mono {n:Nat} {t:Nat->Nat->Int} {D D':Nat->Int} (hw:b9 n t D) (h:∀v,v<n->D v<=D' v):b9 n t D':=by
 obtain⟨F,⟨s,h1⟩,b⟩:=hw;exact⟨fun v=>D' v-aV n t s v,⟨s,fun v _=>rfl⟩,fun v a=>by have:=b v a;have:=h1 v a;have:=h v a;show 0<=D' v-aV n t s v;omega⟩
theorem b9.add {n:Nat} {t:Nat->Nat->Int} {D F:Nat->Int} (h1:b9 n t D) (g:b9 n t F):b9 n t (fun v=>D v+F v):=by
 obtain⟨D',a,b⟩:=h1;obtain⟨h,c,d⟩:=g;exact⟨_,a.add c,fun v e=>by have:=b v e;have:=d v e;show 0<=D' v+h v;omega⟩
theorem b9.nU {n:Nat} {t:Nat->Nat->Int} {D:Nat->Int} (h:lF n D):b9 n t D:=⟨D,bQ.refl _ _ _,h⟩
theorem b9.bh {n:Nat} {t:Nat->Nat->Int} (e:Wt n t) {D:Nat->Int} (h:b9 n t D):0<=sN D n:=by
 obtain⟨D',a,b⟩:=h;rw[<-a.bh e];exact dm b
def fL (n:Nat) (t:Nat->Nat->Int) (pos:Nat->Nat) (v:Nat):Int:=sN (fun u=>if pos u<pos v then t v u else 0) n
def val (n:Nat) (t:Nat->Nat->Int) (v:Nat):Int:=sN (fun u=>t v u) n
def nu (n:Nat) (t:Nat->Nat->Int) (pos:Nat->Nat) (v:Nat):Int:=fL n t pos v-1
theorem zM {n:Nat} {t:Nat->Nat->Int} (a:Wt n t) (hn:0<n) (pos:Nat->Nat) (s:Nat->Int):∃v,v<n/\nu n t pos v-aV n t s v<0:=by
 obtain⟨m,hm,b⟩:=pJ s hn;obtain⟨v,⟨g,j⟩,i⟩:=exists_least (P:=fun v=>v<n/\s v=s m) pos ⟨m,hm,rfl⟩;refine⟨v,g,?_⟩;unfold nu fL aV;have:sN (fun u=>if pos u<pos v then t v u else 0) n<=sN (fun u=>t v u*(s v-s u)) n:=by
  refine cT fun u hu=>?_
  have hp:=a.pos v u;have k:=b u hu;by_cases e:pos u<pos v
  ·show (if pos u<pos v then t v u else 0)<=_
   rw[if_pos e];have l:s u≠s m:=fun h=>by have:=i u ⟨hu,h⟩;omega
   have h1:1<=s v-s u:=by omega
   have:=Int.mul_le_mul_of_nonneg_left h1 hp;rw[Int.mul_one] at this;exact this
  ·show (if pos u<pos v then t v u else 0)<=_
   rw[if_neg e];exact Int.mul_nonneg hp (by omega)
 omega
theorem pK {n:Nat} {t:Nat->Nat->Int} (b:Wt n t) (hn:0<n) (pos:Nat->Nat):¬b9 n t (nu n t pos):=by
 rintro⟨D',⟨s,h1⟩,e⟩;obtain⟨v,a,h⟩:=zM b hn pos s;have:=h1 v a;have:=e v a;omega
def iC (n:Nat) (pos:Nat->Nat):Prop:=∀u v,u<n->v<n->pos u=pos v->u=v
theorem sP {n:Nat} {t:Nat->Nat->Int} (b:Wt n t) {pos pos':Nat->Nat} (hi:iC n pos) (g:∀u v,u<n->v<n->(pos' u<pos' v↔pos v<pos u)) {v:Nat} (a:v<n):fL n t pos v+fL n t pos' v=val n t v:=by
 unfold fL val;rw[<-dD];refine bI fun u hu=>?_
 have h1:=g u v hu a;by_cases e:pos u<pos v
 ·rw[if_pos e,if_neg (by rw[h1];omega)];omega
 ·by_cases e2:pos v<pos u
  ·rw[if_neg e,if_pos (h1.2 e2)];omega
  ·rw[if_neg e,if_neg (fun h=>e2 (h1.1 h))]
   have:=hi u v hu a (by omega);subst this;rw[b.self];rfl
theorem sQ (n:Nat) (pos:Nat->Nat):∃pos':Nat->Nat,∀u v,u<n->v<n->(pos' u<pos' v↔pos v<pos u):=by
 obtain⟨B,a⟩:∃B,∀u,u<n->pos u<=B:=by
  induction n with
  |zero=>exact⟨0,fun u hu=>by omega⟩
  |succ n b=>
   obtain⟨B,a⟩:=b;exact⟨max B (pos n),fun u hu=>by
    by_cases e:u=n
    ·subst e;exact Nat.le_max_right _ _
    ·exact Nat.le_trans (a u (by omega)) (Nat.le_max_left _ _)⟩
 refine⟨fun u=>B-pos u,fun u v hu g=>?_⟩;have:=a u hu;have:=a v g;show B-pos u<B-pos v↔_
 omega
theorem zO {n:Nat} {pos pos':Nat->Nat} (hi:iC n pos) (b:∀u v,u<n->v<n->(pos' u<pos' v↔pos v<pos u)):iC n pos':=by
 intro u v hu a he;have h1:=b u v hu a;have e:=b v u a hu;refine hi u v hu a ?_;omega
theorem zP {n:Nat} {t:Nat->Nat->Int} (a:Wt n t) {pos pos':Nat->Nat} (b:∀u v,u<n->v<n->(pos' u<pos' v↔pos v<pos u)):sN (fL n t pos) n=sN (fL n t pos') n:=by
 unfold fL;rw[mB];refine bI fun u hu=>bI fun v g=>?_
 have:=b v u g hu;by_cases e:pos u<pos v
 ·rw[if_pos e,if_pos (this.2 e),a.sym]
 ·rw[if_neg e,if_neg (fun h=>e (this.1 h))]
theorem zQ {n:Nat} {t:Nat->Nat->Int} (a:Wt n t) {pos:Nat->Nat} (hi:iC n pos):2*sN (fL n t pos) n=sN (val n t) n:=by
 obtain⟨pos',b⟩:=sQ n pos;have h1:sN (fun v=>fL n t pos v+fL n t pos' v) n=sN (val n t) n:=bI fun v e=>sP a hi b e
 rw[dD] at h1;have g:=zP a b;omega
theorem zU {n:Nat} {t:Nat->Nat->Int} (pos:Nat->Nat):sN (nu n t pos) n=sN (fL n t pos) n-n:=by
 have:sN (nu n t pos) n=sN (fun v=>fL n t pos v- (fun _=>(1:Int)) v) n:=rfl;rw[this,da,gH];omega
theorem zV {n:Nat} {t:Nat->Nat->Int} (a:Wt n t) {pos pos':Nat->Nat} (hi:iC n pos) (b:∀u v,u<n->v<n->(pos' u<pos' v↔pos v<pos u)) {v:Nat} (e:v<n):val n t v-2-nu n t pos v=nu n t pos' v:=by
 have:=sP a hi b e;unfold nu;omega
def dn (n:Nat) (t:Nat->Nat->Int):Prop:=∀S:Nat->Bool,(∃v,v<n/\S v=true)->(∃v,v<n/\S v=false)->∃u v,u<n/\v<n/\S u=true/\S v=false/\0<t u v
theorem zW {f:Nat->Nat->Int} (h:∀u v,f u v= -f v u) (n:Nat):sN (fun v=>sN (fun u=>f v u) n) n=0:=by
 have h1:=mB f n n;have a:sN (fun u=>sN (fun v=>f v u) n) n=sN (fun u=> -sN (fun v=>f u v) n) n:=bI fun u _=>by
  rw[<-mA];exact bI fun v _=>h v u
 rw[a,mA] at h1;omega
theorem zY {n:Nat} {t:Nat->Nat->Int} (a:Wt n t) (S:Nat->Bool) (s:Nat->Int):sN (fun v=>if S v=true then aV n t s v else 0) n=sN (fun v=>sN (fun u=>if S v=true/\S u=false then t v u*(s v-s u) else 0) n) n:=by
 have h1:=zW (f:=fun v u=>if S v=true/\S u=true then t v u*(s v-s u) else 0) (fun u v=>by
  by_cases e:S u=true/\S v=true
  ·rw[if_pos e,if_pos ⟨e.2,e.1⟩,a.sym v u,<-Int.mul_neg];congr 1;omega
  ·rw[if_neg e,if_neg (fun h=>e ⟨h.2,h.1⟩)];rfl) n
 have b:sN (fun v=>if S v=true then aV n t s v else 0) n=sN (fun v=>sN (fun u=>if S v=true/\S u=true then t v u*(s v-s u) else 0) n+sN (fun u=>if S v=true/\S u=false then t v u*(s v-s u) else 0) n) n:=by
  refine bI fun v _=>?_
  show (if S v=true then aV n t s v else 0)=_
  by_cases e:S v=true
  ·rw[if_pos e,<-dD]
   unfold aV;refine bI fun u _=>?_
   cases hu:S u<;>simp[e]
  ·rw[if_neg e,gG fun u _=>if_neg (fun h=>e h.1),gG fun u _=>if_neg (fun h=>e h.1)];rfl
 rw[b,dD,h1];omega
theorem zZ {n:Nat} {t:Nat->Nat->Int} (g:Wt n t) (S:Nat->Bool) (s:Nat->Int) (M:Int) (m:0<=M) (j:∀u v,u<n->v<n->S u=true->S v=false->M<=s u-s v) {a b:Nat} (h:a<n) (hb:b<n) (k:S a=true) (l:S b=false) (q:0<t a b):
  M<=sN (fun v=>if S v=true then aV n t s v else 0) n:=by
 rw[zY g];have hp:∀v,v<n->∀u,u<n->0<=(if S v=true/\S u=false then t v u*(s v-s u) else 0):=fun v i u hu=>by
  by_cases e:S v=true/\S u=false
  ·rw[if_pos e]
   have:=j v u i hu e.1 e.2;exact Int.mul_nonneg (g.pos _ _) (by omega)
  ·rw[if_neg e];exact Int.le_refl _
 have h1:=gI (f:=fun v=>sN (fun u=>if S v=true/\S u=false then t v u*(s v-s u) else 0) n) h (fun v i=>dm (hp v i));have o:=gI (f:=fun u=>if S a=true/\S u=false then t a u*(s a-s u) else 0) hb (hp a h);refine Int.le_trans ?_ (Int.le_trans o h1);show M<=(if S a=true/\S b=false then t a b*(s a-s b) else 0)
 rw[if_pos ⟨k,l⟩];have p:=j a b h hb k l;have r:=Int.mul_le_mul (show (1:Int)<=t a b by omega) p m (g.pos _ _);omega
def bY (S:Nat->Bool):Nat->Nat
 |0=>0
 |n+1=>bY S n+if S n=true then 1 else 0
theorem jq (S:Nat->Bool):∀n,bY S n<=n
 |0=>Nat.le_refl _
 |n+1=>by have:=jq S n;unfold bY;split<;>omega
theorem mD {S T:Nat->Bool}:∀{n:Nat},(∀v,v<n->S v=true->T v=true)->bY S n<=bY T n
 |0,_=>Nat.le_refl _
 |n+1,h=>by
  have h1:=mD (n:=n) (fun v b=>h v (by omega));have a:=h n (by omega);unfold bY;cases hS:S n with
  |true=>rw[a hS];simp;exact h1
  |false=>simp only[Bool.false_eq_true,if_false];split<;>omega
theorem nV {S T:Nat->Bool} {w:Nat}:∀{n:Nat},(∀v,v<n->S v=true->T v=true)->w<n->S w=false->T w=true->bY S n<bY T n
 |0,_,h,_,_=>by omega
 |n+1,h,hw,hS,a=>by
  by_cases e:w=n
  ·subst e
   have h1:=mD (n:=w) (fun v b=>h v (by omega));unfold bY;rw[hS,a];simp;omega
  ·have h1:=nV (n:=n) (fun v b=>h v (by omega)) (by omega) hS a
   have g:=h n (by omega);unfold bY;cases i:S n with
   |true=>rw[g i];simp;omega
   |false=>simp only[Bool.false_eq_true,if_false];split<;>omega
theorem pL {S:Nat->Bool}:∀{n:Nat},n<=bY S n->∀v,v<n->S v=true
 |0,_,v,a=>by omega
 |n+1,h,v,a=>by
  have h1:=jq S n;unfold bY at h;by_cases e:S n=true
  ·rw[if_pos e] at h
   by_cases e2:v=n
   ·subst e2;exact e
   ·exact pL (n:=n) (by omega) v (by omega)
  ·rw[if_neg e] at h;omega
theorem z7 {S:Nat->Bool} {w n:Nat} (hw:w<n) (hS:S w=true):1<=bY S n:=by
 have:=nV (S:=fun _=>false) (T:=S) (n:=n) (fun v _ h=>by cases h) hw rfl hS;omega
theorem pM:∀n:Nat,bY (fun _=>true) n=n
 |0=>rfl
 |n+1=>by unfold bY;rw[pM n];simp
theorem jQ {n:Nat} {t:Nat->Nat->Int} (r:Wt n t) (s:dn n t) {b:Nat->Int} {v0:Nat} (l:v0<n) (y:b v0<=0) {M:Int} (z:0<=M)
  (h:∀x:Int,0<=x->sN (fun v=>if decide (x<b v)=true then aV n t b v else 0) n<=M):∀v,v<n->b v<=n*M:=by
 have step:∀j:Nat,j+1<=bY (fun v=>decide (b v<=j*M)) n\/n<=bY (fun v=>decide (b v<=j*M)) n:=by
  intro j;induction j with
  |zero=>
   left
   exact z7 l (by simp;exact y)
  |succ j i=>
   have k:(((j+1:Nat):Int))*M=j*M+M:=by rw[Int.natCast_add,Int.add_mul];simp
   have m:∀v,v<n->decide (b v<=(j:Int)*M)=true->decide (b v<=((j+1:Nat):Int)*M)=true:=fun v _ g=>by
    have:=of_decide_eq_true g;exact decide_eq_true (by rw[k];omega)
   by_cases hn:n<=bY (fun v=>decide (b v<=j*M)) n
   ·right;exact Nat.le_trans hn (mD m)
   ·rcases i with i|i
    ·left
     by_cases o:∃w,w<n/\(j:Int)*M<b w/\b w<=j*M+M
     ·obtain⟨w,hw,L,N⟩:=o
      have:=nV (S:=fun v=>decide (b v<=j*M)) (T:=fun v=>decide (b v<=((j+1:Nat):Int)*M)) m hw (decide_eq_false (by omega)) (decide_eq_true (by rw[k];omega));omega
     ·exfalso
      have B:0<=(j:Int)*M:=Int.mul_nonneg (by omega) z;have hex:∃v,v<n/\decide ((j:Int)*M<b v)=true:=by
       refine Classical.byContradiction fun C=>hn ?_
       have D:∀v,v<n->decide (b v<=(j:Int)*M)=true:=fun v g=>by
        by_cases e:b v<=(j:Int)*M
        ·exact decide_eq_true e
        ·exact absurd ⟨v,g,decide_eq_true (by omega)⟩ C
       have p:=pM n;have q:=mD (S:=fun _=>true) (T:=fun v=>decide (b v<=(j:Int)*M)) (n:=n) (fun v g _=>D v g);omega
      obtain⟨a,c,E,F,G,H,I⟩:=s (fun v=>decide ((j:Int)*M<b v)) hex ⟨v0,l,decide_eq_false (by omega)⟩;have h1:=zZ r (fun v=>decide ((j:Int)*M<b v)) b (M+1) (by omega) (fun u v hu g J K=>by
       have k:=of_decide_eq_true J;have e2:=of_decide_eq_false K;have O:¬(b u<=j*M+M):=fun h=>o ⟨u,hu,k,h⟩
       omega) E F G H I
      have p:=h _ B;omega
    ·exact absurd i hn
 intro v g;have h1:=step n;have p:=jq (fun v=>decide (b v<=(n:Int)*M)) n;have q:n<=bY (fun v=>decide (b v<=(n:Int)*M)) n:=by omega
 exact of_decide_eq_true (pL q v g)
theorem sR {α:Type} {P:α->Prop} (f:α->Nat) (B:Nat) (h:∃a,P a) (i:∀a,P a->f a<=B):∃a,P a/\∀c,P c->f c<=f a:=by
 obtain⟨a,b⟩:=h;have key:∀(k:Nat) (a:α),B-f a<=k->P a->∃a,P a/\∀c,P c->f c<=f a:=by
  intro k;induction k with
  |zero=>intro a hk b;exact⟨a,b,fun c g=>by have:=i c g;have:=i a b;omega⟩
  |succ k l=>
   intro a hk b;by_cases j:∃c,P c/\f a<f c
   ·obtain⟨c,g,m⟩:=j
    have:=i c g;exact l c (by omega) g
   ·exact⟨a,b,fun c g=>by
     by_cases e:f a<f c
     ·exact absurd ⟨c,g,e⟩ j
     ·omega⟩
 exact key _ a (Nat.le_refl _) b
def one (w:Nat) (v:Nat):Int:=if v=w then 1 else 0
theorem sS {n:Nat} {t:Nat->Nat->Int} (a:Wt n t) {w:Nat} (hw:w<n):aV n t (one w) w=val n t w:=by
 unfold aV val;refine bI fun u _=>?_
 unfold one;by_cases e:u=w
 ·subst e;rw[a.self];simp
 ·rw[if_pos rfl,if_neg e];simp
theorem sT {n:Nat} {t:Nat->Nat->Int} {w v:Nat} (hw:w<n) (a:v≠w):aV n t (one w) v= -t v w:=by
 unfold aV;rw[jo (v:=w) hw]
 ·unfold one;rw[if_neg a,if_pos rfl];omega
 ·intro u _ hu
  unfold one;rw[if_neg a,if_neg hu];simp
theorem fu {n w:Nat} (hw:w<n):sN (one w) n=1:=by
 rw[jo (f:=one w) hw (fun u _ hu=>if_neg hu)];exact if_pos rfl
theorem z8 {n:Nat} {t:Nat->Nat->Int} (g:Wt n t) (m:dn n t) {q:Nat} (o:q<n) (D:Nat->Int):∃D',bQ n t D D'/\∀v,v<n->v≠q->0<=D' v:=by
 let P:(Nat->Int)->Prop:=fun b=>b q=0/\(∀v,v<n->0<=b v)/\∀v,v<n->0<b v->D v+aV n t b v<=val n t v-1
 have j:∀v,0<=val n t v:=fun v=>dm fun u _=>g.pos v u
 have p:∀b,P b->∀v,v<n->b v<=n*(sN (val n t) n+sN (fun v=>((D v).natAbs:Int)) n):=by
  rintro b ⟨h1,k,l⟩;refine jQ g m o (by omega) ?_ ?_
  ·have i:0<=sN (val n t) n:=dm fun v _=>j v
   have z:0<=sN (fun v=>((D v).natAbs:Int)) n:=dm fun v _=>by omega
   omega
  ·intro x B
   have i:sN (fun v=>if decide (x<b v)=true then aV n t b v else 0) n<=sN (fun v=>val n t v+((D v).natAbs:Int)) n:=cT fun v a=>by
    show (if decide (x<b v)=true then aV n t b v else 0)<=_
    by_cases e:x<b v
    ·rw[if_pos (decide_eq_true e)]
     have:=l v a (by omega);omega
    ·rw[if_neg (by simpa using e)]
     have:=j v;omega
   rw[dD] at i;exact i
 obtain⟨b,hb,r⟩:=sR (P:=P) (fun b=>(sN b n).toNat) (sN (fun _=>n*(sN (val n t) n+sN (fun v=>((D v).natAbs:Int)) n)) n).toNat ⟨fun _=>0,rfl,fun _ _=>Int.le_refl _,fun v _ (h:(0:Int)<0)=>by omega⟩ (fun b hb=>by
  have h1:=cT (n:=n) (fun v a=>p b hb v a);have k:=dm (f:=b) (n:=n) hb.2.1;show (sN b n).toNat<=_
  omega)
 refine⟨fun v=>D v+aV n t b v,⟨fun u=> -b u,fun v _=>by show D v+aV n t b v=_;rw[lC];omega⟩,fun v a s=>?_⟩;show 0<=D v+aV n t b v
 refine Classical.byContradiction fun C=>?_
 have w:P (fun u=>b u+one v u):=by
  refine⟨by show b q+one v q=0;rw[hb.1];unfold one;rw[if_neg (fun h=>s h.symm)];rfl,fun u hu=>by have:=hb.2.1 u hu;show 0<=b u+one v u;unfold one;split<;>omega,fun u hu y=>?_⟩;rw[kB];by_cases e:u=v
  ·subst e;rw[sS g a];omega
  ·rw[sT a e]
   have E:b u+one v u=b u:=by unfold one;rw[if_neg e];omega
   have:=hb.2.2 u hu (by have:0<b u+one v u:=y;omega);have:=g.pos u v;omega
 have h1:=r (fun u=>b u+one v u) w;have k:sN (fun u=>b u+one v u) n=sN b n+1:=by rw[dD,fu a]
 have l:=dm (f:=b) (n:=n) hb.2.1;have i:(sN (fun u=>b u+one v u) n).toNat<=(sN b n).toNat:=h1;omega
def jW (n:Nat) (t:Nat->Nat->Int) (q:Nat) (c:Nat->Int):Prop:=∀S:Nat->Bool,(∃v,v<n/\S v=true)->S q=false->∃v,v<n/\S v=true/\c v<sN (fun u=>if S u=false then t v u else 0) n
def jX (n:Nat) (t:Nat->Nat->Int) (q:Nat) (c:Nat->Int):Prop:=(∀v,v<n->v≠q->0<=c v)/\jW n t q c
def ind (S:Nat->Bool) (v:Nat):Int:=if S v=true then 1 else 0
theorem pN {n:Nat} {t:Nat->Nat->Int} (S:Nat->Bool) (v:Nat):aV n t (ind S) v=if S v=true then sN (fun u=>if S u=false then t v u else 0) n else -sN (fun u=>if S u=true then t v u else 0) n:=by
 unfold aV;by_cases e:S v=true
 ·rw[if_pos e]
  refine bI fun u _=>?_
  unfold ind;cases hu:S u<;>simp[e]
 ·rw[if_neg e,<-mA]
  refine bI fun u _=>?_
  unfold ind;cases hu:S u<;>simp[e]
theorem sU {n:Nat} {t:Nat->Nat->Int} (i:Wt n t) (j:dn n t) {q:Nat} (k:q<n) (D:Nat->Int):∃c,bQ n t D c/\jX n t q c:=by
 obtain⟨a,o,p⟩:=z8 i j k D;let P:(Nat->Int)->Prop:=fun b=>b q=0/\(∀v,v<n->0<=b v)/\∀v,v<n->v≠q->0<=a v-aV n t b v
 have r:∀b,P b->∀v,v<n->b v<=n*sN (fun v=>((a v).natAbs:Int)) n:=by
  rintro b ⟨h1,l,m⟩;refine jQ i j k (by omega) (dm fun v _=>by omega) ?_;intro x I;refine cT fun v g=>?_
  show (if decide (x<b v)=true then aV n t b v else 0)<=((a v).natAbs:Int)
  by_cases e:x<b v
  ·rw[if_pos (decide_eq_true e)]
   have:=m v g (fun s=>by subst s;omega);omega
  ·rw[if_neg (by simpa using e)];omega
 obtain⟨b,hb,y⟩:=sR (P:=P) (fun b=>(sN b n).toNat) (sN (fun _=>n*sN (fun v=>((a v).natAbs:Int)) n) n).toNat ⟨fun _=>0,rfl,fun _ _=>Int.le_refl _,fun v g h=>by rw[jV];have:=p v g h;omega⟩ (fun b hb=>by
  have h1:=cT (n:=n) (fun v g=>r b hb v g);have l:=dm (f:=b) (n:=n) hb.2.1;show (sN b n).toNat<=_
  omega)
 refine⟨fun v=>a v-aV n t b v,o.trans ⟨b,fun v _=>rfl⟩,hb.2.2,fun S hS z=>?_⟩;refine Classical.byContradiction fun B=>?_
 have C:∀v,v<n->S v=true->sN (fun u=>if S u=false then t v u else 0) n<=a v-aV n t b v:=fun v g E=>by
  refine Classical.byContradiction fun h=>B ⟨v,g,E,?_⟩
  show a v-aV n t b v<_
  omega
 have F:P (fun u=>b u+ind S u):=by
  refine⟨by show b q+ind S q=0;rw[hb.1];unfold ind;rw[z];simp,fun u hu=>by have:=hb.2.1 u hu;show 0<=b u+ind S u;unfold ind;split<;>omega,fun u hu G=>?_⟩;rw[kB,pN];by_cases e:S u=true
  ·rw[if_pos e];have:=C u hu e;omega
  ·rw[if_neg e]
   have:=hb.2.2 u hu G;have:0<=sN (fun w=>if S w=true then t u w else 0) n:=dm fun w _=>by
    show 0<=(if S w=true then t u w else 0)
    have:=i.pos u w;split<;>omega
   omega
 obtain⟨w,hw,H⟩:=hS;have h1:=y (fun u=>b u+ind S u) F;have l:sN (fun u=>b u+ind S u) n=sN b n+sN (ind S) n:=dD _ _ _;have m:=dm (f:=b) (n:=n) hb.2.1;have J:=gI (f:=ind S) hw (fun u _=>by unfold ind;split<;>omega);have K:ind S w=1:=by unfold ind;rw[if_pos H]
 have L:(sN (fun u=>b u+ind S u) n).toNat<=(sN b n).toNat:=h1;omega
theorem pO {n:Nat} {t:Nat->Nat->Int} (i:Wt n t) (w:dn n t) {q:Nat} (j:q<n) {c g:Nat->Int} (h:jX n t q c) (k:∀v,v<n->v≠q->0<=g v) {s:Nat->Int} (l:∀v,v<n->g v=c v-aV n t s v):∀v,v<n->s v<=s q:=by
 obtain⟨m,hm,b⟩:=pJ s (show 0<n by omega);by_cases e:s q=s m
 ·intro v a;rw[e];exact b v a
 ·exfalso
  have x:=b q j;obtain⟨v,a,o,y⟩:=h.2 (fun v=>decide (s v=s m)) ⟨m,hm,by simp⟩ (by simpa using e);have p:s v=s m:=of_decide_eq_true o;have r:v≠q:=fun h=>by subst h;exact e p
  have h1:=k v a r;rw[l v a] at h1;have z:sN (fun u=>if decide (s u=s m)=false then t v u else 0) n<=aV n t s v:=by
   unfold aV;refine cT fun u hu=>?_
   show (if decide (s u=s m)=false then t v u else 0)<=t v u*(s v-s u)
   have hp:=i.pos v u;have hle:=b u hu;by_cases e2:s u=s m
   ·rw[if_neg (by simp[e2])]
    exact Int.mul_nonneg hp (by omega)
   ·rw[if_pos (by simpa using e2)]
    have:=Int.mul_le_mul_of_nonneg_left (show (1:Int)<=s v-s u by omega) hp;omega
  omega
theorem z_ {n:Nat} {t:Nat->Nat->Int} (j:Wt n t) (k:dn n t) {q:Nat} (l:q<n) {c g:Nat->Int} (h:jX n t q c) (m:jX n t q g) (he:bQ n t c g):∀v,v<n->g v=c v:=by
 obtain⟨s,i⟩:=he;have h1:=pO j k l h m.1 i;have o:=pO j k l m h.1 (s:=fun u=> -s u) (fun v e=>by rw[lC,i v e];omega);intro v e;have:aV n t s v=0:=by
  unfold aV;refine gG fun u hu=>?_
  have a:=h1 u hu;have b:=o u hu;have c:=h1 v e;have d:=o v e;rw[show s v-s u=0 by omega,Int.mul_zero]
 rw[i v e,this];omega
theorem z' (B:Nat->Bool) (n:Nat) {v:Nat} (a:v<n) (b:B v=false):bY B n<bY (fun u=>decide (u=v)||B u) n:=
 nV (fun u _ h=>by simp[h]) a b (by simp)
theorem Aa {n:Nat} {t:Nat->Nat->Int} (H:Wt n t) {q:Nat} (Y:q<n) {c:Nat->Int} (P:jW n t q c):
  ∃pos:Nat->Nat,iC n pos/\pos q=0/\∀v,v<n->v≠q->0<pos v/\c v<=nu n t pos v:=by
 have key:∀(m:Nat) (B:Nat->Bool) (pos:Nat->Nat) (k:Nat),n<=bY B n+m->B q=true->pos q=0->0<k->(∀v,v<n->B v=true->pos v<k)->(∀u v,u<n->v<n->B u=true->B v=true->pos u=pos v->u=v)->
   (∀v,v<n->B v=true->v≠q->0<pos v/\c v<sN (fun u=>if B u=true/\pos u<pos v then t v u else 0) n)->
   ∃pos:Nat->Nat,iC n pos/\pos q=0/\∀v,v<n->v≠q->0<pos v/\c v<=nu n t pos v:=by
  intro m;induction m with
  |zero=>
   intro B pos k hm r C hk l D E;have o:=pL (S:=B) (n:=n) (by omega);refine⟨pos,fun u v hu g=>D u v hu g (o u hu) (o v g),C,fun v g s=>?_⟩;obtain⟨h1,i⟩:=E v g (o v g) s;refine⟨h1,?_⟩;unfold nu fL;have:sN (fun u=>if B u=true/\pos u<pos v then t v u else 0) n=sN (fun u=>if pos u<pos v then t v u else 0) n:=bI fun u hu=>by
    show (if B u=true/\pos u<pos v then t v u else 0)=(if pos u<pos v then t v u else 0)
    by_cases e:pos u<pos v
    ·rw[if_pos e,if_pos ⟨o u hu,e⟩]
    ·rw[if_neg e,if_neg (fun h=>e h.2)]
   omega
  |succ m I=>
   intro B pos k hm r C hk l D E;by_cases J:∃v,v<n/\B v=false
   ·obtain⟨w,hw,Q⟩:=J
    obtain⟨v,g,j,R⟩:=P (fun u=> !B u) ⟨w,hw,by simp[Q]⟩ (by simp[r]);have j:B v=false:=by simpa using j
    have s:v≠q:=fun h=>by subst h;rw[r] at j;cases j
    refine I (fun u=>decide (u=v)||B u) (fun u=>if u=v then k else pos u) (k+1) (by have:=z' B n g j;omega) (by simp[r]) (by show (if q=v then k else pos q)=0;rw[if_neg (fun h=>s h.symm)];exact C) (by omega) ?_ ?_ ?_
    ·intro u hu F
     show (if u=v then k else pos u)<k+1
     by_cases e:u=v
     ·rw[if_pos e];omega
     ·rw[if_neg e]
      have:=l u hu (by simpa [e] using F);omega
    ·intro a b K hb L M G
     by_cases p:a=v
     ·by_cases e2:b=v
      ·rw[p,e2]
      ·exfalso
       have h1:=l b hb (by simpa [e2] using M);have i:(if a=v then k else pos a)=(if b=v then k else pos b):=G;rw[if_pos p,if_neg e2] at i;omega
     ·by_cases e2:b=v
      ·exfalso
       have h1:=l a K (by simpa [p] using L);have i:(if a=v then k else pos a)=(if b=v then k else pos b):=G;rw[if_neg p,if_pos e2] at i;omega
      ·have i:(if a=v then k else pos a)=(if b=v then k else pos b):=G
       rw[if_neg p,if_neg e2] at i;exact D a b K hb (by simpa [p] using L) (by simpa [e2] using M) i
    ·intro u hu F U
     by_cases e:u=v
     ·subst e
      show 0<(if u=u then k else pos u)/\_
      rw[if_pos rfl];refine⟨hk,Int.lt_of_lt_of_le R (cT fun x N=>?_)⟩;show (if(!B x)=false then t u x else 0)<=(if(decide (x=u)||B x)=true/\(if x=u then k else pos x)<k then t u x else 0)
      cases O:B x with
      |false=>
       rw[if_neg (by simp)];have:=H.pos u x;by_cases y:(decide (x=u)||false)=true/\(if x=u then k else pos x)<k
       ·rw[if_pos y];exact this
       ·rw[if_neg y];exact Int.le_refl _
      |true=>
       have V:x≠u:=fun h=>by subst h;rw[O] at j;cases j
       rw[if_pos (by simp),if_pos (by simp[V];exact l x N O)];exact Int.le_refl _
     ·have W:B u=true:=by simpa [e] using F
      obtain⟨h1,i⟩:=E u hu W U;show 0<(if u=v then k else pos u)/\_
      rw[if_neg e];refine⟨h1,Int.lt_of_lt_of_le i (cT fun x N=>?_)⟩;show (if B x=true/\pos x<pos u then t u x else 0)<=(if(decide (x=v)||B x)=true/\(if x=v then k else pos x)<pos u then t u x else 0)
      by_cases z:B x=true/\pos x<pos u
      ·have X:x≠v:=fun h=>by subst h;rw[j] at z;cases z.1
       rw[if_pos z,if_pos (by simp[X,z])];exact Int.le_refl _
      ·rw[if_neg z]
       have:=H.pos u x;by_cases y:(decide (x=v)||B x)=true/\(if x=v then k else pos x)<pos u
       ·rw[if_pos y];exact this
       ·rw[if_neg y];exact Int.le_refl _
   ·have o:∀v,v<n->B v=true:=fun v g=>by
     cases h:B v with
     |true=>rfl
     |false=>exact absurd ⟨v,g,h⟩ J
    have Z:n<=bY B n:=by
     have i:=pM n;have:=mD (S:=fun _=>true) (T:=B) (n:=n) (fun v g _=>o v g);omega
    exact I B pos k (by omega) r C hk l D E
 refine key n (fun v=>decide (v=q)) (fun _=>0) 1 (by omega) (by simp) rfl (by omega) (fun _ _ _=>by omega) (fun u v _ _ hu g _=>?_) (fun v _ g s=>absurd (of_decide_eq_true g) s);have h1:u=q:=of_decide_eq_true hu;have i:v=q:=of_decide_eq_true g;rw[h1,i]
theorem Ab {n:Nat} {t:Nat->Nat->Int} {pos:Nat->Nat} {q:Nat} (h:pos q=0):nu n t pos q= -1:=by
 unfold nu fL;rw[gG fun u _=>by rw[if_neg (by omega)]];rfl
theorem sV {n:Nat} {t:Nat->Nat->Int} (h:Wt n t) {q:Nat} (i:q<n) {c:Nat->Int} (j:jW n t q c) (hd:c q<0):∃pos:Nat->Nat,iC n pos/\pos q=0/\(∀v,v<n->v≠q->0<pos v)/\∀v,v<n->c v<=nu n t pos v:=by
 obtain⟨pos,h1,b,g⟩:=Aa h i j;refine⟨pos,h1,b,fun v a k=>(g v a k).1,fun v a=>?_⟩;by_cases e:v=q
 ·subst e;rw[Ab b];omega
 ·exact(g v a e).2
theorem mE {n:Nat} {t:Nat->Nat->Int} (a:Wt n t) {q:Nat} (g:q<n) {c:Nat->Int} (b:jX n t q c):b9 n t c↔0<=c q:=by
 constructor
 ·intro hw
  refine Classical.byContradiction fun hd=>?_
  obtain⟨pos, -, -, -,h⟩:=sV a g b.2 (by omega);exact pK a (by omega) pos (hw.mono h)
 ·intro h
  exact b9.nU fun v i=>by
   by_cases e:v=q
   ·subst e;exact h
   ·exact b.1 v i e
theorem Af {n:Nat} {t:Nat->Nat->Int} (a:Wt n t) (e:dn n t) (hn:0<n) (D:Nat->Int):¬b9 n t D↔∃pos:Nat->Nat,iC n pos/\b9 n t (fun v=>nu n t pos v-D v):=by
 constructor
 ·intro h
  obtain⟨c,h1,b⟩:=sU a e hn D;have g:c 0<0:=by
   refine Classical.byContradiction fun o=>h ?_
   rw[zJ h1];exact(mE a hn b).2 (by omega)
  obtain⟨pos,i, -, -,j⟩:=sV a hn b.2 g;refine⟨pos,i,?_⟩;have k:bQ n t (fun v=>nu n t pos v+ -c v) (fun v=>nu n t pos v+ -D v):=(bQ.refl _ _ _).add h1.symm.neg;exact b9.fs k (b9.nU fun v l=>by have:=j v l;show 0<=nu n t pos v+ -c v;omega)
 ·rintro⟨pos, -,hw⟩ m
  refine pK a hn pos ((hw.add m).mono fun v _=>?_);show nu n t pos v-D v+D v<=_
  omega
def eu (n:Nat) (t:Nat->Nat->Int) (D:Nat->Int) (k:Int):Prop:=∀F:Nat->Int,lF n F->sN F n=k->b9 n t (fun v=>D v-F v)
def bM (n:Nat) (t:Nat->Nat->Int) (D:Nat->Int) (r:Int):Prop:= -1<=r/\(∀k,0<=k->k<=r->eu n t D k)/\¬eu n t D (r+1)
theorem eu.down {n:Nat} {t:Nat->Nat->Int} (hn:0<n) {D:Nat->Int} {k j:Int} (h:eu n t D k) (e:j<=k):eu n t D j:=by
 intro F hF b;have h1:=h (fun v=>F v+(k-j)*one 0 v) (fun v a=>by
  have:=hF v a;show 0<=F v+(k-j)*one 0 v
  unfold one;split
  ·rw[Int.mul_one];omega
  ·rw[Int.mul_zero];omega) (by rw[dD,eP,fu hn,b];omega)
 refine h1.mono fun v a=>?_
 show D v- (F v+(k-j)*one 0 v)<=D v-F v
 unfold one;split
 ·rw[Int.mul_one];omega
 ·rw[Int.mul_zero];omega
theorem bM.lG {n:Nat} {t:Nat->Nat->Int} (hn:0<n) {D:Nat->Int} {r:Int} (h:bM n t D r) {k:Int} (hk:0<=k):eu n t D k↔k<=r:=by
 constructor
 ·intro hg
  refine Classical.byContradiction fun a=>h.2.2 (hg.down hn (by omega))
 ·exact fun hle=>h.2.1 k hk hle
theorem bM.unique {n:Nat} {t:Nat->Nat->Int} (hn:0<n) {D:Nat->Int} {r a:Int} (h:bM n t D r) (b:bM n t D a):r=a:=by
 have h1:=h.1;have g:=b.1;rcases Int.lt_trichotomy r a with e|e|e
 ·exact absurd (b.2.1 (r+1) (by omega) (by omega)) h.2.2
 ·exact e
 ·exact absurd (h.2.1 (a+1) (by omega) (by omega)) b.2.2
theorem eu.fs {n:Nat} {t:Nat->Nat->Int} {D D':Nat->Int} (he:bQ n t D D') {k:Int} (h:eu n t D k):eu n t D' k:=fun F hF a=>by
 have b:bQ n t (fun v=>D v+ -F v) (fun v=>D' v+ -F v):=he.add (bQ.refl _ _ _);exact b9.fs b (h F hF a)
theorem bM.fs {n:Nat} {t:Nat->Nat->Int} {D D':Nat->Int} (he:bQ n t D D') {r:Int} (h:bM n t D r):bM n t D' r:=
 ⟨h.1,fun k a hk=>(h.2.1 k a hk).fs he,fun hg=>h.2.2 (hg.fs he.symm)⟩
def up (x:Int):Int:=if 0<=x then x else 0
theorem Ag (x:Int):0<=up x:=by unfold up;split<;>omega
theorem sW (x:Int):x<=up x:=by unfold up;split<;>omega
theorem pP {n:Nat} {t:Nat->Nat->Int} (g:Wt n t) (i:dn n t) (hn:0<n) (D:Nat->Int) (k:Int) (hk:0<=k):eu n t D k↔∀(D':Nat->Int) (pos:Nat->Nat),bQ n t D D'->iC n pos->k<sN (fun v=>up (D' v-nu n t pos v)) n:=by
 constructor
 ·intro h D' pos he hi
  refine Classical.byContradiction fun hle=>?_
  have hle:sN (fun v=>up (D' v-nu n t pos v)) n<=k:=by omega
  have h1:=(h.down hn hle) (fun v=>up (D' v-nu n t pos v)) (fun v _=>Ag _) rfl;have j:bQ n t (fun v=>D v+ -up (D' v-nu n t pos v)) (fun v=>D' v+ -up (D' v-nu n t pos v)):=he.add (bQ.refl _ _ _);have e:b9 n t (fun v=>D' v+ -up (D' v-nu n t pos v)):=b9.fs j h1;exact pK g hn pos (e.mono fun v _=>by
   have:=sW (D' v-nu n t pos v);show D' v+ -up (D' v-nu n t pos v)<=nu n t pos v
   omega)
 ·intro h F hF m
  refine Classical.byContradiction fun l=>?_
  obtain⟨pos,hi,hw⟩:=(Af g i hn _).1 l;obtain⟨a,⟨s,h1⟩,e⟩:=hw;have he:bQ n t D (fun v=>nu n t pos v+F v-a v):=⟨fun u=> -s u,fun v b=>by
   have o:a v=nu n t pos v- (D v-F v)-aV n t s v:=h1 v b;rw[lC];show nu n t pos v+F v-a v=_
   omega⟩
  have p:=h _ pos he hi;have q:sN (fun v=>up (nu n t pos v+F v-a v-nu n t pos v)) n<=sN F n:=cT fun v b=>by
   have:=e v b;have:=hF v b;show up (nu n t pos v+F v-a v-nu n t pos v)<=F v
   unfold up;split<;>omega
  omega
def can (n:Nat) (t:Nat->Nat->Int) (v:Nat):Int:=val n t v-2
def IsGenus (n:Nat) (t:Nat->Nat->Int) (g:Int):Prop:=sN (can n t) n=2*g-2
theorem sX {n:Nat} {t:Nat->Nat->Int} (a:Wt n t) {g:Int} (hg:IsGenus n t g) {pos:Nat->Nat} (hi:iC n pos):sN (nu n t pos) n=g-1:=by
 have h1:=zQ a hi;have b:=zU (n:=n) (t:=t) pos;have e:sN (can n t) n=sN (val n t) n-n*2:=by
  have:sN (can n t) n=sN (fun v=>val n t v- (fun _=>(2:Int)) v) n:=rfl;rw[this,da,gH]
 unfold IsGenus at hg;omega
theorem Ah {n:Nat} {t:Nat->Nat->Int} (a:Wt n t) (b:dn n t) (hn:0<n) {g:Int} (hg:IsGenus n t g) {D:Nat->Int} {k:Int} (hk:0<=k) (i:0<=k- (sN D n+1-g)) (h:eu n t D k):eu n t (fun v=>can n t v-D v) (k- (sN D n+1-g)):=by
 rw[pP a b hn _ _ i];rw[pP a b hn _ _ hk] at h;intro D' pos he hi;obtain⟨pos',e⟩:=sQ n pos;have hi':=zO hi e;have j:bQ n t D (fun v=>can n t v-D' v):=by
  have h1:bQ n t (fun v=>can n t v+ -(can n t v-D v)) (fun v=>can n t v+ -D' v):=(bQ.refl _ _ _).add he.neg;exact(bQ.of_eq (D:=D) (D':=fun v=>can n t v+ -(can n t v-D v)) fun v _=>by show can n t v+ -(can n t v-D v)=D v;omega).trans (h1.trans (bQ.of_eq fun v _=>by show can n t v-D' v=can n t v+ -D' v;omega))
 have h1:=h _ pos' j hi';have l:sN (fun v=>up (can n t v-D' v-nu n t pos' v)) n=sN (fun v=>up (D' v-nu n t pos v)) n-sN (fun v=>D' v-nu n t pos v) n:=by
  rw[<-da];refine bI fun v m=>?_
  have o:=zV a hi e m;show up (can n t v-D' v-nu n t pos' v)=up (D' v-nu n t pos v)- (D' v-nu n t pos v)
  unfold can up;rw[<-o];split<;>split<;>omega
 rw[l,da,he.bh a,sX a hg hi,da] at h1;unfold IsGenus at hg;rw[hg] at h1;omega
theorem bM.mF {n:Nat} {t:Nat->Nat->Int} (b:Wt n t) (hn:0<n) {D:Nat->Int} {r:Int} (h:bM n t D r) (a:0<=r):r<=sN D n:=by
 have h1:=h.2.1 r a (Int.le_refl _) (fun v=>r*one 0 v) (fun v _=>Int.mul_nonneg a (by unfold one;split<;>omega)) (by rw[eP,fu hn,Int.mul_one]);have:=h1.bh b;rw[da,eP,fu hn] at this;omega
theorem bM.jY {n:Nat} {t:Nat->Nat->Int} {D:Nat->Int} {r:Int} (hn:0<n) (h:bM n t D r):r= -1↔¬b9 n t D:=by
 have key:eu n t D 0↔b9 n t D:=by
  constructor
  ·intro hg
   exact(hg (fun _=>0) (fun _ _=>Int.le_refl _) (iY n)).mono fun v _=>by show D v-0<=D v;omega
  ·intro hw F hF g
   have b:∀v,v<n->F v=0:=fun v a=>by
    have h1:=gI a hF;have:=hF v a;omega
   exact hw.mono fun v a=>by show D v<=D v-F v;rw[b v a];omega
 have h1:=h.1;have e:=h.lG hn (Int.le_refl 0);rw[<-key,e];omega
theorem gJ {n:Nat} {t:Nat->Nat->Int} (a:Wt n t) (hn:0<n) (D:Nat->Int):∃r,bM n t D r:=by
 have key:∃k:Nat,¬eu n t D k:=by
  refine⟨(sN D n).toNat+1,fun h=>?_⟩;have h1:=h (fun v=>(((sN D n).toNat+1:Nat):Int)*one 0 v) (fun v _=>Int.mul_nonneg (by omega) (by unfold one;split<;>omega)) (by rw[eP,fu hn,Int.mul_one]);have:=h1.bh a;rw[da,eP,fu hn] at this;omega
 obtain⟨k,hk,b⟩:=zH key;refine⟨(k:Int)-1,by omega,fun j e l=>?_,by rw[show (k:Int)-1+1=k by omega];exact hk⟩;refine Classical.byContradiction fun g=>?_
 obtain⟨i,rfl⟩:=Int.eq_ofNat_of_zero_le e;have:=b i g;omega
theorem nW {n:Nat} {t:Nat->Nat->Int} (i:Wt n t) (k:dn n t) (hn:0<n) {g:Int} (hg:IsGenus n t g) {D:Nat->Int} {r a:Int} (h:bM n t D r) (b:bM n t (fun v=>can n t v-D v) a):r-a=sN D n+1-g:=by
 have key:∀{D D':Nat->Int} {r a:Int},(∀v,v<n->D' v=can n t v-D v)->bM n t D r->bM n t D' a->r- (sN D n+1-g)<=a:=by
  intro D D' r a l h b;refine Classical.byContradiction fun q=>?_
  have h1:=h.1;have s:=b.1;have u:sN D' n=2*g-2-sN D n:=by
   rw[bI l,da];unfold IsGenus at hg;rw[hg]
  by_cases m:0<=r
  ·have e:=Ah i k hn hg m (by omega) (h.2.1 r m (Int.le_refl _))
   have j:eu n t D' (r- (sN D n+1-g)):=e.fs (bQ.of_eq l);have o:=(b.lG hn (by omega)).1 j;omega
  ·
   have w:r= -1:=by omega
   have p:0<=a+1:=by omega
   have e:¬eu n t D' (a+1):=b.2.2;rw[pP i k hn _ _ p] at e;refine e fun F pos he hi=>?_
   have j:sN (fun v=>F v-nu n t pos v) n<=sN (fun v=>up (F v-nu n t pos v)) n:=cT fun v _=>sW _
   have o:sN (fun v=>F v-nu n t pos v) n=sN D' n- (g-1):=by rw[da,he.bh i,sX i hg hi]
   omega
 have h1:=key (fun v _=>rfl) h b;have e:=key (D:=fun v=>can n t v-D v) (D':=D) (fun v _=>by show D v=can n t v- (can n t v-D v);omega) b h;have j:sN (fun v=>can n t v-D v) n=2*g-2-sN D n:=by
  rw[da];unfold IsGenus at hg;rw[hg]
 omega
theorem Ai {n:Nat} {t:Nat->Nat->Int} (p:Wt n t) (hn:0<n) {D:Nat->Int} (hw:b9 n t D) {r:Int} (h:bM n t D r):(∀v,v<n->∀k,bM n t (fun u=>D u-one v u) k->r<=k+1)/\∃v,v<n/\∀k,bM n t (fun u=>D u-one v u) k->r=k+1:=by
 have j:0<=r:=by
  have h1:=h.1;have:=(h.jY hn).1;refine Classical.byContradiction fun g=>this (by omega) hw
 have i:∀v,v<n->∀k,bM n t (fun u=>D u-one v u) k->r<=k+1:=by
  intro v a k hk;have q:=hk.1;refine Classical.byContradiction fun s=>hk.2.2 fun F hF b=>?_
  have h1:=h.2.1 (k+2) (by omega) (by omega) (fun u=>F u+one v u) (fun u hu=>by have:=hF u hu;show 0<=F u+one v u;unfold one;split<;>omega) (by rw[dD,fu a,b];omega);exact h1.mono fun u _=>by show D u- (F u+one v u)<=D u-one v u-F u;omega
 refine⟨i,?_⟩;obtain⟨F,hF,b,l⟩:∃F,lF n F/\sN F n=r+1/\¬b9 n t (fun v=>D v-F v):=by
  refine Classical.byContradiction fun g=>h.2.2 fun F hF b=>?_
  exact Classical.byContradiction fun hw=>g ⟨F,hF,b,hw⟩
 obtain⟨v,a,w⟩:∃v,v<n/\1<=F v:=by
  refine Classical.byContradiction fun g=>?_
  have:sN F n=0:=gG fun v a=>by
   have:=hF v a;refine Classical.byContradiction fun x=>g ⟨v,a,by omega⟩
  omega
 refine⟨v,a,fun k hk=>?_⟩;have h1:=i v a k hk;have m:¬eu n t (fun u=>D u-one v u) r:=fun hg=>by
  have o:=hg (fun u=>F u-one v u) (fun u hu=>by
   have:=hF u hu;show 0<=F u-one v u
   unfold one;by_cases e:u=v
   ·subst e;rw[if_pos rfl];omega
   ·rw[if_neg e];omega) (by rw[da,fu a,b];omega)
  exact l (o.mono fun u _=>by show D u-one v u- (F u-one v u)<=D u-F u;omega)
 have:=hk.lG hn j;have:¬r<=k:=fun hle=>m (this.2 hle)
 omega
theorem Ak {n:Nat} {t:Nat->Nat->Int} (a:Wt n t) (e:dn n t) (hn:0<n) {g:Int} (hg:IsGenus n t g) {D:Nat->Int} (hd:2*g-2<sN D n) {r:Int} (h:bM n t D r):r=sN D n-g:=by
 obtain⟨j,b⟩:=gJ a hn (fun v=>can n t v-D v);have h1:=nW a e hn hg h b;have i:¬b9 n t (fun v=>can n t v-D v):=fun hw=>by
  have:=hw.bh a;rw[da] at this;unfold IsGenus at hg;omega
 have:=(b.jY hn).2 i;omega
end Go.Proofs.YtffdiakgjakngaaGreat.T
namespace Go.Proofs.YtffdiakgjakngaaGreat.P
open Go.RowKit Go.Proofs.YtffdiakgjakngaaGreatW.PrintWords Go.Proofs.YtffdiakgjakngaaGreatW.PrintLast Go.Proofs.YtffdiakgjakngaaGreatW.PrintMore
set_option linter.unusedVariables false
set_option linter.unusedSimpArgs false
set_option maxHeartbeats 8000000
set_option maxRecDepth 100000
def cQ (f:Nat->Nat->Int) (x:S83):Nat->Nat->Int:=if x.f0=x.f1 then f else fun a b=>if a=x.f1.toNat/\b=x.f0.toNat then x.f2 else if a=x.f0.toNat/\b=x.f1.toNat then x.f2 else f a b
def timesOf (E:List S83):Nat->Nat->Int:=E.foldl cQ (fun _ _=>0)
theorem sY (E:List S83) (k:Nat) (h:k<E.length):timesOf (E.take (k+1))=cQ (timesOf (E.take k)) (ae E k):=by
 unfold timesOf;rw[List.take_succ_eq_append_getElem h,List.foldl_append];simp[ae,bb,bP h]
def ej (n:Nat) (E:List S83):Prop:=∀x∈E,0<=x.f0/\x.f0<n/\0<=x.f1/\x.f1<n/\1<=x.f2/\x.f2<=50
theorem ej.get {n:Nat} {E:List S83} (h:ej n E) (k:Nat) (hk:k<E.length):0<=(ae E k).f0/\(ae E k).f0<n/\0<=(ae E k).f1/\(ae E k).f1<n/\1<=(ae E k).f2/\(ae E k).f2<=50:=by
 have e:ae E k=E[k]:=by simp[ae,bb,bP hk]
 rw[e];exact h _ (List.getElem_mem hk)
theorem sZ {n:Nat}:∀(E:List S83) (f:Nat->Nat->Int),(∀x∈E,1<=x.f2/\x.f2<=50)->(∀i j,0<=f i j/\f i j<=50)->∀i j,0<=E.foldl cQ f i j/\E.foldl cQ f i j<=50
 |[],f,_,hf=>hf
 |x::E,f,h,hf=>by
  refine sZ (n:=n) E _ (fun y b=>h y (List.mem_cons_of_mem _ b)) ?_;intro i j;have e:=h x (List.mem_cons_self ..);have a:=hf i j;unfold cQ;split
  ·exact a
  ·dsimp only
   split
   ·omega
   ·split
    ·omega
    ·exact a
theorem ej.times {n:Nat} {E:List S83} (h:ej n E) (i j:Nat):0<=timesOf E i j/\timesOf E i j<=50:=sZ (n:=n) E _ (fun x a=>⟨(h x a).2.2.2.2.1,(h x a).2.2.2.2.2⟩) (fun _ _=>by simp) i j
def iZ (n:Int) (E:List S83):Bool:=E.all fun x=>decide (0<=x.f0/\x.f0<n/\0<=x.f1/\x.f1<n/\1<=x.f2/\x.f2<=50)
theorem lH {n:Nat} {E:List S83} (h:iZ n E=true):ej n E:=fun x a=>by simpa using List.all_eq_true.1 h x a
def g_ (x y:S83):Prop:=x.f0<y.f0\/x.f0=y.f0/\x.f1<y.f1
structure bt (N:Int) (E:List S83):Prop where
 ok:∀x∈E,bX N x=true
 le:∀x∈E,x.f0<=x.f1
 order:E.Pairwise g_
theorem s6 {N:Int}:∀{E:List S83} {a e:Int},gF N a e E=0->(∀x∈E,bX N x=true/\x.f0<=x.f1/\(a<x.f0\/a=x.f0/\e<x.f1))/\E.Pairwise g_
 |[],_,_,_=>⟨fun x b=>absurd b (by simp),List.Pairwise.nil⟩
 |y::E,a,e,h=>by
  rw[gF] at h;by_cases he:dM N a e y=0
  ·rw[if_pos he] at h
   obtain⟨h1,i⟩:=s6 h;have j:bX N y=true/\y.f0<=y.f1/\(a<y.f0\/a=y.f0/\e<y.f1):=by
    unfold dM at he;cases g:bX N y with
    |false=>rw[g] at he;simp at he
    |true=>
     rw[g,if_neg (show ¬(true=false) by decide)] at he;by_cases k:y.f0<a\/y.f0=a/\y.f1<=e\/y.f0>y.f1
     ·rw[if_pos k] at he;exact absurd he (by decide)
     ·exact⟨rfl,by omega,by omega⟩
   refine⟨fun x b=>?_,List.Pairwise.cons (fun x b=>(h1 x b).2.2) i⟩;rcases List.mem_cons.1 b with rfl|b
   ·exact j
   ·have:=h1 x b
    exact⟨this.1,this.2.1,by omega⟩
  ·rw[if_neg he] at h;exact absurd h he
theorem gK {N:Int} {E:List S83} (h:cJ N E=0):1<=N/\N<=12/\bt N E:=by
 unfold cJ at h;by_cases b:N<1\/N>12
 ·rw[if_pos b] at h;exact absurd h (by decide)
 ·rw[if_neg b] at h
  obtain⟨h1,e⟩:=s6 h;exact⟨by omega,by omega,fun x a=>(h1 x a).1,fun x a=>(h1 x a).2.1,e⟩
theorem bt.db {N:Int} {E:List S83} (h:bt N E):iZ N E=true:=by
 refine List.all_eq_true.2 fun x a=>?_
 have:=h.ok x a;simpa [bX] using this
def fU (a b:Int) (x:S83):Bool:=decide (x.f0=min a b/\x.f1=max a b)
def du (E:List S83) (a b:Int):Int:=match E.find? (fU a b) with|some x=>x.f2|none=>0
theorem Am (x:S83) (E:List S83) (a b:Int):du (x::E) a b=if x.f0=min a b/\x.f1=max a b then x.f2 else du E a b:=by
 unfold du;rw[List.find?_cons];unfold fU;by_cases h:x.f0=min a b/\x.f1=max a b
 ·simp[h]
 ·rw[a6 h,if_neg h]
theorem s7 (E:List S83) (a b:Int):du E a b=du E b a:=by
 unfold du fU;rw[show min a b=min b a by omega,show max a b=max b a by omega]
theorem s8 {E:List S83} {a b:Int} (h:∀x∈E,¬(x.f0=min a b/\x.f1=max a b)):E.find? (fU a b)=none:=by
 rw[List.find?_eq_none];intro x e;simp[fU,h x e]
theorem s9 (a b:Nat) (j:a≠b):∀(E:List S83) (f:Nat->Nat->Int),(∀x∈E,0<=x.f0/\x.f0<=x.f1)->E.Pairwise g_->E.foldl cQ f a b=match E.find? (fU a b) with|some x=>x.f2|none=>f a b
 |[],f,_,_=>rfl
 |x::E,f,h,hp=>by
  have m:=h x (List.mem_cons_self ..);obtain⟨h1,k⟩:=List.pairwise_cons.1 hp;rw[List.foldl_cons,s9 a b j E _ (fun y g=>h y (List.mem_cons_of_mem _ g)) k,List.find?_cons];by_cases l:x.f0=min (a:Int) b/\x.f1=max (a:Int) b
  ·rw[show fU a b x=true from by simp[fU,l]]
   rw[s8 (fun y g n=>by have:=h1 y g;unfold g_ at this;omega)];show cQ f x a b=x.f2
   unfold cQ;rw[if_neg (by omega)];by_cases i:a=x.f1.toNat/\b=x.f0.toNat
   ·rw[if_pos i]
   ·rw[if_neg i,if_pos (by omega)]
  ·rw[show fU a b x=false from by simp[fU];omega]
   have e:cQ f x a b=f a b:=by
    unfold cQ;split
    ·rfl
    ·dsimp only
     rw[if_neg (by omega),if_neg (by omega)]
   rw[e]
theorem mG {N:Int} {E:List S83} (h:bt N E) (a b:Nat) (g:a≠b):timesOf E a b=du E a b:=by
 unfold timesOf du;exact s9 a b g E _ (fun x e=>⟨by have:=h.ok x e;simp[bX] at this;omega,h.le x e⟩) h.order
theorem An {N:Int} {E:List S83} (h:bt N E) (a b:Int):0<=du E a b/\du E a b<=50:=by
 unfold du;split
 ·rename_i x e
  have:=h.ok x (List.mem_of_find?_eq_some e);simp[bX] at this;omega
 ·omega
end Go.Proofs.YtffdiakgjakngaaGreat.P


namespace Go.Proofs.YtffdiakgjakngaaGreat.P
open Go.RowKit Go.Proofs.YtffdiakgjakngaaGreatW.PrintWords Go.Proofs.YtffdiakgjakngaaGreatW.PrintLast Go.Proofs.YtffdiakgjakngaaGreatW.PrintMore
set_option linter.unusedVariables false
set_option linter.unusedSimpArgs false
set_option maxHeartbeats 8000000
set_option maxRecDepth 100000
section
attribute [local go_sem] jk jl jm jn mo mq mr mu
def dN.l0:Nat->Int->Int->Int->Int->List (S83)->Option (Int)
 |0,_,_,_,_,_=>none
 |k+1,x1,x2,a,e,b=>if a<(b.length:Int) then(if 0<=a then(if((ae b a).f0)=(mn x1 x2) then(if((ae b a).f1)=(mx x1 x2) then(some ((ae b a).f2)) else(dN.l0 k x1 x2 (wrap64 (a+1)) e b)) else(dN.l0 k x1 x2 (wrap64 (a+1)) e b)) else(none)) else(some 0)
def dN.f (k:Nat) (a:Int) (b:List (S83)) (e:Int) (a2:Int):Option (Int):=dN.l0 k e a2 0 a b
theorem dN.calls (k:Nat) (l:Int) (O:Option Addr) (z:Nat) (a:List (S83)) (m:Int) (a2:Int) (r:Int) (w:World) (Y:Kd.C aN w O a.length a) (Z:a.length<=z) (h:dN.f k l a m a2=some r):
  Calls Tryz.prog 147 #[.agg #[.int .i64 l,.slice O a.length z],.int .i64 m,.int .i64 a2] w fun e w'=>e= .returned (.int .i64 r)/\Below w.heap.size w w':=by
 have av:=Tryz.underlying24;have aB:=Tryz.underlying83;have T:=zA Y;have aF:=zA Z;clear Y Z;have b:=zA (al w.heap.size w);have H:(dN.l0 k m a2 0 l a)=some r:=h;clear h;have E:=zA H;clear H;go_enter Tryz.func147,Tryz.ntmps147
 go_wp2_with (first|((with_reducible refine aH (N:=3) rfl ?_);(try(refine dt (by rfl) ?_;dsimp only));refine zX 3 #[.int .i64 l,.slice O a.length z] 24 ?_;intro n hg w4 p hb;have j:=zA (p);have aO:=zG b hg;have aP:=zG b hg;replace b:=zS b hb;clear hb p hg))
 go_loopg [7] k (fun kq v7 w'=>∃(i:Int),v7= .int .i64 i/\Aside0 (dN.l0 kq m a2 i l a=some r)/\Aside0 (kq<=k)/\Aside0 (w'.heap[n]? =some (.cells #[.int .i64 l,(.slice O a.length z)] 24 (0,0)))/\Aside0 (Below w.heap.size w w'))
 case atStart=>exact⟨(0),zT,E,⟨aI _⟩,⟨zK j⟩,⟨zB⟩⟩
 case round=>
  clear E;obtain⟨i,rfl,U,P,j,b⟩:=hrel;cases gk with
  |zero=>exact absurd U.out (by simp[dN.l0])
  |succ G=>
   have H:=U.out;clear U;simp only[dN.l0] at H;by_cases F:i<(a.length:Int)
   ·rw[if_pos F] at H
    have ak:=ay F;clear F;by_cases Q:0<=i
    ·rw[if_pos Q] at H
     have aS:=ay Q;clear Q;obtain⟨V,R⟩:∃W:Int,(mn m a2)=W:=⟨_,rfl⟩;replace H:(if((ae a i).f0)=(V) then(if((ae a i).f1)=(mx m a2) then(some ((ae a i).f2)) else(dN.l0 G m a2 (wrap64 (i+1)) l a)) else(dN.l0 G m a2 (wrap64 (i+1)) l a))=some r:=by first|(rw[R] at H;exact H)|(simp only[R] at H⊢;exact H)
     have a0:(if a2<m then a2 else m)=V:=R;by_cases I:((ae a i).f0)=(V)
     ·rw[if_pos I] at H
      obtain⟨am,an⟩:=br I;clear I;obtain⟨X,S⟩:∃W:Int,(mx m a2)=W:=⟨_,rfl⟩;replace H:(if((ae a i).f1)=(X) then(some ((ae a i).f2)) else(dN.l0 G m a2 (wrap64 (i+1)) l a))=some r:=by first|(rw[S] at H;exact H)|(simp only[S] at H⊢;exact H)
      have a3:(if m<a2 then a2 else m)=X:=S;by_cases J:((ae a i).f1)=(X)
      ·rw[if_pos J] at H
       obtain⟨ap,ar⟩:=br J;clear J;obtain rfl:=aE H;obtain⟨a4,a5,a9,be⟩:=au j;have q:0<=(i:Int):=ax ‹_›;have s:i<(a.length:Int):=ax ‹_›;obtain⟨B,K,u,v,x⟩:=dB T.out i q s;cases K;replace u:=(b.out.cell (a8 w _ u)).trans u;replace v:=(b.out.cell (a8 w _ v)).trans v;replace x:=(b.out.cell (a8 w _ x)).trans x;replace q:=eq_true q;replace s:=eq_true s;go_wp2_with (first|((with_reducible refine aH (N:=8) rfl ?_);(try(refine dt (by rfl) ?_;dsimp only));refine zX 8 #[.int .i64 0,.int .i64 0,.int .i64 0] 83 ?_;intro D hg bf p hb;have L:=zA (p);have ab:=zG b hg;have ad:=zG b hg;replace b:=zS b hb;have y:=zA ((by rw[hg];exact Nat.ne_of_lt (az (g:=n) (o:=.cells #[.int .i64 l,.slice (some B) a.length z] 24 (0,0)) (zK j)):n≠D));have M:=zA ((by rw[hg];exact Nat.ne_of_gt (az (g:=n) (o:=.cells #[.int .i64 l,.slice (some B) a.length z] 24 (0,0)) (zK j)):D≠n));replace j:=zb j hb;clear hb p hg;have bg:=M.out;have bi:=y.out;obtain⟨bk,bn,bo,bv,bw,bx⟩:=cm L))
       go_ret;exact⟨by first|rfl|(simp[fm,fp]<;>rfl)|(simp only[<-R,<-S];first|rfl|(simp[fm,fp]<;>rfl))|(simp[*,fm,fp]<;>rfl),zB⟩
      ·rw[if_neg J] at H
       obtain⟨ap,ar⟩:=bG J;have E:=zA H;clear H;obtain⟨b0,b1,b2,b3⟩:=au j;have q:0<=(i:Int):=ax ‹_›;have s:i<(a.length:Int):=ax ‹_›;obtain⟨B,K,u,v,x⟩:=dB T.out i q s;cases K;replace u:=(b.out.cell (a8 w _ u)).trans u;replace v:=(b.out.cell (a8 w _ v)).trans v;replace x:=(b.out.cell (a8 w _ x)).trans x;replace q:=eq_true q;replace s:=eq_true s;go_wp2_with (first|((with_reducible refine aH (N:=8) rfl ?_);(try(refine dt (by rfl) ?_;dsimp only));refine zX 8 #[.int .i64 0,.int .i64 0,.int .i64 0] 83 ?_;intro D hg b4 p hb;have L:=zA (p);have ab:=zG b hg;have ad:=zG b hg;replace b:=zS b hb;have y:=zA ((by rw[hg];exact Nat.ne_of_lt (az (g:=n) (o:=.cells #[.int .i64 l,.slice (some B) a.length z] 24 (0,0)) (zK j)):n≠D));have M:=zA ((by rw[hg];exact Nat.ne_of_gt (az (g:=n) (o:=.cells #[.int .i64 l,.slice (some B) a.length z] 24 (0,0)) (zK j)):D≠n));replace j:=zb j hb;clear hb p hg;have b5:=M.out;have b6:=y.out;obtain⟨b_,b',ca,cb,cc,cd⟩:=cm L))
       go_roundg G
       case measure=>have:=P.out;omega
       case rel=>exact⟨(wrap64 (i+1)),zT,E,⟨by have:=P.out;omega⟩,⟨by refine zk ?_;refine aD ?_ y.out _;refine zk ?_;refine aD ?_ y.out _;refine zk ?_;refine aD ?_ y.out _;exact zK j⟩,⟨zB⟩⟩
     ·rw[if_neg I] at H
      obtain⟨am,an⟩:=bG I;have E:=zA H;clear H;obtain⟨ce,cf,ch,ci⟩:=au j;have q:0<=(i:Int):=ax ‹_›;have s:i<(a.length:Int):=ax ‹_›;obtain⟨B,K,u,v,x⟩:=dB T.out i q s;cases K;replace u:=(b.out.cell (a8 w _ u)).trans u;replace v:=(b.out.cell (a8 w _ v)).trans v;replace x:=(b.out.cell (a8 w _ x)).trans x;replace q:=eq_true q;replace s:=eq_true s;go_wp2_with (first|((with_reducible refine aH (N:=8) rfl ?_);(try(refine dt (by rfl) ?_;dsimp only));refine zX 8 #[.int .i64 0,.int .i64 0,.int .i64 0] 83 ?_;intro D hg cj p hb;have L:=zA (p);have ab:=zG b hg;have ad:=zG b hg;replace b:=zS b hb;have y:=zA ((by rw[hg];exact Nat.ne_of_lt (az (g:=n) (o:=.cells #[.int .i64 l,.slice (some B) a.length z] 24 (0,0)) (zK j)):n≠D));have M:=zA ((by rw[hg];exact Nat.ne_of_gt (az (g:=n) (o:=.cells #[.int .i64 l,.slice (some B) a.length z] 24 (0,0)) (zK j)):D≠n));replace j:=zb j hb;clear hb p hg;have ck:=M.out;have cl:=y.out;obtain⟨co,cq,cr,cs,cv,cx⟩:=cm L))
      go_roundg G
      case measure=>have:=P.out;omega
      case rel=>exact⟨(wrap64 (i+1)),zT,E,⟨by have:=P.out;omega⟩,⟨by refine zk ?_;refine aD ?_ y.out _;refine zk ?_;refine aD ?_ y.out _;refine zk ?_;refine aD ?_ y.out _;exact zK j⟩,⟨zB⟩⟩
    ·rw[if_neg Q] at H
     exact absurd H (by simp)
   ·rw[if_neg F] at H
    have ak:=a6 F;clear F;obtain rfl:=aE H;obtain⟨c0,c1,c2,c3⟩:=au j;go_wp2;go_ret;exact⟨zE,zB⟩
end
theorem s_ (N:Int) (E:List S83) (a b:Int) (j:E.length<=1000):∀(m i:Nat),i+m=E.length->Ev (fun k=>dN.l0 k a b i N E) (du (E.drop i) a b)
 |0,i,hi=>by
  refine Ev.of_succ ?_;simp only[dN.l0,if_neg (show ¬((i:Int)<(E.length:Int)) by omega)];rw[List.drop_eq_nil_of_le (by omega)];exact Ev.const _
 |m+1,i,hi=>by
  have g:=s_ N E a b j m (i+1) (by omega);refine Ev.of_succ ?_;simp only[dN.l0,if_pos (show (i:Int)<(E.length:Int) by omega),if_pos (show (0:Int)<=(i:Int) by omega),eh (show i<=1000000 by omega)];rw[lB (by omega),Am];rw[show mn a b=min a b from by unfold mn;omega,show mx a b=max a b from by unfold mx;omega];by_cases e:(ae E i).f0=min a b
  ·simp only[if_pos e]
   by_cases h1:(ae E i).f1=max a b
   ·simp only[if_pos h1];rw[if_pos ⟨e,h1⟩];exact Ev.const _
   ·simp only[if_neg h1];rw[if_neg (fun h=>h1 h.2)];exact g
  ·simp only[if_neg e];rw[if_neg (fun h=>e h.1)];exact g
theorem ta (N:Int) (E:List S83) (a b:Int) (e:E.length<=1000):Ev (fun k=>dN.f k N E a b) (du E a b):=by
 unfold dN.f;have:=s_ N E a b e E.length 0 (by omega);simpa using this
section
theorem jZ (w:World) (g j:Nat) (v:Value):w.grownBy (w.setCell ⟨g,j,none⟩ v) (some g):=⟨rfl,rfl,rfl,by simp,fun k _ hk=>Below.heap_setCell w _ v k (fun e=>hk (by rw[e]))⟩
def dX (w:World) (g:Nat) (p:Nat->Nat):Prop:=∃cs:Array Value,w.heap[g]? =some (.cells cs 217 (0,0))/\cs.size=12/\∀i,i<12->cs[i]? =some (.int .i64 (p i:Nat))
namespace dX
variable {w w':World} {g:Nat} {p:Nat->Nat}
theorem lt (h:dX w g p):g<w.heap.size:=by
 obtain⟨cs,hb,_⟩:=h;exact az hb
theorem cell (h:dX w g p) (i:Nat) (hi:i<12):w.cell? ⟨g,i,none⟩=some (.int .i64 (p i:Nat)):=by
 obtain⟨cs,hb,_,a⟩:=h;exact(ai hb i).trans (a i hi)
theorem frozen (h:dX w g p) (k:Nat):w.frozen? ⟨g,k,none⟩=false:=by
 obtain⟨cs,hb,_⟩:=h;exact bD hb k
theorem below (h:dX w g p) (hb:Below w.heap.size w w'):dX w' g p:=by
 obtain⟨cs,a,b⟩:=h;exact⟨cs,aJ a hb,b⟩
theorem alloc (h:dX w g p) (o:Obj):dX (w.alloc o) g p:=h.below (ao (al _ _) o)
theorem set (h:dX w g p) (i:Nat) (hi:i<12) (x:Nat):dX (w.setCell ⟨g,i,none⟩ (.int .i64 x)) g (fun j=>if j=i then x else p j):=by
 obtain⟨cs,a,b,l⟩:=h;refine⟨cs.setIfInBounds i (.int .i64 x),by simpa using bR a i (.int .i64 x),by simp[b],?_⟩;intro k hk;by_cases e:k=i
 ·subst e
  rw[Array.getElem?_setIfInBounds_self_of_lt (by omega)];simp
 ·rw[Array.getElem?_setIfInBounds_ne (by omega),l k hk];simp[e]
theorem congr {q:Nat->Nat} (h:dX w g p) (he:∀i,i<12->q i=p i):dX w g q:=by
 obtain⟨cs,a,b,e⟩:=h;exact⟨cs,a,b,fun i hi=>by rw[he i hi];exact e i hi⟩
end dX
def hU (p:Nat->Nat):Prop:=∀i,p i<=i
def rootOf (p:Nat->Nat) (v:Nat):Nat:=if h:p v<v then rootOf p (p v) else v
termination_by v
theorem iD (p:Nat->Nat) (v:Nat):rootOf p v<=v:=by
 induction v using Nat.strongRecOn with
 |ind v a=>
  rw[rootOf];split
  ·rename_i h
   exact Nat.le_trans (a _ h) (Nat.le_of_lt h)
  ·exact aI _
def dE (p:Nat->Nat) (a b:Nat):Nat->Nat:=fun j=>if j=max (rootOf p a) (rootOf p b) then min (rootOf p a) (rootOf p b) else p j
theorem tb {p:Nat->Nat} (h:hU p) (a b:Nat):hU (dE p a b):=fun i=>by
 unfold dE;split
 ·subst_vars;omega
 ·exact h i
def aK (E:List S83):Nat->Nat:=E.foldl (fun p x=>dE p x.f0.toNat x.f1.toNat) id
theorem Ap (E:List S83) (k:Nat) (h:k<E.length):aK (E.take (k+1))=dE (aK (E.take k)) (ae E k).f0.toNat (ae E k).f1.toNat:=by
 unfold aK;rw[List.take_succ_eq_append_getElem h,List.foldl_append];simp[ae,bb,bP h]
theorem tc (E:List S83):hU (aK E):=by
 suffices h:∀(E:List S83) p,hU p->hU (E.foldl (fun p x=>dE p x.f0.toNat x.f1.toNat) p) from h E id (fun i=>aI _)
 intro E;induction E with
 |nil=>exact fun p h=>h
 |cons x E a=>exact fun p h=>a _ (tb h _ _)
theorem td {k:IntKind} {a b:Int} (h:a=b):Ending.returned (.int k a)= .returned (.int k b):=by rw[h]
theorem pQ (g v:Nat) (p:Nat->Nat) (w:World) (hf:hU p) (m:v<12) (hw:dX w g p):
  Calls Tryz.prog 210 #[.pointer (some ⟨g,0,none⟩),.int .i64 v] w fun e w'=>e= .returned (.int .i64 (rootOf p v:Nat))/\w=w':=by
 go_enter Tryz.func210,Tryz.ntmps210
 go_wp2;go_loop [1] (fun u=>∃k:Nat,k<12/\u= .int .i64 k/\rootOf p k=rootOf p v) (fun u=>(intOf u).toNat)
 case atStart=>exact⟨v,m,rfl,rfl⟩
 case round=>
  obtain⟨k,hk,rfl,h⟩:=hrel;have i:=Lib.hid h;clear h;have n:=hw.cell k hk;have o:(0:Int)<=(k:Int):=by omega
  have q:(k:Int)<12:=by omega
  have hle:=hf k;by_cases j:p k<k
  ·have a:rootOf p k=rootOf p (p k):=by rw[rootOf,dif_pos j]
   have b:=Lib.hid a;clear a;have r:((p k:Nat):Int)≠(k:Int):=by omega
   go_wp2;go_round
   case rel=>exact⟨p k,by omega,rfl,by rw[<-i.out,b.out]⟩
   case measure=>simp[intOf];omega
  ·have a:rootOf p k=k:=by rw[rootOf,dif_neg j]
   have b:=Lib.hid a;clear a;have l:p k=k:=by omega
   rw[l] at n;clear l;go_wp2;go_ret;exact⟨td (by rw[<-i.out,b.out]),rfl⟩
theorem Aq (g a b:Nat) (p:Nat->Nat) (w:World) (hf:hU p) (u:a<12) (hb:b<12) (hw:dX w g p):
  Calls Tryz.prog 209 #[.pointer (some ⟨g,0,none⟩),.int .i64 a,.int .i64 b] w fun e w'=>e= .returned (.tuple #[])/\dX w' g (dE p a b)/\w.grownBy w' (some g):=by
 have h1:=iD p a;have q:=iD p b;generalize k:rootOf p a=h at h1;generalize l:rootOf p b=i at q;have m:=pQ g a p w hf u hw;have cb:=pQ g b p w hf hb hw;rw[k] at m;rw[l] at cb;have n:=zA m;have o:=zA cb;have j:Aside0 (dX (w.setCell ⟨g,max h i,none⟩ (.int .i64 (min h i:Nat))) g (dE p a b)):=⟨by unfold dE;rw[k,l];exact hw.set _ (by omega) _⟩;have Hg:Aside0 (w.grownBy (w.setCell ⟨g,max h i,none⟩ (.int .i64 (min h i:Nat))) (some g)):=⟨jZ ..⟩;clear k l m cb;have r:h<12:=by omega
 have s:i<12:=by omega
 have G:(0:Int)<=(h:Int):=by omega
 have H:(h:Int)<12:=by omega
 have v:(0:Int)<=(i:Int):=by omega
 have x:(i:Int)<12:=by omega
 have I:=hw.cell h r;have J:=hw.frozen h;have y:=hw.cell i s;have z:=hw.frozen i;have K:=zA hw;clear hw h1 q r s;rcases Nat.lt_trichotomy h i with B|heq|B
 ·rw[show max h i=i from by omega,show min h i=h from by omega] at j Hg
  have C:(h:Int)<(i:Int):=by omega
  have D:¬(i:Int)<(h:Int):=by omega
  have E:(h:Int)<=(i:Int):=by omega
  have F:¬(i:Int)<=(h:Int):=by omega
  go_enter Tryz.func209,Tryz.ntmps209
  go_wp2_with (first|(go_at_call 210;(first|(with_reducible refine n.out.mono ?_)|(with_reducible refine o.out.mono ?_));rintro e w1 ⟨rfl,rfl⟩))
  go_end0;exact⟨rfl,j.out,Hg.out⟩
 ·subst heq
  rw[Nat.max_self,Nat.min_self] at j Hg;clear y z v x;go_enter Tryz.func209,Tryz.ntmps209
  go_wp2_with (first|(go_at_call 210;(first|(with_reducible refine n.out.mono ?_)|(with_reducible refine o.out.mono ?_));rintro e w1 ⟨rfl,rfl⟩))
  go_end0;exact⟨rfl,j.out,Hg.out⟩
 ·rw[show max h i=h from by omega,show min h i=i from by omega] at j Hg
  have C:(i:Int)<(h:Int):=by omega
  have D:¬(h:Int)<(i:Int):=by omega
  have E:(i:Int)<=(h:Int):=by omega
  have F:¬(h:Int)<=(i:Int):=by omega
  go_enter Tryz.func209,Tryz.ntmps209
  go_wp2_with (first|(go_at_call 210;(first|(with_reducible refine n.out.mono ?_)|(with_reducible refine o.out.mono ?_));rintro e w1 ⟨rfl,rfl⟩))
  go_end0;exact⟨rfl,j.out,Hg.out⟩
theorem As (w:World):Calls Tryz.prog 208 #[] w fun e w'=>e= .returned (.agg #[.int .i64 0,.int .i64 1,.int .i64 2,.int .i64 3,.int .i64 4,.int .i64 5,.int .i64 6,.int .i64 7,.int .i64 8,.int .i64 9,.int .i64 10,.int .i64 11])/\Below w.heap.size w w':=by
 go_enter Tryz.func208,Tryz.ntmps208
 go_wp2;have g:=ao (ao (al w.heap.size w) (.cells #[.int .i64 0,.int .i64 0,.int .i64 0,.int .i64 0,.int .i64 0,.int .i64 0,.int .i64 0,.int .i64 0,.int .i64 0,.int .i64 0,.int .i64 0,.int .i64 0] 217)) (.cells #[.int .i64 0,.int .i64 0,.int .i64 0,.int .i64 0,.int .i64 0,.int .i64 0,.int .i64 0,.int .i64 0,.int .i64 0,.int .i64 0,.int .i64 0,.int .i64 0] 217);have h:((w.alloc (.cells #[.int .i64 0,.int .i64 0,.int .i64 0,.int .i64 0,.int .i64 0,.int .i64 0,.int .i64 0,.int .i64 0,.int .i64 0,.int .i64 0,.int .i64 0,.int .i64 0] 217)).alloc (.cells #[.int .i64 0,.int .i64 0,.int .i64 0,.int .i64 0,.int .i64 0,.int .i64 0,.int .i64 0,.int .i64 0,.int .i64 0,.int .i64 0,.int .i64 0,.int .i64 0] 217)).heap[w.heap.size]? =some (.cells #[.int .i64 0,.int .i64 0,.int .i64 0,.int .i64 0,.int .i64 0,.int .i64 0,.int .i64 0,.int .i64 0,.int .i64 0,.int .i64 0,.int .i64 0,.int .i64 0] 217 (0,0)):=aw (bl w _) _;have h1:dX ((w.alloc (.cells #[.int .i64 0,.int .i64 0,.int .i64 0,.int .i64 0,.int .i64 0,.int .i64 0,.int .i64 0,.int .i64 0,.int .i64 0,.int .i64 0,.int .i64 0,.int .i64 0] 217)).alloc (.cells #[.int .i64 0,.int .i64 0,.int .i64 0,.int .i64 0,.int .i64 0,.int .i64 0,.int .i64 0,.int .i64 0,.int .i64 0,.int .i64 0,.int .i64 0,.int .i64 0] 217)) (w.heap.size+1) (fun i=>if i<0 then i else 0):=by
  refine⟨#[.int .i64 0,.int .i64 0,.int .i64 0,.int .i64 0,.int .i64 0,.int .i64 0,.int .i64 0,.int .i64 0,.int .i64 0,.int .i64 0,.int .i64 0,.int .i64 0],by simpa using bl (w.alloc (.cells #[.int .i64 0,.int .i64 0,.int .i64 0,.int .i64 0,.int .i64 0,.int .i64 0,.int .i64 0,.int .i64 0,.int .i64 0,.int .i64 0,.int .i64 0,.int .i64 0] 217)) (.cells #[.int .i64 0,.int .i64 0,.int .i64 0,.int .i64 0,.int .i64 0,.int .i64 0,.int .i64 0,.int .i64 0,.int .i64 0,.int .i64 0,.int .i64 0,.int .i64 0] 217),rfl,fun i hi=>?_⟩;match i,hi with|0,_=>rfl|1,_=>rfl|2,_=>rfl|3,_=>rfl|4,_=>rfl|5,_=>rfl|6,_=>rfl|7,_=>rfl|8,_=>rfl|9,_=>rfl|10,_=>rfl|11,_=>rfl
 generalize n:w.heap.size=gb at h h1 g⊢;generalize ((w.alloc (.cells #[.int .i64 0,.int .i64 0,.int .i64 0,.int .i64 0,.int .i64 0,.int .i64 0,.int .i64 0,.int .i64 0,.int .i64 0,.int .i64 0,.int .i64 0,.int .i64 0] 217)).alloc (.cells #[.int .i64 0,.int .i64 0,.int .i64 0,.int .i64 0,.int .i64 0,.int .i64 0,.int .i64 0,.int .i64 0,.int .i64 0,.int .i64 0,.int .i64 0,.int .i64 0] 217))=W0 at h h1 g⊢;go_loopw [2,3] (fun _ i wr=>∃k:Nat,k<=12/\i= .int .i64 k/\Aside0 (wr.heap[gb]? =some (.cells #[.int .i64 0,.int .i64 0,.int .i64 0,.int .i64 0,.int .i64 0,.int .i64 0,.int .i64 0,.int .i64 0,.int .i64 0,.int .i64 0,.int .i64 0,.int .i64 0] 217 (0,0)))/\Aside0 (dX wr (gb+1) (fun i=>if i<k then i else 0))/\Aside0 (Below gb w wr)) (fun _ i _=>12- (intOf i).toNat)
 case atStart=>exact⟨0,by omega,rfl,⟨h⟩,⟨h1⟩,⟨g⟩⟩
 case round=>
  obtain⟨k,hk,rfl,a,H1,l⟩:=hrel;by_cases m:k<12
  ·have r:=H1.out.cell k m
   have hf:=H1.out.frozen k;have s:(0:Int)<=(k:Int):=by omega
   have u:(k:Int)<12:=by omega
   have o:=zA (cS a.out (jZ wr (gb+1) k (.int .i64 k)) (by simp));have n1:=zA ((H1.out.set k m k).congr (q:=fun i=>if i<k+1 then i else 0) (fun i hi=>by(try dsimp only);split<;>split<;>(try split)<;>omega));have p:=zA (l.out.grown (jZ wr (gb+1) k (.int .i64 k)) (by have:=H1.out.lt;omega) (fun j e=>by cases e;omega));go_wp2;go_roundw
   case rel=>exact⟨k+1,by omega,by go_num,o,n1,p⟩
   case measure=>(show 12- ((k:Int)+1).toNat<12- ((k:Int)).toNat;omega)
  ·obtain rfl:k=12:=by omega
   have x:wr.cell? ⟨gb+1,0,none⟩=some (.int .i64 0):=H1.out.cell 0 (by omega);have y:wr.cell? ⟨gb,0,none⟩=some (.int .i64 0):=(ai a.out 0).trans rfl;have z:=bD a.out 0;have B:wr.cell? ⟨gb+1,1,none⟩=some (.int .i64 1):=H1.out.cell 1 (by omega);have C:wr.cell? ⟨gb,1,none⟩=some (.int .i64 0):=(ai a.out 1).trans rfl;have D:=bD a.out 1;have E:wr.cell? ⟨gb+1,2,none⟩=some (.int .i64 2):=H1.out.cell 2 (by omega);have F:wr.cell? ⟨gb,2,none⟩=some (.int .i64 0):=(ai a.out 2).trans rfl;have G:=bD a.out 2;have H:wr.cell? ⟨gb+1,3,none⟩=some (.int .i64 3):=H1.out.cell 3 (by omega);have I:wr.cell? ⟨gb,3,none⟩=some (.int .i64 0):=(ai a.out 3).trans rfl;have J:=bD a.out 3;have K:wr.cell? ⟨gb+1,4,none⟩=some (.int .i64 4):=H1.out.cell 4 (by omega);have L:wr.cell? ⟨gb,4,none⟩=some (.int .i64 0):=(ai a.out 4).trans rfl;have M:=bD a.out 4;have N:wr.cell? ⟨gb+1,5,none⟩=some (.int .i64 5):=H1.out.cell 5 (by omega);have O:wr.cell? ⟨gb,5,none⟩=some (.int .i64 0):=(ai a.out 5).trans rfl;have P:=bD a.out 5;have Q:wr.cell? ⟨gb+1,6,none⟩=some (.int .i64 6):=H1.out.cell 6 (by omega);have R:wr.cell? ⟨gb,6,none⟩=some (.int .i64 0):=(ai a.out 6).trans rfl;have S:=bD a.out 6;have T:wr.cell? ⟨gb+1,7,none⟩=some (.int .i64 7):=H1.out.cell 7 (by omega);have U:wr.cell? ⟨gb,7,none⟩=some (.int .i64 0):=(ai a.out 7).trans rfl;have V:=bD a.out 7;have W:wr.cell? ⟨gb+1,8,none⟩=some (.int .i64 8):=H1.out.cell 8 (by omega);have X:wr.cell? ⟨gb,8,none⟩=some (.int .i64 0):=(ai a.out 8).trans rfl;have Y:=bD a.out 8;have Z:wr.cell? ⟨gb+1,9,none⟩=some (.int .i64 9):=H1.out.cell 9 (by omega);have aa:wr.cell? ⟨gb,9,none⟩=some (.int .i64 0):=(ai a.out 9).trans rfl;have ab:=bD a.out 9;have ad:wr.cell? ⟨gb+1,10,none⟩=some (.int .i64 10):=H1.out.cell 10 (by omega);have ag:wr.cell? ⟨gb,10,none⟩=some (.int .i64 0):=(ai a.out 10).trans rfl;have ak:=bD a.out 10;have am:wr.cell? ⟨gb+1,11,none⟩=some (.int .i64 11):=H1.out.cell 11 (by omega);have an:wr.cell? ⟨gb,11,none⟩=some (.int .i64 0):=(ai a.out 11).trans rfl;have ap:=bD a.out 11;go_wp2;have b:=a.out;replace b:=bR b 0 (.int .i64 0);replace b:=bR b 1 (.int .i64 1);replace b:=bR b 2 (.int .i64 2);replace b:=bR b 3 (.int .i64 3);replace b:=bR b 4 (.int .i64 4);replace b:=bR b 5 (.int .i64 5);replace b:=bR b 6 (.int .i64 6);replace b:=bR b 7 (.int .i64 7);replace b:=bR b 8 (.int .i64 8);replace b:=bR b 9 (.int .i64 9);replace b:=bR b 10 (.int .i64 10);replace b:=bR b 11 (.int .i64 11);simp only[List.setIfInBounds_toArray,List.set_cons_zero,List.set_cons_succ] at b;refine bodyPost_ret (v:=.agg #[.int .i64 0,.int .i64 1,.int .i64 2,.int .i64 3,.int .i64 4,.int .i64 5,.int .i64 6,.int .i64 7,.int .i64 8,.int .i64 9,.int .i64 10,.int .i64 11]) (results_cell_row rfl _ _ gb 217 #[.int .i64 0,.int .i64 1,.int .i64 2,.int .i64 3,.int .i64 4,.int .i64 5,.int .i64 6,.int .i64 7,.int .i64 8,.int .i64 9,.int .i64 10,.int .i64 11] (0,0) _ rfl b Tryz.underlying217 rfl rfl) rfl ⟨rfl,?_⟩;iterate 12 (refine et ?_ (by omega))
   rw[n];exact l.out
end
theorem Au (N:Int) (A0:Option Addr) (c0:Nat) (E:List S83) (w:World) (F:Kd.C aN w A0 E.length E) (G:ej 12 E):
  Calls Tryz.prog 196 #[.agg #[.int .i64 N,.slice A0 E.length c0]] w fun e w'=>e= .returned (.agg #[.int .i64 (aK E 0:Nat),.int .i64 (aK E 1:Nat),.int .i64 (aK E 2:Nat),.int .i64 (aK E 3:Nat),.int .i64 (aK E 4:Nat),.int .i64 (aK E 5:Nat),.int .i64 (aK E 6:Nat),.int .i64 (aK E 7:Nat),.int .i64 (aK E 8:Nat),.int .i64 (aK E 9:Nat),.int .i64 (aK E 10:Nat),.int .i64 (aK E 11:Nat)])/\Below w.heap.size w w':=by
 have hu:=Tryz.underlying24;have V:=Tryz.underlying83;have L:=zA G.get;clear G;go_enter Tryz.func196,Tryz.ntmps196
 go_wp2_with (first|(go_at_call 208;refine(As _).mono ?_;rintro e w1 ⟨rfl,hb⟩;have y:w1.heap[w.heap.size]? =some (.cells #[.int .i64 N,.slice A0 E.length c0] 24 (0,0)):=aJ (aw (bl w _) _) hb;have z:w1.heap[w.heap.size+1]? =some (.cells #[.int .i64 0,.int .i64 0,.int .i64 0,.int .i64 0,.int .i64 0,.int .i64 0,.int .i64 0,.int .i64 0,.int .i64 0,.int .i64 0,.int .i64 0,.int .i64 0] 217 (0,0)):=aJ (heap_alloc2_new w _ _) hb;have H:=zA (a7 (ao (ao (al w.heap.size w) _) _) hb);clear hb;have I:(w1.alloc (.cells #[.int .i64 0,.int .i64 1,.int .i64 2,.int .i64 3,.int .i64 4,.int .i64 5,.int .i64 6,.int .i64 7,.int .i64 8,.int .i64 9,.int .i64 10,.int .i64 11] 217)).cell? ⟨w.heap.size,1,none⟩=some (.slice A0 E.length c0):=(ai (aw y _) 1).trans rfl))
 have o:=zA (aw y (.cells #[.int .i64 0,.int .i64 1,.int .i64 2,.int .i64 3,.int .i64 4,.int .i64 5,.int .i64 6,.int .i64 7,.int .i64 8,.int .i64 9,.int .i64 10,.int .i64 11] 217));have g:=zA (aw z (.cells #[.int .i64 0,.int .i64 1,.int .i64 2,.int .i64 3,.int .i64 4,.int .i64 5,.int .i64 6,.int .i64 7,.int .i64 8,.int .i64 9,.int .i64 10,.int .i64 11] 217));have n:=zA (ao H.out (.cells #[.int .i64 0,.int .i64 1,.int .i64 2,.int .i64 3,.int .i64 4,.int .i64 5,.int .i64 6,.int .i64 7,.int .i64 8,.int .i64 9,.int .i64 10,.int .i64 11] 217));have l:Aside0 (dX (w1.alloc (.cells #[.int .i64 0,.int .i64 1,.int .i64 2,.int .i64 3,.int .i64 4,.int .i64 5,.int .i64 6,.int .i64 7,.int .i64 8,.int .i64 9,.int .i64 10,.int .i64 11] 217)) w1.heap.size (aK (E.take 0))):=⟨⟨#[.int .i64 0,.int .i64 1,.int .i64 2,.int .i64 3,.int .i64 4,.int .i64 5,.int .i64 6,.int .i64 7,.int .i64 8,.int .i64 9,.int .i64 10,.int .i64 11],bl _ _,rfl,fun i hi=>by
  match i,hi with|0,_=>rfl|1,_=>rfl|2,_=>rfl|3,_=>rfl|4,_=>rfl|5,_=>rfl|6,_=>rfl|7,_=>rfl|8,_=>rfl|9,_=>rfl|10,_=>rfl|11,_=>rfl⟩⟩
 have M:w.heap.size+1<w1.heap.size:=az z;clear y z H I;generalize (w1.alloc (.cells #[.int .i64 0,.int .i64 1,.int .i64 2,.int .i64 3,.int .i64 4,.int .i64 5,.int .i64 6,.int .i64 7,.int .i64 8,.int .i64 9,.int .i64 10,.int .i64 11] 217))=W0 at o g n l⊢;generalize w1.heap.size=gf at l M⊢;clear w1;go_loopw [10] (fun i wr=>∃k:Nat,k<=E.length/\i= .int .i64 k/\Aside0 (wr.heap[w.heap.size]? =some (.cells #[.int .i64 N,.slice A0 E.length c0] 24 (0,0)))/\Aside0 (wr.heap[w.heap.size+1]? =some (.cells #[.int .i64 0,.int .i64 0,.int .i64 0,.int .i64 0,.int .i64 0,.int .i64 0,.int .i64 0,.int .i64 0,.int .i64 0,.int .i64 0,.int .i64 0,.int .i64 0] 217 (0,0)))/\Aside0 (dX wr gf (aK (E.take k)))/\Aside0 (Below w.heap.size w wr)) (fun i _=>E.length- (intOf i).toNat)
 case atStart=>exact⟨0,by omega,rfl,o,g,l,n⟩
 case round=>
  clear o g l n;obtain⟨k,hk,rfl,o,g,l,p⟩:=hrel;by_cases J:k<E.length
  ·obtain⟨h1,B,u,D, -, -⟩:=L.out k J
   have K:=Lib.hid (Ap E k J);obtain⟨ad,rfl,q,r,s⟩:=dB F k (by omega) (by omega);rw[aQ] at q r s;generalize ae E k=x at h1 B u D q r s K;obtain⟨a,b,m⟩:=x;simp only at h1 B u D q r s;obtain⟨a,rfl⟩:=Int.eq_ofNat_of_zero_le h1;obtain⟨b,rfl⟩:=Int.eq_ofNat_of_zero_le u;have q:=iu p.out q;have r:=iu p.out r;have s:=iu p.out s;have W:(0:Int)<=(k:Int):=by omega
   have X:(k:Int)<(E.length:Int):=by omega
   have Y:=F.2.1;have Z:wrap64 ((k:Int)+1)=(k:Int)+1:=by unfold wrap64;omega
   have O:=zA (l.out.alloc (.cells #[.int .i64 a,.int .i64 b,.int .i64 m] 83));have P:=zA (aw o.out (.cells #[.int .i64 a,.int .i64 b,.int .i64 m] 83));have Q:=zA (aw g.out (.cells #[.int .i64 a,.int .i64 b,.int .i64 m] 83));have n:=zA (ao p.out (.cells #[.int .i64 a,.int .i64 b,.int .i64 m] 83));have R:a<12:=by omega
   have hb:b<12:=by omega
   clear h1 B u D;go_wp2_with (first|(go_at_call 209;refine(Aq gf a b _ _ (tc _) R hb O.out).mono ?_;rintro e w2 ⟨rfl,hf,hg⟩;have S:=zA hf;have n1:=zA (cS P.out hg (by simp;omega));have T:=zA (cS Q.out hg (by simp;omega));have U:=zA (Below.grown n.out hg n.out.size (fun j e=>by cases e;omega));clear hf hg))
   go_roundw
   case rel=>exact⟨k+1,by omega,by go_num,n1,T,⟨by rw[K.out];exact S.out⟩,U⟩
   case measure=>(show E.length- ((k:Int)+1).toNat<E.length- ((k:Int)).toNat;omega)
  ·obtain rfl:k=E.length:=by omega
   rw[List.take_length] at l;have aa:=l.out.cell 0 (by omega);have ab:wr.cell? ⟨w.heap.size+1,0,none⟩=some (.int .i64 0):=(ai g.out 0).trans rfl;have ag:=bD g.out 0;have I:=l.out.cell 1 (by omega);have ak:wr.cell? ⟨w.heap.size+1,1,none⟩=some (.int .i64 0):=(ai g.out 1).trans rfl;have am:=bD g.out 1;have an:=l.out.cell 2 (by omega);have ap:wr.cell? ⟨w.heap.size+1,2,none⟩=some (.int .i64 0):=(ai g.out 2).trans rfl;have ar:=bD g.out 2;have av:=l.out.cell 3 (by omega);have aB:wr.cell? ⟨w.heap.size+1,3,none⟩=some (.int .i64 0):=(ai g.out 3).trans rfl;have aF:=bD g.out 3;have aL:=l.out.cell 4 (by omega);have aO:wr.cell? ⟨w.heap.size+1,4,none⟩=some (.int .i64 0):=(ai g.out 4).trans rfl;have aP:=bD g.out 4;have aS:=l.out.cell 5 (by omega);have a0:wr.cell? ⟨w.heap.size+1,5,none⟩=some (.int .i64 0):=(ai g.out 5).trans rfl;have a1:=bD g.out 5;have a2:=l.out.cell 6 (by omega);have a3:wr.cell? ⟨w.heap.size+1,6,none⟩=some (.int .i64 0):=(ai g.out 6).trans rfl;have a4:=bD g.out 6;have a5:=l.out.cell 7 (by omega);have a9:wr.cell? ⟨w.heap.size+1,7,none⟩=some (.int .i64 0):=(ai g.out 7).trans rfl;have be:=bD g.out 7;have bf:=l.out.cell 8 (by omega);have bg:wr.cell? ⟨w.heap.size+1,8,none⟩=some (.int .i64 0):=(ai g.out 8).trans rfl;have bi:=bD g.out 8;have bk:=l.out.cell 9 (by omega);have bn:wr.cell? ⟨w.heap.size+1,9,none⟩=some (.int .i64 0):=(ai g.out 9).trans rfl;have bo:=bD g.out 9;have bv:=l.out.cell 10 (by omega);have bw:wr.cell? ⟨w.heap.size+1,10,none⟩=some (.int .i64 0):=(ai g.out 10).trans rfl;have bx:=bD g.out 10;have b0:=l.out.cell 11 (by omega);have b1:wr.cell? ⟨w.heap.size+1,11,none⟩=some (.int .i64 0):=(ai g.out 11).trans rfl;have b2:=bD g.out 11;go_wp2;have h:=g.out;replace h:=bR h 0 (.int .i64 (aK E 0:Nat));replace h:=bR h 1 (.int .i64 (aK E 1:Nat));replace h:=bR h 2 (.int .i64 (aK E 2:Nat));replace h:=bR h 3 (.int .i64 (aK E 3:Nat));replace h:=bR h 4 (.int .i64 (aK E 4:Nat));replace h:=bR h 5 (.int .i64 (aK E 5:Nat));replace h:=bR h 6 (.int .i64 (aK E 6:Nat));replace h:=bR h 7 (.int .i64 (aK E 7:Nat));replace h:=bR h 8 (.int .i64 (aK E 8:Nat));replace h:=bR h 9 (.int .i64 (aK E 9:Nat));replace h:=bR h 10 (.int .i64 (aK E 10:Nat));replace h:=bR h 11 (.int .i64 (aK E 11:Nat));simp only[List.setIfInBounds_toArray,List.set_cons_zero,List.set_cons_succ] at h;refine bodyPost_ret (v:=.agg #[.int .i64 (aK E 0:Nat),.int .i64 (aK E 1:Nat),.int .i64 (aK E 2:Nat),.int .i64 (aK E 3:Nat),.int .i64 (aK E 4:Nat),.int .i64 (aK E 5:Nat),.int .i64 (aK E 6:Nat),.int .i64 (aK E 7:Nat),.int .i64 (aK E 8:Nat),.int .i64 (aK E 9:Nat),.int .i64 (aK E 10:Nat),.int .i64 (aK E 11:Nat)]) (results_cell_row rfl _ _ (w.heap.size+1) 217 #[.int .i64 (aK E 0:Nat),.int .i64 (aK E 1:Nat),.int .i64 (aK E 2:Nat),.int .i64 (aK E 3:Nat),.int .i64 (aK E 4:Nat),.int .i64 (aK E 5:Nat),.int .i64 (aK E 6:Nat),.int .i64 (aK E 7:Nat),.int .i64 (aK E 8:Nat),.int .i64 (aK E 9:Nat),.int .i64 (aK E 10:Nat),.int .i64 (aK E 11:Nat)] (0,0) _ rfl h Tryz.underlying217 rfl rfl) rfl ⟨rfl,?_⟩;iterate 12 (refine et ?_ (by simp))
   exact p.out
end Go.Proofs.YtffdiakgjakngaaGreat.P
namespace Go.Proofs.YtffdiakgjakngaaGreat.P
open Go.RowKit Go.Maps Go.Proofs.YtffdiakgjakngaaGreatW.PrintWords Go.Proofs.YtffdiakgjakngaaGreatW.PrintLast Go.Proofs.YtffdiakgjakngaaGreatW.PrintMore
set_option linter.unusedVariables false
set_option linter.unusedSimpArgs false
set_option maxHeartbeats 8000000
set_option maxRecDepth 100000
def bZ (p:Nat->Nat):Nat->Nat
 |0=>0
 |u+1=>bZ p u+(if rootOf p u=u then 1 else 0)
theorem mH (p:Nat->Nat):∀u,bZ p u<=u
 |0=>aI _
 |u+1=>by
  have:=mH p u;simp only[bZ];split<;>omega
theorem lI (p:Nat->Nat) (v:Nat):rootOf p (rootOf p v)=rootOf p v:=by
 induction v using Nat.strongRecOn with
 |ind v a=>
  by_cases h:p v<v
  ·rw[show rootOf p v=rootOf p (p v) by rw[rootOf,dif_pos h]]
   exact a _ h
  ·have e:rootOf p v=v:=by rw[rootOf,dif_neg h]
   rw[e,e]
theorem pR (w:World):(zeroValue 3).run Tryz.prog w= .ok (.int .i64 0) w:=by kernel_rfl
theorem pS:Keyed Tryz.prog 3:=int_keyed Tryz.underlying3
theorem pT {a:Nat} (h:a<=1000):keyOf Tryz.prog 3 (.int .i64 a)=some (.int .i64 a):=keyOf_int_mk Tryz.underlying3 (WalkArith.wf_i64 (by omega))
def kC (p:Nat->Nat) (k m:Nat) (D:DataW Unit):Prop:=IsMap D/\∀r,r<k->rootOf p r=r->∃c:Nat,c<m/\D.atKey (.int .i64 r) (.lit (.int .i64 0))= .lit (.int .i64 c)
theorem kC.skip {p:Nat->Nat} {k m:Nat} {D:DataW Unit} (h:kC p k m D) (b:rootOf p k≠k):kC p (k+1) m D:=by
 refine⟨h.1,fun r g a=>?_⟩;by_cases e:r=k
 ·subst e;exact absurd a b
 ·exact h.2 r (by omega) a
theorem kC.put {p:Nat->Nat} {k m:Nat} {D:DataW Unit} (h:kC p k m D) (hk:k<=1000):kC p (k+1) (m+1) (D.put (.int .i64 k) (.lit (.int .i64 m))):=by
 refine⟨h.1.put _ _,fun r g a=>?_⟩;by_cases e:r=k
 ·subst e
  exact⟨m,by omega,atKey_put_same h.1 (by simp[WideAt.IsKeyLit]) _ _⟩
 ·obtain⟨c,i,b⟩:=h.2 r (by omega) a
  refine⟨c,by omega,?_⟩;rw[atKey_put_other (fun e2=>e (by injection e2;omega))];exact b
theorem te {W a:World} {b g0 cap c:Nat} {X:List (List Int)} {oki:Nat->Prop} {ev s:Value} {e:List Int} (hH:Kd.H (Kd.slice 3 (Kd.int .i64)) 25 W b (fun q=>True/\¬W.heap.size<=q) (.slice (some ⟨g0,0,none⟩) X.length cap) X (c:Int) oki [ev]) (l:c<X.length)
  (hg:W.drew.grownBy a ev.ownBlock) (i:∀q,ev.ownBlock=some q->oki q) (k:(Kd.int .i64).R 3 a b (fun q=>oki q\/W.heap.size<=q) s e) (m:g0<W.heap.size):
  Kd.S (Kd.slice 3 (Kd.int .i64)) 25 (a.setCell ⟨g0,c,none⟩ s) b (fun _=>True) (.slice (some ⟨g0,0,none⟩) X.length cap) (X.set c e):=by
 have h:=(Kd.yA (d:=Kd.slice 3 (Kd.int .i64)) (okg:=fun q=>W.heap.size<=q) (ok:=fun _=>True) (okp:=fun q=>oki q\/W.heap.size<=q) (seg:=[s]) (j:=0) (x':=e) (Kd.sh (Kd.yv hH) hg i) (by omega) (by omega) (by simp[Kd.slice]) (Kd.l9 k) (fun q g=>g) (fun q g=>⟨trivial,by omega⟩)).1;rw[aQ] at h;simpa [Kd.slice,World.setCells] using h
theorem tf {X:List (List Int)} {c k:Nat} {y:List Int} {x:Int} (h:∀z∈X,z.length<=k) (b:y.length<=k):∀z∈X.set c (y++[x]),z.length<=k+1:=fun z a=>by
 rcases List.mem_or_eq_of_mem_set a with h1|h1
 ·exact Nat.le_succ_of_le (h z h1)
 ·subst h1;simp;omega
theorem Aw (g n:Nat) (p:Nat->Nat) (w:World) (hn:n<=12) (hf:hU p) (hw:dX w g p):
  Calls Tryz.prog 197 #[.pointer (some ⟨g,0,none⟩),.int .i64 n] w fun e w'=>∃A c,e= .returned (.slice A (bZ p n) c)/\Below w.heap.size w w':=by
 have c6:=@run_makeMap Tryz.prog;have d8:=hw.lt;go_enter Tryz.func197,Tryz.ntmps197
 go_wp2;have hB:=ao (al w.heap.size w) (.map #[] 0);have hM:=World.ownsMap_made (H:=Unit) w Tryz.prog 3 (plainElem Tryz.prog 3);generalize cl:w.heap.size=b at hM hB⊢;generalize (w.alloc (.map #[] 0))=W0 at hM hB⊢;clear c6;go_loopw [5,11] (fun v i wr=>∃(k:Nat) (xs:List (List Int)) (D:DataW Unit),k<=n/\i= .int .i64 k/\Aside0 (xs.length=bZ p k)/\Aside0 (∀y∈xs,y.length<=k)/\Aside0 (Kd.S (Kd.slice 3 (Kd.int .i64)) 25 wr b (fun _=>True) v xs)/\Aside0 (wr.ownsMap Tryz.prog 3 (plainElem Tryz.prog 3) b k D)/\Aside0 (kC p k (bZ p k) D)/\Aside0 (Below b w wr)) (fun _ i _=>n- (intOf i).toNat)
 case atStart=>exact⟨0,[],_,by omega,rfl,⟨rfl⟩,⟨fun y hy=>absurd hy (by simp)⟩,⟨Kd.fQ _ _ _ _ _⟩,⟨hM⟩,⟨isMap_empty,fun r hr=>absurd hr (by omega)⟩,⟨hB⟩⟩
 case round=>
  clear hM hB;obtain⟨k,xs,D,hk,rfl,Y,HY,Z,HM,HP,HB⟩:=hrel;by_cases d9:k<n
  ·have hle:=iD p k
   have ea:=mH p k;have CR:=zA (pQ g k p wr hf (by omega) (hw.below (by rw[cl];exact HB.out)));have cq:=Lib.hid (lI p k);have Hs:Hid (bZ p (k+1)=bZ p k+(if rootOf p k=k then 1 else 0)):=Lib.hid rfl;by_cases F:rootOf p k=k
   ·have cv:=Lib.hid F
    rw[F] at CR;clear F hle;obtain⟨Ao,co,rfl⟩:=Kd.lr Z.out;have eb:xs.length<=12:=by have:=Y.out;omega
    obtain⟨es,ck,s, -⟩:=HM.out;have c8:some b≠(Value.slice Ao xs.length co).ownBlock:=fun e=>by
     obtain⟨cs,u⟩:=Kd.nG Z.out b e.symm;rw[s] at u;cases u
    have c9:=zA (Kd.kr (ok':=fun q=>q≠b) (Kd.mf Z.out) (fun q m e=>by obtain⟨t,_,cs,u⟩:=m.2.2.2;subst e;rw[s] at u;cases u));clear s es ck;have bv:=HP.out.put (by omega);have G:bZ p (k+1)=bZ p k+1:=by rw[Hs.out,if_pos cv.out]
    rw[<-G,<-Y.out] at bv;have bi:bZ p (k+1)=xs.length+1:=by rw[G,Y.out]
    have dd:=zA bi;clear G bi;have dk:=zA bv;clear bv;go_wp2_with (first|(go_at_call 210;refine CR.out.mono ?_;rintro e w1 ⟨rfl,rfl⟩)|(at_mapUpdate;refine wpList_mapUpdate_own _ rfl _ _ _ 229 rfl 3 3 pS Tryz.underlying229 _ b k _ rfl HM.out (by unfold maxLen;omega) _ _ _ rfl rfl (pT (by omega)) _ [] (plainElem_int Tryz.underlying3 (WalkArith.wf_i64 (by omega))) ?_;intro w2 c0 bw;have c1:=zA c0;have dl:=zA (Kd.r_ c9.out bw (fun q m e=>m (by injection e)));have ds:=zA (HB.out.grown bw (by have:=HM.out.lt;omega) (fun q e=>by injection e with e;omega));clear c0 bw)|(at_builtin;refine Kd.yr (Kd.slice 3 (Kd.int .i64)) (w0:=w) b rfl (.tmp 24) (.tmp 25) 73 25 (.slice none 0 0) 24 rfl Tryz.underlying73 sH rfl (by decide) (by omega) _ xs [] [.slice none 0 0] (fun _=>True) (fun _=>False) rfl rfl (Kd.l9 (Kd.dc _ _ _ _ _)) (fun _ hk=>hk.elim) (fun _ _=>trivial) (Kd.kr dl.out (fun q _=>⟨trivial,fun h=>h⟩)) ds.out (by have:=c1.out.lt;omega) (by omega) ?_;intro v3 W c2 c3 c4 dv;have I:=zA c2;have am:=zA c3;have l:=zA (c1.out.kept c4 c8);have J:=dk;clear c2 c3 c4 dv))
    generalize ed:D.put (.int .i64 k) (.lit (.int .i64 xs.length))=K at l J;have aa:Aside0 ((xs++[[]]).length=bZ p (k+1)):=⟨by rw[dd.out];simp⟩;have ab:Aside0 (∀y∈xs++[[]],y.length<=k):=⟨fun y hy=>by
     rcases List.mem_append.1 hy with h|h
     ·exact HY.out y h
     ·simp at h;subst h;simp⟩
    generalize hX:xs++[[]]=X at I aa ab;obtain⟨c,bx,an⟩:=J.out.2 k (by omega) cv.out;have C:∀w':World,w'.ownsMap Tryz.prog 3 (plainElem Tryz.prog 3) b (k+1) K->(Instr.lookup 229 (.map (some b)) (.int .i64 (k:Nat)) false).run Tryz.prog w'= .ok (.int .i64 c) w':=fun w' h=>by
     obtain⟨c',b0,o,_⟩:=h.lookup_int pS Tryz.underlying229 Tryz.underlying3 (pR _) (pT (a:=k) (by omega));rw[an] at o;injection o with o
     injection o with _ o
     rw[b0,o]
    have b1:=aa.out;have b2:=mH p (k+1);obtain⟨g0,cap,hv,d1,L,cells,M⟩:=Kd.pr I.out (by omega)
    (first|subst hv|(injection hv with b3 _ b4;subst b3;subst b4))
    obtain⟨oki,cc,b5,⟨ev,rfl,j⟩,ar,av,N,hH⟩:=Kd.sj (Kd.kr (ok':=fun q=>True/\¬W.heap.size<=q) (Kd.mf I.out) (fun q m=>⟨trivial,by have:=m.2.2.1;omega⟩)) [] (c:Int) (by omega) (by omega);have O:(X.getD (c:Int).toNat []).length<=k:=by
     have P:c<X.length:=by omega
     rw[aQ,bb,bP P];exact ab.out _ (List.getElem_mem P)
    have aB:W.cell? ⟨g0,c,none⟩=some ev:=by have h1:=ar 0 _ rfl;rw[aQ] at h1;simpa [Kd.slice] using h1
    have aF:W.frozen? ⟨g0,c,none⟩=false:=by have h1:=av 0;rw[aQ] at h1;simpa [Kd.slice] using h1
    rw[aQ] at j O;have b6:=Lib.hid (show (X.getD (c:Int).toNat [])=X.getD c [] by rw[aQ]);generalize X.getD c []=y at j O b6;obtain⟨Q,ce,rfl⟩:=Kd.bm j;have aL:some b≠(Value.slice Q y.length ce).ownBlock:=fun e=>by
     obtain⟨cs,u⟩:=Kd.gw j b e.symm;obtain⟨es,ck,s, -⟩:=l.out;rw[s] at u;cases u
    have d2:g0≠b:=fun e=>by
     subst e;obtain⟨es,ck,s, -⟩:=l.out;rw[s] at M;cases M
    have aO:some g0≠(Value.slice Q y.length ce).ownBlock:=fun e=>(N g0 (j.1 g0 e.symm)).2 rfl
    have HR:=zA (Kd.bq (Kd.ba (ok':=fun q=>oki q\/W.heap.size<=q) j (fun q m=>.inl m)));have aS:=zA hH;have a0:=zA j.1;have b_:=zA N;clear hH ar av j N M cells b5;have b':=C _ l.out.drew;have ca:=C _ ((l.out.alloc (.cells #[.int .i64 k] 3)).drew);have d3:(0:Int)<=(c:Int):=by omega
    have d4:(c:Int)<(X.length:Int):=by omega
    have a1:=zA C;have d5:c<12:=by omega
    have bi:X.length<=12:=by omega
    have P:c<X.length:=by omega
    clear C an bx b1 b2;go_region_law ((refine Kd.o_ (Kd.int .i64) (w0:=w) (W:=W.drew) b (by rfl) (.tmp 36) (.tmp 38) 25 3 (.int .i64 0) 8 (by rfl) Tryz.underlying25 gD rfl (by decide) (by omega) _ y (k:Int) [.int .i64 k] (fun q=>oki q\/W.heap.size<=q) (fun _=>False) (by rfl) (by rfl) rfl (fun _ hk=>hk.elim) (fun q m=>.inr m) HR.out (bU am.out) (by have:=am.out.size;show b<=W.heap.size;omega) (by omega) ?_;intro v4 x R a2 B cb;obtain⟨T,U,a3⟩:=Kd.bm R;rw[show (y++[(k:Int)]).length=y.length+1 by simp] at a3;subst a3;have a4:=zA R;have V:=zA a2;have E:=zA B;have cd:=a1.out _ (l.out.drew.kept B aL);have cf:x.cell? ⟨g0,c,none⟩=some (.slice Q y.length ce):=(B.cell_far ⟨g0,c,none⟩ L aO).trans aB;have ch:x.frozen? ⟨g0,c,none⟩=false:=(B.frozen_far ⟨g0,c,none⟩ L aO).trans aF;clear R a2 B cb))
    all_goals have n0:=zA (te aS.out (by omega) E.out a0.out a4.out L)
    all_goals have n1:=zA ((l.out.drew.kept E.out aL).kept (jZ x g0 c (.slice T (y.length+1) U)) (by simp;omega))
    all_goals have n2:=zA (V.out.grown (jZ x g0 c (.slice T (y.length+1) U)) (by have:=V.out.size;have:=l.out.lt;have:W.drew.heap.size=W.heap.size:=rfl;have:=E.out.size;omega) (fun q e=>by injection e with e;omega))
    all_goals have n3:=zA (J.out)
    all_goals have n4:Aside0 (∀z∈X.set c (y++[(k:Int)]),z.length<=k+1):=⟨tf ab.out O⟩
    all_goals have n5:Aside0 ((X.set c (y++[(k:Int)])).length=X.length):=⟨List.length_set⟩
    all_goals clear b' ca cd aB aF cf ch E V a4 a1 aS a0 b_ HR
    all_goals generalize (x.setCell ⟨g0,c,none⟩ (.slice T (y.length+1) U))=w5 at n0 n1 n2⊢
    all_goals go_wp2
    all_goals exact⟨⟨k+1,_,K,by omega,by go_num,⟨by rw[n5.out];exact aa.out⟩,n4,n0,n1,n3,n2⟩,(show n- ((k:Int)+1).toNat<n- ((k:Int)).toNat by omega)⟩
   ·have d7:rootOf p k<k:=by omega
    have ek:=Lib.hid F;have J:=zA (HP.out.skip F);have G:bZ p (k+1)=bZ p k:=by rw[Hs.out,if_neg F];rfl
    have aa:=zA (Y.out.trans G.symm);rw[<-G] at J;clear G F hle;have ab:=HY;have l:=zA (HM.out.mono (Nat.le_succ k));have I:=Z;have am:=HB;clear HM Z HB HP Y HY;obtain⟨Ao,co,rfl⟩:=Kd.lr I.out;obtain⟨W,rfl⟩:∃W,W=wr:=⟨_,rfl⟩;obtain⟨X,rfl⟩:∃X,X=xs:=⟨_,rfl⟩;obtain⟨K,rfl⟩:∃K,K=D:=⟨_,rfl⟩;generalize c5:rootOf p k=r at d7 CR cq;have el:=Lib.hid c5;clear c5;have em:((r:Nat):Int)≠(k:Int):=by omega
    go_wp2_with (first|(go_at_call 210;refine CR.out.mono ?_;rintro e w1 ⟨rfl,rfl⟩))
    obtain⟨c,bx,an⟩:=J.out.2 r (by omega) cq.out;have C:∀w':World,w'.ownsMap Tryz.prog 3 (plainElem Tryz.prog 3) b (k+1) K->(Instr.lookup 229 (.map (some b)) (.int .i64 (r:Nat)) false).run Tryz.prog w'= .ok (.int .i64 c) w':=fun w' h=>by
     obtain⟨c',b0,o,_⟩:=h.lookup_int pS Tryz.underlying229 Tryz.underlying3 (pR _) (pT (a:=r) (by omega));rw[an] at o;injection o with o
     injection o with _ o
     rw[b0,o]
    have b1:=aa.out;have b2:=mH p (k+1);obtain⟨g0,cap,hv,d1,L,cells,M⟩:=Kd.pr I.out (by omega)
    (first|subst hv|(injection hv with b3 _ b4;subst b3;subst b4))
    obtain⟨oki,cc,b5,⟨ev,rfl,j⟩,ar,av,N,hH⟩:=Kd.sj (Kd.kr (ok':=fun q=>True/\¬W.heap.size<=q) (Kd.mf I.out) (fun q m=>⟨trivial,by have:=m.2.2.1;omega⟩)) [] (c:Int) (by omega) (by omega);have O:(X.getD (c:Int).toNat []).length<=k:=by
     have P:c<X.length:=by omega
     rw[aQ,bb,bP P];exact ab.out _ (List.getElem_mem P)
    have aB:W.cell? ⟨g0,c,none⟩=some ev:=by have h1:=ar 0 _ rfl;rw[aQ] at h1;simpa [Kd.slice] using h1
    have aF:W.frozen? ⟨g0,c,none⟩=false:=by have h1:=av 0;rw[aQ] at h1;simpa [Kd.slice] using h1
    rw[aQ] at j O;have b6:=Lib.hid (show (X.getD (c:Int).toNat [])=X.getD c [] by rw[aQ]);generalize X.getD c []=y at j O b6;obtain⟨Q,ce,rfl⟩:=Kd.bm j;have aL:some b≠(Value.slice Q y.length ce).ownBlock:=fun e=>by
     obtain⟨cs,u⟩:=Kd.gw j b e.symm;obtain⟨es,ck,s, -⟩:=l.out;rw[s] at u;cases u
    have d2:g0≠b:=fun e=>by
     subst e;obtain⟨es,ck,s, -⟩:=l.out;rw[s] at M;cases M
    have aO:some g0≠(Value.slice Q y.length ce).ownBlock:=fun e=>(N g0 (j.1 g0 e.symm)).2 rfl
    have HR:=zA (Kd.bq (Kd.ba (ok':=fun q=>oki q\/W.heap.size<=q) j (fun q m=>.inl m)));have aS:=zA hH;have a0:=zA j.1;have b_:=zA N;clear hH ar av j N M cells b5;have b':=C _ l.out.drew;have ca:=C _ ((l.out.alloc (.cells #[.int .i64 k] 3)).drew);have d3:(0:Int)<=(c:Int):=by omega
    have d4:(c:Int)<(X.length:Int):=by omega
    have a1:=zA C;have d5:c<12:=by omega
    have bi:X.length<=12:=by omega
    have P:c<X.length:=by omega
    clear C an bx b1 b2;go_region_law ((refine Kd.o_ (Kd.int .i64) (w0:=w) (W:=W.drew) b (by rfl) (.tmp 36) (.tmp 38) 25 3 (.int .i64 0) 8 (by rfl) Tryz.underlying25 gD rfl (by decide) (by omega) _ y (k:Int) [.int .i64 k] (fun q=>oki q\/W.heap.size<=q) (fun _=>False) (by rfl) (by rfl) rfl (fun _ hk=>hk.elim) (fun q m=>.inr m) HR.out (bU am.out) (by have:=am.out.size;show b<=W.heap.size;omega) (by omega) ?_;intro v4 x R a2 B cb;obtain⟨T,U,a3⟩:=Kd.bm R;rw[show (y++[(k:Int)]).length=y.length+1 by simp] at a3;subst a3;have a4:=zA R;have V:=zA a2;have E:=zA B;have cd:=a1.out _ (l.out.drew.kept B aL);have cf:x.cell? ⟨g0,c,none⟩=some (.slice Q y.length ce):=(B.cell_far ⟨g0,c,none⟩ L aO).trans aB;have ch:x.frozen? ⟨g0,c,none⟩=false:=(B.frozen_far ⟨g0,c,none⟩ L aO).trans aF;clear R a2 B cb))
    all_goals have n0:=zA (te aS.out (by omega) E.out a0.out a4.out L)
    all_goals have n1:=zA ((l.out.drew.kept E.out aL).kept (jZ x g0 c (.slice T (y.length+1) U)) (by simp;omega))
    all_goals have n2:=zA (V.out.grown (jZ x g0 c (.slice T (y.length+1) U)) (by have:=V.out.size;have:=l.out.lt;have:W.drew.heap.size=W.heap.size:=rfl;have:=E.out.size;omega) (fun q e=>by injection e with e;omega))
    all_goals have n3:=zA (J.out)
    all_goals have n4:Aside0 (∀z∈X.set c (y++[(k:Int)]),z.length<=k+1):=⟨tf ab.out O⟩
    all_goals have n5:Aside0 ((X.set c (y++[(k:Int)])).length=X.length):=⟨List.length_set⟩
    all_goals clear b' ca cd aB aF cf ch E V a4 a1 aS a0 b_ HR
    all_goals generalize (x.setCell ⟨g0,c,none⟩ (.slice T (y.length+1) U))=w5 at n0 n1 n2⊢
    all_goals go_wp2
    all_goals exact⟨⟨k+1,_,K,by omega,by go_num,⟨by rw[n5.out];exact aa.out⟩,n4,n0,n1,n3,n2⟩,(show n- ((k:Int)+1).toNat<n- ((k:Int)).toNat by omega)⟩
  ·obtain rfl:k=n:=by omega
   go_wp2;go_ret;obtain⟨A,c,rfl⟩:=Kd.lr Z.out;exact⟨A,c,by rw[Y.out];rfl,by rw[cl];exact HB.out⟩
end Go.Proofs.YtffdiakgjakngaaGreat.P
namespace Go.Proofs.YtffdiakgjakngaaGreat.P
open Go.RowKit Go.Proofs.YtffdiakgjakngaaGreatW.PrintWords Go.Proofs.YtffdiakgjakngaaGreatW.PrintLast Go.Proofs.YtffdiakgjakngaaGreatW.PrintMore
set_option linter.unusedVariables false
set_option linter.unusedSimpArgs false
set_option maxHeartbeats 8000000
set_option maxRecDepth 100000
def fw (n:Nat) (E:List S83):Prop:=∀S:Nat->Bool,(∃v,v<n/\S v=true)->(∃v,v<n/\S v=false)->∃x,x∈E/\S x.f0.toNat≠S x.f1.toNat
theorem nX {p:Nat->Nat} {v:Nat} (h:p v<v):rootOf p v=rootOf p (p v):=by rw[rootOf,dif_pos h]
theorem lJ {p:Nat->Nat} {v:Nat} (h:¬p v<v):rootOf p v=v:=by rw[rootOf,dif_neg h]
theorem Ay {p:Nat->Nat} {v:Nat} (h:rootOf p v=v):¬p v<v:=fun a=>by
 have h1:=nX a;have b:=iD p (p v);omega
theorem lK (p:Nat->Nat) (a b v:Nat):rootOf (dE p a b) v=if rootOf p v=max (rootOf p a) (rootOf p b) then min (rootOf p a) (rootOf p b) else rootOf p v:=by
 have l:=lI p a;have hb:=lI p b;have i:rootOf p (max (rootOf p a) (rootOf p b))=max (rootOf p a) (rootOf p b):=by rw[Nat.max_def];split<;>assumption
 have hm:rootOf p (min (rootOf p a) (rootOf p b))=min (rootOf p a) (rootOf p b):=by rw[Nat.min_def];split<;>assumption
 have hle:min (rootOf p a) (rootOf p b)<=max (rootOf p a) (rootOf p b):=by omega
 have h:∀j,dE p a b j=if j=max (rootOf p a) (rootOf p b) then min (rootOf p a) (rootOf p b) else p j:=fun j=>rfl
 generalize max (rootOf p a) (rootOf p b)=M at*;generalize min (rootOf p a) (rootOf p b)=m at*;generalize dE p a b=q at*;induction v using Nat.strongRecOn with
 |ind v k=>
  by_cases e:v=M
  ·subst e
   rw[i,if_pos rfl];by_cases g:m<v
   ·have h1:q v=m:=by rw[h,if_pos rfl]
    rw[nX (by omega),h1];refine lJ ?_;rw[h,if_neg (by omega)];exact Ay hm
   ·rw[lJ (by rw[h,if_pos rfl];exact g)]
    omega
  ·have h1:q v=p v:=by rw[h,if_neg e]
   by_cases g:p v<v
   ·rw[nX (p:=q) (by omega),h1,k _ g,nX (p:=p) g]
   ·rw[lJ (p:=q) (by omega),lJ (p:=p) g,if_neg e]
theorem Az (S:Nat->Bool):∀(E:List S83) (p:Nat->Nat),(∀x∈E,S x.f0.toNat=S x.f1.toNat)->(∀v,S (rootOf p v)=S v)->∀v,S (rootOf (E.foldl (fun p x=>dE p x.f0.toNat x.f1.toNat) p) v)=S v:=by
 intro E;induction E with
 |nil=>exact fun p _ h=>h
 |cons x E g=>
  intro p a h;refine g _ (fun y i=>a y (List.mem_cons_of_mem _ i)) fun v=>?_
  rw[lK];split
  ·rename_i e
   have j:=a x (List.mem_cons_self ..);have h1:=h x.f0.toNat;have k:=h x.f1.toNat;have b:=h v;rw[e] at b;rw[<-b];rw[Nat.min_def,Nat.max_def];split<;>simp_all
  ·exact h v
theorem AA:∀(E:List S83) (p:Nat->Nat) (u v:Nat),rootOf p u=rootOf p v->rootOf (E.foldl (fun p x=>dE p x.f0.toNat x.f1.toNat) p) u=rootOf (E.foldl (fun p x=>dE p x.f0.toNat x.f1.toNat) p) v:=by
 intro E;induction E with
 |nil=>exact fun p u v h=>h
 |cons x E a=>
  intro p u v h;refine a _ u v ?_;rw[lK,lK,h]
theorem AB:∀(E:List S83) (p:Nat->Nat),∀x∈E,rootOf (E.foldl (fun p x=>dE p x.f0.toNat x.f1.toNat) p) x.f0.toNat=rootOf (E.foldl (fun p x=>dE p x.f0.toNat x.f1.toNat) p) x.f1.toNat:=by
 intro E;induction E with
 |nil=>exact fun p x a=>absurd a (by simp)
 |cons y E e=>
  intro p x a;rcases List.mem_cons.1 a with rfl|a
  ·refine AA E _ _ _ ?_
   rw[lK,lK];by_cases h1:rootOf p x.f0.toNat=max (rootOf p x.f0.toNat) (rootOf p x.f1.toNat)<;>by_cases b:rootOf p x.f1.toNat=max (rootOf p x.f0.toNat) (rootOf p x.f1.toNat)
   ·rw[if_pos h1,if_pos b]
   ·rw[if_pos h1,if_neg b];omega
   ·rw[if_neg h1,if_pos b];omega
   ·omega
  ·exact e _ x a
theorem tg (p:Nat->Nat) (a:rootOf p 0=0):∀u,1<=u->1<=bZ p u
 |0,h=>by omega
 |u+1,_=>by
  by_cases e:u=0
  ·subst e;simp[bZ,a]
  ·have:=tg p a u (by omega)
   simp only[bZ];omega
theorem th (p:Nat->Nat) (a:rootOf p 0=0):∀u,bZ p u=1->∀v,v<u->rootOf p v=v->v=0
 |0,h=>by simp[bZ] at h
 |u+1,h=>by
  intro v g b;simp only[bZ] at h;by_cases e:u=0
  ·omega
  ·have h1:=tg p a u (by omega)
   by_cases hu:rootOf p u=u
   ·rw[if_pos hu] at h;omega
   ·rw[if_neg hu] at h
    by_cases ev:v=u
    ·subst ev;exact absurd b hu
    ·exact th p a u (by omega) v (by omega) b
theorem ti (p:Nat->Nat):∀u,1<=u->(∀v,v<u->rootOf p v=0)->bZ p u=1
 |0,h,_=>by omega
 |u+1,_,h=>by
  by_cases e:u=0
  ·subst e;simp[bZ,h 0 (by omega)]
  ·have:=ti p u (by omega) (fun v a=>h v (by omega))
   simp only[bZ];rw[this,h u (by omega),if_neg (fun e2=>e e2.symm)]
theorem tj {n:Nat} {E:List S83} (hn:1<=n) (r:ej n E):bZ (aK E) n=1↔fw n E:=by
 have i:rootOf (aK E) 0=0:=Nat.le_zero.1 (iD _ 0);constructor
 ·rintro h S ⟨u,hu,l⟩ ⟨v,b,m⟩
  refine Classical.byContradiction fun e=>?_
  have hS:∀x∈E,S x.f0.toNat=S x.f1.toNat:=fun x o=>Classical.byContradiction fun g=>e ⟨x,o,g⟩
  have j:=Az S E id hS (fun v=>by rw[lJ (by simp)]);have k:∀w,w<n->rootOf (aK E) w=0:=fun w hw=>th _ i n h _ (Nat.lt_of_le_of_lt (iD _ w) hw) (lI _ w)
  have h1:=j u;have a:=j v;rw[show E.foldl (fun p x=>dE p x.f0.toNat x.f1.toNat) id=aK E from rfl] at h1 a;rw[k u hu] at h1;rw[k v b] at a;rw[h1,l] at a;rw[m] at a;cases a
 ·intro h
  refine ti _ n hn fun v b=>?_
  refine Classical.byContradiction fun g=>?_
  obtain⟨x,e,q⟩:=h (fun u=>decide (rootOf (aK E) u=0)) ⟨0,by omega,by simp[i]⟩ ⟨v,b,by simp[g]⟩;have:=AB E id x e;rw[show E.foldl (fun p x=>dE p x.f0.toNat x.f1.toNat) id=aK E from rfl] at this;simp only[this,ne_eq,not_true_eq_false] at q
mutual
def b7.l0:Nat->List Bool->Int->Int->List (S83)->Option (List Bool)
 |0,_,_,_,_=>none
 |k+1,a,b,e,g=>if b<e then(b7.l1 k a b 0 e g) else(some a)
def b7.l1:Nat->List Bool->Int->Int->Int->List (S83)->Option (List Bool)
 |0,_,_,_,_,_=>none
 |k+1,b,e,g,a,h=>if g<a then(b7.l2 k b e g 0 a h) else(b7.l0 k b (wrap64 (e+1)) a h)
def b7.l2:Nat->List Bool->Int->Int->Int->Int->List (S83)->Option (List Bool)
 |0,_,_,_,_,_,_=>none
 |k+1,e,i,a,b,g,h=>if b<g then(if 0<=a then(if a<(e.length:Int) then(if bV false e a=true then((dN.f k g h a b).bind fun t132=>(if t132>0 then(if 0<=b then(if b<(e.length:Int) then(b7.l2 k (e.set (b:Int).toNat true) i a (wrap64 (b+1)) g h) else(none)) else(none)) else(b7.l2 k e i a (wrap64 (b+1)) g h))) else(b7.l2 k e i a (wrap64 (b+1)) g h)) else(none)) else(none)) else(b7.l1 k e i (wrap64 (a+1)) g h)
end
def b7.f (k:Nat) (a:Int) (g:List (S83)) (b:Int):Option (List Bool):=if 0<=a then(if(a:Int).toNat<=281474976710656 then((some (List.replicate (a:Int).toNat false:List Bool)).bind fun e=>(if 0<=b then(if b<(e.length:Int) then(b7.l0 k (e.set (b:Int).toNat true) 0 a g) else(none)) else(none))) else(none)) else(none)
theorem b7.calls (k:Nat) (g:Int) (P:Option Addr) (Q:Nat) (l:List (S83)) (x:Int) (r:List Bool) (w:World) (bv:Kd.C aN w P l.length l) (bw:l.length<=Q) (h:b7.f k g l x=some r):
  Calls Tryz.prog 131 #[.agg #[.int .i64 g,.slice P l.length Q],.int .i64 x] w fun e w'=>∃bx:Value,e= .returned (bx)/\Kd.R Kd.bool 4 w' w.heap.size (fun _=>True) bx r/\Below w.heap.size w w':=by
 have d9:=Tryz.underlying24;have b0:=zA bv;have b1:=zA bw;clear bv bw;have q:=zA (al w.heap.size w);unfold b7.f at h;have H:=h;clear h;by_cases c3:0<=g
 ·rw[if_pos c3] at H
  have ci:=eq_true c3;have cj:=ay c3;clear c3;by_cases c4:(g:Int).toNat<=281474976710656
  ·rw[if_pos c4] at H
   have ck:=eq_true c4;have cl:=ay c4;clear c4;obtain⟨M,aP⟩:∃X:List Bool,X=(List.replicate (g:Int).toNat false):=⟨_,rfl⟩;replace H:(if 0<=x then(if x<(M.length:Int) then(b7.l0 k (M.set (x:Int).toNat true) 0 g l) else(none)) else(none))=some r:=zh aP H;have b2:=zA aP;clear aP;by_cases c5:0<=x
   ·rw[if_pos c5] at H
    have co:=ay c5;clear c5;by_cases c6:x<(M.length:Int)
    ·rw[if_pos c6] at H
     have cq:=ay c6;clear c6;obtain⟨aS,a0⟩:∃X:List Bool,X=(M.set (x:Int).toNat true):=⟨_,rfl⟩;replace H:(b7.l0 k aS 0 g l)=some r:=zh a0 H;have cr:=zA a0;clear a0;have n:=zA H;clear H;go_enter Tryz.func131,Tryz.ntmps131
     go_wp2_with (first|((with_reducible refine aH (N:=2) rfl ?_);refine zX 2 #[.int .i64 g,.slice P l.length Q] 24 ?_;intro a2 hg w8 b3 hb;have a:=zA (b3);have eb:=zG q hg;have ed:=zG q hg;replace q:=zS q hb;clear hb b3 hg;obtain⟨cs,cv,cx,c0⟩:=au a)|((with_reducible refine aH (N:=11) rfl ?_);refine Kd.jM Kd.bool _ 4 rfl (N:=11) rfl 43 _ _ rfl g rfl rfl Tryz.underlying43 (.bool false) 1 mz rfl (by decide) (by omega) false (ok:=fun _=>True) (okp:=fun _=>True) rfl (fun _ hk=>hk) trivial (ax ‹_›) (Nat.le_trans (Nat.mul_le_mul_right _ (ax ‹_› :g.toNat<=281474976710656)) (by omega)) (al _ _) (aI _) ?_;intro eg b4 Y hb c1 c2;clear c1 c2;(first|rw[<-b2.out] at Y|(simp only[Int.reduceToNat] at Y;rw[<-b2.out] at Y));have O:=zA (Kd.bc Y (bs zB));replace a:=zb a hb;replace q:=zS q hb;clear hb Y;have p7:0<=(x:Int):=ax ‹_›;have q7:(x:Int)<((M.length:Int):Int):=ax ‹_›;obtain⟨z,Z,b5,b6,c7,ek,b'⟩:=Kd.fC O.out (by omega);(first|cases b5|(injection b5 with ar c8 c9;(first|subst ar|(injection ar with ar;subst ar));subst c9;clear c8));have ca:=zA b6;have el:=zA b';clear b6 c7 b';obtain⟨c',em⟩:=Kd.bW false O.out (x:Int) p7 q7;replace p7:=eq_true p7;replace q7:=eq_true q7;obtain⟨er,es⟩:=Kd.bW false O.out (x:Int) (ax ‹_›) (ax ‹_›);have a3:=Kd.dh O.out (x:Int) true)|((with_reducible refine jO (t:=4) (p:=14) rfl ?_);refine jN (t:=4) (p:=14) (v:=?F7) (w1:=(b4.setCell ⟨z,(x:Int).toNat,none⟩ (.bool true))) ?hg ?ho ?hn ?hr ?_;(case ho=>rfl);(case hg=>rfl);(case hn=>rfl);(case hr=>first|(go_simp;done)|(go_simp;rfl));intro a4 hw;have hg:b4.grownBy a4 (some z):=(by rw[hw];exact a3.2);have aa:Kd.R Kd.bool 4 a4 w.heap.size (fun _=>True) (.slice (some ⟨z,0,none⟩) M.length Z) aS:=(by rw[hw,cr.out];exact a3.1);clear a3;replace a:=zA (cS (zK a) hg (Kd.dr O.out a.out (by decide)));replace O:=zA (aa);replace q:=zA ((by rw[hw];exact et (q.out) ca.out:Below w.heap.size w a4));clear hg hw aa))
     go_loopg [6] k (fun K v6 w'=>∃(ab:List Bool) (B:Int),v6= .int .i64 B/\Aside0 (b7.l0 K ab B g l=some r)/\Aside0 (K<=k)/\Aside0 (Kd.R Kd.bool 4 w' w.heap.size (fun _=>True) (.slice (some ⟨z,0,none⟩) M.length Z) ab)/\Aside0 (w'.heap[a2]? =some (.cells #[.int .i64 g,(.slice P l.length Q)] 24 (0,0)))/\Aside0 (Below w.heap.size w w'))
     case atStart=>exact⟨(aS),(0),zT,n,⟨aI _⟩,⟨zR O⟩,⟨zK a⟩,⟨zB⟩⟩
     case round=>
      clear n;clear ci cj ck cl co cq p7 q7 cs cv cx c0 c';obtain⟨ab,B,rfl,D,I,b,a,q⟩:=hrel;have o:=(Kd.aG b.out).1;rw[o] at b
      (try simp only[o])
      (try simp only[o] at a)
      cases gk with
      |zero=>exact absurd D.out (by simp[b7.l0])
      |succ k1=>
       have H:=D.out;clear D;simp only[b7.l0] at H;by_cases S:B<g
       ·rw[if_pos S] at H
        have cc:=ay S;clear S;have n:=zA H;clear H;obtain⟨dd,dk,dl,ds⟩:=au a;go_wp2;go_loopg [7] k1 (fun K v7 w'=>∃(T:List Bool) (j:Int),v7= .int .i64 j/\Aside0 (b7.l1 K T B j g l=some r)/\Aside0 (K<=k1)/\Aside0 (Kd.R Kd.bool 4 w' w.heap.size (fun _=>True) (.slice (some ⟨z,0,none⟩) ab.length Z) T)/\Aside0 (w'.heap[a2]? =some (.cells #[.int .i64 g,(.slice P l.length Q)] 24 (0,0)))/\Aside0 (Below w.heap.size w w'))
        case atStart=>exact⟨(ab),(0),zT,n,⟨aI _⟩,⟨by(try simp only[o]);(with_reducible repeat(first|apply Kd.aM|apply Kd.bB|apply Kd.bq));exact b.out⟩,⟨by(try simp only[o]);exact zK a⟩,⟨zB⟩⟩
        case round=>
         clear n;clear cc dd dk dl ds;obtain⟨T,j,rfl,D,J,b,a,q⟩:=hrel;have s:=(Kd.aG b.out).1;rw[s] at b
         (try simp only[s])
         (try simp only[s] at a)
         cases gk with
         |zero=>exact absurd D.out (by simp[b7.l1])
         |succ k2=>
          have H:=D.out;clear D;simp only[b7.l1] at H;by_cases U:j<g
          ·rw[if_pos U] at H
           have cd:=ay U;clear U;have n:=zA H;clear H;obtain⟨d0,d1,d2,d3⟩:=au a;go_wp2;go_loopg [8] k2 (fun K v8 w'=>∃(m:List Bool) (i:Int),v8= .int .i64 i/\Aside0 (b7.l2 K m B j i g l=some r)/\Aside0 (K<=k2)/\Aside0 (Kd.R Kd.bool 4 w' w.heap.size (fun _=>True) (.slice (some ⟨z,0,none⟩) T.length Z) m)/\Aside0 (w'.heap[a2]? =some (.cells #[.int .i64 g,(.slice P l.length Q)] 24 (0,0)))/\Aside0 (Below w.heap.size w w'))
           case atStart=>exact⟨(T),(0),zT,n,⟨aI _⟩,⟨by(try simp only[o]);(try simp only[s]);(with_reducible repeat(first|apply Kd.aM|apply Kd.bB|apply Kd.bq));exact b.out⟩,⟨by(try simp only[o]);(try simp only[s]);exact zK a⟩,⟨zB⟩⟩
           case round=>
            clear n;clear cd d0 d1 d2 d3;obtain⟨m,i,rfl,D,L,b,a,q⟩:=hrel;have u:=(Kd.aG b.out).1;rw[u] at b
            (try simp only[u])
            (try simp only[u] at a)
            cases gk with
            |zero=>exact absurd D.out (by simp[b7.l2])
            |succ E=>
             have H:=D.out;clear D;simp only[b7.l2] at H;by_cases V:i<g
             ·rw[if_pos V] at H
              have d5:=ay V;clear V;by_cases av:0<=j
              ·rw[if_pos av] at H
               have ev:=ay av;clear av;by_cases aB:j<(m.length:Int)
               ·rw[if_pos aB] at H
                have ew:=ay aB;clear aB;obtain⟨ce,a9⟩:∃b_:Bool,b_=(bV false m j):=⟨_,rfl⟩;replace H:(if ce=true then((dN.f E g l j i).bind fun t132=>(if t132>0 then(if 0<=i then(if i<(m.length:Int) then(b7.l2 E (m.set (i:Int).toNat true) B j (wrap64 (i+1)) g l) else(none)) else(none)) else(b7.l2 E m B j (wrap64 (i+1)) g l))) else(b7.l2 E m B j (wrap64 (i+1)) g l))=some r:=by rw[<-a9] at H;exact H
                have be:=zA a9;clear a9;by_cases aF:ce=true
                ·subst aF
                 replace H:=zi H;obtain⟨t132,cf,H⟩:=zo H;by_cases W:t132>0
                 ·rw[if_pos W] at H
                  have d7:=ay W;clear W;by_cases aL:0<=i
                  ·rw[if_pos aL] at H
                   have ex:=ay aL;clear aL;by_cases aO:i<(m.length:Int)
                   ·rw[if_pos aO] at H
                    have ey:=ay aO;clear aO;obtain⟨bf,bg⟩:∃X:List Bool,X=(m.set (i:Int).toNat true):=⟨_,rfl⟩;replace H:(b7.l2 E bf B j (wrap64 (i+1)) g l)=some r:=zh bg H;have d8:=zA bg;clear bg;have n:=zA H;clear H;obtain⟨e0,e1,e2,e3⟩:=au a;have F:0<=(j:Int):=ax ‹_›;have G:j<(m.length:Int):=ax ‹_›;obtain⟨ad,ag,y⟩:=Kd.jL (Kd.aG b.out).2.2 j F G
                    (try rw[<-be.out] at y)
                    obtain rfl:(⟨z,0,none⟩:Addr)=ad:=(by injection ag)
                    (first|simp only[add_plain] at y|simp only[ix] at y|simp only[Addr.add,Nat.zero_add] at y|skip)
                    replace F:=eq_true F;replace G:=eq_true G;go_wp2_with (first|(go_at_call 147;(with_reducible refine(dN.calls E g _ _ l j i t132 _ ?af ?ah cf.out).mono ?_);(case af=>exact Kd.aq b0.out zB);(case ah=>exact b1.out);rintro e ch ⟨rfl,hb⟩;replace b:=bp b hb;replace a:=zb a hb;replace q:=zS q hb;(try clear hb);have bi:0<=(i:Int):=ax ‹_›;have bk:(i:Int)<((m.length:Int):Int):=ax ‹_›;obtain⟨e4,e5⟩:=Kd.bW false b.out (i:Int) bi bk;replace bi:=eq_true bi;replace bk:=eq_true bk;obtain⟨e6,e_⟩:=Kd.bW false b.out (i:Int) (ax ‹_›) (ax ‹_›);have bn:=Kd.dh b.out (i:Int) true)|((with_reducible refine jO (t:=4) (p:=46) rfl ?_);refine jN (t:=4) (p:=46) (v:=?GV) (w1:=(ch.setCell ⟨z,(i:Int).toNat,none⟩ (.bool true))) ?hg ?ho ?hn ?hr ?_;(case ho=>rfl);(case hg=>rfl);(case hn=>rfl);(case hr=>first|(go_simp;done)|(go_simp;rfl));intro bo hw;have hg:ch.grownBy bo (some z):=(by rw[hw];exact bn.2);have aa:Kd.R Kd.bool 4 bo w.heap.size (fun _=>True) (.slice (some ⟨z,0,none⟩) m.length Z) bf:=(by rw[hw,d8.out];exact bn.1);clear bn;replace a:=zA (cS (zK a) hg (Kd.dr b.out a.out (by decide)));replace b:=zA (aa);replace q:=zA ((by rw[hw];exact et (q.out) ca.out:Below w.heap.size w bo));clear hg hw aa))
                    (try simp only[<-u])
                    go_roundg E
                    case measure=>have:=I.out;have:=J.out;have:=L.out;omega
                    case rel=>exact⟨(bf),(wrap64 (i+1)),zT,n,⟨by have:=I.out;have:=J.out;have:=L.out;omega⟩,⟨by(try simp only[o]);(try simp only[s]);(try simp only[u]);(with_reducible repeat(first|apply Kd.aM|apply Kd.bB|apply Kd.bq));exact b.out⟩,⟨by(try simp only[o]);(try simp only[s]);(try simp only[u]);exact zK a⟩,⟨zB⟩⟩
                   ·rw[if_neg aO] at H
                    exact absurd H (by simp)
                  ·rw[if_neg aL] at H
                   exact absurd H (by simp)
                 ·rw[if_neg W] at H
                  have d7:=a6 W;clear W;have n:=zA H;clear H;obtain⟨e',fb,fd,fn⟩:=au a;have F:0<=(j:Int):=ax ‹_›;have G:j<(m.length:Int):=ax ‹_›;obtain⟨ad,ag,y⟩:=Kd.jL (Kd.aG b.out).2.2 j F G
                  (try rw[<-be.out] at y)
                  obtain rfl:(⟨z,0,none⟩:Addr)=ad:=(by injection ag)
                  (first|simp only[add_plain] at y|simp only[ix] at y|simp only[Addr.add,Nat.zero_add] at y|skip)
                  replace F:=eq_true F;replace G:=eq_true G;go_wp2_with (first|(go_at_call 147;(with_reducible refine(dN.calls E g _ _ l j i t132 _ ?af ?ah cf.out).mono ?_);(case af=>exact Kd.aq b0.out zB);(case ah=>exact b1.out);rintro e fo ⟨rfl,hb⟩;replace b:=bp b hb;replace a:=zb a hb;replace q:=zS q hb;(try clear hb)))
                  (try simp only[<-u])
                  go_roundg E
                  case measure=>have:=I.out;have:=J.out;have:=L.out;omega
                  case rel=>exact⟨(m),(wrap64 (i+1)),zT,n,⟨by have:=I.out;have:=J.out;have:=L.out;omega⟩,⟨by(try simp only[o]);(try simp only[s]);(try simp only[u]);(with_reducible repeat(first|apply Kd.aM|apply Kd.bB|apply Kd.bq));exact b.out⟩,⟨by(try simp only[o]);(try simp only[s]);(try simp only[u]);exact zK a⟩,⟨zB⟩⟩
                ·replace aF:=Bool.eq_false_iff.mpr aF
                 subst aF;replace H:=zj H;have n:=zA H;clear H;obtain⟨fq,fr,ft,fv⟩:=au a;have F:0<=(j:Int):=ax ‹_›;have G:j<(m.length:Int):=ax ‹_›;obtain⟨ad,ag,y⟩:=Kd.jL (Kd.aG b.out).2.2 j F G
                 (try rw[<-be.out] at y)
                 obtain rfl:(⟨z,0,none⟩:Addr)=ad:=(by injection ag)
                 (first|simp only[add_plain] at y|simp only[ix] at y|simp only[Addr.add,Nat.zero_add] at y|skip)
                 replace F:=eq_true F;replace G:=eq_true G;go_wp2
                 (try simp only[<-u])
                 go_roundg E
                 case measure=>have:=I.out;have:=J.out;have:=L.out;omega
                 case rel=>exact⟨(m),(wrap64 (i+1)),zT,n,⟨by have:=I.out;have:=J.out;have:=L.out;omega⟩,⟨by(try simp only[o]);(try simp only[s]);(try simp only[u]);(with_reducible repeat(first|apply Kd.aM|apply Kd.bB|apply Kd.bq));exact b.out⟩,⟨by(try simp only[o]);(try simp only[s]);(try simp only[u]);exact zK a⟩,⟨zB⟩⟩
               ·rw[if_neg aB] at H
                exact absurd H (by simp)
              ·rw[if_neg av] at H
               exact absurd H (by simp)
             ·rw[if_neg V] at H
              have d5:=a6 V;clear V;have n:=zA H;clear H;obtain⟨f0,f1,f2,f3⟩:=au a;go_wp2
              (try simp only[<-s,<-u])
              go_roundg E
              case measure=>have:=I.out;have:=J.out;have:=L.out;omega
              case rel=>exact⟨(m),(wrap64 (j+1)),zT,n,⟨by have:=I.out;have:=J.out;have:=L.out;omega⟩,⟨by(try simp only[o]);(try simp only[s]);(try simp only[u]);(with_reducible repeat(first|apply Kd.aM|apply Kd.bB|apply Kd.bq));exact b.out⟩,⟨by(try simp only[o]);(try simp only[s]);(try simp only[u]);exact zK a⟩,⟨zB⟩⟩
          ·rw[if_neg U] at H
           have cd:=a6 U;clear U;have n:=zA H;clear H;obtain⟨f4,f5,f6,f7⟩:=au a;go_wp2
           (try simp only[<-o,<-s])
           go_roundg k2
           case measure=>have:=I.out;have:=J.out;omega
           case rel=>exact⟨(T),(wrap64 (B+1)),zT,n,⟨by have:=I.out;have:=J.out;omega⟩,⟨by(try simp only[o]);(try simp only[s]);(with_reducible repeat(first|apply Kd.aM|apply Kd.bB|apply Kd.bq));exact b.out⟩,⟨by(try simp only[o]);(try simp only[s]);exact zK a⟩,⟨zB⟩⟩
       ·rw[if_neg S] at H
        have cc:=a6 S;clear S;obtain rfl:=aE H;obtain⟨f8,f9,f',gb⟩:=au a;go_wp2;go_ret;exact⟨_,zE,by(with_reducible repeat(first|apply Kd.aM|apply Kd.bB|apply Kd.bq));exact b.out,zB⟩
    ·rw[if_neg c6] at H
     exact absurd H (by simp)
   ·rw[if_neg c5] at H
    exact absurd H (by simp)
  ·rw[if_neg c4] at H
   exact absurd H (by simp)
 ·rw[if_neg c3] at H
  exact absurd H (by simp)
end Go.Proofs.YtffdiakgjakngaaGreat.P


namespace Go.Proofs.YtffdiakgjakngaaGreat.P
open Go.RowKit Go.Proofs.YtffdiakgjakngaaGreatW.PrintWords Go.Proofs.YtffdiakgjakngaaGreatW.PrintLast Go.Proofs.YtffdiakgjakngaaGreatW.PrintMore
set_option linter.unusedVariables false
set_option linter.unusedSimpArgs false
set_option maxHeartbeats 8000000
set_option maxRecDepth 100000
mutual
def cH.l0:Nat->Int->List Bool->Int->Int->List (S83)->Option (Int)
 |0,_,_,_,_,_=>none
 |k+1,x3,x4,a,b,e=>if a<b then(if 0<=a then(if a<(x4.length:Int) then(if bV false x4 a=true then(cH.l0 k x3 x4 (wrap64 (a+1)) b e) else((b7.f k b e a).bind fun t139=>(cH.l1 k (wrap64 (x3+1)) x4 a t139 0 b e))) else(none)) else(none)) else(some x3)
def cH.l1:Nat->Int->List Bool->Int->List Bool->Int->Int->List (S83)->Option (Int)
 |0,_,_,_,_,_,_,_=>none
 |k+1,x3,x4,g,b,a,e,h=>if a<e then(if 0<=a then(if a<(x4.length:Int) then(if bV false x4 a=true then(cH.l1 k x3 (x4.set (a:Int).toNat true) g b (wrap64 (a+1)) e h) else(if a<(b.length:Int) then(cH.l1 k x3 (x4.set (a:Int).toNat (bV false b a)) g b (wrap64 (a+1)) e h) else(none))) else(none)) else(none)) else(cH.l0 k x3 x4 (wrap64 (g+1)) e h)
end
def cH.f (k:Nat) (a:Int) (b:List (S83)):Option (Int):=if 0<=a then(if(a:Int).toNat<=281474976710656 then(cH.l0 k 0 (List.replicate (a:Int).toNat false) 0 a b) else(none)) else(none)
theorem cH.calls (k:Nat) (j:Int) (O:Option Addr) (P:Nat) (l:List (S83)) (r:Int) (w:World) (b3:Kd.C aN w O l.length l) (b4:l.length<=P) (h:cH.f k j l=some r):
  Calls Tryz.prog 74 #[.agg #[.int .i64 j,.slice O l.length P]] w fun e w'=>e= .returned (.int .i64 r)/\Below w.heap.size w w':=by
 have ew:=Tryz.underlying24;have ck:=zA b3;have cl:=zA b4;clear b3 b4;have q:=zA (al w.heap.size w);unfold cH.f at h;have H:=h;clear h;by_cases c2:0<=j
 ·rw[if_pos c2] at H
  have co:=eq_true c2;have cq:=ay c2;clear c2;by_cases c3:(j:Int).toNat<=281474976710656
  ·rw[if_pos c3] at H
   have cr:=eq_true c3;have cs:=ay c3;clear c3;obtain⟨b5,aB⟩:∃V:List Bool,V=(List.replicate (j:Int).toNat false):=⟨_,rfl⟩;replace H:(cH.l0 k 0 b5 0 j l)=some r:=zh aB H;have b6:=zA aB;clear aB;have s:=zA H;clear H;go_enter Tryz.func74,Tryz.ntmps74
   go_wp2_with (first|((with_reducible refine aH (N:=1) rfl ?_);refine zX 1 #[.int .i64 j,.slice O l.length P] 24 ?_;intro b' hg w4 ca hb;have g:=zA (ca);have ey:=zG q hg;have e0:=zG q hg;replace q:=zS q hb;clear hb ca hg;obtain⟨cv,cx,c0,c1⟩:=au g)|((with_reducible refine aH (N:=10) rfl ?_);refine Kd.jM Kd.bool _ 4 rfl (N:=10) rfl 43 _ _ rfl j rfl rfl Tryz.underlying43 (.bool false) 1 mz rfl (by decide) (by omega) false (ok:=fun _=>True) (okp:=fun _=>True) rfl (fun _ hk=>hk) trivial (ax ‹_›) (Nat.le_trans (Nat.mul_le_mul_right _ (ax ‹_› :j.toNat<=281474976710656)) (by omega)) (al _ _) (aI _) ?_;intro c4 w6 W hb c5 c6;clear c5 c6;(first|rw[<-b6.out] at W|(simp only[Int.reduceToNat] at W;rw[<-b6.out] at W));have c7:=zA (Kd.bc W (bs zB));replace g:=zb g hb;replace q:=zS q hb;clear hb W))
   go_loopg [3,5] k (fun X v3 v5 w'=>∃(x:Int) (u:List Bool) (i:Int),v3= .int .i64 x/\v5= .int .i64 i/\Aside0 (cH.l0 X x u i j l=some r)/\Aside0 (X<=k)/\Aside0 (Kd.R Kd.bool 4 w' w.heap.size (fun _=>True) c4 u)/\Aside0 (w'.heap[b']? =some (.cells #[.int .i64 j,(.slice O l.length P)] 24 (0,0)))/\Aside0 (Below w.heap.size w w'))
   case atStart=>exact⟨(0),(b5),(0),zT,zT,s,⟨aI _⟩,⟨zR c7⟩,⟨zK g⟩,⟨zB⟩⟩
   case round=>
    clear s;clear co cq cr cs cv cx c0 c1;obtain⟨x,u,i,rfl,rfl,F,z,b,g,q⟩:=hrel;cases gk with
    |zero=>exact absurd F.out (by simp[cH.l0])
    |succ G=>
     have H:=F.out;clear F;simp only[cH.l0] at H;by_cases Q:i<j
     ·rw[if_pos Q] at H
      have cb:=ay Q;clear Q;by_cases c9:0<=i
      ·rw[if_pos c9] at H
       have c':=ay c9;clear c9;by_cases ag:i<(u.length:Int)
       ·rw[if_pos ag] at H
        have dd:=ay ag;clear ag;obtain⟨cc,aF⟩:∃b_:Bool,b_=(bV false u i):=⟨_,rfl⟩;replace H:(if cc=true then(cH.l0 G x u (wrap64 (i+1)) j l) else((b7.f G j l i).bind fun t139=>(cH.l1 G (wrap64 (x+1)) u i t139 0 j l)))=some r:=by rw[<-aF] at H;exact H
        have Y:=zA aF;clear aF;by_cases ak:cc=true
        ·subst ak
         replace H:=zi H;have s:=zA H;clear H;obtain⟨e2,e3,e4,e5⟩:=au g;obtain⟨e6,e_,dk⟩:=Kd.bm b.out;subst dk;have B:0<=(i:Int):=ax ‹_›;have D:i<(u.length:Int):=ax ‹_›;obtain⟨dl,aO,S⟩:=Kd.jL (Kd.aG b.out).2.2 i B D
         (try rw[<-Y.out] at S)
         cases aO;replace B:=eq_true B;replace D:=eq_true D;go_wp2;go_roundg G
         case measure=>have:=z.out;omega
         case rel=>exact⟨(x),(u),(wrap64 (i+1)),zT,zT,s,⟨by have:=z.out;omega⟩,⟨zR b⟩,⟨zK g⟩,⟨zB⟩⟩
        ·replace ak:=Bool.eq_false_iff.mpr ak
         subst ak;replace H:=zj H;obtain⟨t139,ds,H⟩:=zo H;have s:=zA H;clear H;obtain⟨dv,d0,d1,d2⟩:=au g;obtain⟨e',E,d3⟩:=Kd.bm b.out;subst d3;have B:0<=(i:Int):=ax ‹_›;have D:i<(u.length:Int):=ax ‹_›;obtain⟨dl,aO,S⟩:=Kd.jL (Kd.aG b.out).2.2 i B D
         (try rw[<-Y.out] at S)
         cases aO;obtain⟨am,d4⟩:=Kd.lq b.out;subst d4;simp only[add_plain] at S;replace B:=eq_true B;replace D:=eq_true D;go_wp2_with (first|((with_reducible refine aC (f:=131) rfl ?_);refine zL (some 25) Tryz.func131 #[.agg #[.int .i64 j,.slice O l.length P],.int .i64 i] ?_;(with_reducible refine(b7.calls G j _ _ l i t139 _ ?af ?ah ds.out).mono ?_);(case af=>exact Kd.aq ck.out zB);(case ah=>exact cl.out);rintro e fb ⟨aP,rfl,aS,hb⟩;refine⟨_,rfl,?_⟩;have d5:=zA (Kd.bc (Kd.bJ aS (Kd.a_ (zR b))) (bs zB));replace b:=bN b aS hb;replace g:=zb g hb;replace q:=zS q hb;(try clear hb);(try clear aS)))
         go_loopg [7] G (fun X v7 w'=>∃(m:List Bool) (a:Int),v7= .int .i64 a/\Aside0 (cH.l1 X (wrap64 (x+1)) m i t139 a j l=some r)/\Aside0 (X<=G)/\Aside0 (Kd.R Kd.bool 4 w' w.heap.size (fun I=>some I≠(aP:Value).ownBlock) (.slice (some ⟨am,0,none⟩) u.length E) m)/\Aside0 (Kd.R Kd.bool 4 w' w.heap.size (fun I=>some I≠((.slice (some ⟨am,0,none⟩) u.length E):Value).ownBlock) aP t139)/\Aside0 (w'.heap[b']? =some (.cells #[.int .i64 j,(.slice O l.length P)] 24 (0,0)))/\Aside0 (Below w.heap.size w w'))
         case atStart=>exact⟨(u),(0),zT,s,⟨aI _⟩,⟨by(with_reducible repeat(first|apply Kd.aM|apply Kd.bB|apply Kd.bq));exact Kd.ba b.out (fun _ hk=>hk.2)⟩,⟨by(with_reducible repeat(first|apply Kd.aM|apply Kd.bB|apply Kd.bq));exact Kd.ba d5.out (fun _ hk=>hk.2)⟩,⟨zK g⟩,⟨zB⟩⟩
         case round=>
          clear s;clear cb c' dd dv d0 d1 d2 S B D;obtain⟨m,a,rfl,F,T,b,y,g,q⟩:=hrel;have o:=(Kd.aG b.out).1;rw[o] at b
          (try simp only[o])
          (try simp only[o] at g)
          (try simp only[o] at y)
          cases gk with
          |zero=>exact absurd F.out (by simp[cH.l1])
          |succ J=>
           have H:=F.out;clear F;simp only[cH.l1] at H;by_cases U:a<j
           ·rw[if_pos U] at H
            have d7:=ay U;clear U;by_cases an:0<=a
            ·rw[if_pos an] at H
             have fd:=ay an;clear an;by_cases ap:a<(m.length:Int)
             ·rw[if_pos ap] at H
              have fn:=ay ap;clear ap;obtain⟨cd,a0⟩:∃b_:Bool,b_=(bV false m a):=⟨_,rfl⟩;replace H:(if cd=true then(cH.l1 J (wrap64 (x+1)) (m.set (a:Int).toNat true) i t139 (wrap64 (a+1)) j l) else(if a<(t139.length:Int) then(cH.l1 J (wrap64 (x+1)) (m.set (a:Int).toNat (bV false t139 a)) i t139 (wrap64 (a+1)) j l) else(none)))=some r:=by rw[<-a0] at H;exact H
              have a1:=zA a0;clear a0;by_cases ar:cd=true
              ·subst ar
               replace H:=zi H;obtain⟨a2,a3⟩:∃V:List Bool,V=(m.set (a:Int).toNat true):=⟨_,rfl⟩;replace H:(cH.l1 J (wrap64 (x+1)) a2 i t139 (wrap64 (a+1)) j l)=some r:=zh a3 H;have d8:=zA a3;clear a3;have s:=zA H;clear H;obtain⟨fo,fq,fr,ft⟩:=au g;have K:0<=(a:Int):=ax ‹_›;have L:a<(m.length:Int):=ax ‹_›;obtain⟨a4,a5,M⟩:=Kd.jL (Kd.aG b.out).2.2 a K L
               (try rw[<-Y.out] at M)
               (try rw[<-a1.out] at M)
               obtain rfl:(⟨am,0,none⟩:Addr)=a4:=(by injection a5);replace K:=eq_true K;replace L:=eq_true L;have a9:0<=(a:Int):=ax ‹_›;have be:(a:Int)<((m.length:Int):Int):=ax ‹_›;obtain⟨Z,fv,d9,ce,ea,f0,cf⟩:=Kd.fC b.out (by omega)
               (first|(injection d9 with n bf bg;(first|subst n|(injection n with n;first|subst n|(injection n with n;have n:=n.symm;subst n)));subst bg;clear bf))
               have eb:=zA ce;have f1:=zA cf;clear ce ea cf
               (first|simp only[add_plain] at S|skip)
               (first|simp only[add_plain] at M|skip)
               obtain⟨f2,f3⟩:=Kd.bW false b.out (a:Int) a9 be;replace a9:=eq_true a9;replace be:=eq_true be;have bi:=Kd.dh b.out (a:Int) true;go_wp2_with (first|((with_reducible refine jO (t:=4) (p:=44) rfl ?_);refine jN (t:=4) (p:=44) (v:=?F8) (w1:=(wr.setCell ⟨Z,(a:Int).toNat,none⟩ (.bool true))) ?hg ?ho ?hn ?hr ?_;(case ho=>rfl);(case hg=>rfl);(case hn=>rfl);(case hr=>first|(go_simp;done)|(go_simp;rfl));intro bk hw;have hg:wr.grownBy bk (some Z):=(by rw[hw];exact bi.2);have aa:Kd.R Kd.bool 4 bk w.heap.size (fun I=>some I≠(aP:Value).ownBlock) (.slice (some ⟨Z,0,none⟩) m.length E) a2:=(by rw[hw,d8.out];exact bi.1);clear bi;replace y:=zA (Kd.rD (v:=(.slice (some ⟨Z,0,none⟩) m.length E)) (v1:=(.slice (some ⟨Z,0,none⟩) m.length E)) (ok:=(fun _=>True)) (by(with_reducible repeat(first|apply Kd.aM|apply Kd.bB|apply Kd.bq));exact Kd.ba y.out (fun _ hk=>⟨trivial,hk⟩)) hg (.inl rfl));replace g:=zA (cS (zK g) hg (Kd.dr b.out g.out (by decide)));replace b:=zA (aa);replace q:=zA ((by rw[hw];exact et (q.out) eb.out:Below w.heap.size w bk));clear hg hw aa))
               (try simp only[<-o])
               go_roundg J
               case measure=>have:=z.out;have:=T.out;omega
               case rel=>exact⟨(a2),(wrap64 (a+1)),zT,s,⟨by have:=z.out;have:=T.out;omega⟩,⟨by(try simp only[o]);(with_reducible repeat(first|apply Kd.aM|apply Kd.bB|apply Kd.bq));exact b.out⟩,⟨by(try simp only[o]);(with_reducible repeat(first|apply Kd.aM|apply Kd.bB|apply Kd.bq));exact Kd.ba y.out (fun _ hk=>hk.2)⟩,⟨by(try simp only[o]);exact zK g⟩,⟨zB⟩⟩
              ·replace ar:=Bool.eq_false_iff.mpr ar
               subst ar;replace H:=zj H;by_cases av:a<(t139.length:Int)
               ·rw[if_pos av] at H
                have f4:=ay av;clear av;obtain⟨bn,bo⟩:∃V:List Bool,V=(m.set (a:Int).toNat (bV false t139 a)):=⟨_,rfl⟩;replace H:(cH.l1 J (wrap64 (x+1)) bn i t139 (wrap64 (a+1)) j l)=some r:=zh bo H;have ed:=zA bo;clear bo;have s:=zA H;clear H;obtain⟨f5,f6,f7,f8⟩:=au g;have K:0<=(a:Int):=ax ‹_›;have L:a<(m.length:Int):=ax ‹_›;obtain⟨a4,a5,M⟩:=Kd.jL (Kd.aG b.out).2.2 a K L
                (try rw[<-Y.out] at M)
                (try rw[<-a1.out] at M)
                obtain rfl:(⟨am,0,none⟩:Addr)=a4:=(by injection a5);replace K:=eq_true K;replace L:=eq_true L;obtain⟨f9,eg,ek⟩:=Kd.bm y.out;subst ek;have bv:0<=(a:Int):=ax ‹_›;have bw:a<(t139.length:Int):=ax ‹_›;obtain⟨el,em,ch⟩:=Kd.jL (Kd.aG y.out).2.2 a bv bw
                (try rw[<-Y.out] at ch)
                (try rw[<-a1.out] at ch)
                cases em;replace bv:=eq_true bv;replace bw:=eq_true bw;have bx:0<=(a:Int):=ax ‹_›;have b0:(a:Int)<((m.length:Int):Int):=ax ‹_›;obtain⟨ab,f',er,ci,es,gb,cj⟩:=Kd.fC b.out (by omega)
                (first|(injection er with n bf bg;(first|subst n|(injection n with n;first|subst n|(injection n with n;have n:=n.symm;subst n)));subst bg;clear bf))
                have ev:=zA ci;have gc:=zA cj;clear ci es cj
                (first|simp only[add_plain] at M|skip)
                obtain⟨gd,ge⟩:=Kd.bW false b.out (a:Int) bx b0;replace bx:=eq_true bx;replace b0:=eq_true b0;have b1:=Kd.dh b.out (a:Int) (bV false t139 a);go_wp2_with (first|((with_reducible refine jO (t:=4) (p:=44) rfl ?_);refine jN (t:=4) (p:=44) (v:=?GX) (w1:=(wr.setCell ⟨ab,(a:Int).toNat,none⟩ (.bool (bV false t139 a)))) ?hg ?ho ?hn ?hr ?_;(case ho=>rfl);(case hg=>rfl);(case hn=>rfl);(case hr=>first|(go_simp;done)|(go_simp;rfl));intro b2 hw;have hg:wr.grownBy b2 (some ab):=(by rw[hw];exact b1.2);have aa:Kd.R Kd.bool 4 b2 w.heap.size (fun I=>some I≠(.slice (some el) t139.length eg:Value).ownBlock) (.slice (some ⟨ab,0,none⟩) m.length E) bn:=(by rw[hw,ed.out];exact b1.1);clear b1;replace y:=zA (Kd.rD (v:=(.slice (some ⟨ab,0,none⟩) m.length E)) (v1:=(.slice (some ⟨ab,0,none⟩) m.length E)) (ok:=(fun _=>True)) (by(with_reducible repeat(first|apply Kd.aM|apply Kd.bB|apply Kd.bq));exact Kd.ba y.out (fun _ hk=>⟨trivial,hk⟩)) hg (.inl rfl));replace g:=zA (cS (zK g) hg (Kd.dr b.out g.out (by decide)));replace b:=zA (aa);replace q:=zA ((by rw[hw];exact et (q.out) ev.out:Below w.heap.size w b2));clear hg hw aa))
                (try simp only[<-o])
                go_roundg J
                case measure=>have:=z.out;have:=T.out;omega
                case rel=>exact⟨(bn),(wrap64 (a+1)),zT,s,⟨by have:=z.out;have:=T.out;omega⟩,⟨by(try simp only[o]);(with_reducible repeat(first|apply Kd.aM|apply Kd.bB|apply Kd.bq));exact b.out⟩,⟨by(try simp only[o]);(with_reducible repeat(first|apply Kd.aM|apply Kd.bB|apply Kd.bq));exact Kd.ba y.out (fun _ hk=>hk.2)⟩,⟨by(try simp only[o]);exact zK g⟩,⟨zB⟩⟩
               ·rw[if_neg av] at H
                exact absurd H (by simp)
             ·rw[if_neg ap] at H
              exact absurd H (by simp)
            ·rw[if_neg an] at H
             exact absurd H (by simp)
           ·rw[if_neg U] at H
            have d7:=a6 U;clear U;have s:=zA H;clear H;obtain⟨gf,gg,gi,gl⟩:=au g;go_wp2
            (try simp only[<-o])
            go_roundg J
            case measure=>have:=z.out;have:=T.out;omega
            case rel=>exact⟨((wrap64 (x+1))),(m),(wrap64 (i+1)),zT,zT,s,⟨by have:=z.out;have:=T.out;omega⟩,⟨by(try simp only[o]);(with_reducible repeat(first|apply Kd.aM|apply Kd.bB|apply Kd.bq));exact Kd.ba b.out (fun _ hk=>trivial)⟩,⟨by(try simp only[o]);exact zK g⟩,⟨zB⟩⟩
       ·rw[if_neg ag] at H
        exact absurd H (by simp)
      ·rw[if_neg c9] at H
       exact absurd H (by simp)
     ·rw[if_neg Q] at H
      have cb:=a6 Q;clear Q;obtain rfl:=aE H;obtain⟨gm,gn,go,gp⟩:=au g;go_wp2;go_ret;exact⟨zE,zB⟩
  ·rw[if_neg c3] at H
   exact absurd H (by simp)
 ·rw[if_neg c2] at H
  exact absurd H (by simp)
def lL.f (k:Nat) (a:Int) (b:List (S83)):Option (Bool):=(cH.f k a b).bind fun t147=>(some (t147==1))
theorem lL.calls (k:Nat) (b:Int) (i:Option Addr) (j:Nat) (a:List (S83)) (r:Bool) (w:World) (m:Kd.C aN w i a.length a) (n:a.length<=j) (h:lL.f k b a=some r):
  Calls Tryz.prog 104 #[.agg #[.int .i64 b,.slice i a.length j]] w fun e w'=>e= .returned (.bool r)/\Below w.heap.size w w':=by
 have u:=Tryz.underlying24;have p:=zA m;have q:=zA n;clear m n;have g:=zA (al w.heap.size w);have H:((cH.f k b a).bind fun t147=>(some (t147==1)))=some r:=h;clear h;obtain⟨t147,s,H⟩:=zo H;obtain rfl:=aE H;go_enter Tryz.func104,Tryz.ntmps104
 go_wp2_with (first|((with_reducible refine aH (N:=1) rfl ?_);refine zX 1 #[.int .i64 b,.slice i a.length j] 24 ?_;intro v hg w3 o hb;have l:=zA (o);have x:=zG g hg;have y:=zG g hg;replace g:=zS g hb;clear hb o hg;obtain⟨z,B,D,E⟩:=au l)|((with_reducible refine aC (f:=74) rfl ?_);refine zL (some 4) Tryz.func74 #[.agg #[.int .i64 b,.slice i a.length j]] ?_;(with_reducible refine(cH.calls k b _ _ a t147 _ ?af ?ah s.out).mono ?_);(case af=>exact Kd.aq p.out zB);(case ah=>exact q.out);rintro e F ⟨rfl,hb⟩;refine⟨_,rfl,?_⟩;replace l:=zb l hb;replace g:=zS g hb;(try clear hb)))
 go_ret;exact⟨zE,zB⟩
def bj (o:List Bool) (i:Nat):Bool:=o.getD i false
theorem pU (o:List Bool) (i:Nat):bV false o (i:Int)=bj o i:=by simp[bV,bj]
theorem lM (o:List Bool) (i j:Nat) (b:Bool):bj (o.set i b) j=if i=j/\j<o.length then b else bj o j:=by
 unfold bj;rw[bb,bb,List.getElem?_set];by_cases h:i=j
 ·subst h
  by_cases a:i<o.length
  ·simp[a]
  ·simp[a]
 ·simp[h]
def fV (E:List S83) (a:Nat) (o:List Bool) (b:Nat):List Bool:=if bj o a=true/\du E a b>0 then o.set b true else o
def jr (E:List S83) (n:Nat) (o:List Bool) (a:Nat):List Bool:=(List.range' 0 n).foldl (fV E a) o
def js (E:List S83) (n:Nat) (o:List Bool):List Bool:=(List.range' 0 n).foldl (jr E n) o
def iE (E:List S83) (n:Nat):Nat->List Bool->List Bool
 |0,o=>o
 |m+1,o=>iE E n m (js E n o)
def fx (E:List S83) (n v:Nat):List Bool:=iE E n n ((List.replicate n false).set v true)
theorem pV (E:List S83) (a b:Nat) (o:List Bool):(fV E a o b).length=o.length:=by unfold fV;split<;>simp
theorem lN {f:List Bool->Nat->List Bool} (h:∀o b,(f o b).length=o.length):∀(l:List Nat) (o:List Bool),(l.foldl f o).length=o.length
 |[],_=>rfl
 |x::l,o=>by rw[List.foldl_cons,lN h l,h]
theorem pW (E:List S83) (n a:Nat) (o:List Bool):(jr E n o a).length=o.length:=lN (fun o b=>pV E a b o) _ _
theorem pX (E:List S83) (n:Nat) (o:List Bool):(js E n o).length=o.length:=lN (fun o a=>pW E n a o) _ _
theorem tk (E:List S83) (n:Nat):∀m o,(iE E n m o).length=o.length
 |0,_=>rfl
 |m+1,o=>by rw[iE,tk E n m,pX]
theorem tl (E:List S83) (i:E.length<=1000) (n a g:Nat) (hn:n<=1000) (p:a<n) (r:List Bool):∀(m j:Nat) (o:List Bool),j+m=n->o.length=n->Ev (fun k=>b7.l1 k ((List.range' j m).foldl (fV E a) o) g ((a+1:Nat):Int) n E) r->Ev (fun k=>b7.l2 k o g a j n E) r
 |0,j,o,q,l,h=>by
  refine Ev.of_succ ?_;simp only[b7.l2,if_neg (show ¬((j:Int)<(n:Int)) by omega),eh (show a<=1000000 by omega)];exact h
 |m+1,j,o,q,l,h=>by
  rw[List.range'_succ,List.foldl_cons] at h;have b:=tl E i n a g hn p r m (j+1) (fV E a o j) (by omega) (by rw[pV];exact l) h;refine Ev.of_succ ?_;simp only[b7.l2,if_pos (show (j:Int)<(n:Int) by omega),if_pos (show (0:Int)<=(a:Int) by omega),if_pos (show (a:Int)<(o.length:Int) by omega),if_pos (show (0:Int)<=(j:Int) by omega),if_pos (show (j:Int)<(o.length:Int) by omega),eh (show j<=1000000 by omega),pU,aQ];unfold fV at b;by_cases h1:bj o a=true
  ·simp only[if_pos h1]
   refine Ev.bind (ta n E a j i) ?_;by_cases e:du E a j>0
   ·simp only[if_pos e];rw[if_pos ⟨h1,e⟩] at b;exact b
   ·simp only[if_neg e];rw[if_neg (fun h=>e h.2)] at b;exact b
  ·simp only[if_neg h1];rw[if_neg (fun h=>h1 h.1)] at b;exact b
theorem tn (E:List S83) (g:E.length<=1000) (n b:Nat) (hn:n<=1000) (i:b<=1000) (r:List Bool):∀(m a:Nat) (o:List Bool),a+m=n->o.length=n->Ev (fun k=>b7.l0 k ((List.range' a m).foldl (jr E n) o) ((b+1:Nat):Int) n E) r->Ev (fun k=>b7.l1 k o b a n E) r
 |0,a,o,j,e,h=>by
  refine Ev.of_succ ?_;simp only[b7.l1,if_neg (show ¬((a:Int)<(n:Int)) by omega),eh (show b<=1000000 by omega)];exact h
 |m+1,a,o,j,e,h=>by
  rw[List.range'_succ,List.foldl_cons] at h;have l:=tn E g n b hn i r m (a+1) (jr E n o a) (by omega) (by rw[pW];exact e) h;refine Ev.of_succ ?_;simp only[b7.l1,if_pos (show (a:Int)<(n:Int) by omega)];exact tl E g n a b hn (by omega) r n 0 o (by omega) e l
theorem tp (E:List S83) (b:E.length<=1000) (n:Nat) (hn:n<=1000):∀(m i:Nat) (o:List Bool),i+m=n->o.length=n->Ev (fun k=>b7.l0 k o i n E) (iE E n m o)
 |0,i,o,hi,a=>by
  refine Ev.of_succ ?_;simp only[b7.l0,if_neg (show ¬((i:Int)<(n:Int)) by omega)];exact Ev.const _
 |m+1,i,o,hi,a=>by
  have e:=tp E b n hn m (i+1) (js E n o) (by omega) (by rw[pX];exact a);refine Ev.of_succ ?_;simp only[b7.l0,if_pos (show (i:Int)<(n:Int) by omega)];exact tn E b n i hn (by omega) _ n 0 o (by omega) a e
theorem AD (E:List S83) (a:E.length<=1000) (n v:Nat) (hn:n<=1000) (b:v<n):Ev (fun k=>b7.f k n E v) (fx E n v):=by
 unfold b7.f;simp only[if_pos (show (0:Int)<=(n:Int) by omega),aQ,if_pos (show n<=281474976710656 by omega),Option.bind_some,if_pos (show (0:Int)<=(v:Int) by omega),List.length_replicate,if_pos (show (v:Int)<(n:Int) by omega)];exact tp E a n hn n 0 _ (by omega) (by simp)
def jt (s r:List Bool):List Bool:=(List.range' 0 s.length).foldl (fun s u=>s.set u (bj s u||bj r u)) s
def gL (E:List S83) (n:Nat):Nat->Nat->Nat->List Bool->Nat
 |0,_,c,_=>c
 |m+1,v,c,s=>if bj s v=true then gL E n m (v+1) c s else gL E n m (v+1) (c+1) (jt s (fx E n v))
theorem AE (r:List Bool) (o:List Bool) (u:Nat):(o.set u (bj o u||bj r u)).length=o.length:=by simp
theorem tq (E:List S83) (n:Nat) (hn:n<=1000) (c v:Nat) (e:v<=1000) (q:List Bool) (g:q.length=n) (r:Int):∀(m j:Nat) (s:List Bool),j+m=n->s.length=n->Ev (fun k=>cH.l0 k c ((List.range' j m).foldl (fun s u=>s.set u (bj s u||bj q u)) s) ((v+1:Nat):Int) n E) r->Ev (fun k=>cH.l1 k c s v q j n E) r
 |0,j,s,i,b,h=>by
  refine Ev.of_succ ?_;simp only[cH.l1,if_neg (show ¬((j:Int)<(n:Int)) by omega),eh (show v<=1000000 by omega)];exact h
 |m+1,j,s,i,b,h=>by
  rw[List.range'_succ,List.foldl_cons] at h;have a:=tq E n hn c v e q g r m (j+1) _ (by omega) (by rw[List.length_set];exact b) h;refine Ev.of_succ ?_;simp only[cH.l1,if_pos (show (j:Int)<(n:Int) by omega),if_pos (show (0:Int)<=(j:Int) by omega),if_pos (show (j:Int)<(s.length:Int) by omega),if_pos (show (j:Int)<(q.length:Int) by omega),eh (show j<=1000000 by omega),pU,aQ];by_cases h1:bj s j=true
  ·simp only[if_pos h1];rw[h1,Bool.true_or] at a;exact a
  ·simp only[if_neg h1];rw[Bool.eq_false_iff.2 h1,Bool.false_or] at a;exact a
theorem pY (E:List S83) (e:E.length<=1000) (n:Nat) (hn:n<=1000):∀(m v c:Nat) (s:List Bool),v+m=n->c<=v->s.length=n->Ev (fun k=>cH.l0 k c s v n E) ((gL E n m v c s:Nat):Int)
 |0,v,c,s,g,h,a=>by
  refine Ev.of_succ ?_;simp only[cH.l0,if_neg (show ¬((v:Int)<(n:Int)) by omega)];exact Ev.const _
 |m+1,v,c,s,g,h,a=>by
  refine Ev.of_succ ?_;simp only[cH.l0,if_pos (show (v:Int)<(n:Int) by omega),if_pos (show (0:Int)<=(v:Int) by omega),if_pos (show (v:Int)<(s.length:Int) by omega),eh (show v<=1000000 by omega),pU,gL];by_cases h1:bj s v=true
  ·simp only[if_pos h1]
   exact pY E e n hn m (v+1) c s (by omega) (by omega) a
  ·simp only[if_neg h1]
   refine Ev.bind (AD E e n v hn (by omega)) ?_;have i:(fx E n v).length=n:=by unfold fx;rw[tk];simp
   have j:=pY E e n hn m (v+1) (c+1) (jt s (fx E n v)) (by omega) (by omega) (by unfold jt;rw[lN (fun o b=>AE _ o b)];exact a);rw[eh (show c<=1000000 by omega)];refine tq E n hn (c+1) v (by omega) _ i _ n 0 s (by omega) a ?_;rw[show (List.range' 0 n).foldl (fun s u=>s.set u (bj s u||bj (fx E n v) u)) s=jt s (fx E n v) from by unfold jt;rw[a]];exact j
def partsOf (E:List S83) (n:Nat):Nat:=gL E n n 0 0 (List.replicate n false)
theorem AF (E:List S83) (a:E.length<=1000) (n:Nat) (hn:n<=1000):Ev (fun k=>cH.f k n E) ((partsOf E n:Nat):Int):=by
 unfold cH.f;simp only[if_pos (show (0:Int)<=(n:Int) by omega),aQ,if_pos (show n<=281474976710656 by omega)];exact pY E a n hn n 0 0 _ (by omega) (by omega) (by simp)
theorem pZ {E:List S83} {a b:Nat} {o:List Bool} {i:Nat} (h:bj o i=true):bj (fV E a o b) i=true:=by
 unfold fV;split
 ·rw[lM];split<;>simp_all
 ·exact h
theorem kD {f:List Bool->Nat->List Bool} (hf:∀o b i,bj o i=true->bj (f o b) i=true):∀(l:List Nat) (o:List Bool) (i:Nat),bj o i=true->bj (l.foldl f o) i=true
 |[],_,_,h=>h
 |x::l,o,i,h=>by rw[List.foldl_cons];exact kD hf l _ i (hf _ _ _ h)
theorem p3 {E:List S83} {n a:Nat} {o:List Bool} {i:Nat} (h:bj o i=true):bj (jr E n o a) i=true:=kD (fun o b i h=>pZ h) _ _ _ h
theorem tr {E:List S83} {n:Nat} {o:List Bool} {i:Nat} (h:bj o i=true):bj (js E n o) i=true:=kD (fun o b i h=>p3 h) _ _ _ h
theorem tt {E:List S83} {n:Nat}:∀{m:Nat} {o:List Bool} {i:Nat},bj o i=true->bj (iE E n m o) i=true
 |0,_,_,h=>h
 |m+1,o,i,h=>tt (m:=m) (tr h)
def iF (E:List S83) (n:Nat) (S:Nat->Bool):Prop:=∀a b:Nat,a<n->b<n->S a=true->du E a b>0->S b=true
theorem mI {P:List Bool->Prop} {f:List Bool->Nat->List Bool} {n:Nat} (hf:∀o b,b<n->P o->P (f o b)):∀(m j:Nat) (o:List Bool),j+m<=n->P o->P ((List.range' j m).foldl f o)
 |0,_,_,_,h=>h
 |m+1,j,o,a,h=>by rw[List.range'_succ,List.foldl_cons];exact mI hf m (j+1) _ (by omega) (hf _ _ (by omega) h)
theorem AG {E:List S83} {n:Nat} {S:Nat->Bool} (hS:iF E n S) {o:List Bool} (h:∀i,bj o i=true->S i=true):∀i,bj (js E n o) i=true->S i=true:=by
 refine mI (P:=fun o=>∀i,bj o i=true->S i=true) (n:=n) (fun o a g h=>?_) n 0 o (by omega) h;refine mI (P:=fun o=>∀i,bj o i=true->S i=true) (n:=n) (fun o b hb h=>?_) n 0 o (by omega) h;intro i hi;unfold fV at hi;split at hi
 ·rename_i e
  rw[lM] at hi;split at hi
  ·rename_i j
   obtain⟨rfl,_⟩:=j;exact hS a b g hb (h a e.1) e.2
  ·exact h i hi
 ·exact h i hi
theorem tu {E:List S83} {n:Nat} {S:Nat->Bool} (hS:iF E n S):∀(m:Nat) {o:List Bool},(∀i,bj o i=true->S i=true)->∀i,bj (iE E n m o) i=true->S i=true
 |0,_,h=>h
 |m+1,o,h=>tu hS m (AG hS h)
theorem AH {o:List Bool} {b:Nat} (h:bj o b=true):o.set b true=o:=by
 refine List.ext_getElem (by simp) fun i h1 a=>?_
 rw[List.getElem_set];by_cases e:b=i
 ·subst e
  rw[if_pos rfl];simp only[bj,bb,bP a,Option.getD_some] at h;exact h.symm
 ·rw[if_neg e]
theorem AI {E:List S83} {n:Nat} {o:List Bool} (h:iF E n (bj o)):js E n o=o:=by
 refine mI (P:=fun x=>x=o) (n:=n) (fun x a g i=>?_) n 0 o (by omega) rfl;subst i;refine mI (P:=fun y=>y=x) (n:=n) (fun y b hb j=>?_) n 0 x (by omega) rfl;subst j;unfold fV;split
 ·rename_i e
  exact AH (h a b g hb e.1 e.2)
 ·rfl
theorem tw {E:List S83} {n:Nat}:∀(m:Nat) {o:List Bool},iF E n (bj o)->iE E n m o=o
 |0,_,_=>rfl
 |m+1,o,h=>by rw[iE,AI h,tw m h]
def ju (o:List Bool) (n:Nat):Nat:=(List.range n).countP (bj o)
theorem AJ (o:List Bool) (n:Nat):ju o n<=n:=by
 unfold ju;exact Nat.le_trans List.countP_le_length (by simp)
theorem p4 {o p:List Bool} {b:Nat}:∀{n:Nat},(∀i,bj o i=true->bj p i=true)->b<n->bj o b=false->bj p b=true->ju o n<ju p n
 |0,_,hb,_,_=>by omega
 |n+1,h,hb,h1,g=>by
  have mono:∀m,ju o m<=ju p m:=fun m=>List.countP_mono_left (fun x _ j=>h x j)
  unfold ju at*;rw[List.range_succ,List.countP_append,List.countP_append];by_cases e:b=n
  ·subst e
   have:=mono b;simp[h1,g];omega
  ·have:=p4 (n:=n) h (by omega) h1 g
   unfold ju at this;have k:(if bj o n=true then 1 else 0)<=(if bj p n=true then 1 else 0):=by
    by_cases a:bj o n=true
    ·rw[if_pos a,if_pos (h n a)];exact aI _
    ·rw[if_neg a];exact Nat.zero_le _
   simp only[List.countP_cons,List.countP_nil,Nat.zero_add];omega
theorem AK {E:List S83} {n:Nat} {o:List Bool} (r:o.length=n) {a b:Nat} (s:a<n) (hb:b<n) (h1:bj o a=true) (k:du E a b>0):bj (js E n o) b=true:=by
 unfold js;have l:List.range' 0 n=List.range' 0 a++a::List.range' (a+1) (n-a-1):=by
  rw[<-List.range'_succ,show n-a-1+1=n-a by omega];rw[show List.range' 0 a++List.range' a (n-a)=List.range' 0 a++List.range' (0+a) (n-a) by rw[Nat.zero_add],List.range'_append_1];rw[show a+(n-a)=n by omega]
 have m:List.range' 0 n=List.range' 0 b++b::List.range' (b+1) (n-b-1):=by
  rw[<-List.range'_succ,show n-b-1+1=n-b by omega];rw[show List.range' 0 b++List.range' b (n-b)=List.range' 0 b++List.range' (0+b) (n-b) by rw[Nat.zero_add],List.range'_append_1];rw[show b+(n-b)=n by omega]
 rw[l,List.foldl_append,List.foldl_cons];refine kD (fun o b i h=>p3 h) _ _ _ ?_;have g:=kD (f:=jr E n) (fun o b i h=>p3 h) (List.range' 0 a) o a h1;have p:=lN (f:=jr E n) (fun o a=>pW E n a o) (List.range' 0 a) o;generalize (List.range' 0 a).foldl (jr E n) o=e at g p⊢;unfold jr;rw[m,List.foldl_append,List.foldl_cons];refine kD (fun o b i h=>pZ h) _ _ _ ?_;have j:=kD (f:=fV E a) (fun o b i h=>pZ h) (List.range' 0 b) e a g;have q:=lN (f:=fV E a) (fun o b=>pV E a b o) (List.range' 0 b) e;generalize (List.range' 0 b).foldl (fV E a) e=u at j q⊢;unfold fV;rw[if_pos ⟨j,k⟩,lM,if_pos ⟨rfl,by omega⟩]
theorem tx {E:List S83} {n:Nat}:∀(m:Nat) (o:List Bool),o.length=n->n<ju o n+m->iF E n (bj (iE E n m o))
 |0,o,g,h=>by have:=AJ o n;omega
 |m+1,o,g,h=>by
  by_cases e:iF E n (bj o)
  ·rw[tw (m+1) e];exact e
  ·rw[iE]
   refine tx m _ (by rw[pX];exact g) ?_;unfold iF at e;simp only[Classical.not_forall] at e;obtain⟨a,b,j,hb,h1,k,l⟩:=e;have:=p4 (o:=o) (p:=js E n o) (b:=b) (n:=n) (fun i hi=>tr hi) hb (Bool.eq_false_iff.2 l) (AK g j hb h1 k);omega
theorem AL {E:List S83} {n v:Nat} (e:v<n):bj (fx E n v) v=true/\iF E n (bj (fx E n v))/\∀S:Nat->Bool,iF E n S->S v=true->∀i,bj (fx E n v) i=true->S i=true:=by
 have g:bj ((List.replicate n false).set v true) v=true:=by rw[lM,if_pos ⟨rfl,by simpa using e⟩]
 have a:∀i,bj (List.replicate n false) i=false:=fun i=>by simp[bj,bb,List.getElem?_replicate];split<;>rfl
 refine⟨tt g,tx n _ (by simp) ?_,fun S hS j=>tu hS n (fun i hi=>?_)⟩
 ·have:=p4 (o:=List.replicate n false) (p:=(List.replicate n false).set v true) (b:=v) (n:=n) (fun i hi=>by rw[a] at hi;cases hi) e (a v) g
  omega
 ·rw[lM] at hi
  split at hi
  ·rename_i h;rw[<-h.1];exact j
  ·rw[a] at hi;cases hi
def lO (N:Int) (E:List S83):Bool:=decide (0<=N/\N<=12)&&iZ 12 E
def cD.f (k:Nat) (N:Int) (E:List S83):Option (Bool×Int):=
 (bd.f k N E).bind fun t=>if t=0 then(if lO N E=true then some (decide (bZ (aK E) N.toNat=1),0) else none) else some (false,t)
theorem cD.mono:∀a b k,aj (cD.f k a b) (cD.f (k+1) a b):=by
 intro a b k;unfold cD.f;exact aj.bind (bd.mono _ _ _) (fun _=>aj.refl _)
theorem AM (k:Nat) (N:Int) (A0:Option Addr) (c0:Nat) (E:List S83) (t:Int) (w:World) (b:Kd.C aN w A0 E.length E) (g:E.length<=c0) (a:bd.f k N E=some t) (j:t≠0):
  Calls Tryz.prog 172 #[.agg #[.int .i64 N,.slice A0 E.length c0]] w fun e w'=>e= .returned (.tuple #[.slice none 0 0,.int .i64 t])/\Below w.heap.size w w':=by
 have hu:=Tryz.underlying24;have h:=zA a;clear a;go_enter Tryz.func172,Tryz.ntmps172
 go_wp2_with (first|(go_at_call 64;refine(bd.calls k N A0 c0 E t _ (Kd.bE b _) g h.out).mono ?_;rintro e w1 ⟨rfl,hb⟩;have i:=zA (a7 (ao (al w.heap.size w) _) hb);clear hb))
 go_ret2;exact⟨rfl,i.out⟩
theorem AN (E:List S83):∀i,i<12->(#[.int .i64 (aK E 0:Nat),.int .i64 (aK E 1:Nat),.int .i64 (aK E 2:Nat),.int .i64 (aK E 3:Nat),.int .i64 (aK E 4:Nat),.int .i64 (aK E 5:Nat),.int .i64 (aK E 6:Nat),.int .i64 (aK E 7:Nat),.int .i64 (aK E 8:Nat),.int .i64 (aK E 9:Nat),.int .i64 (aK E 10:Nat),.int .i64 (aK E 11:Nat)]:Array Value)[i]? =some (.int .i64 (aK E i:Nat)):=fun i hi=>by
 match i,hi with|0,_=>rfl|1,_=>rfl|2,_=>rfl|3,_=>rfl|4,_=>rfl|5,_=>rfl|6,_=>rfl|7,_=>rfl|8,_=>rfl|9,_=>rfl|10,_=>rfl|11,_=>rfl
theorem AO (k:Nat) (n:Nat) (A0:Option Addr) (c0:Nat) (E:List S83) (w:World) (b:Kd.C aN w A0 E.length E) (j:E.length<=c0) (g:bd.f k n E=some 0) (hn:n<=12) (h:ej 12 E):
  Calls Tryz.prog 172 #[.agg #[.int .i64 n,.slice A0 E.length c0]] w fun e w'=>∃A c,e= .returned (.tuple #[.slice A (bZ (aK E) n) c,.int .i64 0])/\Below w.heap.size w w':=by
 have hu:=Tryz.underlying24;have l:=zA g;clear g;have m:=zA h;clear h;go_enter Tryz.func172,Tryz.ntmps172
 go_wp2_with (first|(go_at_call 64;refine(bd.calls k n A0 c0 E 0 _ (Kd.bE b _) j l.out).mono ?_;rintro e w1 ⟨rfl,hb⟩;have a:w1.heap[w.heap.size]? =some (.cells #[.int .i64 n,.slice A0 E.length c0] 24 (0,0)):=aJ (bl w _) hb;have o:=zA (Kd.aq b (a7 (ao (al w.heap.size w) _) hb));have p:=zA (a7 (ao (al w.heap.size w) _) hb);clear hb;have v:w1.cell? ⟨w.heap.size,0,none⟩=some (.int .i64 n):=(ai a 0).trans rfl;have x:w1.cell? ⟨w.heap.size,1,none⟩=some (.slice A0 E.length c0):=(ai a 1).trans rfl)|(go_at_call 196;(with_reducible refine(Au _ _ _ E _ o.out m.out).mono ?_);rintro e w2 ⟨rfl,hb⟩;have i:=aw (aJ a hb) (.cells #[.int .i64 (aK E 0:Nat),.int .i64 (aK E 1:Nat),.int .i64 (aK E 2:Nat),.int .i64 (aK E 3:Nat),.int .i64 (aK E 4:Nat),.int .i64 (aK E 5:Nat),.int .i64 (aK E 6:Nat),.int .i64 (aK E 7:Nat),.int .i64 (aK E 8:Nat),.int .i64 (aK E 9:Nat),.int .i64 (aK E 10:Nat),.int .i64 (aK E 11:Nat)] 217);have y:(w2.alloc (.cells #[.int .i64 (aK E 0:Nat),.int .i64 (aK E 1:Nat),.int .i64 (aK E 2:Nat),.int .i64 (aK E 3:Nat),.int .i64 (aK E 4:Nat),.int .i64 (aK E 5:Nat),.int .i64 (aK E 6:Nat),.int .i64 (aK E 7:Nat),.int .i64 (aK E 8:Nat),.int .i64 (aK E 9:Nat),.int .i64 (aK E 10:Nat),.int .i64 (aK E 11:Nat)] 217)).cell? ⟨w.heap.size,0,none⟩=some (.int .i64 n):=(ai i 0).trans rfl;have q:=zA (ao (a7 p.out hb) (.cells #[.int .i64 (aK E 0:Nat),.int .i64 (aK E 1:Nat),.int .i64 (aK E 2:Nat),.int .i64 (aK E 3:Nat),.int .i64 (aK E 4:Nat),.int .i64 (aK E 5:Nat),.int .i64 (aK E 6:Nat),.int .i64 (aK E 7:Nat),.int .i64 (aK E 8:Nat),.int .i64 (aK E 9:Nat),.int .i64 (aK E 10:Nat),.int .i64 (aK E 11:Nat)] 217));have r:=zA (show dX (w2.alloc (.cells #[.int .i64 (aK E 0:Nat),.int .i64 (aK E 1:Nat),.int .i64 (aK E 2:Nat),.int .i64 (aK E 3:Nat),.int .i64 (aK E 4:Nat),.int .i64 (aK E 5:Nat),.int .i64 (aK E 6:Nat),.int .i64 (aK E 7:Nat),.int .i64 (aK E 8:Nat),.int .i64 (aK E 9:Nat),.int .i64 (aK E 10:Nat),.int .i64 (aK E 11:Nat)] 217)) w2.heap.size (aK E) from⟨_,bl _ _,rfl,AN E⟩);clear hb i)|(go_at_call 197;(with_reducible refine(Aw _ n (aK E) _ hn (tc E) r.out).mono ?_);rintro e w3 ⟨s,c3,rfl,hb⟩;have u:=zA (a7 q.out hb);clear hb))
 go_ret2;exact⟨s,c3,rfl,u.out⟩
theorem cD.calls (k:Nat) (p:Int) (j:Option Addr) (l:Nat) (a:List (S83)) (v:Bool) (x:Int) (w:World) (q:Kd.C aN w j a.length a) (y:a.length<=l) (h:cD.f k p a=some (v,x)):
  Calls Tryz.prog 113 #[.agg #[.int .i64 p,.slice j a.length l]] w fun e w'=>e= .returned (.tuple #[.bool v,.int .i64 x])/\Below w.heap.size w w':=by
 unfold cD.f at h;obtain⟨t,o,h⟩:=Option.bind_eq_some_iff.1 h;split at h
 ·rename_i r
  subst r;split at h
  case isFalse=>cases h
  rename_i z;simp only[lO,Bool.and_eq_true,decide_eq_true_eq] at z;obtain⟨⟨D,H⟩,B⟩:=z;obtain⟨n,rfl⟩:=Int.eq_ofNat_of_zero_le D;injection h with h
  injection h with h1 s
  subst s;rw[aQ] at h1;have b:=fun W u=>AO k n j l a W u y o (by omega) (lH (n:=12) B)
  have g:=zA b;have H1:=zA h1;clear b o B h1;have E:=mH (aK a) n;generalize bZ (aK a) n=m at g H1 E;by_cases hm:m=1
  ·subst hm
   go_enter Tryz.func113,Tryz.ntmps113
   go_wp2_with (first|(go_at_call 172;refine(g.out _ (Kd.bE q _)).mono ?_;rintro e w1 ⟨F,c1,rfl,hb⟩;have i:=zA (a7 (ao (al w.heap.size w) _) hb);clear hb))
   go_ret2;exact⟨by rw[<-H1.out];rfl,i.out⟩
  ·have G:((m:Nat):Int)≠1:=by omega
   go_enter Tryz.func113,Tryz.ntmps113
   go_wp2_with (first|(go_at_call 172;refine(g.out _ (Kd.bE q _)).mono ?_;rintro e w1 ⟨F,c1,rfl,hb⟩;have i:=zA (a7 (ao (al w.heap.size w) _) hb);clear hb))
   go_ret2;exact⟨by rw[<-H1.out,a6 hm,<-(beq_eq_false_iff_ne.2 G:((m:Int)==1)=false)];rfl,i.out⟩
 ·rename_i r
  injection h with h
  injection h with h1 s
  subst h1;subst s;have b:=fun W u=>AM k p j l a t W u y o r
  have g:=zA b;clear b o;go_enter Tryz.func113,Tryz.ntmps113
  go_wp2_with (first|(go_at_call 172;refine(g.out _ (Kd.bE q _)).mono ?_;rintro e w1 ⟨rfl,hb⟩;have i:=zA (a7 (ao (al w.heap.size w) _) hb);clear hb))
  go_ret2;exact⟨rfl,i.out⟩
def dp.f (k:Nat) (b:Int) (g:List (S83)) (e:Int):Option (Int):=(cD.f k b g).bind fun a=>(if a.2=0 then(if a.1=true then(if e<0 then(some 2) else(if e>=b then(some 2) else(some 0))) else(some 13)) else(some a.2))
theorem dp.mono:∀a0 a a2 k,aj (dp.f k a0 a a2) (dp.f (k+1) a0 a a2):=by
 intro a0 a a2 k;unfold dp.f;with_reducible repeat' first|exact cD.mono _ _ _|exact aj.refl _|exact aj.none _|refine aj.ite ?_ ?_|refine aj.bind ?_ (fun _=>?_)
theorem dp.calls (k:Nat) (i:Int) (l:Option Addr) (m:Nat) (g:List (S83)) (v:Int) (r:Int) (w:World) (D:Kd.C aN w l g.length g) (E:g.length<=m) (h:dp.f k i g v=some r):
  Calls Tryz.prog 211 #[.agg #[.int .i64 i,.slice l g.length m],.int .i64 v] w fun e w'=>e= .returned (.int .i64 r)/\Below w.heap.size w w':=by
 have L:=Tryz.underlying24;have q:=zA D;have s:=zA E;clear D E;have a:=zA (al w.heap.size w);unfold dp.f at h;have H:=h;clear h;obtain⟨⟨F,n⟩,u,H⟩:=zo H;dsimp only at H;by_cases c4:n=0
 ·rw[if_pos c4] at H
  obtain⟨G,I⟩:=br c4;clear c4;by_cases x:F=true
  ·subst x
   replace H:=zi H;by_cases o:v<0
   ·rw[if_pos o] at H
    have J:=ay o;clear o;obtain rfl:=aE H;go_enter Tryz.func211,Tryz.ntmps211
    go_wp2_with (first|((with_reducible refine aH (N:=2) rfl ?_);refine zX 2 #[.int .i64 i,.slice l g.length m] 24 ?_;intro y hg M j hb;have b:=zA (j);have z:=zG a hg;have B:=zG a hg;replace a:=zS a hb;clear hb j hg;obtain⟨O,P,Q,R⟩:=au b)|((with_reducible refine aC (f:=113) rfl ?_);refine zL (some 9) Tryz.func113 #[.agg #[.int .i64 i,.slice l g.length m]] ?_;(with_reducible refine(cD.calls k i _ _ g true n _ ?af ?ah u.out).mono ?_);(case af=>exact Kd.aq q.out zB);(case ah=>exact s.out);rintro e S ⟨rfl,hb⟩;refine⟨_,rfl,?_⟩;replace b:=zb b hb;replace a:=zS a hb;(try clear hb)))
    go_ret;exact⟨zE,zB⟩
   ·rw[if_neg o] at H
    have J:=a6 o;clear o;by_cases p:v>=i
    ·rw[if_pos p] at H
     have K:=ay p;clear p;obtain rfl:=aE H;go_enter Tryz.func211,Tryz.ntmps211
     go_wp2_with (first|((with_reducible refine aH (N:=2) rfl ?_);refine zX 2 #[.int .i64 i,.slice l g.length m] 24 ?_;intro y hg gV j hb;have b:=zA (j);have z:=zG a hg;have B:=zG a hg;replace a:=zS a hb;clear hb j hg;obtain⟨T,U,V,W⟩:=au b)|((with_reducible refine aC (f:=113) rfl ?_);refine zL (some 9) Tryz.func113 #[.agg #[.int .i64 i,.slice l g.length m]] ?_;(with_reducible refine(cD.calls k i _ _ g true n _ ?af ?ah u.out).mono ?_);(case af=>exact Kd.aq q.out zB);(case ah=>exact s.out);rintro e X ⟨rfl,hb⟩;refine⟨_,rfl,?_⟩;replace b:=zb b hb;replace a:=zS a hb;(try clear hb);obtain⟨Y,Z,aa,ab⟩:=au b))
     go_ret;exact⟨zE,zB⟩
    ·rw[if_neg p] at H
     have K:=a6 p;clear p;obtain rfl:=aE H;go_enter Tryz.func211,Tryz.ntmps211
     go_wp2_with (first|((with_reducible refine aH (N:=2) rfl ?_);refine zX 2 #[.int .i64 i,.slice l g.length m] 24 ?_;intro y hg ad j hb;have b:=zA (j);have z:=zG a hg;have B:=zG a hg;replace a:=zS a hb;clear hb j hg;obtain⟨ag,ak,am,an⟩:=au b)|((with_reducible refine aC (f:=113) rfl ?_);refine zL (some 9) Tryz.func113 #[.agg #[.int .i64 i,.slice l g.length m]] ?_;(with_reducible refine(cD.calls k i _ _ g true n _ ?af ?ah u.out).mono ?_);(case af=>exact Kd.aq q.out zB);(case ah=>exact s.out);rintro e ap ⟨rfl,hb⟩;refine⟨_,rfl,?_⟩;replace b:=zb b hb;replace a:=zS a hb;(try clear hb);obtain⟨ar,av,aB,aF⟩:=au b))
     go_ret;exact⟨zE,zB⟩
  ·replace x:=Bool.eq_false_iff.mpr x
   subst x;replace H:=zj H;obtain rfl:=aE H;go_enter Tryz.func211,Tryz.ntmps211
   go_wp2_with (first|((with_reducible refine aH (N:=2) rfl ?_);refine zX 2 #[.int .i64 i,.slice l g.length m] 24 ?_;intro y hg aL j hb;have b:=zA (j);have z:=zG a hg;have B:=zG a hg;replace a:=zS a hb;clear hb j hg;obtain⟨aO,aP,aS,a0⟩:=au b)|((with_reducible refine aC (f:=113) rfl ?_);refine zL (some 9) Tryz.func113 #[.agg #[.int .i64 i,.slice l g.length m]] ?_;(with_reducible refine(cD.calls k i _ _ g false n _ ?af ?ah u.out).mono ?_);(case af=>exact Kd.aq q.out zB);(case ah=>exact s.out);rintro e a2 ⟨rfl,hb⟩;refine⟨_,rfl,?_⟩;replace b:=zb b hb;replace a:=zS a hb;(try clear hb)))
   go_ret;exact⟨zE,zB⟩
 ·rw[if_neg c4] at H
  obtain⟨G,I⟩:=bG c4;obtain rfl:=aE H;go_enter Tryz.func211,Tryz.ntmps211
  go_wp2_with (first|((with_reducible refine aH (N:=2) rfl ?_);refine zX 2 #[.int .i64 i,.slice l g.length m] 24 ?_;intro y hg a3 j hb;have b:=zA (j);have z:=zG a hg;have B:=zG a hg;replace a:=zS a hb;clear hb j hg;obtain⟨a4,a5,a9,be⟩:=au b)|((with_reducible refine aC (f:=113) rfl ?_);refine zL (some 9) Tryz.func113 #[.agg #[.int .i64 i,.slice l g.length m]] ?_;(with_reducible refine(cD.calls k i _ _ g F n _ ?af ?ah u.out).mono ?_);(case af=>exact Kd.aq q.out zB);(case ah=>exact s.out);rintro e bf ⟨rfl,hb⟩;refine⟨_,rfl,?_⟩;replace b:=zb b hb;replace a:=zS a hb;(try clear hb)))
  go_ret;exact⟨zE,zB⟩
theorem AP {E:List S83} {a b:Int} (h:du E a b>0):∃x∈E,x.f0=min a b/\x.f1=max a b:=by
 unfold du at h;split at h
 ·rename_i x e
  refine⟨x,List.mem_of_find?_eq_some e,?_⟩;have:=List.find?_some e;simpa [fU] using this
 ·omega
theorem AQ {N:Int} {E:List S83} (h:bt N E) {x:S83} (a:x∈E):du E x.f0 x.f1>0:=by
 unfold du;split
 ·rename_i y b
  have:=h.ok y (List.mem_of_find?_eq_some b);simp[bX] at this;omega
 ·rename_i hn
  rw[List.find?_eq_none] at hn;have:=hn x a;have hle:=h.le x a;simp[fU] at this;omega
theorem AR {E:List S83} {n:Nat} {S:Nat->Bool} (h:∀x∈E,S x.f0.toNat=S x.f1.toNat):iF E n S:=by
 intro a b k hb e g;obtain⟨x,i,l,h1⟩:=AP g;have:=h x i;rcases Nat.le_total a b with j|j
 ·rw[show x.f0.toNat=a by omega,show x.f1.toNat=b by omega] at this
  rw[<-this];exact e
 ·rw[show x.f0.toNat=b by omega,show x.f1.toNat=a by omega] at this
  rw[this];exact e
theorem AS {n:Nat} {E:List S83} (b:bt n E) {S:Nat->Bool} (h:iF E n S):∀x∈E,S x.f0.toNat=S x.f1.toNat:=by
 intro x e;have hb:=AQ b e;have k:=b.ok x e;simp[bX] at k;have g:((x.f0.toNat:Nat):Int)=x.f0:=by omega
 have i:((x.f1.toNat:Nat):Int)=x.f1:=by omega
 have h1:=h x.f0.toNat x.f1.toNat (by omega) (by omega);have j:=h x.f1.toNat x.f0.toNat (by omega) (by omega);rw[g,i] at h1;rw[g,i,s7] at j;cases a:S x.f0.toNat with
 |true=>exact(h1 a hb).symm
 |false=>
  cases l:S x.f1.toNat with
  |false=>rfl
  |true=>rw[j l hb] at a;cases a
theorem AT (s r:List Bool) (i:Nat) (hi:i<s.length):bj (jt s r) i=(bj s i||bj r i):=by
 unfold jt;have key:∀(m j:Nat) (o:List Bool),o.length=s.length->bj ((List.range' j m).foldl (fun s u=>s.set u (bj s u||bj r u)) o) i=if j<=i/\i<j+m then(bj o i||bj r i) else bj o i:=by
  intro m;induction m with
  |zero=>intro j o _;rw[if_neg (by omega)];rfl
  |succ m b=>
   intro j o e;rw[List.range'_succ,List.foldl_cons,b _ _ (by rw[List.length_set];exact e),lM];by_cases h1:j=i
   ·subst h1
    rw[if_neg (by omega),if_pos ⟨rfl,by omega⟩,if_pos (by omega)]
   ·rw[if_neg (show ¬(j=i/\i<o.length) from fun h=>h1 h.1)]
    by_cases a:j+1<=i/\i<j+1+m
    ·rw[if_pos a,if_pos (by omega)]
    ·rw[if_neg a,if_neg (by omega)]
 rw[key s.length 0 s rfl,if_pos (by omega)]
theorem tz (E:List S83) (n:Nat):∀(m v c:Nat) (s:List Bool),(∀i,v<=i->i<v+m->bj s i=true)->gL E n m v c s=c
 |0,_,_,_,_=>rfl
 |m+1,v,c,s,h=>by
  rw[gL,if_pos (h v (aI _) (by omega))];exact tz E n m (v+1) c s (fun i h1 a=>h i (by omega) (by omega))
theorem p5 (E:List S83) (n:Nat):∀(m v c:Nat) (s:List Bool),c<=gL E n m v c s
 |0,_,_,_=>aI _
 |m+1,v,c,s=>by
  rw[gL];split
  ·exact p5 E n m _ _ _
  ·exact Nat.le_trans (Nat.le_succ c) (p5 E n m _ _ _)
theorem tA (E:List S83) (n:Nat):∀(m v c:Nat) (s:List Bool) (u:Nat),v<=u->u<v+m->bj s u=false->c+1<=gL E n m v c s
 |0,_,_,_,_,_,h,_=>by omega
 |m+1,v,c,s,u,h1,e,a=>by
  rw[gL];split
  ·rename_i b
   exact tA E n m (v+1) c s u (by rcases Nat.lt_or_ge v u with h|h;exact h;exfalso;have:v=u:=(by omega);subst this;rw[a] at b;cases b) (by omega) a
  ·exact p5 E n m _ _ _
theorem kE {n:Nat} {E:List S83} (hn:1<=n) (q:bt n E):partsOf E n=1↔fw n E:=by
 obtain⟨m,rfl⟩:∃m,n=m+1:=⟨n-1,by omega⟩;obtain⟨r,s,w⟩:=AL (E:=E) (n:=m+1) (v:=0) (by omega);have j:∀i,bj (List.replicate (m+1) false) i=false:=fun i=>by simp[bj,bb,List.getElem?_replicate];split<;>rfl
 have e:partsOf E (m+1)=gL E (m+1) m 1 1 (jt (List.replicate (m+1) false) (fx E (m+1) 0)):=by
  unfold partsOf;rw[gL,if_neg (by rw[j];decide)]
 have k:∀i,i<m+1->bj (jt (List.replicate (m+1) false) (fx E (m+1) 0)) i=bj (fx E (m+1) 0) i:=fun i hi=>by
  rw[AT _ _ _ (by simpa using hi),j,Bool.false_or]
 rw[e];constructor
 ·intro h S y z
  refine Classical.byContradiction fun a=>?_
  have hS:∀x∈E,S x.f0.toNat=S x.f1.toNat:=fun x B=>Classical.byContradiction fun b=>a ⟨x,B,b⟩
  have main:∀T:Nat->Bool,(∀x∈E,T x.f0.toNat=T x.f1.toNat)->T 0=true->(∃u,u<m+1/\T u=false)->False:=by
   rintro T C l ⟨u,hu,g⟩;have h1:bj (fx E (m+1) 0) u=false:=by
    cases o:bj (fx E (m+1) 0) u with
    |false=>rfl
    |true=>have:=w T (AR C) l u o;rw[g] at this;cases this
   have F:u≠0:=fun e=>by subst e;rw[l] at g;cases g
   have:=tA E (m+1) m 1 1 _ u (by omega) (by omega) (by rw[k u hu];exact h1);omega
  cases p:S 0 with
  |true=>exact main S hS p z
  |false=>
   refine main (fun u=> !S u) (fun x a=>by simp[hS x a]) (by simp[p]) ?_;obtain⟨u,hu,D⟩:=y;exact⟨u,hu,by simp[D]⟩
 ·intro h
  refine tz E _ m 1 1 _ fun i h1 o=>?_
  rw[k i (by omega)];cases hi:bj (fx E (m+1) 0) i with
  |true=>rfl
  |false=>
   obtain⟨x,a,b⟩:=h (bj (fx E (m+1) 0)) ⟨0,by omega,r⟩ ⟨i,by omega,hi⟩;exact absurd (AS q s x a) b
end Go.Proofs.YtffdiakgjakngaaGreat.P
namespace Go.Proofs.YtffdiakgjakngaaGreat.T
set_option linter.unusedVariables false
set_option linter.unusedSimpArgs false
set_option maxHeartbeats 8000000
set_option maxRecDepth 100000
theorem AU {f:Nat->Int} {n:Nat} {M:Int} (a:0<=M) (S:Nat->Bool) (h:∀v,v<n->S v=true->f v<=M):sN (fun v=>if S v=true then f v else 0) n<=n*M:=by
 rw[<-gH];refine cT fun v b=>?_
 show (if S v=true then f v else 0)<=M
 split
 ·exact h v b ‹_›
 ·exact a
theorem nY {n:Nat} {t:Nat->Nat->Int} (e:Wt n t) (g:dn n t) {q:Nat} (i:q<n) {b:Nat->Int} (hb:b q=0) {M:Int} (a:0<=M) (h:∀v,v<n->0<b v->aV n t b v<=M):∀v,v<n->b v<=n*(n*M):=by
 refine jQ e g i (by omega) (Int.mul_nonneg (by omega) a) fun x l=>?_
 refine AU a (fun v=>decide (x<b v)) fun v j k=>h v j ?_
 have:=of_decide_eq_true k;omega
theorem AV {n:Nat} {t:Nat->Nat->Int} (g:Wt n t) (i:dn n t) {q:Nat} (j:q<n) {s s':Nat->Int} (l:s q=s' q) (h:∀v,v<n->aV n t s v=aV n t s' v):∀v,v<n->s v=s' v:=by
 have h1:=nY g i j (b:=fun u=>s u-s' u) (by show s q-s' q=0;omega) (M:=0) (by omega) (fun v e _=>by rw[lD,h v e];omega);have k:=nY g i j (b:=fun u=>s' u-s u) (by show s' q-s q=0;omega) (M:=0) (by omega) (fun v e _=>by rw[lD,h v e];omega);intro v e;have a:=h1 v e;have b:=k v e;simp only[Int.mul_zero] at a b;omega
theorem nZ {n:Nat} {t:Nat->Nat->Int} (a:Wt n t) {q:Nat} {c:Nat->Int} (h:jW n t q c) {v:Nat} (b:v<n) (g:v≠q):c v<val n t v:=by
 obtain⟨u,hu,i,j⟩:=h (fun u=>decide (u=v)) ⟨v,b,by simp⟩ (by simpa using fun e=>g e.symm);obtain rfl:u=v:=of_decide_eq_true i;refine Int.lt_of_lt_of_le j ?_;unfold val;refine cT fun w hw=>?_
 show (if decide (w=u)=false then t u w else 0)<=t u w
 have:=a.pos u w;split<;>omega
theorem AW {n:Nat} {t:Nat->Nat->Int} (h:Wt n t) (i:dn n t) {q:Nat} (j:q<n) {D c s:Nat->Int} (k:jX n t q c) (l:∀v,v<n->c v=D v-aV n t s v) (o:s q=0) {B V:Int} (x:0<=B) (y:0<=V) (m:∀v,v<n-> -B<=D v/\D v<=B) (p:∀v,v<n->val n t v<=V):∀v,v<n-> -(n*(n*(B+V)))<=s v/\s v<=n*(n*(B+V)):=by
 have h1:=nY h i j (b:=s) o (M:=B+V) (by omega) (fun v g hp=>by
  have:=l v g;have:=k.1 v g (fun e=>by subst e;omega);have:=m v g;omega)
 have r:=nY h i j (b:=fun u=> -s u) (by show -s q=0;omega) (M:=B+V) (by omega) (fun v g hp=>by
  rw[lC];have:=l v g;have w:v≠q:=fun e=>by subst e;omega
  have:=nZ h k.2 g w;have:=p v g;have:=m v g;omega)
 intro v g;have a:=h1 v g;have b: -s v<=_:=r v g;omega
theorem AX (f:Nat->Int) {q n:Nat} (a:q<n):sN (fun v=>if v=q then 0 else f v) n=sN f n-f q:=by
 have h:=dD (fun v=>if v=q then 0 else f v) (fun v=>if v=q then f v else 0) n;have b:sN (fun v=>if v=q then f v else 0) n=f q:=by
  rw[jo a (fun u _ hu=>if_neg hu)];simp
 have g:sN (fun v=>(if v=q then 0 else f v)+(if v=q then f v else 0)) n=sN f n:=bI fun v _=>by
  by_cases e:v=q<;>simp[e]
 have i:sN (fun v=>(if v=q then 0 else f v)+(if v=q then f v else 0)) n=sN (fun v=>if v=q then 0 else f v) n+sN (fun v=>if v=q then f v else 0) n:=h;omega
theorem AY {f:Nat->Int} {q n:Nat} (g:q<n) {a b:Int} (i:a<=0) (hb:0<=b) (h:∀v,v<n->v≠q->a<=f v/\f v<=b):sN f n-n*b<=f q/\f q<=sN f n-n*a:=by
 have h1:=AX f g;have j:sN (fun v=>if v=q then 0 else f v) n<=sN (fun _=>b) n:=cT fun v e=>by
  show (if v=q then 0 else f v)<=b
  split
  ·exact hb
  ·exact(h v e ‹_›).2
 have k:sN (fun _=>a) n<=sN (fun v=>if v=q then 0 else f v) n:=cT fun v e=>by
  show a<=(if v=q then 0 else f v)
  split
  ·exact i
  ·exact(h v e ‹_›).1
 rw[gH] at j k;omega
theorem n9 {f:Nat->Int} {n:Nat} {B:Int} (h:∀v,v<n-> -B<=f v/\f v<=B): -(n*B)<=sN f n/\sN f n<=n*B:=by
 have h1:sN (fun _=> -B) n<=sN f n:=cT fun v a=>(h v a).1
 have b:sN f n<=sN (fun _=>B) n:=cT fun v a=>(h v a).2
 rw[gH] at h1 b;rw[Int.mul_neg] at h1;omega
theorem p6 {n:Nat} {t:Nat->Nat->Int} (b:Wt n t) (e:dn n t) {q:Nat} (g:q<n) {D c σ d s:Nat->Int} (i:jX n t q c) (j:∀v,v<n->c v=D v-aV n t σ v) (k:σ q=0) (hd:∀v,v<n->d v=D v-aV n t s v) (hp:∀v,v<n->v≠q->0<=d v):∀v,v<n->s v<=σ v+s q:=by
 have:=pO b e g i hp (s:=fun u=>s u-σ u) (fun v a=>by rw[lD,j v a,hd v a];omega);intro v a;have h:s v-σ v<=s q-σ q:=this v a;omega
theorem AZ {n:Nat} {t:Nat->Nat->Int} (b:Wt n t) {L:Nat->Bool} {d:Nat->Int} {T:Int} (e:0<=T) (h:∀v,v<n->L v=true->T*sN (fun u=>if L u=false then t v u else 0) n<=d v):∀v,v<n->(L v=true->0<=d v-T*aV n t (ind L) v)/\(L v=false->d v<=d v-T*aV n t (ind L) v):=by
 intro v g;rw[pN];refine⟨fun a=>?_,fun a=>?_⟩
 ·rw[if_pos a]
  have:=h v g a;omega
 ·rw[if_neg (by simp[a]),Int.mul_neg]
  have:0<=T*sN (fun u=>if L u=true then t v u else 0) n:=Int.mul_nonneg e (dm fun u _=>by
   show 0<=(if L u=true then t v u else 0)
   have:=b.pos v u;split<;>omega)
  omega
def eF (n:Nat) (t:Nat->Nat->Int) (dist:Nat->Int) (v:Nat):Int:=sN (fun u=>if dist v<dist u then t v u else 0) n
theorem lP {n:Nat} {t:Nat->Nat->Int} (a:Wt n t) (dist:Nat->Int) (v:Nat):0<=eF n t dist v:=dm fun u _=>by
 show 0<=(if dist v<dist u then t v u else 0)
 have:=a.pos v u;split<;>omega
theorem A_ {n:Nat} {t:Nat->Nat->Int} (a:Wt n t) (dist:Nat->Int):2*sN (eF n t dist) n<=sN (val n t) n:=by
 have h1:sN (eF n t dist) n=sN (fun v=>sN (fun u=>if dist u<dist v then t v u else 0) n) n:=by
  show sN (fun v=>sN (fun u=>if dist v<dist u then t v u else 0) n) n=_
  rw[mB];refine bI fun u _=>bI fun v _=>?_
  rw[a.sym v u]
 have b:sN (fun v=>eF n t dist v+sN (fun u=>if dist u<dist v then t v u else 0) n) n<=sN (val n t) n:=by
  refine cT fun v e=>?_
  show sN (fun u=>if dist v<dist u then t v u else 0) n+sN (fun u=>if dist u<dist v then t v u else 0) n<=sN (fun u=>t v u) n
  rw[<-dD];refine cT fun u hu=>?_
  show (if dist v<dist u then t v u else 0)+(if dist u<dist v then t v u else 0)<=t v u
  have:=a.pos v u;split<;>split<;>omega
 rw[dD,<-h1] at b;omega
def ez (n:Nat) (t:Nat->Nat->Int) (dist:Nat->Int) (k:Int):Int:=sN (fun v=>if k<=dist v then eF n t dist v else 0) n
theorem tB {n:Nat} {t:Nat->Nat->Int} (a:Wt n t) (dist:Nat->Int) (k:Int):0<=ez n t dist k/\ez n t dist k<=sN (eF n t dist) n:=by
 refine⟨dm fun v _=>?_,cT fun v _=>?_⟩
 ·show 0<=(if k<=dist v then eF n t dist v else 0)
  have:=lP a dist v;split<;>omega
 ·show (if k<=dist v then eF n t dist v else 0)<=_
  have:=lP a dist v;split<;>omega
theorem Ba {n:Nat} {t:Nat->Nat->Int} (a:Wt n t) (dist:Nat->Int) (k:Int) {v:Nat} (b:v<n) (hd:dist v=k-1):ez n t dist k+eF n t dist v<=ez n t dist (k-1):=by
 have h1:sN (fun u=>(if k<=dist u then eF n t dist u else 0)+(if u=v then eF n t dist u else 0)) n<=ez n t dist (k-1):=by
  refine cT fun u _=>?_
  show (if k<=dist u then eF n t dist u else 0)+(if u=v then eF n t dist u else 0)<=(if k-1<=dist u then eF n t dist u else 0)
  have:=lP a dist u;by_cases e:u=v
  ·subst e
   rw[if_neg (show ¬k<=dist u by omega),if_pos rfl,if_pos (by omega)];omega
  ·rw[if_neg e]
   split
   ·rw[if_pos (by omega)];omega
   ·split<;>omega
 rw[dD] at h1;have g:sN (fun u=>if u=v then eF n t dist u else 0) n=eF n t dist v:=by
  rw[jo b (fun u _ hu=>if_neg hu)];simp
 unfold ez at h1⊢;omega
theorem kF (m:Nat):1+(m:Int)<=2 ^ m:=by
 induction m with
 |zero=>decide
 |succ m a=>rw[Int.pow_succ];omega
def fy (n:Nat) (t:Nat->Nat->Int) (dist:Nat->Int) (B k:Int):Int:=B*2 ^ (ez n t dist k).toNat
theorem oa {n:Nat} {t:Nat->Nat->Int} (dist:Nat->Int) {B:Int} (a:0<=B) (k:Int):B<=fy n t dist B k:=by
 unfold fy;have h:(1:Int)<=2 ^ (ez n t dist k).toNat:=by have:=kF (ez n t dist k).toNat;omega
 have:=Int.mul_le_mul_of_nonneg_left h a;omega
theorem p9 {n:Nat} {t:Nat->Nat->Int} (a:Wt n t) (dist:Nat->Int) {B:Int} (e:0<=B) (g:sN (val n t) n<=19) (k:Int):fy n t dist B k<=B*512:=by
 unfold fy;have h1:=tB a dist k;have h:=A_ a dist;have b:(ez n t dist k).toNat<=9:=by omega
 refine Int.mul_le_mul_of_nonneg_left ?_ e;generalize (ez n t dist k).toNat=m at b;have:∀m:Nat,m<=9->(2:Int) ^ m<=512:=by decide
 exact this m b
theorem Bb {n:Nat} {t:Nat->Nat->Int} (e:Wt n t) (dist:Nat->Int) {B:Int} (i:0<=B) (k:Int) {v:Nat} (j:v<n) (hd:dist v=k-1):fy n t dist B k*(1+eF n t dist v)<=fy n t dist B (k-1):=by
 unfold fy;have h1:=Ba e dist k j hd;have l:=tB e dist k;have o:=lP e dist v;obtain⟨m,hm⟩:=Int.eq_ofNat_of_zero_le o;obtain⟨a,g⟩:=Int.eq_ofNat_of_zero_le l.1;rw[hm,g];rw[hm,g] at h1;obtain⟨b,hb⟩:∃b:Nat,ez n t dist (k-1)=((a+m+b:Nat):Int):=⟨(ez n t dist (k-1)).toNat-a-m,by omega⟩;rw[hb,Int.toNat_natCast,Int.toNat_natCast,Int.mul_assoc];refine Int.mul_le_mul_of_nonneg_left ?_ i;have p:=kF m;have h:(0:Int)<=2 ^ a:=by have:=kF a;omega
 have s:=Int.mul_le_mul_of_nonneg_left p h;have q:(1:Int)<=2 ^ b:=by have:=kF b;omega
 have r:(0:Int)<=2 ^ a*2 ^ m:=Int.mul_nonneg h (by have:=kF m;omega);have u:=Int.mul_le_mul_of_nonneg_left q r;rw[Int.pow_add,Int.pow_add];omega
theorem Bc {n:Nat} {t:Nat->Nat->Int} (a:Wt n t) (dist:Nat->Int) {B:Int} (e:0<=B) (k:Int):fy n t dist B k<=fy n t dist B (k-1):=by
 unfold fy;have h1:ez n t dist k<=ez n t dist (k-1):=cT fun v _=>by
  show (if k<=dist v then eF n t dist v else 0)<=(if k-1<=dist v then eF n t dist v else 0)
  have:=lP a dist v;split
  ·rw[if_pos (by omega)];omega
  ·split<;>omega
 refine Int.mul_le_mul_of_nonneg_left ?_ e;obtain⟨b,hb⟩:∃b:Nat,(ez n t dist (k-1)).toNat=(ez n t dist k).toNat+b:=⟨(ez n t dist (k-1)).toNat- (ez n t dist k).toNat,by omega⟩;rw[hb,Int.pow_add];have g:(0:Int)<=2 ^ (ez n t dist k).toNat:=by have:=kF (ez n t dist k).toNat;omega
 have h:(1:Int)<=2 ^ b:=by have:=kF b;omega
 have:=Int.mul_le_mul_of_nonneg_left h g;omega
def bF (dist:Nat->Int) (k:Int) (u:Nat):Bool:=decide (dist u<k)
structure fa (n:Nat) (t:Nat->Nat->Int) (D dist:Nat->Int) (B k:Int) (d s:Nat->Int):Prop where
 eq:∀v,v<n->d v=D v-aV n t s v
 j4:∀v,v<n->k<dist v->0<=d v
 low:∀v,v<n-> -fy n t dist B k<=d v
 s0:∀v,v<n->0<=s v/\s v<=(n-k)*(B*512)
theorem fa.start {n:Nat} {t:Nat->Nat->Int} {D dist:Nat->Int} {B k:Int} (b:0<=B) (e:∀v,v<n-> -B<=D v) (hk:∀v,v<n->dist v<=k) (g:k<=n):fa n t D dist B k D (fun _=>0):=by
 refine⟨fun v _=>by rw[jV];omega,fun v a h=>by have:=hk v a;omega,fun v a=>?_,fun v _=>⟨Int.le_refl _,Int.mul_nonneg (by omega) (by omega)⟩⟩;have:=oa (n:=n) (t:=t) dist b k;have:=e v a;omega
theorem fa.step {n:Nat} {t:Nat->Nat->Int} (b:Wt n t) {D dist:Nat->Int} {B k:Int} (i:0<=B) (x:sN (val n t) n<=19) (o:∀u v,u<n->v<n->0<t u v->dist v<=dist u+1) {d s:Nat->Int} (h:fa n t D dist B k d s) {T:Int} (j:0<=T) (y:T<=fy n t dist B k)
  (z:∀v,v<n->dist v=k->d v<0-> -d v<=T*sN (fun u=>if bF dist k u=true then t v u else 0) n) {d' s':Nat->Int} (l:∀v,v<n->d' v=d v-T*aV n t (ind (bF dist k)) v) (p:∀v,v<n->s' v=s v+T*ind (bF dist k) v):fa n t D dist B (k-1) d' s':=by
 have g:∀v,v<n->(k<dist v->aV n t (ind (bF dist k)) v=0)/\(dist v=k->aV n t (ind (bF dist k)) v= -sN (fun u=>if bF dist k u=true then t v u else 0) n)/\(dist v<k-1->aV n t (ind (bF dist k)) v=0)/\(dist v=k-1->0<=aV n t (ind (bF dist k)) v/\aV n t (ind (bF dist k)) v<=eF n t dist v):=by
  intro v a;rw[pN];refine⟨fun hk=>?_,fun hk=>?_,fun hk=>?_,fun hk=>?_⟩
  ·rw[if_neg (by unfold bF;simp;omega),gG fun u hu=>?_]; · rfl
   show (if bF dist k u=true then t v u else 0)=0
   split
   ·rename_i hn
    have h1:=of_decide_eq_true hn;have m:=b.pos v u;by_cases e:0<t v u
    ·rw[b.sym] at e
     have:=o u v hu a e;omega
    ·omega
   ·rfl
  ·rw[if_neg (by unfold bF;simp;omega)]
  ·rw[if_pos (by unfold bF;simp;omega)]
   refine gG fun u hu=>?_
   show (if bF dist k u=false then t v u else 0)=0
   split
   ·rename_i hn
    have h1:=of_decide_eq_false hn;have m:=b.pos v u;by_cases e:0<t v u
    ·have:=o v u a hu e
     omega
    ·omega
   ·rfl
  ·rw[if_pos (by unfold bF;simp;omega)]
   refine⟨dm fun u _=>?_,cT fun u _=>?_⟩
   ·show 0<=(if bF dist k u=false then t v u else 0)
    have:=b.pos v u;split<;>omega
   ·show (if bF dist k u=false then t v u else 0)<=(if dist v<dist u then t v u else 0)
    have:=b.pos v u;by_cases e:bF dist k u=false
    ·have h1:=of_decide_eq_false e
     rw[if_pos e,if_pos (by omega)];omega
    ·rw[if_neg e];split<;>omega
 have G:0<=fy n t dist B k:=by have:=oa (n:=n) (t:=t) dist i k;omega
 refine⟨fun v a=>?_,fun v a hk=>?_,fun v a=>?_,fun v a=>?_⟩
 ·have e:aV n t s' v=aV n t s v+T*aV n t (ind (bF dist k)) v:=by
   rw[lE (r:=fun u=>s u+T*ind (bF dist k) u) (fun u hu=>p u hu) a,kB,sO]
  rw[l v a,h.eq v a,e];omega
 ·rw[l v a]
  by_cases e:k<dist v
  ·rw[(g v a).1 e]
   have:=h.j4 v a e;omega
  ·have q:dist v=k:=by omega
   rw[(g v a).2.1 q,Int.mul_neg];have h1:0<=T*sN (fun u=>if bF dist k u=true then t v u else 0) n:=Int.mul_nonneg j (dm fun u _=>by
    show 0<=(if bF dist k u=true then t v u else 0)
    have:=b.pos v u;split<;>omega)
   by_cases C:d v<0
   ·have:=z v a q C
    omega
   ·omega
 ·rw[l v a]
  have H:=h.low v a;have hm:=Bc b dist i k;by_cases E:k<dist v
  ·rw[(g v a).1 E];omega
  by_cases e2:dist v=k
  ·rw[(g v a).2.1 e2,Int.mul_neg]
   have h1:0<=T*sN (fun u=>if bF dist k u=true then t v u else 0) n:=Int.mul_nonneg j (dm fun u _=>by
    show 0<=(if bF dist k u=true then t v u else 0)
    have:=b.pos v u;split<;>omega)
   omega
  by_cases F:dist v<k-1
  ·rw[(g v a).2.2.1 F];omega
  have w:dist v=k-1:=by omega
  obtain⟨l1,l2⟩:=(g v a).2.2.2 w;have h1:=Bb b dist i k a w;have m:=Int.mul_le_mul_of_nonneg_left l2 j;have I:=Int.mul_le_mul_of_nonneg_right y (lP b dist v);rw[Int.mul_add] at h1;omega
 ·have h1:=h.s0 v a
  have m:=p9 b dist i x k;rw[p v a];have e:(n- (k-1))*(B*512)=(n-k)*(B*512)+B*512:=by
   rw[show (n:Int)- (k-1)=(n-k)+1 by omega,Int.add_mul,Int.one_mul]
  rw[e];unfold ind;split
  ·rw[Int.mul_one];omega
  ·rw[Int.mul_zero];omega
end Go.Proofs.YtffdiakgjakngaaGreat.T
namespace Go.Proofs.YtffdiakgjakngaaGreat.P
open Go.RowKit Go.Proofs.YtffdiakgjakngaaGreatW.PrintWords Go.Proofs.YtffdiakgjakngaaGreatW.PrintLast Go.Proofs.YtffdiakgjakngaaGreatW.PrintMore
set_option linter.unusedVariables false
set_option linter.unusedSimpArgs false
set_option maxHeartbeats 8000000
set_option maxRecDepth 100000
theorem tC:(Tryz.prog.info? 205).map (fun i=>(i.zero,i.size,i.bytes))=some (some (.agg #[.int .i64 0,.int .i64 0]),2,16):=by kernel_rfl
def cK (E:List S83):Nat->Nat
 |0=>0
 |i+1=>cK E i+(ae E i).f2.toNat
def eQ (E:List S83):Bool:=decide (E.length<=40)&&E.all fun x=>decide (1<=x.f2/\x.f2<=50)
theorem od {E:List S83} (h:∀k,k<E.length->1<=(ae E k).f2/\(ae E k).f2<=50):∀i,i<=E.length->cK E i<=50*i
 |0,_=>by simp[cK]
 |i+1,hi=>by
  have h1:=od h i (by omega);have a:=h i (by omega);simp only[cK];omega
theorem p_ {E:List S83} (h:eQ E=true):E.length<=40/\∀k,k<E.length->1<=(ae E k).f2/\(ae E k).f2<=50:=by
 simp only[eQ,Bool.and_eq_true,decide_eq_true_eq,List.all_eq_true] at h;refine⟨h.1,fun k hk=>?_⟩;have e:ae E k=E[k]:=by simp[ae,bb,bP hk]
 rw[e];exact h.2 _ (List.getElem_mem hk)
def lQ.f (N:Int) (E:List S83):Option Int:=if eQ E=true then some (cK E E.length:Nat) else none
theorem Be (N:Int) (A0:Option Addr) (c0:Nat) (E:List S83) (w:World) (S:Kd.C aN w A0 E.length E) (H:eQ E=true):
  Calls Tryz.prog 130 #[.agg #[.int .i64 N,.slice A0 E.length c0]] w fun e w'=>∃A c,e= .returned (.slice A (cK E E.length) c)/\Below w.heap.size w w':=by
 have hu:=Tryz.underlying24;have aB:=Tryz.underlying83;obtain⟨hlen,hm⟩:=p_ H;have aY:=fun i hi=>od hm i hi
 have T:=zA hm;have U:=zA aY;clear hm aY H;obtain⟨i0,I,J,K,L⟩:=info_parts tC;have V:=zA I;have W:=zA J;have X:=zA K;have Y:=zA L;clear I J K L;go_enter Tryz.func130,Tryz.ntmps130
 go_wp2;have u:(w.alloc (.cells #[.int .i64 N,.slice A0 E.length c0] 24)).heap[w.heap.size]? =some (.cells #[.int .i64 N,.slice A0 E.length c0] 24 (0,0)):=by simpa using bl w _
 have y:=ao (al w.heap.size w) (.cells #[.int .i64 N,.slice A0 E.length c0] 24);have Z:w.heap.size<=w.heap.size:=aI _;generalize z:w.heap.size=gb at u Z⊢;rw[z] at y;generalize (w.alloc (.cells #[.int .i64 N,.slice A0 E.length c0] 24))=W0 at u y⊢;go_loopw [3,4] (fun v i wr=>∃(k:Nat) (xs:List Value),k<=E.length/\i= .int .i64 k/\Aside0 (wr.ownsRow gb 205 2 v (cK E k) xs)/\Aside0 (wr.heap[gb]? =some (.cells #[.int .i64 N,.slice A0 E.length c0] 24 (0,0)))/\Aside0 (Below gb w wr)) (fun _ i _=>E.length- (intOf i).toNat)
 case atStart=>exact⟨0,[],Nat.zero_le _,rfl,⟨rp _ _ _ _⟩,⟨u⟩,⟨y⟩⟩
 case round=>
  obtain⟨k,xs,hk,rfl,h,g,l⟩:=hrel;have B:wr.cell? ⟨gb,0,none⟩=some (.int .i64 N):=(ai g.out 0).trans rfl;have D:wr.cell? ⟨gb,1,none⟩=some (.slice A0 E.length c0):=(ai g.out 1).trans rfl;by_cases F:k<E.length
  ·obtain⟨M,rfl⟩:∃M:World,M=wr:=⟨_,rfl⟩
   have O:=T.out k F;have s:cK E (k+1)=cK E k+(ae E k).f2.toNat:=rfl;have aa:=U.out (k+1) (by omega);have P:=Lib.hid s;obtain⟨ad,rfl,n,o,q⟩:=dB S k (by omega) (by omega);rw[aQ] at n o q;generalize ae E k=x at O n o q P s;obtain⟨a,b,m⟩:=x;simp only at O n o q;obtain⟨m,rfl⟩:=Int.eq_ofNat_of_zero_le (show 0<=m by omega);simp only[aQ] at s;have aF:cK E k+m<=2000:=by omega
   have aL:(0:Int)<=(k:Int):=by omega
   have aO:(k:Int)<(E.length:Int):=by omega
   have ab:=zA n;have am:=zA o;have an:=zA q;have G:(ad.add (k*3)).block<gb:=by rw[<-z];exact a8 w _ n
   clear n o q s aa;go_wp2;go_loopw [3,5] (fun v i wr=>∃(j:Nat) (xs:List Value),j<=m/\i= .int .i64 j/\Aside0 (wr.ownsRow gb 205 2 v (cK E k+j) xs)/\Aside0 (wr.heap[gb]? =some (.cells #[.int .i64 N,.slice (some ad) E.length c0] 24 (0,0)))/\Aside0 (Below gb w wr)) (fun _ i _=>m- (intOf i).toNat)
   case atStart=>exact⟨0,xs,Nat.zero_le _,rfl,h,g,l⟩
   case round=>
    clear B D h g l;obtain⟨j,ys,hj,rfl,h,g,l⟩:=hrel;have B:wr.cell? ⟨gb,0,none⟩=some (.int .i64 N):=(ai g.out 0).trans rfl;have D:wr.cell? ⟨gb,1,none⟩=some (.slice (some ad) E.length c0):=(ai g.out 1).trans rfl;have n:=(l.out.cell (p:=ad.add (k*3)) G).trans ab.out;have o:=(l.out.cell (p:=⟨(ad.add (k*3)).block,(ad.add (k*3)).off+1,none⟩) G).trans am.out;have q:=(l.out.cell (p:=⟨(ad.add (k*3)).block,(ad.add (k*3)).off+2,none⟩) G).trans an.out;by_cases aS:j<m
    ·have Q:u3.ownBlock≠some gb:=fun e=>rz h.out g.out (by decide) e.symm
     have R:u3.ownBlock≠some (ad.add (k*3)).block:=fun e=>by have:=jK h.out _ e;omega
     have lg:gb<wr.heap.size:=az g.out;have la:(ad.add (k*3)).block<wr.heap.size:=by omega
     go_wp2;go_region_held3 (fun w'=>w'.cell? ⟨gb,1,none⟩=some (.slice (some ad) E.length c0)/\w'.cell? (ad.add (k*3))=some (.int .i64 a)/\w'.cell? ⟨(ad.add (k*3)).block,(ad.add (k*3)).off+1,none⟩=some (.int .i64 b))
      (first
       |go_keep
       |(
         go_split_ands
         refine⟨?_,?_,?_⟩
         ·(rw[r.cell_far ⟨gb,1,none⟩ (by simp;omega) (Ne.symm Q)];assumption)
         ·(rw[r.cell_far (ad.add (k*3)) (by simp;omega) (Ne.symm R)];assumption)
         ·(rw[r.cell_far ⟨(ad.add (k*3)).block,(ad.add (k*3)).off+1,none⟩ (by simp;omega) (Ne.symm R)];assumption)))
      ((refine step_append_lies _ (by rfl) _ _ _ (by rfl) gb 205 i0 _ 2 16 Tryz.underlying156 V.out W.out X.out Y.out rfl (by omega) u3 (cK E k+j) ys (by rfl) ((h.out.alloc _).drew) ⟨wr.heap.size,0,none⟩ 1 1 [.int .i64 a,.int .i64 b] (by rfl) (by rfl) (World.news_of_block (cs:=#[.int .i64 a,.int .i64 b]) (t:=205) (fr:=(0,0)) (bl wr _)) (by simp[Value.oneCell']) (by omega) (by unfold maxLen;omega) (by omega) (by simp;omega) (wr.heap.size+1) (by simp) ?_;intro gg cap w1 ap r ar F))
     have n1:=zA (cS (eI (aw g.out _)) r (Ne.symm Q));have n2:=zA (Below.grown (bU (l.out.alloc (by omega) _)) r (by simp;omega) (jK h.out));clear r ar F n o q B D;go_wp2;go_roundw
     case rel=>exact⟨j+1,_,by omega,by go_num,⟨by rw[<-Nat.add_assoc];exact ap⟩,n1,n2⟩
     case measure=>(show m- ((j:Int)+1).toNat<m- ((j:Int)).toNat;omega)
    ·obtain rfl:j=m:=by omega
     go_wp2;exact⟨⟨k+1,ys,by omega,by go_num,⟨by rw[P.out,aQ];exact h.out⟩,g,l⟩,(show E.length- ((k:Int)+1).toNat<E.length- ((k:Int)).toNat by omega)⟩
  ·obtain rfl:k=E.length:=by omega
   go_wp2;go_ret;obtain⟨A,c,rfl⟩:=ru h.out;exact⟨A,c,rfl,by rw[z];exact l.out⟩
theorem lQ.calls (b:Int) (g:Option Addr) (i:Nat) (a:List (S83)) (r:Int) (w:World) (j:Kd.C aN w g a.length a) (m:a.length<=i) (h:lQ.f b a=some r):
  Calls Tryz.prog 73 #[.agg #[.int .i64 b,.slice g a.length i]] w fun e w'=>e= .returned (.int .i64 r)/\Below w.heap.size w w':=by
 unfold lQ.f at h;split at h
 case isFalse=>cases h
 rename_i k;injection h with h
 subst h;go_enter Tryz.func73,Tryz.ntmps73
 go_wp2_with (first|(go_at_call 130;refine(Be b g i a _ (Kd.bE j _) k).mono ?_;rintro e w1 ⟨A,c,rfl,hb⟩;have l:=zA (a7 (ao (al w.heap.size w) _) hb);clear hb))
 go_ret;exact⟨rfl,l.out⟩
section
structure oe (cs:Array Value) (n:Int) (times:Nat->Nat->Int) (chips:Value) (burnt:Nat->Bool):Prop where
 size:cs.size=158
 n:cs[0]? =some (.int .i64 n)
 times:∀i j,i<12->j<12->cs[1+i*12+j]? =some (.int .i64 (times i j))
 chips:cs[145]? =some chips
 burnt:∀i,i<12->cs[146+i]? =some (.bool (burnt i))
def cF (w:World) (g:Nat) (n:Int) (times:Nat->Nat->Int) (chips:Value) (burnt:Nat->Bool):Prop:=
 ∃cs:Array Value,w.heap[g]? =some (.cells cs 252 (0,0))/\oe cs n times chips burnt
namespace cF
variable {w w':World} {g:Nat} {n:Int} {times:Nat->Nat->Int} {chips:Value} {burnt:Nat->Bool}
theorem lt (h:cF w g n times chips burnt):g<w.heap.size:=by
 obtain⟨cs,hb,_⟩:=h;exact(Array.getElem?_eq_some_iff.1 hb).1
theorem cellAt {cs:Array Value} {k:Nat} {v:Value} (hb:w.heap[g]? =some (.cells cs 252 (0,0))) (a:cs[k]? =some v):w.cell? ⟨g,k,none⟩=some v:=(ai hb k).trans a
theorem oh (h:cF w g n times chips burnt):w.cell? ⟨g,0,none⟩=some (.int .i64 n):=by
 obtain⟨cs,hb,a⟩:=h;exact cellAt hb a.n
theorem mJ (h:cF w g n times chips burnt) (i j:Nat) (hi:i<12) (a:j<12):w.cell? ⟨g,1+i*12+j,none⟩=some (.int .i64 (times i j)):=by
 obtain⟨cs,hb,b⟩:=h;exact cellAt hb (b.times i j hi a)
theorem Bg (h:cF w g n times chips burnt):w.cell? ⟨g,145,none⟩=some chips:=by
 obtain⟨cs,hb,a⟩:=h;exact cellAt hb a.chips
theorem lR (h:cF w g n times chips burnt) (i:Nat) (hi:i<12):w.cell? ⟨g,146+i,none⟩=some (.bool (burnt i)):=by
 obtain⟨cs,hb,a⟩:=h;exact cellAt hb (a.burnt i hi)
theorem frozen (h:cF w g n times chips burnt) (k:Nat):w.frozen? ⟨g,k,none⟩=false:=by
 obtain⟨cs,hb,_⟩:=h;exact bD hb k
theorem below (h:cF w g n times chips burnt) (hb:Below w.heap.size w w'):cF w' g n times chips burnt:=by
 obtain⟨cs,a,b⟩:=h;exact⟨cs,aJ a hb,b⟩
theorem drew (h:cF w g n times chips burnt):cF w.drew g n times chips burnt:=h
theorem eX (h:cF w g n times chips burnt) {α:Type} {d:Kd α} {e base:Nat} {ok:Nat->Prop} {v:Value} {xs:List α} (a:d.R e w base ok v xs) (b:∀q,q∈e::d.E->q≠252) (j:Nat) (u:Value):d.R e (w.setCell ⟨g,j,none⟩ u) base ok v xs:=by
 obtain⟨cs,hb,_⟩:=h;exact Kd.eX a hb b j u
theorem drewN (h:cF w g n times chips burnt) (m:Nat):cF (w.drewN m) g n times chips burnt:=h
theorem tD (h:cF w g n times chips burnt) (i:Nat) (hi:i<12) (b:Bool):cF (w.setCell ⟨g,146+i,none⟩ (.bool b)) g n times chips (fun j=>if j=i then b else burnt j):=by
 obtain⟨cs,l,a⟩:=h;refine⟨cs.setIfInBounds (146+i) (.bool b),by simpa using bR l (146+i) (.bool b),?_,?_,?_,?_,?_⟩
 ·simp[a.size]
 ·rw[Array.getElem?_setIfInBounds_ne (by omega)];exact a.n
 ·intro k j hk m
  rw[Array.getElem?_setIfInBounds_ne (by omega)];exact a.times k j hk m
 ·rw[Array.getElem?_setIfInBounds_ne (by omega)];exact a.chips
 ·intro k hk
  have o:=a.size;by_cases e:k=i
  ·subst e
   rw[Array.getElem?_setIfInBounds_self_of_lt (by omega)];simp
  ·rw[Array.getElem?_setIfInBounds_ne (by omega),if_neg e];exact a.burnt k hk
theorem mK (h:cF w g n times chips burnt) (i j:Nat) (hi:i<12) (q:j<12) (x:Int):cF (w.setCell ⟨g,1+i*12+j,none⟩ (.int .i64 x)) g n (fun a b=>if a=i/\b=j then x else times a b) chips burnt:=by
 obtain⟨cs,o,m⟩:=h;refine⟨cs.setIfInBounds (1+i*12+j) (.int .i64 x),by simpa using bR o (1+i*12+j) (.int .i64 x),?_,?_,?_,?_,?_⟩
 ·simp[m.size]
 ·rw[Array.getElem?_setIfInBounds_ne (by omega)];exact m.n
 ·intro k l hk p
  have r:=m.size;by_cases e:k=i/\l=j
  ·obtain⟨rfl,rfl⟩:=e
   rw[Array.getElem?_setIfInBounds_self_of_lt (by omega)];simp
  ·rw[Array.getElem?_setIfInBounds_ne (by omega),if_neg e];exact m.times k l hk p
 ·rw[Array.getElem?_setIfInBounds_ne (by omega)];exact m.chips
 ·intro k hk
  rw[Array.getElem?_setIfInBounds_ne (by omega)];exact m.burnt k hk
end cF
theorem Bh {k:IntKind} {a b:Int} (h:a=b):Ending.returned (.int k a)= .returned (.int k b):=by rw[h]
def dF (times:Nat->Nat->Int) (burnt:Nat->Bool) (v:Nat):Nat->Int
 |0=>0
 |u+1=>dF times burnt v u+(if burnt u then times v u else 0)
theorem p' {times:Nat->Nat->Int} {burnt:Nat->Bool} (h:∀i j,0<=times i j/\times i j<=50) (v:Nat):∀u:Nat,0<=dF times burnt v u/\dF times burnt v u<=50*u
 |0=>by simp[dF]
 |u+1=>by
  have h1:=p' h v u (burnt:=burnt);have a:=h v u;simp only[dF];split<;>omega
theorem Bi (g:Nat) (n v:Nat) (times:Nat->Nat->Int) (chips:Value) (burnt:Nat->Bool) (w:World) (hn:n<=12) (p:v<12) (h:∀i j,0<=times i j/\times i j<=50) (hw:cF w g n times chips burnt):
  Calls Tryz.prog 227 #[.pointer (some ⟨g,0,none⟩),.int .i64 v] w fun e w'=>e= .returned (.int .i64 (dF times burnt v n))/\w=w':=by
 have q:=hw.oh;go_enter Tryz.func227,Tryz.ntmps227
 go_wp2;go_loop [5,6,11] (fun s _ u=>∃k:Nat,k<=n/\u= .int .i64 k/\s= .int .i64 (dF times burnt v k)) (fun _ _ u=>n- (intOf u).toNat)
 case atStart=>exact⟨0,Nat.zero_le _,rfl,rfl⟩
 case round=>
  obtain⟨k,hk,rfl,rfl⟩:=hrel;have hb:=p' (burnt:=burnt) h v k;by_cases r:k<n
  ·have l:=hw.lR k (by omega)
   have x:=hw.mJ v k p (by omega);have y:=h v k;have m:dF times burnt v (k+1)=dF times burnt v k+(if burnt k then times v k else 0):=rfl;have o:=Lib.hid m;clear m;cases a:burnt k with
   |true=>
    rw[a] at l;have b:=Lib.hid a;clear a;go_wp2;go_round
    case rel=>exact⟨k+1,by omega,by go_num,by rw[o.out,b.out];rfl⟩
    case measure=>simp[intOf];omega
   |false=>
    rw[a] at l;have b:=Lib.hid a;clear a;go_wp2;go_round
    case rel=>exact⟨k+1,by omega,by go_num,by rw[o.out,b.out];simp⟩
    case measure=>simp[intOf];omega
  ·go_wp2
   go_ret;exact⟨Bh (by rw[show k=n from by omega]),rfl⟩
theorem Bj (g:Nat) (n v:Nat) (times:Nat->Nat->Int) (chips:Value) (burnt:Nat->Bool) (w:World) (a:v<12) (hw:cF w g n times chips burnt) (hb:burnt v=true):
  Calls Tryz.prog 226 #[.pointer (some ⟨g,0,none⟩),.int .i64 v] w fun e w'=>e= .returned (.bool false)/\aA w w':=by
 have b:=hw.lR v a;rw[hb] at b;clear hb;have h:(0:Int)<=(v:Int):=by omega
 have i:(v:Int)<12:=by omega
 go_enter Tryz.func226,Tryz.ntmps226
 go_wp2_with fail
 go_quiet (fail)
 go_wp2;go_ret;exact⟨rfl,by repeat(first|exact aA.refl _|apply aA.step)⟩
theorem Bl (g:Nat) (n v:Nat) (times:Nat->Nat->Int) (A:Option Addr) (c:Nat) (l:List Int) (burnt:Nat->Bool) (w:World) (hn:n<=12) (a:v<12) (p:v<l.length) (k:∀i j,0<=times i j/\times i j<=50) (hw:cF w g n times (.slice A l.length c) burnt) (b:Kd.C (Kd.int .i64) w A l.length l) (hb:burnt v=false):
  Calls Tryz.prog 226 #[.pointer (some ⟨g,0,none⟩),.int .i64 v] w fun e w'=>e= .returned (.bool (decide (rd l v<dF times burnt v n)))/\aA w w':=by
 have m:=hw.lR v a;have q:=hw.Bg;rw[hb] at m;clear hb;have r:=b.2.1;obtain⟨ad,rfl,o⟩:=Kd.bT b v (by omega) (by omega);rw[aQ] at o;have s:(0:Int)<=(v:Int):=by omega
 have u:(v:Int)<(l.length:Int):=by omega
 have x:(v:Int)<12:=by omega
 go_enter Tryz.func226,Tryz.ntmps226
 go_wp2_with fail
 go_quiet ((go_at_call 227;refine Calls.quiet_of_same ((Bi g n v times _ burnt (w.drewN _) hn a k (hw.drewN _)).mono (fun e w' h=>⟨h.1,h.2.symm⟩))))
 go_wp2;go_ret;exact⟨rfl,by repeat(first|exact aA.refl _|apply aA.step)⟩
def gM (burnt:Nat->Bool):Nat->List Int
 |0=>[]
 |u+1=>gM burnt u++(if burnt u then[] else[(u:Int)])
theorem tE (burnt:Nat->Bool):∀u,(gM burnt u).length<=u
 |0=>by simp[gM]
 |u+1=>by
  have:=tE burnt u;simp only[gM,List.length_append];split<;>simp<;>omega
theorem Bm (g:Nat) (n:Nat) (times:Nat->Nat->Int) (chips:Value) (burnt:Nat->Bool) (w:World) (hn:n<=12) (hw:cF w g n times chips burnt):
  Calls Tryz.prog 222 #[.pointer (some ⟨g,0,none⟩)] w fun e w'=>∃l:Value,e= .returned l/\Kd.R (Kd.int .i64) 3 w' w.heap.size (fun _=>True) l (gM burnt n)/\Below w.heap.size w w':=by
 have r:=hw.oh;go_enter Tryz.func222,Tryz.ntmps222
 go_wp2;go_loopw [3,4,9] (fun s _ u wr=>∃k:Nat,k<=n/\u= .int .i64 k/\Aside0 (Kd.R (Kd.int .i64) 3 wr w.heap.size (fun _=>True) s (gM burnt k))/\Aside0 (Below w.heap.size w wr)) (fun _ _ u _=>n- (intOf u).toNat)
 case atStart=>exact⟨0,Nat.zero_le _,rfl,⟨Kd.dc _ _ _ _ _⟩,⟨al _ _⟩⟩
 case round=>
  obtain⟨k,hk,rfl,h,b⟩:=hrel;have hlen:=tE burnt k;by_cases y:k<n
  ·have i:=hw.below b.out
   have m:=i.lR k (by omega);have r:=i.oh;clear i;have o:gM burnt (k+1)=gM burnt k++(if burnt k then[] else[(k:Int)]):=rfl;have p:=Lib.hid o;clear o;cases a:burnt k with
   |true=>
    rw[a] at m;have j:=Lib.hid a;clear a;go_wp2;go_roundw
    case rel=>exact⟨k+1,by omega,by go_num,⟨by rw[p.out,j.out];simpa using h.out⟩,b⟩
    case measure=>simp[intOf];omega
   |false=>
    rw[a] at m;have j:=Lib.hid a;clear a;go_wp2_with (at_builtin;refine Kd.l7 (Kd.int .i64) (w0:=w) w.heap.size rfl (.tmp 19) (.tmp 21) 25 3 (.int .i64 0) 8 rfl Tryz.underlying25 gD rfl (by decide) (by omega) _ (gM burnt k) (k:Int) [.int .i64 k] (fun _=>True) (fun _=>False) rfl rfl rfl (fun _ hk=>hk.elim) (fun _ _=>trivial) h.out b.out b.out.size (by omega) ?_;intro v1 w1 q hb _ _;have v:=zA q;have x:=zA hb;clear q hb)
    go_roundw
    case rel=>exact⟨k+1,by omega,by go_num,⟨by rw[p.out,j.out];exact v.out⟩,x⟩
    case measure=>simp[intOf];omega
  ·go_wp2
   go_ret;obtain rfl:k=n:=by omega
   exact⟨_,rfl,h.out,b.out⟩
end
end Go.Proofs.YtffdiakgjakngaaGreat.P


