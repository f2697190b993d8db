/- Canons answers true whatever the input (text 5 of 7): own walks and plain laws; no conditions. -/
import Derived.BigQuiet
import Derived.Deep.QuietTactic
import Derived.Deep.RegionLaw
import Derived.DeepKeys3
import Derived.Laws.CopyOwn
import Derived.Laws.CopyRow
import Derived.Maps.Keyed
import Derived.Maps.Own
import Derived.StillTailTactics
import Derived.Test.YtffdiakgjakngaaGreatCanons4
namespace Go.Proofs.YtffdiakgjakngaaGreat.P
open Go.RowKit Go.Proofs.YtffdiakgjakngaaGreatW.PrintWords Go.Proofs.YtffdiakgjakngaaGreatW.PrintLast Go.Proofs.YtffdiakgjakngaaGreatW.PrintMore
set_option linter.unusedVariables false
set_option linter.unusedSimpArgs false
set_option maxHeartbeats 8000000
set_option maxRecDepth 100000
def dp.l0:Nat->List Int->Int->Int->Int->List (S83)->Option (Int)
 |0,_,_,_,_,_=>none
 |k+1,b,e,a,g,h=>if a<e then(if 0<=a then(if a<(b.length:Int) then((fy.f g (rd b a)).bind fun t222=>(if t222=true then(dp.l0 k b e (wrap64 (a+1)) g h) else(some 2))) else(none)) else(none)) else(some 0)
def dp.f (k:Nat) (a:Int) (b:List (S83)) (l1:List Int):Option (Int):=(bj.f k a b).bind fun t220=>(if t220=0 then(dp.l0 k l1 (l1.length:Int) 0 a b) else(some t220))
theorem dp.cm:∀k,(∀a b e g i,aj (dp.l0 k a b e g i) (dp.l0 (k+1) a b e g i))
 |0=>fun _ _ _ _ _ r h=>by simp[dp.l0] at h
 |k+1=>by
  have j:=dp.cm k
  ·intro a b e g i
   unfold dp.l0;with_reducible repeat' first|exact j _ _ _ _ _|exact bj.mono _ _ _|exact aj.refl _|exact aj.none _|refine aj.ite ?_ ?_|refine aj.bind ?_ (fun _=>?_)
theorem dp.mono:∀a0 a a2 k,aj (dp.f k a0 a a2) (dp.f (k+1) a0 a a2):=by
 intro a0 a a2 k;have b:=dp.cm k;unfold dp.f;with_reducible repeat' first|exact b _ _ _ _ _|exact bj.mono _ _ _|exact aj.refl _|exact aj.none _|refine aj.ite ?_ ?_|refine aj.bind ?_ (fun _=>?_)
theorem dp.calls (k:Nat) (g:Int) (l:Option Addr) (m:Nat) (i:List (S83)) (E:Option Addr) (c1:Nat) (l1:List Int) (r:Int) (w:World) (F:Kd.C aT w l i.length i) (G:i.length<=m) (I:Kd.C (Kd.int .i64) w E l1.length l1) (J:l1.length<=c1) (h:dp.f k g i l1=some r):
  Calls Tryz.prog 203 #[.agg #[.int .i64 g,.slice l i.length m],.slice E l1.length c1] w fun e w'=>e= .returned (.int .i64 r)/\Below w.heap.size w w':=by
 have an:=Tryz.underlying24;have K:=zA F;have L:=zA G;clear F G;have M:=zA I;have ap:=zA J;clear I J;have b:=zA (ao w.heap.size w);unfold dp.f at h;have H:=h;clear h;obtain⟨t220,O,H⟩:=zo H;by_cases c4:t220=0
 ·rw[if_pos c4] at H
  obtain⟨P,Q⟩:=bF c4;clear c4;have v:=zA H;clear H;go_enter Tryz.func203,Tryz.ntmps203
  go_wp2_with (first|((with_reducible refine aJ (N:=2) rfl ?_);refine zX 2 #[.int .i64 g,.slice l i.length m] 24 ?_;intro R n w5 u hb;have j:=zA (u);have V:=zG b n;have W:=zG b n;replace b:=zS b hb;clear hb u n;obtain⟨X,Y,Z,aa⟩:=ax j)|((with_reducible refine aC (f:=64) rfl ?_);refine zL (some 9) Tryz.func64 #[.agg #[.int .i64 g,.slice l i.length m]] ?_;(with_reducible refine(bj.calls k g _ _ i t220 _ ?af ?ah O.out).mono ?_);(case af=>exact Kd.au K.out zB);(case ah=>exact L.out);rintro e w7 ⟨rfl,hb⟩;refine⟨_,rfl,?_⟩;replace j:=zb j hb;replace b:=zS b hb;(try clear hb)))
  go_loopg [15] k (fun S ab w'=>∃(a:Int),ab= .int .i64 a/\Aside0 (dp.l0 S l1 (l1.length:Int) a g i=some r)/\Aside0 (S<=k)/\Aside0 (w'.heap[R]? =some (.cells #[.int .i64 g,(.slice l i.length m)] 24 (0,0)))/\Aside0 (Below w.heap.size w w'))
  case atStart=>exact⟨(0),zT,v,⟨aI _⟩,⟨zK j⟩,⟨zB⟩⟩
  case round=>
   clear v;clear P Q X Y Z aa;obtain⟨a,rfl,B,T,j,b⟩:=hrel;cases gk with
   |zero=>exact absurd B.out (by simp[dp.l0])
   |succ k1=>
    have H:=B.out;clear B;simp only[dp.l0] at H;by_cases s:a<(l1.length:Int)
    ·rw[if_pos s] at H
     have ag:=az s;clear s;by_cases x:0<=a
     ·rw[if_pos x] at H
      have aB:=az x;clear x;by_cases y:a<(l1.length:Int)
      ·rw[if_pos y] at H
       have aF:=az y;clear y;obtain⟨t222,U,H⟩:=zo H;by_cases z:t222=true
       ·subst z
        replace H:=zi H;have v:=zA H;clear H;have o:0<=(a:Int):=aw ‹_›;have p:a<(l1.length:Int):=aw ‹_›;obtain⟨ak,D,q⟩:=Kd.bL M.out a o p;cases D;replace q:=(b.out.cell (bs w _ q)).trans q;replace o:=eq_true o;replace p:=eq_true p;obtain⟨aL,aO,aP,aR⟩:=ax j;go_wp2_with (first|((with_reducible refine aC (f:=121) rfl ?_);refine zL (some 22) Tryz.func121 #[.int .i64 g,.int .i64 (rd l1 a)] ?_;(with_reducible refine(fy.calls g (rd l1 a) true _ U.out).mono ?_);rintro e w' ⟨rfl,⟨nd,rfl⟩⟩;refine⟨_,rfl,?_⟩))
        go_roundg k1
        case measure=>have:=T.out;omega
        case rel=>exact⟨(wrap64 (a+1)),zT,v,⟨by have:=T.out;omega⟩,⟨zK j⟩,⟨zB⟩⟩
       ·replace z:=Bool.eq_false_iff.mpr z
        subst z;replace H:=zj H;obtain rfl:=aH H;have o:0<=(a:Int):=aw ‹_›;have p:a<(l1.length:Int):=aw ‹_›;obtain⟨ak,D,q⟩:=Kd.bL M.out a o p;cases D;replace q:=(b.out.cell (bs w _ q)).trans q;replace o:=eq_true o;replace p:=eq_true p;obtain⟨aS,a0,a1,a2⟩:=ax j;go_wp2_with (first|((with_reducible refine aC (f:=121) rfl ?_);refine zL (some 22) Tryz.func121 #[.int .i64 g,.int .i64 (rd l1 a)] ?_;(with_reducible refine(fy.calls g (rd l1 a) false _ U.out).mono ?_);rintro e w' ⟨rfl,⟨nd,rfl⟩⟩;refine⟨_,rfl,?_⟩))
        go_ret;exact⟨zE,zB⟩
      ·rw[if_neg y] at H
       exact absurd H (by simp)
     ·rw[if_neg x] at H
      exact absurd H (by simp)
    ·rw[if_neg s] at H
     have ag:=aZ s;clear s;obtain rfl:=aH H;go_wp2;go_ret;exact⟨zE,zB⟩
 ·rw[if_neg c4] at H
  obtain⟨P,Q⟩:=bI c4;obtain rfl:=aH H;go_enter Tryz.func203,Tryz.ntmps203
  go_wp2_with (first|((with_reducible refine aJ (N:=2) rfl ?_);refine zX 2 #[.int .i64 g,.slice l i.length m] 24 ?_;intro R n a3 u hb;have j:=zA (u);have V:=zG b n;have W:=zG b n;replace b:=zS b hb;clear hb u n;obtain⟨a4,a5,a9,be⟩:=ax j)|((with_reducible refine aC (f:=64) rfl ?_);refine zL (some 9) Tryz.func64 #[.agg #[.int .i64 g,.slice l i.length m]] ?_;(with_reducible refine(bj.calls k g _ _ i t220 _ ?af ?ah O.out).mono ?_);(case af=>exact Kd.au K.out zB);(case ah=>exact L.out);rintro e bf ⟨rfl,hb⟩;refine⟨_,rfl,?_⟩;replace j:=zb j hb;replace b:=zS b hb;(try clear hb)))
  go_ret;exact⟨zE,zB⟩
def cA.l0:Nat->Int->Int->List (S83)->Int->Int->Option (Int×Int)
 |0,_,_,_,_,_=>none
 |k+1,x1,e,b,g,a=>if a<g then(if 0<=a then(if a<(b.length:Int) then(if((ae b a).f0)=((ae b a).f1) then(cA.l0 k x1 e b g (wrap64 (a+1))) else(if((ae b a).f0)=x1 then(cA.l0 k x1 (wrap64 (e+((ae b a).f2))) b g (wrap64 (a+1))) else(if((ae b a).f1)=x1 then(cA.l0 k x1 (wrap64 (e+((ae b a).f2))) b g (wrap64 (a+1))) else(cA.l0 k x1 e b g (wrap64 (a+1)))))) else(none)) else(none)) else(some (e,0))
def cA.f (k:Nat) (e:Int) (a:List (S83)) (b:Int):Option (Int×Int):=(dp.f k e a (([b]:List Int))).bind fun t227=>(if t227=0 then(cA.l0 k b 0 a (a.length:Int) 0) else(some (0,t227)))
theorem cA.cm:∀k,(∀a b e g i,aj (cA.l0 k a b e g i) (cA.l0 (k+1) a b e g i))
 |0=>fun _ _ _ _ _ r h=>by simp[cA.l0] at h
 |k+1=>by
  have j:=cA.cm k
  ·intro a b e g i
   unfold cA.l0;with_reducible repeat' first|exact j _ _ _ _ _|exact dp.mono _ _ _ _|exact aj.refl _|exact aj.none _|refine aj.ite ?_ ?_|refine aj.bind ?_ (fun _=>?_)
theorem cA.mono:∀a0 a a2 k,aj (cA.f k a0 a a2) (cA.f (k+1) a0 a a2):=by
 intro a0 a a2 k;have b:=cA.cm k;unfold cA.f;with_reducible repeat' first|exact b _ _ _ _ _|exact dp.mono _ _ _ _|exact aj.refl _|exact aj.none _|refine aj.ite ?_ ?_|refine aj.bind ?_ (fun _=>?_)
theorem cA.calls (k:Nat) (m:Int) (G:Option Addr) (q:Nat) (b:List (S83)) (r:Int) (W:Int) (X:Int) (w:World) (ar:Kd.C aT w G b.length b) (av:b.length<=q) (h:cA.f k m b r=some (W,X)):
  Calls Tryz.prog 186 #[.agg #[.int .i64 m,.slice G b.length q],.int .i64 r] w fun e w'=>e= .returned (.tuple #[.int .i64 W,.int .i64 X])/\Below w.heap.size w w':=by
 have b':=Tryz.underlying24;have ca:=Tryz.underlying83;have O:=zA ar;have aB:=zA av;clear ar av;have a:=zA (ao w.heap.size w);unfold cA.f at h;have H:=h;clear h;obtain⟨Q,ad⟩:∃y_:List Int,y_=(([r]:List Int)):=⟨_,rfl⟩;replace H:((dp.f k m b Q).bind fun t227=>(if t227=0 then(cA.l0 k r 0 b (b.length:Int) 0) else(some (0,t227))))=some (W,X):=zh ad H;have Y:=zA ad;clear ad;obtain⟨t227,A3,H⟩:=zo H;by_cases c4:t227=0
 ·rw[if_pos c4] at H
  obtain⟨aL,aO⟩:=bF c4;clear c4;have E:=zA H;clear H;go_enter Tryz.func186,Tryz.ntmps186
  go_wp2_with (first|((with_reducible refine aJ (N:=2) rfl ?_);refine zX 2 #[.int .i64 m,.slice G b.length q] 24 ?_;intro n hg w5 p hb;have i:=zA (p);have aS:=zG a hg;have a0:=zG a hg;replace a:=zS a hb;clear hb p hg;obtain⟨a2,a3,a4,a5⟩:=ax i)|((with_reducible refine aJ (N:=12) rfl ?_);refine Kd.eO (Kd.int .i64) _ 3 ?hg (N:=12) ?hd (xs:=([r]:List Int)) (inner:=[.int .i64 r]) (ok:=fun _=>True) (okp:=fun _=>True) ?hr ?hp (fun _ hk=>hk) trivial (ao _ _) (aI _) (by simp) ?_;(case hd=>rfl);(case hg=>rfl);(case hr=>first|(go_simp;done)|(go_simp;rfl));(case hp=>exact(aU.one (show Kd.M (Kd.int .i64) _ _ _ r [.int .i64 r] from rfl) (aU.none _ _)));intro a9 w7 R hb ag ak;clear ag ak;(first|rw[<-Y.out] at R|(simp only[Int.reduceToNat] at R;rw[<-Y.out] at R));have z:=zA (Kd.ba R (bp zB));replace i:=zb i hb;replace a:=zS a hb;clear hb R;obtain⟨be,bf,bg⟩:=Kd.bb z.out;subst bg)|((with_reducible refine aC (f:=203) rfl ?_);refine zL (some 13) Tryz.func203 #[.agg #[.int .i64 m,.slice G b.length q],.slice be Q.length bf] ?_;(with_reducible refine(dp.calls k m _ _ b _ _ Q t227 _ ?af ?ah ?aX ?aW A3.out).mono ?_);(case af=>exact Kd.au O.out zB);(case ah=>exact aB.out);(case aX=>exact zC (Kd.aD z.out).2.2);(case aW=>exact(Kd.aD z.out).2.1);rintro e cd ⟨rfl,hb⟩;refine⟨_,rfl,?_⟩;replace z:=br z hb;replace i:=zb i hb;replace a:=zS a hb;(try clear hb);obtain⟨bi,bk,bn,bo⟩:=ax i))
  go_loopg [7,20] k (fun kq v7 v20 w'=>∃(I:Int) (j:Int),v7= .int .i64 I/\v20= .int .i64 j/\Aside0 (cA.l0 kq r I b (b.length:Int) j=some (W,X))/\Aside0 (kq<=k)/\Aside0 (w'.heap[n]? =some (.cells #[.int .i64 m,(.slice G b.length q)] 24 (0,0)))/\Aside0 (Below w.heap.size w w'))
  case atStart=>exact⟨(0),(0),zT,zT,E,⟨aI _⟩,⟨zK i⟩,⟨zB⟩⟩
  case round=>
   clear E;clear aL aO bi bk a2 a3 bn bo a4 a5;obtain⟨I,j,rfl,rfl,HA,F,i,a⟩:=hrel;cases gk with
   |zero=>exact absurd HA.out (by simp[cA.l0])
   |succ Z=>
    have H:=HA.out;clear HA;simp only[cA.l0] at H;by_cases P:j<(b.length:Int)
    ·rw[if_pos P] at H
     have bw:=az P;clear P;by_cases aa:0<=j
     ·rw[if_pos aa] at H
      have ce:=az aa;clear aa;by_cases ab:j<(b.length:Int)
      ·rw[if_pos ab] at H
       have cf:=az ab;clear ab;by_cases S:((ae b j).f0)=((ae b j).f1)
       ·rw[if_pos S] at H
        obtain⟨bx,b0⟩:=bF S;clear S;have E:=zA H;clear H;have s:0<=(j:Int):=aw ‹_›;have u:j<(b.length:Int):=aw ‹_›;obtain⟨B,J,v,x,y⟩:=eJ O.out j s u;cases J;replace v:=(a.out.cell (bs w _ v)).trans v;replace x:=(a.out.cell (bs w _ x)).trans x;replace y:=(a.out.cell (bs w _ y)).trans y;replace s:=eq_true s;replace u:=eq_true u;go_wp2_with (first|((with_reducible refine aJ (N:=9) rfl ?_);refine zX 9 #[.int .i64 0,.int .i64 0,.int .i64 0] 83 ?_;intro D hg ch p hb;have K:=zA (p);have an:=zG a hg;have ap:=zG a hg;replace a:=zS a hb;have l:=zA ((by rw[hg];exact Nat.ne_of_lt (aE (g:=n) (o:=.cells #[.int .i64 m,.slice (some B) b.length q] 24 (0,0)) (zK i)):n≠D));have L:=zA ((by rw[hg];exact Nat.ne_of_gt (aE (g:=n) (o:=.cells #[.int .i64 m,.slice (some B) b.length q] 24 (0,0)) (zK i)):D≠n));replace i:=zb i hb;clear hb p hg;have ci:=L.out;have cj:=l.out;obtain⟨ck,cl,co,cq,cr,cs⟩:=cg K))
        go_roundg Z
        case measure=>have:=F.out;omega
        case rel=>exact⟨(I),(wrap64 (j+1)),zT,zT,E,⟨by have:=F.out;omega⟩,⟨by refine zk ?_;refine aG ?_ l.out _;refine zk ?_;refine aG ?_ l.out _;refine zk ?_;refine aG ?_ l.out _;exact zK i⟩,⟨zB⟩⟩
       ·rw[if_neg S] at H
        obtain⟨bx,b0⟩:=bI S;by_cases T:((ae b j).f0)=r
        ·rw[if_pos T] at H
         obtain⟨b1,b2⟩:=bF T;clear T;have E:=zA H;clear H;have s:0<=(j:Int):=aw ‹_›;have u:j<(b.length:Int):=aw ‹_›;obtain⟨B,J,v,x,y⟩:=eJ O.out j s u;cases J;replace v:=(a.out.cell (bs w _ v)).trans v;replace x:=(a.out.cell (bs w _ x)).trans x;replace y:=(a.out.cell (bs w _ y)).trans y;replace s:=eq_true s;replace u:=eq_true u;go_wp2_with (first|((with_reducible refine aJ (N:=9) rfl ?_);refine zX 9 #[.int .i64 0,.int .i64 0,.int .i64 0] 83 ?_;intro D hg cv p hb;have K:=zA (p);have an:=zG a hg;have ap:=zG a hg;replace a:=zS a hb;have l:=zA ((by rw[hg];exact Nat.ne_of_lt (aE (g:=n) (o:=.cells #[.int .i64 m,.slice (some B) b.length q] 24 (0,0)) (zK i)):n≠D));have L:=zA ((by rw[hg];exact Nat.ne_of_gt (aE (g:=n) (o:=.cells #[.int .i64 m,.slice (some B) b.length q] 24 (0,0)) (zK i)):D≠n));replace i:=zb i hb;clear hb p hg;have cx:=L.out;have c0:=l.out;obtain⟨c1,c2,c3,c5,c6,c7⟩:=cg K))
         go_roundg Z
         case measure=>have:=F.out;omega
         case rel=>exact⟨(wrap64 (I+((ae b j).f2))),(wrap64 (j+1)),zT,zT,E,⟨by have:=F.out;omega⟩,⟨by refine zk ?_;refine aG ?_ l.out _;refine zk ?_;refine aG ?_ l.out _;refine zk ?_;refine aG ?_ l.out _;exact zK i⟩,⟨zB⟩⟩
        ·rw[if_neg T] at H
         obtain⟨b1,b2⟩:=bI T;by_cases U:((ae b j).f1)=r
         ·rw[if_pos U] at H
          obtain⟨b3,b4⟩:=bF U;clear U;have E:=zA H;clear H;have s:0<=(j:Int):=aw ‹_›;have u:j<(b.length:Int):=aw ‹_›;obtain⟨B,J,v,x,y⟩:=eJ O.out j s u;cases J;replace v:=(a.out.cell (bs w _ v)).trans v;replace x:=(a.out.cell (bs w _ x)).trans x;replace y:=(a.out.cell (bs w _ y)).trans y;replace s:=eq_true s;replace u:=eq_true u;go_wp2_with (first|((with_reducible refine aJ (N:=9) rfl ?_);refine zX 9 #[.int .i64 0,.int .i64 0,.int .i64 0] 83 ?_;intro D hg c8 p hb;have K:=zA (p);have an:=zG a hg;have ap:=zG a hg;replace a:=zS a hb;have l:=zA ((by rw[hg];exact Nat.ne_of_lt (aE (g:=n) (o:=.cells #[.int .i64 m,.slice (some B) b.length q] 24 (0,0)) (zK i)):n≠D));have L:=zA ((by rw[hg];exact Nat.ne_of_gt (aE (g:=n) (o:=.cells #[.int .i64 m,.slice (some B) b.length q] 24 (0,0)) (zK i)):D≠n));replace i:=zb i hb;clear hb p hg;have c9:=L.out;have c':=l.out;obtain⟨dd,dk,dl,ds,dv,d0⟩:=cg K))
          go_roundg Z
          case measure=>have:=F.out;omega
          case rel=>exact⟨(wrap64 (I+((ae b j).f2))),(wrap64 (j+1)),zT,zT,E,⟨by have:=F.out;omega⟩,⟨by refine zk ?_;refine aG ?_ l.out _;refine zk ?_;refine aG ?_ l.out _;refine zk ?_;refine aG ?_ l.out _;exact zK i⟩,⟨zB⟩⟩
         ·rw[if_neg U] at H
          obtain⟨b3,b4⟩:=bI U;have E:=zA H;clear H;have s:0<=(j:Int):=aw ‹_›;have u:j<(b.length:Int):=aw ‹_›;obtain⟨B,J,v,x,y⟩:=eJ O.out j s u;cases J;replace v:=(a.out.cell (bs w _ v)).trans v;replace x:=(a.out.cell (bs w _ x)).trans x;replace y:=(a.out.cell (bs w _ y)).trans y;replace s:=eq_true s;replace u:=eq_true u;go_wp2_with (first|((with_reducible refine aJ (N:=9) rfl ?_);refine zX 9 #[.int .i64 0,.int .i64 0,.int .i64 0] 83 ?_;intro D hg d1 p hb;have K:=zA (p);have an:=zG a hg;have ap:=zG a hg;replace a:=zS a hb;have l:=zA ((by rw[hg];exact Nat.ne_of_lt (aE (g:=n) (o:=.cells #[.int .i64 m,.slice (some B) b.length q] 24 (0,0)) (zK i)):n≠D));have L:=zA ((by rw[hg];exact Nat.ne_of_gt (aE (g:=n) (o:=.cells #[.int .i64 m,.slice (some B) b.length q] 24 (0,0)) (zK i)):D≠n));replace i:=zb i hb;clear hb p hg;have d2:=L.out;have d3:=l.out;obtain⟨d4,d5,d6,d7,d8,d9⟩:=cg K))
          go_roundg Z
          case measure=>have:=F.out;omega
          case rel=>exact⟨(I),(wrap64 (j+1)),zT,zT,E,⟨by have:=F.out;omega⟩,⟨by refine zk ?_;refine aG ?_ l.out _;refine zk ?_;refine aG ?_ l.out _;refine zk ?_;refine aG ?_ l.out _;exact zK i⟩,⟨zB⟩⟩
      ·rw[if_neg ab] at H
       exact absurd H (by simp)
     ·rw[if_neg aa] at H
      exact absurd H (by simp)
    ·rw[if_neg P] at H
     have bw:=aZ P;clear P;simp only[Option.some.injEq,Prod.mk.injEq] at H;obtain⟨rfl,rfl⟩:=H;go_wp2;go_ret2;exact⟨zE,zB⟩
 ·rw[if_neg c4] at H
  obtain⟨aL,aO⟩:=bI c4;simp only[Option.some.injEq,Prod.mk.injEq] at H;obtain⟨rfl,rfl⟩:=H;go_enter Tryz.func186,Tryz.ntmps186
  go_wp2_with (first|((with_reducible refine aJ (N:=2) rfl ?_);refine zX 2 #[.int .i64 m,.slice G b.length q] 24 ?_;intro n hg ea p hb;have i:=zA (p);have aS:=zG a hg;have a0:=zG a hg;replace a:=zS a hb;clear hb p hg;obtain⟨eb,ed,eg,ek⟩:=ax i)|((with_reducible refine aJ (N:=12) rfl ?_);refine Kd.eO (Kd.int .i64) _ 3 ?hg (N:=12) ?hd (xs:=([r]:List Int)) (inner:=[.int .i64 r]) (ok:=fun _=>True) (okp:=fun _=>True) ?hr ?hp (fun _ hk=>hk) trivial (ao _ _) (aI _) (by simp) ?_;(case hd=>rfl);(case hg=>rfl);(case hr=>first|(go_simp;done)|(go_simp;rfl));(case hp=>exact(aU.one (show Kd.M (Kd.int .i64) _ _ _ r [.int .i64 r] from rfl) (aU.none _ _)));intro a9 el V hb ag ak;clear ag ak;(first|rw[<-Y.out] at V|(simp only[Int.reduceToNat] at V;rw[<-Y.out] at V));have z:=zA (Kd.ba V (bp zB));replace i:=zb i hb;replace a:=zS a hb;clear hb V;obtain⟨b5,b6,b_⟩:=Kd.bb z.out;subst b_)|((with_reducible refine aC (f:=203) rfl ?_);refine zL (some 13) Tryz.func203 #[.agg #[.int .i64 m,.slice G b.length q],.slice b5 Q.length b6] ?_;(with_reducible refine(dp.calls k m _ _ b _ _ Q t227 _ ?af ?ah ?aX ?aW A3.out).mono ?_);(case af=>exact Kd.au O.out zB);(case ah=>exact aB.out);(case aX=>exact zC (Kd.aD z.out).2.2);(case aW=>exact(Kd.aD z.out).2.1);rintro e em ⟨rfl,hb⟩;refine⟨_,rfl,?_⟩;replace z:=br z hb;replace i:=zb i hb;replace a:=zS a hb;(try clear hb)))
  go_ret2;exact⟨zE,zB⟩
section
attribute [local go_sem] Oper.semAt_some
theorem vD (N:Int) (ev:Value) (w:World):Calls Tryz.prog 143 #[.agg #[.int .i64 N,ev]] w fun e w'=>e= .returned (.func (.func 185) #[] #[.pointer (some ⟨w.heap.size,0,none⟩)])/\w'=w.alloc (.cells #[.int .i64 N,ev] 24):=by
 go_enter Tryz.func143,Tryz.ntmps143
 go_wp2;go_ret;exact⟨rfl,rfl⟩
def kT (k:Nat) (N:Int) (E:List S83):Nat->Option (List Int)
 |0=>some []
 |v+1=>(kT k N E v).bind fun l=>(cA.f k N E (v:Nat)).bind fun p=>some (l++[p.1])
theorem vE (k:Nat) (N:Int) (E:List S83):∀v,aj (kT k N E v) (kT (k+1) N E v)
 |0=>aj.refl _
 |v+1=>aj.bind (vE k N E v) (fun _=>aj.bind (cA.mono _ _ _ _) (fun _=>aj.refl _))
theorem vF {k:Nat} {N:Int} {E:List S83}:∀{v:Nat} {l:List Int},kT k N E v=some l->l.length=v/\∀u:Nat,u<v->∃e,cA.f k N E (u:Nat)=some (rd l u,e)
 |0,l,h=>by injection h with h;subst h;exact⟨rfl,fun u hu=>by omega⟩
 |v+1,l,h=>by
  obtain⟨l',h1,b⟩:=Option.bind_eq_some_iff.1 h;obtain⟨p,g,a⟩:=Option.bind_eq_some_iff.1 b;injection a with a
  subst a;obtain⟨i1,i2⟩:=vF h1;refine⟨by simp[i1],fun u hu=>?_⟩;by_cases e:u=v
  ·subst e
   refine⟨p.2,?_⟩;rw[g,show rd (l'++[p.1]) (u:Int)=p.1 by simp[rd,bh,<-i1]]
  ·obtain⟨e',i⟩:=i2 u (by omega)
   refine⟨e',?_⟩;rw[i,show rd (l'++[p.1]) (u:Int)=rd l' u by simp[rd,bh,List.getElem?_append_left (show u<l'.length by omega)]]
def gv (L:List Int) (v:Nat):List (Int×Int):=(List.range v).map fun u:Nat=>((u:Int),rd L u)
theorem vG (L:List Int) (v:Nat):gv L (v+1)=gv L v++[((v:Int),rd L v)]:=by simp[gv,List.range_succ]
def DJ (base a:Nat) (X Y:World):Prop:=(base<=X.heap.size->Below base X Y)/\(a<X.heap.size->Y.heap[a]? =X.heap[a]?)
theorem vH (a k n:Nat) (A0:Option Addr) (c0:Nat) (E:List S83) (L:List Int) (w0 W:World) (O:Kd.C aT w0 A0 E.length E) (P:E.length<=c0) (hn:n<=1000) (q:∀u:Nat,u<n->∃e,cA.f k n E (u:Nat)=some (rd L u,e)) (r:Below w0.heap.size w0 W)
  (h:W.heap[a]? =some (.cells #[.int .i64 n,.slice A0 E.length c0] 24 (0,0))):
  jb (σ:=Unit) Fence.wide 9 Tryz.prog 185 #[.pointer (some ⟨a,0,none⟩)] (fun x:Int×Int=>#[.int .i64 x.1,.int .i64 x.2]) (fun _ W W1=>W1=W) (fun _ A B=>Below A.heap.size A B) (fun _ x A B=>(∃v:Nat,v<n/\x=((v:Int),rd L v))/\Below A.heap.size A B)
   (fun _ X Y=>DJ w0.heap.size a X Y)
   (fun _ xs W'=>xs=gv L n) (fun _ _ _=>True) (fun pre=>pre.length<=n) W:=by
 intro lp J Jx s w y z;have Q:=zA s;have ar:=zA w;have R:=zA z;have S:=zA q;have D:=y () W rfl;clear s w y z q;have hu:=Tryz.underlying24;refine callsIn_of_wp Tryz.func185 rfl trivial ?_ rfl;simp only[Tryz.ntmps185,List.size_toArray,List.length_cons,List.length_nil,Nat.reduceAdd,Nat.reduceSub,Array.replicate_succ,Array.replicate_zero,List.push_toArray,List.append_toArray,List.nil_append,List.cons_append];have j:W.cell? ⟨a,0,none⟩=some (.int .i64 n):=(al h 0).trans rfl;have b:=zA h;clear h;gi_wp2;clear j;gi_loopg [8] (n) (fun T i wr=>∃v:Nat,i= .int .i64 v/\v<=n/\Aside0 (J () (gv L v) wr)/\Aside0 (wr.heap[a]? =some (.cells #[.int .i64 n,.slice A0 E.length c0] 24 (0,0)))/\Aside0 (Below w0.heap.size w0 wr)/\Aside0 (T=n-v))
 case atStart=>exact⟨0,rfl,Nat.zero_le _,⟨D⟩,b,⟨r⟩,⟨rfl⟩⟩
 case round=>
  clear D r b;obtain⟨v,rfl,hv,l,b,m,U⟩:=hrel;by_cases F:v<n
  ·have aB:(0:Int)<=(v:Int):=by omega
   have aF:(v:Int)<(n:Int):=by omega
   obtain⟨ev,G⟩:=S.out v F;have V:=zA G;have Z:=zA (vG L v);have j:wr.cell? ⟨a,0,none⟩=some (.int .i64 n):=(al b.out 0).trans rfl;have b1:wr.cell? ⟨a,1,none⟩=some (.slice A0 E.length c0):=(al b.out 1).trans rfl;clear G;gi_wp2_with (refine⟨trivial,?_⟩;gi_at_call 186;refine(callsIn_wide.2 (cA.calls k n A0 c0 E v (rd L v) ev _ (Kd.au O m.out) P V.out)).mono ?_;rintro e w3 ⟨rfl,g⟩;have ab:=zA (Q.out () _ _ _ l.out g);have H:=zA (a8 m.out g);have I:=zA (aM b.out g);obtain⟨fn,tmps,aL,aO,o,K⟩:=R.out () (gv L v) ((v:Int),rd L v) _ _ ab.out ⟨⟨v,F,rfl⟩,ao _ _⟩ (by show (gv L v).length<=n;simp[gv];omega);have ad:=zA K;simp only at o;clear K g l m b j b1)
   refine ad.out.mono ?_;rintro e W3 (⟨rfl,M,p⟩|⟨rfl,N⟩)
   ·have ag:=zA M
    have ak:=zA ((p.2 (aE I.out)).trans I.out);have am:=zA (H.out.trans (p.1 H.out.size));clear M p o;gi_wp2;gi_roundg (n- (v+1))
    case measure=>rw[U.out];omega
    case rel=>exact⟨v+1,by go_num,by omega,⟨by rw[Z.out];exact ag.out⟩,ak,am,⟨rfl⟩⟩
   ·have an:=zA N
    clear N o;gi_wp2;refine bodyPost_ret (results_none rfl _ _ _) rfl ?_;exact⟨⟨_,rfl⟩,.inr ⟨(),_,trivial,an.out⟩⟩
  ·obtain rfl:n=v:=by omega
   gi_wp2;go_end0;exact⟨⟨_,rfl⟩,.inl ⟨(),_,rfl,l.out⟩⟩
def jP (L:List Int) (n v:Nat):List Int:=(List.range n).map fun u:Nat=>if u<v then wrap64 (rd L u-2) else 0
theorem DK {L:List Int} {n v:Nat} (a:v<n):(jP L n v).set v (wrap64 (rd L v-2))=jP L n (v+1):=by
 unfold jP;refine List.ext_getElem (by simp) fun i h1 b=>?_
 rw[List.getElem_set];simp only[List.getElem_map,List.getElem_range];by_cases e:v=i
 ·subst e;simp
 ·rw[if_neg e]
  by_cases h:i<v
  ·rw[if_pos h,if_pos (by omega)]
  ·rw[if_neg h,if_neg (by omega)]
def iM (n:Nat) (pre:List (Int×Int)):List Int:=pre.foldl (fun l x=>l.set x.1.toNat (wrap64 (x.2-2))) (List.replicate n 0)
theorem vI (n:Nat) (pre:List (Int×Int)) (x:Int×Int):iM n (pre++[x])=(iM n pre).set x.1.toNat (wrap64 (x.2-2)):=by simp[iM,List.foldl_append]
theorem DL (n:Nat) (pre:List (Int×Int)):(iM n pre).length=n:=by
 unfold iM;have:∀(pre:List (Int×Int)) (l:List Int),(pre.foldl (fun l x=>l.set x.1.toNat (wrap64 (x.2-2))) l).length=l.length:=by
  intro pre;induction pre with
  |nil=>intro l;rfl
  |cons x pre a=>intro l;rw[List.foldl_cons,a];simp
 rw[this];simp
theorem vJ (L:List Int) (n:Nat):∀v,v<=n->iM n (gv L v)=jP L n v
 |0,_=>by
  unfold jP;refine List.ext_getElem (by simp[iM,gv]) fun i h1 a=>?_
  simp[iM,gv]
 |v+1,h=>by
  rw[vG,vI,vJ L n v (by omega)];simp only[aQ];exact DK (by omega)
def iN.f (k:Nat) (N:Int) (E:List S83):Option (List Int):=if 1<=N/\N<=1000 then(kT k N E N.toNat).bind fun l=>some (jP l N.toNat N.toNat) else none
theorem iN.mono:∀a b k,aj (iN.f k a b) (iN.f (k+1) a b):=by
 intro N E k;unfold iN.f;exact aj.ite (aj.bind (vE _ _ _ _) (fun _=>aj.refl _)) (aj.refl _)
theorem DM (k n:Nat) (A0:Option Addr) (c0:Nat) (E:List S83) (L:List Int) (w:World) (ad:Kd.C aT w A0 E.length E) (ag:E.length<=c0) (a5:1<=n) (hn:n<=1000) (J:∀u:Nat,u<n->∃e,cA.f k n E (u:Nat)=some (rd L u,e)):
  Calls Tryz.prog 89 #[.agg #[.int .i64 n,.slice A0 E.length c0]] w fun e w'=>∃go co,e= .returned (.slice (some ⟨go,0,none⟩) n co)/\(Kd.int .i64).R 3 w' w.heap.size (fun _=>True) (.slice (some ⟨go,0,none⟩) n co) (jP L n n)/\Below w.heap.size w w':=by
 have hu:=Tryz.underlying24;have HL:=zA J;have a9:(0:Int)<=(n:Int):=by omega
 obtain⟨zs,am,M⟩:=lS 26 Tryz.underlying26 n hn;have N:=zA M;clear J M;refine(callsIn_wide (n:=10)).1 ?_;refine callsIn_of_wp_marks Tryz.func89 rfl trivial ?_ rfl;simp only[Tryz.ntmps89,List.size_toArray,List.length_cons,List.length_nil,Nat.reduceAdd,Nat.reduceSub,Array.replicate_succ,Array.replicate_zero,List.push_toArray,List.append_toArray,List.nil_append,List.cons_append];gi_wp2_with (first|(refine⟨trivial,?_⟩;gi_at_call 143;refine(callsIn_wide.2 (vD n _ _)).mono ?_;rintro e w3 ⟨rfl,rfl⟩))
 have q:=bm ((w.alloc (.cells #[.int .i64 n,.slice A0 E.length c0] 24)).alloc (.cells zs 3)) (.cells #[.slice (some ⟨w.heap.size+1,0,none⟩) n n] 26);have r:=bm (((w.alloc (.cells #[.int .i64 n,.slice A0 E.length c0] 24)).alloc (.cells zs 3)).alloc (.cells #[.slice (some ⟨w.heap.size+1,0,none⟩) n n] 26)) (.cells #[.int .i64 n,.slice A0 E.length c0] 24);have hS:=N.out (w.alloc (.cells #[.int .i64 n,.slice A0 E.length c0] 24)) (fun _=>True) trivial;simp only[World.size_alloc] at q r hS;have O:=zA (ay q (.cells #[.int .i64 n,.slice A0 E.length c0] 24));have P:=zA r;have y:=zA (aq (aq (aq (aq (ao w.heap.size w) (.cells #[.int .i64 n,.slice A0 E.length c0] 24)) (.cells zs 3)) (.cells #[.slice (some ⟨w.heap.size+1,0,none⟩) n n] 26)) (.cells #[.int .i64 n,.slice A0 E.length c0] 24));have Q:Aside0 ((Kd.int .i64).R 3 ((((w.alloc (.cells #[.int .i64 n,.slice A0 E.length c0] 24)).alloc (.cells zs 3)).alloc (.cells #[.slice (some ⟨w.heap.size+1,0,none⟩) n n] 26)).alloc (.cells #[.int .i64 n,.slice A0 E.length c0] 24)) w.heap.size (fun _=>True) (.slice (some ⟨w.heap.size+1,0,none⟩) n n) (iM n [])):=⟨Kd.ba (Kd.aK (Kd.aK hS _) _) (by omega)⟩;have an:=Nat.le_of_eq (show ((((w.alloc (.cells #[.int .i64 n,.slice A0 E.length c0] 24)).alloc (.cells zs 3)).alloc (.cells #[.slice (some ⟨w.heap.size+1,0,none⟩) n n] 26)).alloc (.cells #[.int .i64 n,.slice A0 E.length c0] 24)).heap.size=w.heap.size+4 by simp);have ap:=Nat.le_of_eq (show w.heap.size+4=((((w.alloc (.cells #[.int .i64 n,.slice A0 E.length c0] 24)).alloc (.cells zs 3)).alloc (.cells #[.slice (some ⟨w.heap.size+1,0,none⟩) n n] 26)).alloc (.cells #[.int .i64 n,.slice A0 E.length c0] 24)).heap.size by simp);clear q r hS N am;generalize (((w.alloc (.cells #[.int .i64 n,.slice A0 E.length c0] 24)).alloc (.cells zs 3)).alloc (.cells #[.slice (some ⟨w.heap.size+1,0,none⟩) n n] 26)).alloc (.cells #[.int .i64 n,.slice A0 E.length c0] 24)=b at O P y Q an ap⊢;refine iC (σ:=Unit) (α:=Int×Int) (F:=Fence.wide) (n:=10) rfl (by decide) (gf:=185) (lb:=#[.pointer (some ⟨w.heap.size+1+1+1,0,none⟩)]) rfl trivial (enters_of Tryz.func185 (by kernel_rfl) rfl)
  (fun o=>vH (w.heap.size+1+1+1) k n A0 c0 E L w _ ad ag hn HL.out (aq (aq y.out _) _) (ay (ay P.out _) _)) (fun _=>rfl)
  (fun _=>True) ?eF ?st ?ar
  (fun _ pre W=>b.heap.size<=W.heap.size/\(Kd.int .i64).R 3 W w.heap.size (fun _=>True) (.slice (some ⟨w.heap.size+1,0,none⟩) n n) (iM n pre)/\W.heap[w.heap.size+1+1]? =some (.cells #[.slice (some ⟨w.heap.size+1,0,none⟩) n n] 26 (0,0))/\Below w.heap.size w W) (fun _ _ _ _=>False)
  ?is (fun _ _ _ _ _ _ h _=>h) ?ib (fun _ _ _ _ _ h _=>h) ?kt ?h0 ?a1 ?assign ?body ?done (fun _ _ _ _ _ _ _ h=>h.elim)
 case assign=>
  intro l x W K hK;gi_wp2;exact hK
 case eF=>
  intro o s W1 h;exact⟨trivial,by rw[h];exact cn.refl _ _⟩
 case st=>intro s A B _ h;exact cZ h
 case ar=>intro s x A B _ h;exact cZ h.2
 case is=>
  rintro s pre A B _ ⟨g,h1,G,H⟩ j;exact⟨Nat.le_trans g j.size,Kd.cU h1 j,aM G j,a8 H j⟩
 case ib=>
  rintro s pre A B ⟨g,h1,G,H⟩ hb;exact⟨by rw[hb.size];exact g,du h1 hb,hb.cells G,H.trans (hb.below w.heap.size (by omega))⟩
 case kt=>
  intro s A B C D m S T;refine⟨fun aY=>((m.below w.heap.size (by omega)).trans (S.1 (by rw[m.size];exact aY))).trans (T.below w.heap.size (by omega)),fun aB=>?_⟩;have U:w.heap.size+1+1+1≠b.heap.size+1:=by omega
  exact(T.heap _ U).trans ((S.2 (by rw[m.size];exact aB)).trans (m.heap _ U))
 case h0=>
  rintro o s W1 rfl;exact⟨by simp;omega,Kd.aK (Kd.aK Q.out _) _,ay (ay O.out _) _,aq (aq y.out _) _⟩
 case body=>
  rintro l s' pre ⟨xv,V⟩ Wb Wc W _ ⟨g,i1,i2,i3⟩ ⟨⟨v,bi,hx⟩,i⟩ aL a;injection hx with aO aP
  subst aO;have X:=zA (du (Kd.cU i1 i) a);have Y:=zA (a.cells (aM i2 i));have I3:=zA ((a8 i3 i).trans (a.below w.heap.size (by omega)));have aS:b.heap.size<=W.heap.size:=by have:=a.size;have:=i.size;omega
  have a0:=zA (vI n pre ((v:Int),V));have bk:=zA (DL n pre);clear i1 i2 i3 i a aL g aP;have z1:=dK Y.out;obtain⟨z2,z3⟩:=Kd.bP 0 X.out (v:Int) (by omega) (by omega);rw[aQ] at z2 z3;generalize bO 0 (iM n pre) (v:Int)=z at z2;replace z2:W.cell? ⟨w.heap.size+1,v,none⟩=some (.int .i64 z):=z2;have bn:(0:Int)<=(v:Int):=by omega
  have bo:(v:Int)<(n:Int):=by omega
  have I:=Kd.de X.out (v:Int) (wrap64 (V-2));rw[aQ] at I;have a2:=zA I.1;clear I;gi_wp2;refine⟨fp _ _ (by omega),⟨fun _=>Below.setCell (p:=⟨w.heap.size+1,v,none⟩) (ao _ _) (by show w.heap.size<=w.heap.size+1;omega) _,fun _=>Below.heap_setCell _ _ _ _ (by show w.heap.size+1+1+1≠w.heap.size+1;omega)⟩,by simpa using aS,?_,aG Y.out (by show w.heap.size+1+1≠w.heap.size+1;omega) _,Below.setCell (p:=⟨w.heap.size+1,v,none⟩) I3.out (by show w.heap.size<=w.heap.size+1;omega) _⟩;rw[a0.out];exact a2.out
 case done=>
  rintro s' xs W W' _ rfl ⟨g,i1,i2,i3⟩ a Z;have b1:=zA (du i1 a);have b2:=zA (a.cells i2);have b3:=zA (i3.trans (a.below w.heap.size (by omega)));have aa:=zA Z;clear i1 i2 i3 Z;have hc:=dK b2.out;gi_wp2_with fail
  have ab:Bk b.heap.size W' (W'.putObj b.heap.size (.deferred none)):=⟨_,_,aa.out,rfl,rfl⟩;have h1:=b1.out;rw[vJ L n n (aI _)] at h1;exact jc (D:=b.heap.size) rfl aa.out (results_tmp rfl _ _ _) ⟨_,_,rfl,du h1 ab,b3.out.trans (ab.below w.heap.size (by omega))⟩
theorem iN.calls (k:Nat) (b:Int) (i:Option Addr) (j:Nat) (a:List (S83)) (r:List Int) (w:World) (o:Kd.C aT w i a.length a) (p:a.length<=j) (h:iN.f k b a=some r):
  Calls Tryz.prog 89 #[.agg #[.int .i64 b,.slice i a.length j]] w fun e w'=>∃l:Value,e= .returned (l)/\Kd.R (Kd.int .i64) 3 w' w.heap.size (fun _=>True) l r/\Below w.heap.size w w':=by
 unfold iN.f at h;by_cases m:1<=b/\b<=1000
 ·rw[if_pos m] at h
  obtain⟨n,rfl⟩:=Int.eq_ofNat_of_zero_le (show 0<=b by omega);obtain⟨L,h1,g⟩:=Option.bind_eq_some_iff.1 h;simp only[aQ] at h1 g;injection g with g
  subst g;refine(DM k n i j a L w o p (by omega) (by omega) (vF h1).2).mono ?_;rintro e w' ⟨go,co,rfl,q,s⟩;exact⟨_,rfl,q,s⟩
 ·rw[if_neg m] at h;cases h
end
mutual
def bN.l0:Nat->List (List Int)->List (List Int)->Int->Int->Option (Int)
 |0,_,_,_,_=>none
 |k+1,b,e,g,a=>if a<g then(if 0<=a then(if a<(e.length:Int) then((bt.f k (a6 e a) ((a6 e a).length:Int)).bind fun t194=>(if t194=0 then(bN.l0 k b e g (wrap64 (a+1))) else(some t194))) else(none)) else(none)) else(bN.l1 k b b (b.length:Int) 0)
def bN.l1:Nat->List (List Int)->List (List Int)->Int->Int->Option (Int)
 |0,_,_,_,_=>none
 |k+1,b,e,g,a=>if a<g then(if 0<=a then(if a<(e.length:Int) then(if 0<(b.length:Int) then(if((a6 e a).length:Int)=((a6 b 0).length:Int) then(bN.l1 k b e g (wrap64 (a+1))) else(some 8)) else(none)) else(none)) else(none)) else(some 0)
end
def bN.f (k:Nat) (l0:List (List Int)):Option (Int):=bN.l0 k l0 l0 (l0.length:Int) 0
theorem bN.cm:∀k,(∀a b e g,aj (bN.l0 k a b e g) (bN.l0 (k+1) a b e g))/\(∀a b e g,aj (bN.l1 k a b e g) (bN.l1 (k+1) a b e g))
 |0=>⟨fun _ _ _ _ r h=>by simp[bN.l0] at h,fun _ _ _ _ r h=>by simp[bN.l1] at h⟩
 |k+1=>by
  obtain⟨i,j⟩:=bN.cm k;refine⟨?_,?_⟩
  ·intro a b e g
   unfold bN.l0;with_reducible repeat' first|exact i _ _ _ _|exact j _ _ _ _|exact bt.mono _ _ _|exact aj.refl _|exact aj.none _|refine aj.ite ?_ ?_|refine aj.bind ?_ (fun _=>?_)
  ·intro a b e g
   unfold bN.l1;with_reducible repeat' first|exact i _ _ _ _|exact j _ _ _ _|exact bt.mono _ _ _|exact aj.refl _|exact aj.none _|refine aj.ite ?_ ?_|refine aj.bind ?_ (fun _=>?_)
theorem bN.mono:∀a0 k,aj (bN.f k a0) (bN.f (k+1) a0):=by
 intro a0 k;obtain⟨a,b⟩:=bN.cm k;unfold bN.f;with_reducible repeat' first|exact a _ _ _ _|exact b _ _ _ _|exact bt.mono _ _ _|exact aj.refl _|exact aj.none _|refine aj.ite ?_ ?_|refine aj.bind ?_ (fun _=>?_)
theorem bN.calls (k:Nat) (A0:Option Addr) (c0:Nat) (l0:List (List Int)) (r:Int) (w:World) (W:Kd.C (Kd.slice 3 (Kd.int .i64)) w A0 l0.length l0) (X:l0.length<=c0) (h:bN.f k l0=some r):
  Calls Tryz.prog 118 #[.slice A0 l0.length c0] w fun e w'=>e= .returned (.int .i64 r)/\aA w w':=by
 have s:=zA W;have a4:=zA X;clear W X;have H:(bN.l0 k l0 l0 (l0.length:Int) 0)=some r:=h;clear h;have g:=zA H;clear H;go_enter Tryz.func118,Tryz.ntmps118
 go_wp2;go_loopg [10] k (fun v v10 w'=>∃(a:Int),v10= .int .i64 a/\Aside0 (bN.l0 v l0 l0 (l0.length:Int) a=some r)/\Aside0 (v<=k)/\aA w w')
 case atStart=>exact⟨(0),zT,g,⟨aI _⟩,by repeat(first|exact aA.refl _|apply aA.step)⟩
 case round=>
  clear g;obtain⟨a,rfl,j,J,⟨m1,rfl⟩⟩:=hrel;cases gk with
  |zero=>exact absurd j.out (by simp[bN.l0])
  |succ x=>
   have H:=j.out;clear j;simp only[bN.l0] at H;by_cases c2:a<(l0.length:Int)
   ·rw[if_pos c2] at H
    have Y:=az c2;clear c2;by_cases c3:0<=a
    ·rw[if_pos c3] at H
     have a5:=az c3;clear c3;by_cases c4:a<(l0.length:Int)
     ·rw[if_pos c4] at H
      have a9:=az c4;clear c4;obtain⟨t194,Z,H⟩:=zo H;by_cases y:t194=0
      ·rw[if_pos y] at H
       obtain⟨ab,ad⟩:=bF y;clear y;have g:=zA H;clear H;have l:0<=(a:Int):=aw ‹_›;have m:a<(l0.length:Int):=aw ‹_›;obtain⟨ag,N,O,P,ak,z,B⟩:=fX s.out a l m;cases P;have Q:=zA B;have R:=zA z;clear B z;replace l:=eq_true l;replace m:=eq_true m;go_wp2_with (first|((with_reducible refine aC (f:=87) rfl ?_);refine zL (some 17) Tryz.func87 #[.slice N (a6 l0 a).length O,.int .i64 ((a6 l0 a).length:Int)] ?_;(with_reducible refine(bt.calls x _ _ (a6 l0 a) ((a6 l0 a).length:Int) t194 _ ?af ?ah Z.out).mono ?_);(case af=>repeat(first|exact Q.out|(with_reducible refine Kd.bE ?_ _)|(with_reducible refine Kd.fJ ?_ _)|(with_reducible refine Kd.fg ?_)));(case ah=>exact R.out);rintro e w' ⟨rfl,⟨nd,rfl⟩⟩;refine⟨_,rfl,?_⟩))
       go_roundg x
       case measure=>have:=J.out;omega
       case rel=>exact⟨(wrap64 (a+1)),zT,g,⟨by have:=J.out;omega⟩,by repeat(first|exact aA.refl _|apply aA.step)⟩
      ·rw[if_neg y] at H
       obtain⟨ab,ad⟩:=bI y;obtain rfl:=aH H;have l:0<=(a:Int):=aw ‹_›;have m:a<(l0.length:Int):=aw ‹_›;obtain⟨ag,N,O,P,ak,z,B⟩:=fX s.out a l m;cases P;have Q:=zA B;have R:=zA z;clear B z;replace l:=eq_true l;replace m:=eq_true m;go_wp2_with (first|((with_reducible refine aC (f:=87) rfl ?_);refine zL (some 17) Tryz.func87 #[.slice N (a6 l0 a).length O,.int .i64 ((a6 l0 a).length:Int)] ?_;(with_reducible refine(bt.calls x _ _ (a6 l0 a) ((a6 l0 a).length:Int) t194 _ ?af ?ah Z.out).mono ?_);(case af=>repeat(first|exact Q.out|(with_reducible refine Kd.bE ?_ _)|(with_reducible refine Kd.fJ ?_ _)|(with_reducible refine Kd.fg ?_)));(case ah=>exact R.out);rintro e w' ⟨rfl,⟨nd,rfl⟩⟩;refine⟨_,rfl,?_⟩))
       go_ret;exact⟨zT,by repeat(first|exact aA.refl _|apply aA.step)⟩
     ·rw[if_neg c4] at H
      exact absurd H (by simp)
    ·rw[if_neg c3] at H
     exact absurd H (by simp)
   ·rw[if_neg c2] at H
    have Y:=aZ c2;clear c2;have g:=zA H;clear H;go_wp2;go_loopg [24] x (fun v v24 w'=>∃(b:Int),v24= .int .i64 b/\Aside0 (bN.l1 v l0 l0 (l0.length:Int) b=some r)/\Aside0 (v<=x)/\aA w w')
    case atStart=>exact⟨(0),zT,g,⟨aI _⟩,by repeat(first|exact aA.refl _|apply aA.step)⟩
    case round=>
     clear g;clear Y;obtain⟨b,rfl,j,aa,⟨m2,rfl⟩⟩:=hrel;cases gk with
     |zero=>exact absurd j.out (by simp[bN.l1])
     |succ k2=>
      have H:=j.out;clear j;simp only[bN.l1] at H;by_cases u:b<(l0.length:Int)
      ·rw[if_pos u] at H
       have ap:=az u;clear u;by_cases K:0<=b
       ·rw[if_pos K] at H
        have be:=az K;clear K;by_cases L:b<(l0.length:Int)
        ·rw[if_pos L] at H
         have bf:=az L;clear L;by_cases M:0<(l0.length:Int)
         ·rw[if_pos M] at H
          have bg:=az M;have bi:decide (0<l0.length)=true:=az (by omega);clear M;by_cases i:((a6 l0 b).length:Int)=((a6 l0 0).length:Int)
          ·rw[if_pos i] at H
           obtain⟨ar,av⟩:=bF i;have aB:((a6 l0 b).length==(a6 l0 0).length)=true:=by first|simpa using i|(simp at i⊢;omega)
           clear i;have g:=zA H;clear H;have n:0<=(b:Int):=aw ‹_›;have o:b<(l0.length:Int):=aw ‹_›;obtain⟨S,aF,aL,T,aO,D,E⟩:=fX s.out b n o;cases T;have aP:=zA E;have aR:=zA D;clear E D;replace n:=eq_true n;replace o:=eq_true o;have p:0<=(0:Int):=(by omega);have q:0<(l0.length:Int):=aw ‹_›;obtain⟨U,aS,a0,V,F,G,I⟩:=fX s.out 0 p q;obtain rfl:S=U:=(by injection V);have a1:(0<l0.length)=True:=eq_true (by omega)
           (try rw[show ((0:Int)).toNat=0 from rfl] at F)
           (try rw[Addr.add_zero'] at F)
           have a2:=zA I;have a3:=zA G;clear I G;replace p:=eq_true p;replace q:=eq_true q;go_wp2;go_roundg k2
           case measure=>have:=J.out;have:=aa.out;omega
           case rel=>exact⟨(wrap64 (b+1)),zT,g,⟨by have:=J.out;have:=aa.out;omega⟩,by repeat(first|exact aA.refl _|apply aA.step)⟩
          ·rw[if_neg i] at H
           obtain⟨ar,av⟩:=bI i;have aB:((a6 l0 b).length==(a6 l0 0).length)=false:=by first|simpa using i|(simp at i⊢;omega)
           obtain rfl:=aH H;have n:0<=(b:Int):=aw ‹_›;have o:b<(l0.length:Int):=aw ‹_›;obtain⟨S,aF,aL,T,aO,D,E⟩:=fX s.out b n o;cases T;have aP:=zA E;have aR:=zA D;clear E D;replace n:=eq_true n;replace o:=eq_true o;have p:0<=(0:Int):=(by omega);have q:0<(l0.length:Int):=aw ‹_›;obtain⟨U,aS,a0,V,F,G,I⟩:=fX s.out 0 p q;obtain rfl:S=U:=(by injection V);have a1:(0<l0.length)=True:=eq_true (by omega)
           (try rw[show ((0:Int)).toNat=0 from rfl] at F)
           (try rw[Addr.add_zero'] at F)
           have a2:=zA I;have a3:=zA G;clear I G;replace p:=eq_true p;replace q:=eq_true q;go_wp2;go_ret;exact⟨zT,by repeat(first|exact aA.refl _|apply aA.step)⟩
         ·rw[if_neg M] at H
          exact absurd H (by simp)
        ·rw[if_neg L] at H
         exact absurd H (by simp)
       ·rw[if_neg K] at H
        exact absurd H (by simp)
      ·rw[if_neg u] at H
       have ap:=aZ u;clear u;obtain rfl:=aH H;go_wp2;go_ret;exact⟨zT,by repeat(first|exact aA.refl _|apply aA.step)⟩
theorem mX:wrap64 (0+1)=1:=by unfold wrap64;omega
theorem ie:wrap64 (1+1)=2:=by unfold wrap64;omega
def q_ (a:List Int):Int:=fN a a.length
def oS (a b:List Int):Int:=if fN a a.length=0 then(if fN b b.length=0 then(if(b.length:Int)=(a.length:Int) then 0 else 8) else fN b b.length) else fN a a.length
theorem lW (a:List Int) (l:List (List Int)):a6 (a::l) 0=a:=by simp[a6]
theorem vK (a b:List Int) (l:List (List Int)):a6 (a::b::l) 1=b:=by simp[a6]
theorem DN (a:List Int) (b:a.length<=1000000):Ev (fun k=>bN.f k [a]) (q_ a):=by
 unfold bN.f q_;refine Ev.of_succ ?_;simp only[bN.l0,List.length_cons,List.length_nil,Nat.zero_add,Int.natCast_one,if_pos (show (0:Int)<1 by decide),if_pos (show (0:Int)<=0 by decide),lW];refine Ev.bind (kN a a.length b) ?_;by_cases h:fN a a.length=0
 ·simp only[if_pos h,mX]
  rw[h];refine Ev.of_succ ?_;simp only[bN.l0,if_neg (show ¬(1:Int)<1 by decide)];refine Ev.of_succ ?_;simp only[bN.l1,List.length_cons,List.length_nil,Nat.zero_add,Int.natCast_one,if_pos (show (0:Int)<1 by decide),if_pos (show (0:Int)<=0 by decide),lW,if_true,mX];refine Ev.of_succ ?_;simp only[bN.l1,if_neg (show ¬(1:Int)<1 by decide)];exact Ev.const _
 ·simp only[if_neg h]
  exact Ev.const _
theorem DO (a b:List Int) (i:a.length<=1000000) (hb:b.length<=1000000):Ev (fun k=>bN.f k [a,b]) (oS a b):=by
 unfold bN.f oS;have e2:((([a,b]:List (List Int)).length:Nat):Int)=2:=rfl;refine Ev.of_succ ?_;simp only[bN.l0,e2,if_pos (show (0:Int)<2 by decide),if_pos (show (0:Int)<=0 by decide),lW];refine Ev.bind (kN a a.length i) ?_;by_cases h:fN a a.length=0
 ·simp only[if_pos h,mX]
  refine Ev.of_succ ?_;simp only[bN.l0,e2,if_pos (show (1:Int)<2 by decide),if_pos (show (0:Int)<=1 by decide),vK];refine Ev.bind (kN b b.length hb) ?_;by_cases e:fN b b.length=0
  ·simp only[if_pos e,ie]
   refine Ev.of_succ ?_;simp only[bN.l0,e2,if_neg (show ¬(2:Int)<2 by decide)];refine Ev.of_succ ?_;simp only[bN.l1,e2,if_pos (show (0:Int)<2 by decide),if_pos (show (0:Int)<=0 by decide),lW,if_true,mX];refine Ev.of_succ ?_;simp only[bN.l1,e2,if_pos (show (0:Int)<2 by decide),if_pos (show (1:Int)<2 by decide),if_pos (show (0:Int)<=1 by decide),lW,vK,ie];by_cases g:(b.length:Int)=(a.length:Int)
   ·simp only[if_pos g]
    refine Ev.of_succ ?_;simp only[bN.l1,if_neg (show ¬(2:Int)<2 by decide)];exact Ev.const _
   ·simp only[if_neg g]
    exact Ev.const _
  ·simp only[if_neg e]
   exact Ev.const _
 ·simp only[if_neg h]
  exact Ev.const _
section
attribute [local go_sem] Oper.semAt_some
theorem DP (g n:Nat) (A0:Option Addr) (c0:Nat) (E:List S83) (q:Int) (dv Q:Value) (R:Int) (v:Nat) (lb:Array Value) (B:Nat->Bool) (w:World) (ab:Kd.C aT w A0 E.length E) (hE:ep n E) (hn:n<=1000) (hv:v<n) (i:gK w g n (.slice A0 E.length c0) q dv Q R)
  (hB:∀(W:World) (u:Int),Below w.heap.size w W->0<=u->u<n->Calls Tryz.prog 171 (#[.int .i64 u]++lb) W fun e w'=>e= .returned (.bool (B u.toNat))/\Below W.heap.size W w'):
  Calls Tryz.prog 168 #[.pointer (some ⟨g,0,none⟩),.int .i64 v,.func (.func 171) #[] lb] w fun e w'=>e= .returned (.int .i64 (eh B (cz E v E.length)))/\Below w.heap.size w w':=by
 have a9:=zA hB;have HE:=zA hE;have ak:=zA i;clear hB hE i;refine(callsIn_wide (n:=10)).1 ?_;refine callsIn_of_wp_marks Tryz.func168 rfl trivial ?_ rfl;simp only[Tryz.ntmps168,List.size_toArray,List.length_cons,List.length_nil,Nat.reduceAdd,Nat.reduceSub,Array.replicate_succ,Array.replicate_zero,List.push_toArray,List.append_toArray,List.nil_append,List.cons_append];gi_wp2_with (refine⟨trivial,?_⟩;gi_at_call 194;refine(callsIn_wide.2 (lQ g v _)).mono ?_;rintro e w3 ⟨rfl,rfl⟩)
 obtain⟨p,am⟩:∃o:Obj,o= .cells #[.func (.func 171) #[] lb] 121:=⟨_,rfl⟩;obtain⟨on,an⟩:∃o:Obj,o= .cells #[.int .i64 0] 3:=⟨_,rfl⟩;obtain⟨r,ap⟩:∃o:Obj,o= .cells #[.pointer (some ⟨g,0,none⟩)] 135:=⟨_,rfl⟩;obtain⟨y,av⟩:∃o:Obj,o= .cells #[.int .i64 v] 3:=⟨_,rfl⟩;have Z0:=bm w p;have S:=bm (w.alloc p) on;have T:=bm ((w.alloc p).alloc on) r;have U:=bm (((w.alloc p).alloc on).alloc r) y;simp only[World.size_alloc] at S T U;have H0:=zA ((ay (ay (ay Z0 on) r) y).trans (by rw[am]:_=some (.cells #[.func (.func 171) #[] lb] 121 (0,0))));have H1:=zA ((ay (ay S r) y).trans (by rw[an]:_=some (.cells #[.int .i64 0] 3 (0,0))));have H2:=zA ((ay T y).trans (by rw[ap]:_=some (.cells #[.pointer (some ⟨g,0,none⟩)] 135 (0,0))));have H3:=zA (U.trans (by rw[av]:_=some (.cells #[.int .i64 v] 3 (0,0))));have z:=zA (aq (aq (aq (aq (ao w.heap.size w) p) on) r) y);have aP:Aside0 (gK ((((w.alloc p).alloc on).alloc r).alloc y) g n (.slice A0 E.length c0) q dv Q R):=⟨aM ak.out z.out⟩;have bv:g<w.heap.size:=aE ak.out;have bf:=zA (Kd.au ab z.out);clear Z0 S T U;subst am an ap av;have bg:=z.out.size;have bi:((((w.alloc (.cells #[.func (.func 171) #[] lb] 121)).alloc (.cells #[.int .i64 0] 3)).alloc (.cells #[.pointer (some ⟨g,0,none⟩)] 135)).alloc (.cells #[.int .i64 v] 3)).heap.size=w.heap.size+4:=by simp
 generalize ((((w.alloc (.cells #[.func (.func 171) #[] lb] 121)).alloc (.cells #[.int .i64 0] 3)).alloc (.cells #[.pointer (some ⟨g,0,none⟩)] 135)).alloc (.cells #[.int .i64 v] 3))=j at H0 H1 H2 H3 z aP bf bg bi⊢;refine iC (σ:=Unit) (α:=Int×Int) (F:=Fence.wide) (n:=10) rfl (by decide) (gf:=207) (lb:=#[.pointer (some ⟨w.heap.size+1+1,0,none⟩),.pointer (some ⟨w.heap.size+1+1+1,0,none⟩)]) rfl trivial (enters_of Tryz.func207 (by kernel_rfl) rfl)
  (fun o=>oE (w.heap.size+1+1) (w.heap.size+1+1+1) g n A0 c0 E q dv Q R v w _ ab HE.out hn hv (aq (aq z.out _) _) (ay (ay H2.out _) _) (ay (ay H3.out _) _) (ay (ay aP.out _) _)) (fun _=>rfl)
  (fun _=>True) ?eF ?st ?ar
  (fun _ pre W=>j.heap.size<=W.heap.size/\W.heap[w.heap.size]? =some (.cells #[.func (.func 171) #[] lb] 121 (0,0))/\W.heap[w.heap.size+1]? =some (.cells #[.int .i64 (eh B pre)] 3 (0,0))/\Below w.heap.size w W) (fun _ _ _ _=>False)
  ?is (fun _ _ _ _ _ _ h _=>h) ?ib (fun _ _ _ _ _ h _=>h) ?kt ?h0 ?a1 ?assign ?body ?done (fun _ _ _ _ _ _ _ h=>h.elim)
 case assign=>
  intro l x W K hK;gi_wp2;exact hK
 case eF=>
  intro o s W1 h;exact⟨trivial,by rw[h];exact cn.refl _ _⟩
 case st=>intro s A B _ h;exact cZ h
 case ar=>intro s x A B _ h;exact cZ h.2
 case is=>
  rintro s pre A B _ ⟨H,h1,V,X⟩ i;exact⟨Nat.le_trans H i.size,aM h1 i,aM V i,a8 X i⟩
 case ib=>
  rintro s pre A B ⟨H,h1,V,X⟩ hb;exact⟨by rw[hb.size];exact H,hb.cells h1,hb.cells V,X.trans (hb.below w.heap.size (by omega))⟩
 case kt=>
  intro s A B C D N aR aS;refine⟨fun aY=>((N.below w.heap.size (by omega)).trans (aR.1 (by rw[N.size];exact aY))).trans (aS.below w.heap.size (by omega)),fun k hk I=>?_⟩;have a0:k≠j.heap.size+1:=by rcases hk with rfl|rfl|rfl<;>omega
  exact(aS.heap k a0).trans ((aR.2 k hk (by rw[N.size];exact I)).trans (N.heap k a0))
 case h0=>
  rintro o s W1 rfl;exact⟨by simp;omega,ay (ay H0.out _) _,ay (ay H1.out _) _,aq (aq z.out _) _⟩
 case body=>
  rintro l s pre ⟨u,m⟩ Wb W1 W _ ⟨H,i1,i2,i3⟩ ⟨Y,J⟩ bn b;have Z:=zA (b.cells (aM i1 J));have L:=zA (b.cells (aM i2 J));have b3:=zA ((a8 i3 J).trans (b.below w.heap.size (by omega)));have bx:j.heap.size<=W.heap.size:=by have:=b.size;have:=J.size;omega
  clear i1 i2 i3 J b bn;simp only at Y;have b0:W.cell? ⟨w.heap.size,0,none⟩=some (.func (.func 171) #[] lb):=(al Z.out 0).trans rfl;have O:=zA (a9.out W u b3.out Y.1 Y.2.1);have M:=zA (qw B pre (u,m));generalize eh B pre=s0 at L M;cases P:B u.toNat with
  |true=>
   rw[P] at O M;clear P;gi_wp2_with (refine⟨trivial,?_⟩;gi_at_call 171;refine(callsIn_wide.2 O.out).mono ?_;rintro e w5 ⟨rfl,G⟩;have a:=zA G;have D2:=zA (aM L.out G);have c5:w5.cell? ⟨w.heap.size+1,0,none⟩=some (.int .i64 s0):=(al D2.out 0).trans rfl;have f5:=bD D2.out 0;clear G)
   have aY:=a.out.size;refine⟨(cZ a.out).trans (fp _ _ (by show w.heap.size+1<j.heap.size;omega)),⟨fun aY=>Below.setCell (a.out.mono aY) (by show w.heap.size<=w.heap.size+1;omega) _,fun k hk I=>?_⟩,by simp;omega,?_,?_,Below.setCell (a8 b3.out a.out) (by show w.heap.size<=w.heap.size+1;omega) _⟩
   ·rw[Below.heap_setCell _ _ _ _ (by rcases hk with rfl|rfl|rfl<;>(show _≠w.heap.size+1)<;>omega)]
    exact a.out.block k I
   ·rw[Below.heap_setCell _ _ _ _ (by show w.heap.size≠w.heap.size+1;omega)]
    exact aM Z.out a.out
   ·have h:=bR D2.out 0 (.int .i64 (wrap64 (s0+m)))
    rw[M.out];simpa using h
  |false=>
   rw[P] at O M;clear P;gi_wp2_with (refine⟨trivial,?_⟩;gi_at_call 171;refine(callsIn_wide.2 O.out).mono ?_;rintro e w5 ⟨rfl,G⟩;have a:=zA G;clear G)
   have aY:=a.out.size;exact⟨cZ a.out,⟨fun aY=>a.out.mono aY,fun k hk I=>a.out.block k I⟩,by omega,aM Z.out a.out,by rw[M.out];exact aM L.out a.out,a8 b3.out a.out⟩
 case done=>
  rintro s xs W W' _ rfl ⟨H,i1,i2,i3⟩ b a3;have L:=zA (b.cells i2);have b3:=zA (i3.trans (b.below w.heap.size (by omega)));have a4:=zA a3;clear i1 i2 i3 a3;have hc:W'.cell? ⟨w.heap.size+1,0,none⟩=some (.int .i64 (eh B (cz E v E.length))):=(al L.out 0).trans rfl;gi_wp2_with fail
  have bo:Bk j.heap.size W' (W'.putObj j.heap.size (.deferred none)):=⟨_,_,a4.out,rfl,rfl⟩;exact jc (D:=j.heap.size) rfl a4.out (results_tmp rfl _ _ _) ⟨rfl,b3.out.trans (bo.below w.heap.size (by omega))⟩
end
section
attribute [local go_sem] Oper.semAt_some
theorem DQ (gb a cr n:Nat) (B:Nat->Bool) (ok:Nat->Prop) (base:Nat) (W:World) (u:Int) (hb:W.heap[gb]? =some (.cells #[.slice (some ⟨a,0,none⟩) n cr] 43 (0,0))) (g:Kd.bool.R 4 W base ok (.slice (some ⟨a,0,none⟩) n cr) ((List.range n).map fun v=> !B v)) (h:0<=u) (hn:u<n):
  Calls Tryz.prog 171 #[.int .i64 u,.pointer (some ⟨gb,0,none⟩)] W fun e w'=>e= .returned (.bool (B u.toNat))/\Below W.heap.size W w':=by
 have i:W.cell? ⟨gb,0,none⟩=some (.slice (some ⟨a,0,none⟩) n cr):=(al hb 0).trans rfl;have b:=(Kd.bP false g u h hn).1;have e:bO false ((List.range n).map fun v=> !B v) u= !B u.toNat:=by
  obtain⟨m,rfl⟩:=Int.eq_ofNat_of_zero_le h;have:m<n:=by omega
  simp[bO,bh,List.getElem?_map,List.getElem?_range this]
 rw[e] at b;have b:W.cell? ⟨a,u.toNat,none⟩=some (.bool (!B u.toNat)):=b;clear g hb e;go_enter Tryz.func171,Tryz.ntmps171
 go_wp2;go_ret;exact⟨by simp[go_sem],ao _ _⟩
theorem vL (g n:Nat) (A0:Option Addr) (c0:Nat) (E:List S83) (q:Nat) (a:Option Addr) (cd:Nat) (d:List Int) (b:Value) (h:Int) (w:World) (k:Kd.C aT w A0 E.length E) (i:bM n E) (l:E.length<=1000) (hn:n<=1000) (m:q<n) (o:d.length=n) (p:gK w g n (.slice A0 E.length c0) q (.slice a n cd) b h)
  (hd:Kd.C (Kd.int .i64) w a d.length d):
  Calls Tryz.prog 170 #[.pointer (some ⟨g,0,none⟩)] w fun e w'=>∃j cl,e= .returned (.tuple #[.slice (some ⟨j,0,none⟩) n cl,.bool ((List.range n).any fun v=> !bA n (ai E) q d v)])/\Kd.bool.R 4 w' w.heap.size (fun _=>True) (.slice (some ⟨j,0,none⟩) n cl) ((List.range n).map fun v=> !bA n (ai E) q d v)/\Below w.heap.size w w':=by
 subst o;exact BG g d.length A0 c0 E q a cd d b h w k i.jJ hn m p hd rfl (fun B v r _=>BR i l B r)
def ig (n:Nat) (t:Nat->Nat->Int) (q:Nat) (d:List Int) (v:Nat):Int:=T.sN (fun u=>if bA n t q d u=true then t v u else 0) n
theorem re {n:Nat} {E:List S83} (a:bM n E) (hn:n<=12) (q:Nat) (d:List Int) (v:Nat):0<=ig n (ai E) q d v/\ig n (ai E) q d v<=600:=by
 have h:=T.cN (f:=fun w=>if bA n (ai E) q d w=true then ai E v w else 0) (g:=fun _=>50) (n:=n) (fun w _=>by
  have:=a.jJ.times v w;show (if bA n (ai E) q d w=true then ai E v w else 0)<=50
  split<;>omega)
 rw[T.iZ] at h;have b:0<=ig n (ai E) q d v:=T.dg fun w _=>by
  have:=a.jJ.times v w;show 0<=(if bA n (ai E) q d w=true then ai E v w else 0)
  split<;>omega
 exact⟨b,by show T.sN _ n<=600;omega⟩
theorem DR {n q:Nat} {t:Nat->Nat->Int} (b:T.Wt n t) (e:T.dz n t) (g:q<n) {D c σ:Nat->Int} (a:eB n q t D c σ) {d s:List Int} (h:je n q t D d s):0<=jK n q σ s:=T.dg fun v i=>by
 have h1:=T.qh b e g a.red a.eq a.q0 (d:=fun v=>rd d (v:Nat)) h.eq h.kb v i;have j:rd s v<=σ v+rd s q:=h1;show 0<=σ v+rd s q-rd s v
 omega
theorem DS (g gd gs cd cs n:Nat) (A0:Option Addr) (c0:Nat) (E:List S83) (q:Nat) (D c σ:Nat->Int) (d s:List Int) (w0 w:World) (N:Kd.C aT w0 A0 E.length E) (F:bM n E) (hl:E.length<=1000) (hC:jD n E) (hn:n<=12) (p:q<n) (aP:T.sN (T.val n (ai E)) n<=19)
  (hD:∀v:Nat,v<n-> -200<=D v/\D v<=200) (hr:eB n q (ai E) D c σ) (ad:je n q (ai E) D d s) (h:SI w0 g gd gs cd cs n A0 c0 E q d s w):
  Calls Tryz.prog 111 #[.pointer (some ⟨g,0,none⟩)] w fun e w'=>e= .returned (.tuple #[])/\∃(d' s':List Int),SI w0 g gd gs cd cs n A0 c0 E q d' s' w'/\je n q (ai E) D d' s'/\T.j4 n (ai E) q (fun v=>rd d' (v:Nat)):=by
 have cx:=Tryz.underlying188;have hu:=Tryz.underlying24;have j:=zA F;have ag:=zA (F.conn hC);have HD:=zA hD;have a0:=zA hr;have k:=zA ad;have a:=zA h;have a1:=zA (DR F.wt (F.conn hC) p hr ad);have c1:1<=n:=by omega
 clear F hC hD hr ad h;go_enter Tryz.func111,Tryz.ntmps111
 go_wp2;go_loopg [] ((jK n q σ s).toNat) (fun kq wr=>∃(d s:List Int),Aside0 (SI w0 g gd gs cd cs n A0 c0 E q d s wr)/\Aside0 (je n q (ai E) D d s)/\Aside0 (0<=jK n q σ s/\kq=(jK n q σ s).toNat))
 case atStart=>exact⟨d,s,a,k,⟨a1.out,rfl⟩⟩
 case round=>
  clear a k a1;obtain⟨d,s,a,k,HK⟩:=hrel;have s5:=a.out.f5;have a3:=k.out.dl;have am:=zA a3;have b2:=a.out.hb.size;obtain⟨r1,r2,r3,r4,r5⟩:=a.out.ld;clear a3;cases O:(List.range n).any fun v=> !bA n (ai E) q d v with
  |false=>
   have r:=zA O;clear O;go_wp2_with (go_at_call 170;refine(vL g n A0 c0 E q _ cd d _ 0 _ (Kd.au N a.out.hb) j.out hl (by omega) p am.out a.out.st (Kd.aD a.out.d).2.2).mono ?_;rintro e P ⟨b,cl,rfl,G,H⟩;rw[r.out];have I:=zA (a.out.below H);clear G H)
   refine bodyPost_ret (results_none rfl _ _ _) rfl ?_;exact⟨rfl,d,s,I.out.alloc _,k.out,B4 j.out.wt r.out⟩
  |true=>
   have r:=zA O;clear O;go_wp2_with (go_at_call 170;refine(vL g n A0 c0 E q _ cd d _ 0 _ (Kd.au N a.out.hb) j.out hl (by omega) p am.out a.out.st (Kd.aD a.out.d).2.2).mono ?_;rintro e P ⟨b,cl,rfl,G,H⟩;rw[r.out];have I:=zA (a.out.below H);have an:=zA G;have c9:=Kd.dD G b rfl;clear G H)
   have b3:=I.out.ld;have b4:=Kd.a7 an.out b rfl;have b5:gd≠b:=by omega
   have b6:gs≠b:=by omega
   have Q:=zA (bm P (.cells #[.slice (some ⟨b,0,none⟩) n cl] 43));have ap:=zA (Kd.ba (Kd.aK an.out (.cells #[.slice (some ⟨b,0,none⟩) n cl] 43)) (base':=w0.heap.size) b2);have ar:=zA (I.out.alloc (.cells #[.slice (some ⟨b,0,none⟩) n cl] 43));clear I an a s5 b3;generalize P.alloc (.cells #[.slice (some ⟨b,0,none⟩) n cl] 43)=W6 at Q ap ar⊢;generalize P.heap.size=gb at Q b4⊢;go_loopg [23,4] (n) (fun kq vv tv wr=>∃(v:Nat) (x:Int),v<=n/\vv= .int .i64 v/\tv= .int .i64 x/\0<=x/\Aside0 (x=0->∀u:Nat,u<v->bA n (ai E) q d u=false->ig n (ai E) q d u<=0)/\Aside0 (∀u:Nat,u<v->bA n (ai E) q d u=false->x*ig n (ai E) q d u<=rd d u)/\Aside0 (SI w0 g gd gs cd cs n A0 c0 E q d s wr)/\Aside0 (wr.heap[gb]? =some (.cells #[.slice (some ⟨b,0,none⟩) n cl] 43 (0,0)))/\Aside0 (Kd.bool.R 4 wr w0.heap.size (fun _=>True) (.slice (some ⟨b,0,none⟩) n cl) ((List.range n).map fun v=> !bA n (ai E) q d v))/\Aside0 (kq=n-v))
   case atStart=>exact⟨0,0,by omega,rfl,rfl,by omega,⟨fun _ u hu=>by omega⟩,⟨fun u hu=>by omega⟩,ar,Q,ap,⟨rfl⟩⟩
   case round=>
    clear ar Q ap;obtain⟨v,x,S,rfl,rfl,av,U,J,a,z,m,K⟩:=hrel;by_cases B:v<n
    ·have dd:(0:Int)<=(v:Int):=by omega
     have dk:(v:Int)<(n:Int):=by omega
     have i:=(Kd.bP false m.out (v:Int) (by omega) (by omega)).1;rw[aQ] at i;have e1:bO false ((List.range n).map fun v=> !bA n (ai E) q d v) v= !bA n (ai E) q d v:=by simp[bO,bh,List.getElem?_map,List.getElem?_range B]
     rw[e1] at i;replace i:wr.cell? ⟨b,v,none⟩=some (.bool (!bA n (ai E) q d v)):=i;clear e1;cases hF:bA n (ai E) q d v with
     |true=>
      rw[hF] at i;replace i:wr.cell? ⟨b,v,none⟩=some (.bool false):=i;have HF:=zA hF;clear hF;go_wp2;go_roundg (n- (v+1))
      case measure=>rw[K.out];omega
      case rel=>exact⟨v+1,x,by omega,by go_num,rfl,av,⟨fun hx u hu h1=>by
       by_cases e:u=v
       ·subst e;rw[HF.out] at h1;cases h1
       ·exact U.out hx u (by omega) h1⟩,⟨fun u hu h1=>by
       by_cases e:u=v
       ·subst e;rw[HF.out] at h1;cases h1
       ·exact J.out u (by omega) h1⟩,a,z,m,⟨rfl⟩⟩
     |false=>
      rw[hF] at i;replace i:wr.cell? ⟨b,v,none⟩=some (.bool true):=i;have HF:=zA hF;have a5:=zA (show ig n (ai E) q d v<=rd d v from uD B hF);have a9:=zA (re j.out hn q d v);have be:=zA (show eh (bA n (ai E) q d) (cz E v E.length)=ig n (ai E) q d v from qG j.out hl (bA n (ai E) q d) B);have ds:=(k.out.bounds j.out.wt ag.out p hn aP HD.out a0.out v B).2.1;clear hF;go_wp2_with (go_at_call 168;refine(DP g n A0 c0 E q _ _ 0 v #[.pointer (some ⟨gb,0,none⟩)] (bA n (ai E) q d) _ (Kd.au N a.out.hb) j.out.jJ (by omega) B a.out.st (fun W u bf ca cb=>DQ gb b cl n _ _ _ W u (aM z.out bf) (Kd.cU m.out bf) ca cb)).mono ?_;rintro e w8 ⟨rfl,V⟩;rw[be.out];have l:=zA (a.out.below V);have X:=zA (aM z.out V);have Y:=zA (Kd.cU m.out V);have c2:=l.out.kf v B;have c3:=l.out.f3;clear V i a z m;obtain⟨y,i⟩:∃y,y=ig n (ai E) q d v:=⟨_,rfl⟩;rw[<-i];have Z:=a9.out;have ce:=a5.out;rw[<-i] at Z ce;obtain⟨Z,dv⟩:=Z;have L:=zA i;clear i a9 a5 be)
      ·have cf:1<=rd d v/y:=Int.le_ediv_of_mul_le (by omega) (by omega)
       have hx:=zA ‹x=0›;go_roundg (n- (v+1))
       case measure=>rw[K.out];omega
       case rel=>exact⟨v+1,rd d v/y,by omega,by go_num,rfl,by omega,⟨fun M=>by omega⟩,⟨fun u hu h1=>by
        by_cases e:u=v
        ·subst e;rw[<-L.out];exact Int.ediv_mul_le _ (by omega)
        ·have h2:=U.out hx.out u (by omega) h1
         have h3:=(re j.out hn q d u).1;rw[show ig n (ai E) q d u=0 by omega,Int.mul_zero];have h4:ig n (ai E) q d u<=rd d u:=uD (by omega) h1;omega⟩,l,X,Y,⟨rfl⟩⟩
      ·have cf:1<=rd d v/y:=Int.le_ediv_of_mul_le (by omega) (by omega)
       have d0:rd d v/y<x:=by
        rename_i o;rcases o with o|o
        ·exact absurd (by simpa using o) ‹¬x=0›
        ·exact o
       go_roundg (n- (v+1))
       case measure=>rw[K.out];omega
       case rel=>exact⟨v+1,rd d v/y,by omega,by go_num,rfl,by omega,⟨fun M=>by omega⟩,⟨fun u hu h1=>by
        by_cases e:u=v
        ·subst e;rw[<-L.out];exact Int.ediv_mul_le _ (by omega)
        ·exact Int.le_trans (Int.mul_le_mul_of_nonneg_right (by omega) (re j.out hn q d u).1) (J.out u (by omega) h1)⟩,l,X,Y,⟨rfl⟩⟩
      ·have hle:x<=rd d v/y:=by
        rename_i o;exact o.2
       have ch:¬x=0:=‹¬x=0›;go_roundg (n- (v+1))
       case measure=>rw[K.out];omega
       case rel=>exact⟨v+1,x,by omega,by go_num,rfl,av,⟨fun M=>absurd M ch⟩,⟨fun u hu h1=>by
        by_cases e:u=v
        ·subst e;rw[<-L.out];exact Int.le_trans (Int.mul_le_mul_of_nonneg_right hle Z) (Int.ediv_mul_le _ (by omega))
        ·exact J.out u (by omega) h1⟩,l,X,Y,⟨rfl⟩⟩
      ·have ci:y<=0:=by assumption
       go_roundg (n- (v+1))
       case measure=>rw[K.out];omega
       case rel=>exact⟨v+1,x,by omega,by go_num,rfl,av,⟨fun M u hu h1=>by
        by_cases e:u=v
        ·subst e;rw[<-L.out];exact ci
        ·exact U.out M u (by omega) h1⟩,⟨fun u hu h1=>by
        by_cases e:u=v
        ·subst e;rw[<-L.out,show y=0 by omega,Int.mul_zero];omega
        ·exact J.out u (by omega) h1⟩,l,X,Y,⟨rfl⟩⟩
    ·obtain rfl:n=v:=by omega
     have b0:=dK z.out;have bi:1<=x:=by
      refine Classical.byContradiction fun bi=>?_
      obtain⟨v,S,h1,h2⟩:=B6 ag.out j.out.wt p r.out;have h3:ig n (ai E) q d v<=0:=U.out (by omega) v S h1;have h4:0<ig n (ai E) q d v:=h2;omega
     obtain⟨k1,k2,k3,k4⟩:=k.out.step j.out ag.out p hn aP HD.out a0.out r.out bi (fun v S h1=>J.out v S h1);have K1:=zA k1;have K2:=zA k2;have K3:=zA k3;have K4:=zA k4;have cr:=zA k.out.sl;clear k1 k2 k3 k4;go_wp2_with (go_at_call 166;refine(uq g gd gs b cd cs cl n A0 c0 E q d s (fun v=> !bA n (ai E) q d v) x w0 _ N j.out.jJ (by omega) (by omega) a.out m.out ⟨b5,b6⟩ am.out cr.out K2.out).mono ?_;rintro e w8 ⟨rfl,bx,cv,aY⟩;have l:=zA bx;clear bx cv a z m b0)
     go_roundg ((jK n q σ (bz E (fun v=> !bA n (ai E) q d v) x n (d,s)).2).toNat)
     case measure=>have h1:=K3.out;have h2:=K4.out;have h3:=HK.out.2;have h4:=HK.out.1;rw[h3];omega
     case rel=>exact⟨_,_,l,K1,⟨K3.out,rfl⟩⟩
end
def mY.f (a0:Int) (a:Int):Option (Int×Int):=some (IntKind.u64.wrap ((IntKind.u64.wrap ((IntKind.u64.wrap ((a0/4294967296)*(a/4294967296)))+((IntKind.u64.wrap ((IntKind.u64.wrap ((a0/4294967296)*(Go.bits .and .u64 a 4294967295)))+((IntKind.u64.wrap ((Go.bits .and .u64 a0 4294967295)*(Go.bits .and .u64 a 4294967295)))/4294967296)))/4294967296)))+((IntKind.u64.wrap ((Go.bits .and .u64 (IntKind.u64.wrap ((IntKind.u64.wrap ((a0/4294967296)*(Go.bits .and .u64 a 4294967295)))+((IntKind.u64.wrap ((Go.bits .and .u64 a0 4294967295)*(Go.bits .and .u64 a 4294967295)))/4294967296))) 4294967295)+(IntKind.u64.wrap ((Go.bits .and .u64 a0 4294967295)*(a/4294967296)))))/4294967296)),IntKind.u64.wrap (a0*a))
theorem mY.calls (a0:Int) (a:Int) (b:Int) (g:Int) (w:World) (h:mY.f a0 a=some (b,g)):
  Calls Tryz.prog 216 #[.int .u64 a0,.int .u64 a] w fun e w'=>e= .returned (.tuple #[.int .u64 b,.int .u64 g])/\aA w w':=by
 have H:(some (IntKind.u64.wrap ((IntKind.u64.wrap ((IntKind.u64.wrap ((a0/4294967296)*(a/4294967296)))+((IntKind.u64.wrap ((IntKind.u64.wrap ((a0/4294967296)*(Go.bits .and .u64 a 4294967295)))+((IntKind.u64.wrap ((Go.bits .and .u64 a0 4294967295)*(Go.bits .and .u64 a 4294967295)))/4294967296)))/4294967296)))+((IntKind.u64.wrap ((Go.bits .and .u64 (IntKind.u64.wrap ((IntKind.u64.wrap ((a0/4294967296)*(Go.bits .and .u64 a 4294967295)))+((IntKind.u64.wrap ((Go.bits .and .u64 a0 4294967295)*(Go.bits .and .u64 a 4294967295)))/4294967296))) 4294967295)+(IntKind.u64.wrap ((Go.bits .and .u64 a0 4294967295)*(a/4294967296)))))/4294967296)),IntKind.u64.wrap (a0*a)))=some (b,g):=h;clear h;simp only[Option.some.injEq,Prod.mk.injEq] at H;obtain⟨rfl,rfl⟩:=H;go_enter Tryz.func216,Tryz.ntmps216
 go_wp2;go_ret2;exact⟨by first|rfl|(simp;done)|(simp[*];done),by repeat(first|exact aA.refl _|apply aA.step)⟩
def mZ.f (a0:Int) (b:Int):Option (Int×Int):=(mY.f a0 b).bind fun a=>(some (a.1,a.2))
theorem mZ.calls (a0:Int) (a:Int) (b:Int) (g:Int) (w:World) (h:mZ.f a0 a=some (b,g)):
  Calls Tryz.prog 206 #[.int .u64 a0,.int .u64 a] w fun e w'=>e= .returned (.tuple #[.int .u64 b,.int .u64 g])/\aA w w':=by
 have H:((mY.f a0 a).bind fun i=>(some (i.1,i.2)))=some (b,g):=h;clear h;replace H:=Option.bind_eq_some_iff.mp H;obtain⟨⟨t238,t239⟩,j,H⟩:=H;replace H:(some (t238,t239))=some (b,g):=H;have k:=zA j;clear j;simp only[Option.some.injEq,Prod.mk.injEq] at H;obtain⟨rfl,rfl⟩:=H;go_enter Tryz.func206,Tryz.ntmps206
 go_wp2_with (first|((with_reducible refine aC (f:=216) rfl ?_);refine so (some 25) rfl rfl Tryz.func216 (by kernel_rfl) rfl #[.int .u64 a0,.int .u64 a] rfl (by(try simp only[List.map_toArray,List.map_cons,List.map_nil]);first|done|rfl|(simp only[List.length_drop,List.length_take];rfl)) ?_;(with_reducible refine(mY.calls a0 a t238 t239 _ k.out).mono ?_);rintro e w' ⟨rfl,⟨l,rfl⟩⟩;refine⟨_,rfl,?_⟩))
 go_ret2;exact⟨by first|rfl|(simp;done)|(simp[*];done),by repeat(first|exact aA.refl _|apply aA.step)⟩
theorem DT:∀n:Fin 1001,mZ.f 1 ((n:Nat):Int)=some (0,((n:Nat):Int)):=by decide+kernel
theorem DU (n:Nat) (h:n<=1000):mZ.f 1 n=some (0,(n:Int)):=DT ⟨n,by omega⟩
theorem DV (k m r:Nat) (a b:Value) (rest:List Value):Go.splice (List.replicate k a++List.replicate (m+r) b++rest) k (List.replicate m a)=List.replicate (k+m) a++List.replicate r b++rest:=by
 unfold Go.splice;have e:(List.replicate k a++List.replicate (m+r) b++rest).take k=List.replicate k a:=by
  rw[List.append_assoc,List.take_left' (by simp)]
 have e2:(List.replicate k a++List.replicate (m+r) b++rest).drop (k+(List.replicate m a).length)=List.replicate r b++rest:=by
  rw[<-List.replicate_append_replicate,<-List.append_assoc,List.append_assoc,List.length_replicate,List.drop_left' (by simp)]
 rw[e,e2,<-List.append_assoc,List.replicate_append_replicate,<-List.append_assoc]
theorem DW (gx s H n:Nat) (z:Int) (w:World) (I:w.cell? ⟨gx,s,none⟩=some (.int .i64 z)) (T:1<=n) (hn:n<=1000):
  Calls Tryz.prog 193 #[.slice (some ⟨gx,s,none⟩) 1 H,.int .i64 n] w fun e w'=>∃g c,e= .returned (.slice (some ⟨g,0,none⟩) n c)/\(Kd.int .i64).R 3 w' w.heap.size (fun _=>True) (.slice (some ⟨g,0,none⟩) n c) (List.replicate n z)/\Below w.heap.size w w':=by
 have hmul:=DU n hn;have U:(0:Int)<=(n:Int):=by omega
 go_enter Tryz.func193,Tryz.ntmps193
 go_wp2_with (first|(go_at_call 206;refine(mZ.calls 1 n 0 n _ hmul).mono ?_;rintro e w1 ⟨rfl,⟨V,rfl⟩⟩)|((with_reducible refine aJ (N:=30) rfl ?_);refine Kd.jn (Kd.int .i64) _ 3 rfl (N:=30) rfl 25 _ _ rfl (n:Int) rfl rfl Tryz.underlying25 (.int .i64 0) 8 fW rfl (by decide) (by omega) 0 (ok:=fun _=>True) (okp:=fun _=>True) rfl (fun _ hk=>hk) trivial U (by simp;omega) (ao _ _) (aI _) ?_;intro v1 u x hb W X;rw[aQ] at x;obtain⟨a,cr,b,p,Y, -⟩:=Kd.eV x (by rw[List.length_replicate];omega);rw[List.length_replicate] at b;subst b;have l:=zA x;have q:=zA ((bY (ao w.heap.size w) V).trans (hb.mono (by simp)));have J:u.cell? ⟨gx,s,none⟩=some (.int .i64 z):=iq hb (by simpa using I);clear x hb W X))
 have Z:=Kd.nk l.out;obtain⟨aa,h|⟨g',cap,cur,b,ab,B,ad,K,C,y⟩⟩:=Z
 ·cases h.1
 ·injection b with i e2 e3
  injection i with i
  injection i with i _
  subst i e3;rw[List.length_replicate] at ad y;simp only[Nat.mul_one] at C y;obtain⟨rest,ak⟩:∃rest,cur=(List.replicate n (Value.int .i64 0)++rest).toArray:=⟨cur.toList.drop n,by
   rw[<-Array.toList_inj];show cur.toList=List.replicate n (Value.int .i64 0)++cur.toList.drop n
   rw[show List.replicate n (Value.int .i64 0)=cur.toList.take n from by rw[y];simp[bS],List.take_append_drop]⟩
  subst ak;have L:rest.length=cr-n:=by simp at C;omega
  rw[run_copy_row _ u 25 25 3 3 a 0 n cr ⟨gx,s,none⟩ 1 H _ 3 [.int .i64 z] Tryz.underlying25 (by kernel_rfl) B (by show 1=min 1 n;omega) (fun j v o=>by
   cases j with
   |zero=>injection o with o;subst o;simpa [Addr.add] using J
   |succ j=>simp at o) (by simp;omega) (fun v b=>by simp at b;subst b;rfl)]
  simp only[Result.andThen_ok,List.cons_append,List.nil_append,List.take_zero,Nat.zero_add];rw[show ([Value.int .i64 z]:List Value).length=1 from rfl];have i:Value.int .i64 z::(List.replicate n (Value.int .i64 0)++rest).drop 1=List.replicate 1 (Value.int .i64 z)++List.replicate (n-1) (Value.int .i64 0)++rest:=by
   obtain⟨n',rfl⟩:∃n',n=n'+1:=⟨n-1,by omega⟩;simp[List.replicate_succ]
  rw[i];have D:=zA (below_setRow (g:=a) q.out (by simp at p;exact p) ((List.replicate 1 (Value.int .i64 z)++List.replicate (n-1) (Value.int .i64 0)++rest).toArray));have E:=zA (setRow_heap u a _ ((List.replicate 1 (Value.int .i64 z)++List.replicate (n-1) (Value.int .i64 0)++rest).toArray) _ _ B);have M:w.heap.size<=a:=by simp at p;exact p
  clear l q J aa ab B C y i e2 I hmul;generalize u.setRow a (List.replicate 1 (Value.int .i64 z)++List.replicate (n-1) (Value.int .i64 0)++rest).toArray=W6 at D E⊢;have O:=zA L;have am:=zA K;clear L K Y p;rw[show goInt ((1:Nat):Int)=Value.int .i64 1 from rfl];rw[Oper.upon_value];go_wp2;go_loopg [8] (n-1) (fun kq nv wr=>∃k:Nat,nv= .int .i64 k/\1<=k/\k<=n/\Aside0 (wr.heap[a]? =some (.cells (List.replicate k (Value.int .i64 z)++List.replicate (n-k) (Value.int .i64 0)++rest).toArray 3 (0,0)))/\Aside0 (Below w.heap.size w wr)/\Aside0 (kq=n-k))
  case atStart=>exact⟨1,rfl,by omega,T,E,D,⟨rfl⟩⟩
  case round=>
   clear D E;obtain⟨k,rfl,aS,a0,F,q,HK⟩:=hrel;by_cases a1:k<n
   ·have a2:(0:Int)<=(k:Int):=by omega
    have a3:(k:Int)<(n:Int):=by omega
    have a4:(k:Int)<=(cr:Int):=by omega
    have a5:(n:Int)<=(cr:Int):=by omega
    obtain⟨m,hm⟩:∃m,m=min k (n-k):=⟨_,rfl⟩;obtain⟨r,P⟩:∃r,n-k=m+r:=⟨n-k-m,by omega⟩;have a9:¬cr=k:=by omega
    have av:Aside0 (∀(j:Nat) (v:Value),(List.replicate m (Value.int .i64 z))[j]? =some v->wr.drew.cell? ((⟨a,0,none⟩:Addr).add j)=some v):=⟨fun j v o=>by
     obtain⟨aB,b⟩:=List.getElem?_eq_some_iff.1 o;rw[List.length_replicate] at aB;rw[List.getElem_replicate] at b;subst b;have h:=cell_of_row wr a j _ _ _ F.out;rw[List.getElem?_toArray,List.append_assoc,List.getElem?_append_left (by rw[List.length_replicate];omega),List.getElem?_replicate,if_pos (by omega)] at h;by_cases e:j=0
     ·subst e;simpa [Addr.add] using h
     ·simpa [Addr.add,e] using h⟩
    have be:(m:Int)<=1000:=by omega
    have bf:(0:Int)<=(m:Int):=by omega
    have bg:(k:Int)<=1000:=by omega
    have G:=zA hm;have l:=zA P;clear hm P;go_wp2;go_region_law (refine step_copy_splice rfl (.tmp 41) (.tmp 44) 25 25 rfl 3 Tryz.underlying25 (by kernel_rfl) (some ⟨a,k,none⟩) (some ⟨a,0,none⟩) (n-k) (cr-k) k cr (by go_simp) (by go_simp) a k (List.replicate k (Value.int .i64 z)++List.replicate (n-k) (Value.int .i64 0)++rest) 3 F.out (List.replicate m (Value.int .i64 z)) (by have:=G.out;rw[List.length_replicate];show m=min k (n-k);omega) (fun _=>⟨rfl,_,rfl,av.out⟩) (by have:=O.out;have:=G.out;simp;omega) (fun v b=>by rw[List.eq_of_mem_replicate b];rfl) w.heap.size w (bV q.out) M ?_;intro w4 Q S)
    have aL:Aside0 (w4.heap[a]? =some (.cells (List.replicate (k+m) (Value.int .i64 z)++List.replicate (n- (k+m)) (Value.int .i64 0)++rest).toArray 3 (0,0))):=⟨by
     have h:=Q;rw[l.out] at h;rw[show n- (k+m)=r from by have:=l.out;omega,<-DV k m r (.int .i64 z) (.int .i64 0) rest];first|exact h|(rw[List.append_assoc];exact h)⟩
    have aO:=zA S;clear Q S;have bi:=G.out;have bk:=l.out;go_wp2;go_roundg (n- (k+m))
    case measure=>rw[HK.out];omega
    case rel=>exact⟨k+m,(by rw[IntWalk.i64_in ((k:Int)+(m:Int)) (by omega)];go_num),by omega,by omega,aL,aO,⟨rfl⟩⟩
   ·obtain rfl:k=n:=by omega
    go_wp2;go_ret;exact⟨a,cr,rfl,Kd.l7 ⟨by simp[bS],.inr ⟨a,cr,_,by simp,M,F.out,by simp;omega,am.out,by have:=O.out;simp;omega,by simp[bS]⟩⟩ (fun _ _=>trivial),q.out⟩
end Go.Proofs.YtffdiakgjakngaaGreat.P


namespace Go.Proofs.YtffdiakgjakngaaGreat.P
open Go.RowKit Go.Proofs.YtffdiakgjakngaaGreatW.PrintWords Go.Proofs.YtffdiakgjakngaaGreatW.PrintLast Go.Proofs.YtffdiakgjakngaaGreatW.PrintMore
set_option linter.unusedVariables false
set_option linter.unusedSimpArgs false
set_option maxHeartbeats 8000000
set_option maxRecDepth 100000
section
attribute [local go_sem] Oper.semAt_some
theorem cE.vM {α:Type} {d:Kd α} {e base a b:Nat} {ok:Nat->Prop} {ds:List Deferred} {v:Value} {xs:List α} {W w1:World} (h:cE a b ds W) (i:d.Q e W base ok v xs) (j:W.grownBy w1 v.ownBlock):cE a b ds w1:=
 h.iE fun D _ hd=>(j.block D (Array.getElem?_eq_some_iff.1 hd).1 (fun e=>by
  obtain⟨cells,g⟩:=Kd.sa i D e.symm;rw[hd] at g;cases g)).trans hd
structure DI (w:World) (b3 b4 go co n lo hi:Nat) (out:List Int) (qv:Value) (Q:List Nat) (W:World):Prop where
 hb:Below w.heap.size w W
 x3:W.heap[b3]? =some (.cells #[.slice (some ⟨go,0,none⟩) n co] 25 (0,0))
 x4:W.heap[b4]? =some (.cells #[qv] 25 (0,0))
 ro:(Kd.int .i64).R 3 W w.heap.size (fun _=>True) (.slice (some ⟨go,0,none⟩) n co) out
 rq:(Kd.int .i64).Q 3 W w.heap.size (fun k=>k≠go/\(k<lo\/hi<=k)) qv (Q.map fun x:Nat=>(x:Int))
 ne:b3≠b4/\go≠b3/\go≠b4/\w.heap.size<=b3/\w.heap.size<=b4
theorem DX {α:Type} {d:Kd α} {e base l:Nat} {ok:Nat->Prop} {v:Value} {xs:List α} {A B:World} (h:d.Q e A base ok v xs) (hb:Bk l A B):d.Q e B base ok v xs:=
 Kd.lr (Kd.rZ (Kd.nn h) (fun k hk=>by obtain⟨_,_,_,q,_,cells,a⟩:=hk;exact(hb.cells a).trans a.symm)) (fun k hk=>hk.1)
section
variable {F:Fence} {n:Nat} {P:Program} {ops:Array Oper} {rest:List Oper} {o:Oper} {a:Act} {Q':Exit->Act->World->Prop} {α:Type}
theorem vN (d:Kd α) {w0 W:World} (base:Nat) (j:o.guard=none) (s x:Operand) (t e:TypeId) (z:Value) (bytes:Nat)
  (g:o.op= .call {callee:=.builtin .append,args:=#[s,x],argTypes:=#[t,t]})
  (l:P.underlying t=some (.slice e)) (m:(P.info? e).map (fun i=>(i.zero,i.size,i.bytes))=some (some z,d.sz,bytes)) (q:z.cells.size=d.sz) (r:0<d.sz) (u:0<bytes)
  (v:Value) (xs:List α) (p:α) (cs:List Value) (ok okp:Nat->Prop) (w:a.eval s=v) (y:a.eval x= .slice (some ⟨W.heap.size,0,none⟩) 1 1) (hp:d.M W base okp p cs) (B:∀k,okp k->ok k/\some k≠v.ownBlock) (C:∀k,W.heap.size<=k->ok k)
  (D:d.Q e W base ok v xs) (E:Below base w0 W) (G:base<=W.heap.size) (H:(xs.length+1)*bytes<=140737488355328)
  (h:∀v1 w1,d.Q e w1 base ok v1 (xs++[p])->Below base w0 w1->W.grownBy w1 v.ownBlock->(v1.ownBlock=v.ownBlock\/∃b,v1.ownBlock=some b/\W.heap.size<=b)->wpListIn F n P ops Q' rest (a.put o.dst v1) w1):
  wpListIn F n P ops Q' (o::rest) a (W.alloc (.cells cs.toArray e)):=by
 obtain⟨v1,w1,I,h1,J,L,N⟩:=Kd.xR (P:=P) d base t o.type e z bytes l m q r u v xs p cs ok okp hp B C D E G H;refine wpListIn_plain j fun K O=>?_
 unfold Oper.wpIn;refine⟨?_,?_⟩
 ·simp[Oper.about,g,resolve,Target.leads,Sem.run_pure]
 ·rw[Oper.semAt_plain F _ _ (by rw[g];intro c R;cases R)]
  simp[execOp,g,resolve,invoke,builtin,w,y,I,Result.andThen];exact O _ _ (h v1 w1 h1 J L N)
end
theorem vO {α:Type} {d:Kd α} {e base nw:Nat} {ok:Nat->Prop} {v:Value} {xs:List α} {W w1:World} (g:d.Q e W base ok v xs) (h:W.grownBy w1 v.ownBlock):cn nw W w1:=fun k o h1 j b i=>by
 refine(h.block k (Array.getElem?_eq_some_iff.1 b).1 (fun e=>?_)).trans b;obtain⟨cells,a⟩:=Kd.sa g k e.symm;rw[b] at a;injection a with a;subst a;simp[Obj.isCells] at i
theorem Bf.lX {n q:Nat} {nb:Nat->Nat->Prop} {out:List Int} {Q:List Nat} {D:Int} {ex a:Nat->Nat->Prop} (h:Bf n q nb out Q D ex) (hex:∀x y,ex x y->a x y):Bf n q nb out Q D a:=
 ⟨h.len,h.q0,h.lo,h.hi,h.qv,h.mO,h.top,h.d0,h.back,fun v b e hn u hu g he=>h.ke v b e hn u hu g (fun k=>he (hex v u k))⟩
def oT (v:Nat) (pre:List (Int×Int)) (x y:Nat):Prop:=x=v/\¬∃m,((y:Int),m)∈pre
theorem Bf.done {n q:Nat} {nb:Nat->Nat->Prop} {out:List Int} {Q:List Nat} {D:Int} {ex:Nat->Nat->Prop} (h:Bf n q nb out Q D ex) (hex:∀x y,nb x y->¬ex x y):Bf n q nb out Q D (fun _ _=>False):=
 ⟨h.len,h.q0,h.lo,h.hi,h.qv,h.mO,h.top,h.d0,h.back,fun v b e hn u hu a _=>h.ke v b e hn u hu a (hex v u a)⟩
namespace DI
variable {w W W':World} {b3 b4 go co n lo hi lo' hi' l:Nat} {out:List Int} {qv:Value} {Q:List Nat}
theorem below (h:DI w b3 b4 go co n lo hi out qv Q W) (hb:Below W.heap.size W W'):DI w b3 b4 go co n lo hi out qv Q W':=⟨a8 h.hb hb,aM h.x3 hb,aM h.x4 hb,Kd.cU h.ro hb,Kd.r6 h.rq hb,h.ne⟩
theorem alloc (h:DI w b3 b4 go co n lo hi out qv Q W) (o:Obj):DI w b3 b4 go co n lo hi out qv Q (W.alloc o):=h.below (aq (ao _ _) o)
theorem drewN (h:DI w b3 b4 go co n lo hi out qv Q W) (m:Nat):DI w b3 b4 go co n lo hi out qv Q (W.drewN m):=h.below (bY (ao _ _) m)
theorem bk (h:DI w b3 b4 go co n lo hi out qv Q W) (hb:Bk l W W') (a:w.heap.size<=l):DI w b3 b4 go co n lo hi out qv Q W':=⟨h.hb.trans (hb.below _ a),hb.cells h.x3,hb.cells h.x4,du h.ro hb,DX h.rq hb,h.ne⟩
theorem ld (h:DI w b3 b4 go co n lo hi out qv Q W):go<W.heap.size/\b3<W.heap.size/\b4<W.heap.size/\w.heap.size<=go:=⟨Kd.a7 h.ro go rfl,aE h.x3,aE h.x4,Kd.dD h.ro go rfl⟩
theorem vP (h:DI w b3 b4 go co n lo hi out qv Q W) (v:Nat) (x:Int):DI w b3 b4 go co n lo hi (out.set v x) qv Q (W.setCell ⟨go,v,none⟩ (.int .i64 x)):=by
 obtain⟨h1,g,i,b⟩:=h.ld;have a:=Kd.de h.ro (v:Int) x;rw[aQ] at a;exact⟨Below.setCell h.hb b _,aG h.x3 (fun e=>h.ne.2.1 e.symm) _,aG h.x4 (fun e=>h.ne.2.2.1 e.symm) _,a.1,Kd.xL h.rq a.2 (fun k hk e=>by injection e with e;exact hk.1 e),h.ne⟩
theorem vQ (h:DI w b3 b4 go co n lo hi out qv Q W) {qv':Value} {Q':List Nat} (a:(Kd.int .i64).Q 3 W w.heap.size (fun k=>k≠go/\(k<lo'\/hi'<=k)) qv' (Q'.map fun x:Nat=>(x:Int))):DI w b3 b4 go co n lo' hi' out qv' Q' (W.setCell ⟨b4,0,none⟩ qv'):=by
 obtain⟨h1,b,g,i⟩:=h.ld;refine⟨Below.setCell h.hb h.ne.2.2.2.2 _,aG h.x3 h.ne.1 _,by simpa using bR h.x4 0 qv',?_,?_,h.ne⟩
 ·exact Kd.a_ (Kd.ff (Kd.gC rfl h.ro) (fun k hk=>Below.heap_setCell _ _ _ _ (fun e=>by injection hk with hk;exact h.ne.2.2.1 (hk.symm.trans e)))) (fun _ _=>trivial)
 ·exact Kd.r7 a h.x4 (fun q a=>by rcases List.mem_cons.1 a with rfl|h;decide;cases h) 0 qv'
theorem c3 (h:DI w b3 b4 go co n lo hi out qv Q W):W.cell? ⟨b3,0,none⟩=some (.slice (some ⟨go,0,none⟩) n co):=(al h.x3 0).trans rfl
theorem c4 (h:DI w b3 b4 go co n lo hi out qv Q W):W.cell? ⟨b4,0,none⟩=some qv:=(al h.x4 0).trans rfl
theorem jQ (h:DI w b3 b4 go co n lo hi out qv Q W) (v:Nat) (a:v<n):W.cell? ⟨go,v,none⟩=some (.int .i64 (rd out v)):=by
 have:=(Kd.bP 0 h.ro (v:Int) (by omega) (by omega)).1;rw[aQ] at this;exact this
theorem vR (h:DI w b3 b4 go co n lo hi out qv Q W) (v:Nat) (a:v<n):W.frozen? ⟨go,v,none⟩=false:=by
 have:=(Kd.bP 0 h.ro (v:Int) (by omega) (by omega)).2;rw[aQ] at this;exact this
theorem free (h:DI w b3 b4 go co n lo hi out qv Q W):DI w b3 b4 go co n 0 0 out qv Q W:=⟨h.hb,h.x3,h.x4,h.ro,Kd.lr h.rq (fun k hk=>⟨hk.1,.inr (Nat.zero_le _)⟩),h.ne⟩
theorem own (h:DI w b3 b4 go co n lo hi out qv Q W):∀k,qv.ownBlock=some k->k≠go/\(k<lo\/hi<=k)/\w.heap.size<=k/\k≠b3/\k≠b4:=fun k hk=>⟨(h.rq.1 k hk).1,(h.rq.1 k hk).2,Kd.xO h.rq k hk,fun e=>Kd.r8 h.rq h.x3 (by decide) (by rw[hk,e]),fun e=>Kd.r8 h.rq h.x4 (by decide) (by rw[hk,e])⟩
theorem push (h:DI w b3 b4 go co n lo hi out qv Q W) {v1:Value} {w1:World} {u:Nat} (a:(Kd.int .i64).Q 3 w1 w.heap.size (fun k=>k≠go/\(k<lo\/hi<=k)) v1 (Q.map (fun x:Nat=>(x:Int))++[(u:Int)])) (b:W.grownBy w1 qv.ownBlock) (hb:Below w.heap.size w w1):DI w b3 b4 go co n lo hi out v1 (Q++[u]) (w1.setCell ⟨b4,0,none⟩ v1):=by
 have i:=cR h.x3 b (fun e=>(h.own b3 e.symm).2.2.2.1 rfl);have g:=cR h.x4 b (fun e=>(h.own b4 e.symm).2.2.2.2 rfl);have ro:=Kd.iu h.ro rfl b (fun e=>(h.own go e).1 rfl);refine⟨Below.setCell hb h.ne.2.2.2.2 _,aG i h.ne.1 _,by simpa using bR g 0 v1,?_,?_,h.ne⟩
 ·exact Kd.a_ (Kd.ff (Kd.gC rfl ro) (fun k hk=>Below.heap_setCell _ _ _ _ (fun e=>by injection hk with hk;exact h.ne.2.2.1 (hk.symm.trans e)))) (fun _ _=>trivial)
 ·rw[List.map_append]
  exact Kd.r7 a g (fun q a=>by rcases List.mem_cons.1 a with rfl|h;decide;cases h) 0 v1
end DI
def kU (E:List S83) (v u:Nat):Prop:=∃m,(((u:Nat):Int),m)∈cz E v E.length
theorem DY (g n:Nat) (A0:Option Addr) (c0:Nat) (E:List S83) (q:Nat) (dv sv:Value) (er:Int) (w:World) (gi:Kd.C aT w A0 E.length E) (hE:ep n E) (hn:n<=1000) (hq:q<n)
  (N:gK w g n (.slice A0 E.length c0) q dv sv er):
  Calls Tryz.prog 165 #[.pointer (some ⟨g,0,none⟩)] w fun e w'=>∃(go co:Nat) (out:List Int) (D:Int),e= .returned (.slice (some ⟨go,0,none⟩) n co)/\(Kd.int .i64).R 3 w' w.heap.size (fun _=>True) (.slice (some ⟨go,0,none⟩) n co) out/\Below w.heap.size w w'/\Bf n q (kU E) out [] D (fun _ _=>False):=by
 have h':=Tryz.underlying188;have hu:=Tryz.underlying24;have HE:=zA hE;have dk:=zA N;have ib:=aE N;have hr:1<=n:=by omega
 have id:(0:Int)<=(q:Int):=by omega
 have ih:(q:Int)<(n:Int):=by omega
 have hx:=(al (bm w (.cells #[.int .i64 (-1)] 3)) 0).trans rfl;have s0:(w.alloc (.cells #[.int .i64 (-1)] 3)).cell? ⟨g,0,none⟩=some (.int .i64 n):=(al (ay N _) 0).trans rfl;clear hE N;refine(callsIn_wide (n:=10)).1 ?_;refine callsIn_of_wp_marks Tryz.func165 rfl trivial ?_ rfl;simp only[Tryz.ntmps165,List.size_toArray,List.length_cons,List.length_nil,Nat.reduceAdd,Nat.reduceSub,Array.replicate_succ,Array.replicate_zero,List.push_toArray,List.append_toArray,List.nil_append,List.cons_append];gi_wp2_with (first|(refine⟨trivial,?_⟩;gi_at_call 193;refine(callsIn_wide.2 (DW w.heap.size 0 1 n (-1) _ hx hr hn)).mono ?_;rintro e w3 ⟨go,co,rfl,hR,hB⟩))
 have el:=a8 (aq (ao w.heap.size w) _) hB;have ht:w.heap.size<=go:=by have:=Kd.dD hR go rfl;simp at this;omega
 have hv:=Kd.a7 hR go rfl;have d1:Aside0 ((Kd.int .i64).R 3 (w3.alloc (.cells #[.slice (some ⟨go,0,none⟩) n co] 25)) w.heap.size (fun _=>True) (.slice (some ⟨go,0,none⟩) n co) (List.replicate n (-1))):=⟨Kd.aK (Kd.ba hR (by simp)) _⟩;have d2:=zA (aq el (.cells #[.slice (some ⟨go,0,none⟩) n co] 25));have b_:=zA (bm w3 (.cells #[.slice (some ⟨go,0,none⟩) n co] 25));have hw:w.heap.size<=w3.heap.size:=el.size;have d3:(w3.alloc (.cells #[.slice (some ⟨go,0,none⟩) n co] 25)).heap.size=w3.heap.size+1:=by simp
 clear hR hB el hx s0;obtain⟨b3,gr⟩:∃b,b=w3.heap.size:=⟨_,rfl⟩;rw[<-gr] at b_ hw d3 hv⊢;clear gr;generalize w3.alloc (.cells #[.slice (some ⟨go,0,none⟩) n co] 25)=W1 at d1 d2 b_ d3⊢;have y0:=(al b_.out 0).trans rfl;have y1:W1.cell? ⟨g,2,none⟩=some (.int .i64 q):=(al (aM dk.out d2.out) 2).trans rfl;obtain⟨y2,y3⟩:=Kd.bP 0 d1.out (q:Int) (by omega) (by omega);rw[aQ] at y2 y3;generalize bO 0 (List.replicate n (-1)) (q:Int)=xq at y2;replace y2:W1.cell? ⟨go,q,none⟩=some (.int .i64 xq):=y2;have HP:=Kd.de d1.out (q:Int) (0:Int);rw[aQ] at HP;have ca:=zA (Kd.bd HP.1);have es:=zA (fw (cR (g:=b3) b_.out HP.2 (fun e=>by injection e with e;omega)));have d5:=zA (bV (Below.setCell (p:=⟨go,q,none⟩) d2.out ht (.int .i64 0)));have cb:(W1.setCell ⟨go,q,none⟩ (.int .i64 0)).drew.heap.size=b3+1:=by simp[d3]
 clear HP;gi_region
 replace ca:Aside0 ((Kd.int .i64).R 3 (W1.setCell ⟨go,q,none⟩ (.int .i64 0)).drew w.heap.size (fun _=>True) (.slice (some ⟨go,0,none⟩) n co) ((List.replicate n (-1)).set q 0)):=ca;clear y0 y1 y2 y3 d1 b_ d2 d3;generalize (W1.setCell ⟨go,q,none⟩ (.int .i64 0)).drew=W2 at ca es d5 cb⊢;have y1:W2.cell? ⟨g,2,none⟩=some (.int .i64 q):=(al (aM dk.out d5.out) 2).trans rfl;gi_wp2;have ev:Aside0 (DI w b3 (b3+1+1) go co n 0 0 ((List.replicate n (-1)).set q 0) (.slice (some ⟨b3+1,0,none⟩) 1 1) [q] ((W2.alloc (.cells #[.int .i64 q] 3)).alloc (.cells #[.slice (some ⟨b3+1,0,none⟩) 1 1] 25))):=⟨by
  have Z1:=bm W2 (.cells #[.int .i64 q] 3);have Z2:=bm (W2.alloc (.cells #[.int .i64 q] 3)) (.cells #[.slice (some ⟨b3+1,0,none⟩) 1 1] 25);rw[World.size_alloc,cb] at Z2;rw[cb] at Z1;refine⟨aq (aq d5.out _) _,ay (ay es.out _) _,Z2,Kd.aK (Kd.aK ca.out _) _,Kd.xJ (Kd.l7 ⟨by simp[bS],.inr ⟨b3+1,1,_,rfl,by omega,ay Z1 _,by simp,by decide,by simp,by simp[bS]⟩⟩ (fun k hk=>by cases hk;exact⟨by show b3+1≠go;omega,.inr (Nat.zero_le _)⟩)),by omega,by omega,by omega,by omega,by omega⟩⟩
 have gt:=zA (Bf.start (nb:=kU E) hq);have gx:((W2.alloc (.cells #[.int .i64 q] 3)).alloc (.cells #[.slice (some ⟨b3+1,0,none⟩) 1 1] 25)).heap.size=b3+3:=by simp[cb]
 clear ca es d5 cb y1;generalize (W2.alloc (.cells #[.int .i64 q] 3)).alloc (.cells #[.slice (some ⟨b3+1,0,none⟩) 1 1] 25)=W4 at ev gx⊢;refine uf (b3+3) (fun kq tm wr=>∃(u5 u25 u26 u27 u28 u29 u30 u31 u32 u33 u34 u35:Value) (out:List Int) (qv:Value) (Q:List Nat) (D:Int),Aside0 (DI w b3 (b3+1+1) go co n 0 0 out qv Q wr)/\Aside0 (Bf n q (kU E) out Q D (fun _ _=>False))/\b3+3<=wr.heap.size/\Aside0 (kq=2*(n-b7 out)+Q.length/\kq<=2*n+1)/\tm=#[.pointer (some ⟨g,0,none⟩),undef,.slice none 0 0,.pointer (some ⟨b3,0,none⟩),.pointer (some ⟨b3+1+1,0,none⟩),u5,undef,.slice (some ⟨w.heap.size,0,none⟩) 1 1,.pointer (some ⟨g,0,none⟩),.pointer (some ⟨g,0,none⟩),.pointer (some ⟨g,0,none⟩),.pointer (some ⟨g,0,none⟩),.int .i64 n,.slice (some ⟨go,0,none⟩) n co,.slice (some ⟨go,0,none⟩) n co,.pointer (some ⟨g,0,none⟩),.pointer (some ⟨g,0,none⟩),.pointer (some ⟨g,2,none⟩),.int .i64 q,.pointer (some ⟨go,q,none⟩),.pointer (some ⟨g,0,none⟩),.pointer (some ⟨g,0,none⟩),.pointer (some ⟨g,2,none⟩),.int .i64 q,.slice (some ⟨b3+1,0,none⟩) 1 1,u25,u26,u27,u28,u29,u30,u31,u32,u33,u34,u35,undef,undef,undef,undef,undef,undef,undef,undef,undef,undef,undef,undef,undef,undef,undef,undef,undef,undef,undef,undef]) (2*(n-b7 ((List.replicate n (-1)).set q 0))+1) ⟨_,_,_,_,_,_,_,_,_,_,_,_,_,_,_,_,ev,gt,by omega,⟨rfl,by omega⟩,rfl⟩ (b3+3) (by omega) (cE.nil _ _ _) ?_;clear ev gt gx;rintro gk tm wr ⟨u5,u25,u26,u27,u28,u29,u30,u31,u32,u33,u34,u35,out,qv,Q,D,V,HF,aY,HK,rfl⟩ ds b hb g5 J K hJ Y;have g7:=zA g5;have HJ:=zA hJ;clear g5 hJ;have x4:=V.out.c4;have x3:=V.out.c3;cases Q with
 |nil=>
  obtain⟨A,c,rfl, -⟩:=Kd.np V.out.rq;have hA:((([]:List Nat).map fun x:Nat=>(x:Int)).length:Int)=0:=rfl;simp only[List.map_nil,List.length_nil] at x4;clear hA Y;gi_wp2;refine(ue g7.out fun w' g9=>?_).1;exact⟨_,results_tmp rfl _ _ _,go,co,rfl,out,g9.R V.out.ro,V.out.hb.trans (g9.kK.mono (by omega)),D,HF.out⟩
 |cons v rest=>
  obtain⟨gq,oq,cq,rfl,im,io, -⟩:=Kd.yi V.out.rq (by simp);have hC:=HF.out.qv v (List.mem_cons_self ..);have a0:=hC.1;have cc:=(Kd.yk 0 V.out.rq 0 (by omega) (by simp)).1;have g':=Kd.lr (Kd.nn (Kd.xP (k:=1) V.out.rq (by simp))) (ok':=fun k=>k≠go/\(k<wr.heap.size\/wr.heap.size+3<=k)) (fun k hk=>⟨hk.1.1,.inl hk.2.2.1⟩);obtain⟨A',c',ha,hl⟩:=Kd.np V.out.rq;injection ha with hH hI hM
  subst hM;have d8:=zA (bm wr (.cells #[.int .i64 v] 3));have a1:=zA (V.out.alloc (.cells #[.int .i64 v] 3));have d9:=zA (g7.out.below (aq (ao _ _) (.cells #[.int .i64 v] 3)));have cd:=zA (Kd.xK g' (.cells #[.int .i64 v] 3));simp only[List.map_cons,List.length_cons,List.length_map,List.drop_succ_cons,List.drop_zero,Nat.add_sub_cancel] at x4 cc cd hl;replace cc:wr.cell? ⟨gq,oq,none⟩=some (.int .i64 v):=cc;obtain⟨L,hL⟩:∃L,L=rest.length+1:=⟨_,rfl⟩;rw[<-hL] at x4 hl;have he:(1:Int)<=(L:Int):=by omega
  have hf:(L:Int)<=(cq:Int):=by omega
  have hg:(0:Int)<(L:Int):=by omega
  have eb:=a1.out.c4;simp only[List.map_cons,List.length_cons,List.length_map] at eb;rw[<-hL] at eb;have hh:=zA hL;clear hH hI hL g';have hj:=bD a1.out.x4 0;have hm:=zA (Bf.pop HF.out);have it:=HF.out.len;by_cases ed:cq=1
  ·subst ed
   obtain rfl:L=1:=by omega
   obtain⟨Z,a2⟩:∃Z,Z=Value.slice (some ⟨gq,oq,none⟩) 0 0:=⟨_,rfl⟩;have a3:=zA (a1.out.vQ (lo':=wr.heap.size) (hi':=wr.heap.size+3) (qv':=Z) (Q':=rest) (by have h:=cd.out;rw[if_pos rfl,show rest.length=0 by have:=hh.out;omega] at h;rw[a2];exact h));gi_wp2_with (first|(refine⟨trivial,?_⟩;gi_at_call 194;refine(callsIn_wide.2 (lQ g v _)).mono ?_;rintro e w3 ⟨rfl,rfl⟩))
   rw[<-a2];obtain⟨M,aa⟩:∃X,X=(wr.alloc (.cells #[.int .i64 v] 3)).setCell ⟨b3+1+1,0,none⟩ Z:=⟨_,rfl⟩;have ce:Aside0 (M.heap[wr.heap.size]? =some (.cells #[.int .i64 v] 3 (0,0))):=⟨by rw[aa];exact aG d8.out (show wr.heap.size≠b3+1+1 by omega) _⟩;have cf:M.heap.size=wr.heap.size+1:=by rw[aa];simp
   have ch:Aside0 (cE (b3+3) b ds M):=⟨by rw[aa];exact d9.out.set a1.out.x4 _⟩;rw[<-aa] at a3⊢;have Z1:=bm M (.cells #[.pointer (some ⟨g,0,none⟩)] 135);have Z2:=heap_alloc2_new M (.cells #[.pointer (some ⟨g,0,none⟩)] 135) (.cells #[.int .i64 v] 3);rw[cf] at Z1 Z2;have O:=zA ((a3.out.alloc (.cells #[.pointer (some ⟨g,0,none⟩)] 135)).alloc (.cells #[.int .i64 v] 3));have ar:=zA (ay (ay ce.out (.cells #[.pointer (some ⟨g,0,none⟩)] 135)) (.cells #[.int .i64 v] 3));have av:=zA ((ch.out.below (aq (ao _ _) (.cells #[.pointer (some ⟨g,0,none⟩)] 135))).below (aq (ao _ _) (.cells #[.int .i64 v] 3)));have a4:=zA (ay Z1 (.cells #[.int .i64 v] 3));have a5:=zA Z2;have aB:=zA (aM dk.out O.out.hb);have a9:((M.alloc (.cells #[.pointer (some ⟨g,0,none⟩)] 135)).alloc (.cells #[.int .i64 v] 3)).heap.size=wr.heap.size+3:=by simp[cf]
   have e3:=Nat.le_of_eq a9;have e4:=Nat.le_of_eq a9.symm;clear a9;clear d8 d9 a1 cd a3 ce ch Z1 Z2 aa a2 V x4 eb x3 cc hj he hf hg hl;generalize (M.alloc (.cells #[.pointer (some ⟨g,0,none⟩)] 135)).alloc (.cells #[.int .i64 v] 3)=r at O ar av a4 a5 aB e3 e4⊢;refine iC (σ:=Unit) (α:=Int×Int) (F:=Fence.wide) (n:=10) rfl (by decide) (gf:=207) (lb:=#[.pointer (some ⟨wr.heap.size+1,0,none⟩),.pointer (some ⟨wr.heap.size+1+1,0,none⟩)]) rfl trivial (enters_of Tryz.func207 (by kernel_rfl) rfl)
    (fun o=>qt (wr.heap.size+1) (wr.heap.size+1+1) g n A0 c0 E q dv sv er v w _ gi HE.out hn a0 (aq (aq O.out.hb _) _) (ay (ay a4.out _) _) (ay (ay a5.out _) _) (ay (ay aB.out _) _)) (fun _=>rfl)
    (fun _=>True) ?GH ?st1 ?GZ
    (fun _ pre W=>r.heap.size<=W.heap.size/\∃(a:List Int) (qv':Value) (Q':List Nat),DI w b3 (b3+1+1) go co n wr.heap.size (wr.heap.size+3) a qv' Q' W/\Bf n q (kU E) a Q' (rd a v) (oT v pre)/\2*(n-b7 a)+Q'.length<=2*(n-b7 out)+rest.length/\W.heap[wr.heap.size]? =some (.cells #[.int .i64 v] 3 (0,0))/\cE (b3+3) b ds W) (fun _ _ _ _=>False)
    ?GX (fun _ _ _ _ _ _ h _=>h) ?GG (fun _ _ _ _ _ h _=>h) ?GR ?GU ?Jt ?GJ ?GI ?G1 (fun _ _ _ _ _ _ _ h=>h.elim)
   case GJ=>
    intro l x W K Y;gi_wp2;exact Y
   case GH=>
    intro o s W1 h;exact⟨trivial,by rw[h];exact cn.refl _ _⟩
   case st1=>intro s A B _ h;exact cZ h
   case GZ=>intro s x A B _ h;exact cZ h.2
   case GX=>
    rintro s pre A B _ ⟨P,a,qv',Q',h1,z,h4,h5,h6⟩ N;exact⟨Nat.le_trans P N.size,a,qv',Q',h1.below N,z,h4,aM h5 N,h6.below N⟩
   case GG=>
    rintro s pre A B ⟨P,a,qv',Q',h1,z,h4,h5,h6⟩ aF;exact⟨by rw[aF.size];exact P,a,qv',Q',h1.bk aF (by omega),z,h4,aF.cells h5,h6.bk aF (by omega)⟩
   case GR=>
    intro s A B C D aL ci cj;refine⟨fun aY=>((aL.below w.heap.size (by omega)).trans (ci.1 (by rw[aL.size];exact aY))).trans (cj.below w.heap.size (by omega)),fun k hk ck=>?_⟩;have cl:k≠r.heap.size+1:=by rcases hk with rfl|rfl|rfl<;>omega
    exact(cj.heap k cl).trans ((ci.2 k hk (by rw[aL.size];exact ck)).trans (aL.heap k cl))
   case GU=>
    rintro o s W1 rfl;exact⟨by simp;omega,out,Z,rest,(O.out.alloc _).alloc _,hm.out.lX (fun x y h=>⟨h,by simp⟩),aI _,ay (ay ar.out _) _,(av.out.below (aq (ao _ _) _)).below (aq (ao _ _) _)⟩
   case GI=>
    rintro l s' pre ⟨u,m⟩ Wb Wc W _ ⟨P,a,qv',Q',i1,i2,i4,i5,i6⟩ ⟨⟨cr,e5⟩,ab⟩ e6 H;have G:=zA ((i1.below ab).bk H (by omega));have S:=zA i4;have I5:=zA (H.cells (aM i5 ab));have I6:=zA ((i6.below ab).bk H (by omega));have aP:r.heap.size<=W.heap.size:=by have:=H.size;have:=ab.size;omega
    clear i1 i4 i5 i6 ab H e6 P;simp only at cr;obtain⟨u0,u1,m0,m1⟩:=cr;obtain⟨u,rfl⟩:=Int.eq_ofNat_of_zero_le u0;have aR:u<n:=by omega
    obtain⟨l1,l2⟩:=Bf.look (ex:=fun y=>¬∃m,((y:Int),m)∈pre) i2 aR a0 ⟨m,e5⟩;have hP:=i2.d0;have hQ:rd a v<=1000:=by have h1:=i2.hi v a0;have z:=jz a;have h3:=i2.len;omega
    have e_:=zA i2.len;have z3:=G.out.c3;have z4:=G.out.jQ u aR;have cv:∀(ex:Nat->Prop) (x y:Nat),(x=v/\(¬∃m,((y:Int),m)∈pre)/\y≠u)->oT v (pre++[((u:Int),m)]) x y:=fun ex x y h=>⟨h.1,fun⟨m',ag⟩=>by
     rcases List.mem_append.1 ag with ag|ag
     ·exact h.2.1 ⟨m',ag⟩
     ·have:=List.mem_singleton.1 ag
      injection this with e1 e2
      exact h.2.2 (by omega)⟩
    have cx:=zA cv;clear cv i2;by_cases bi:rd a u<0
    ·obtain⟨k1,k2,k3,k4⟩:=l2 bi
     have K2:=zA k2;have K3:=zA k3;have K4:=zA (k4.lX (cx.out (fun _=>True)));have fn:decide (rd a u<0)=true:=az bi;clear l1 l2 k1 k2 k3 k4;gi_wp2;have z3:=G.out.c3;have z4:=G.out.jQ v a0;have z5:=(al I5.out 0).trans rfl;have fo:wrap64 (rd a v+1)=rd a v+1:=by unfold wrap64;omega
     have hV:(0:Int)<=(u:Int):=by omega
     have hW:(0:Int)<=(v:Int):=by omega
     have bv:(v:Int)<(n:Int):=by omega
     refine oJ [_,_,_,_,_,_,_,_] _ rfl (by kernel_rfl) rfl (by kernel_rfl) (by kernel_rfl) (by kernel_rfl) (by kernel_rfl) ?_;repeat(gi_big_quiet_step (fail))
     refine wpQuietIn_nil ?_;rintro _ ⟨nq,rfl⟩;have I:=zA (G.out.drewN nq);have J5:=zA (ir I5.out nq);have J6:=zA (I6.out.below (bY (ao _ _) nq));have b0:r.heap.size<=(W.drewN nq).heap.size:=by simpa using aP
     have b1:=zA (cZ (nw:=r.heap.size) (bY (ao W.heap.size W) nq));have b2:=zA (bY (ao w.heap.size W) nq);have b4:Aside0 (∀k,k≠go->(W.drewN nq).heap[k]? =W.heap[k]?):=⟨fun k _=>by simp⟩;clear z3 z4 z5 fo;have z5:=I.out.vR u aR;have z6:=I.out.jQ u aR;generalize W.drewN nq=Wq at I J5 J6 b0 b1 b2 b4 z5 z6⊢;obtain⟨g1,g2,g3,g4⟩:=I.out.ld;obtain⟨n1,n2,n3,n4,n5⟩:=I.out.ne;have i:=zA (I.out.vP u (rd a v+1));have fv:wr.heap.size≠go:=by omega
     have f0:=zA (aG (p:=⟨go,u,none⟩) J5.out fv (.int .i64 (rd a v+1)));have f1:Aside0 (cE (b3+3) b ds (Wq.setCell ⟨go,u,none⟩ (.int .i64 (rd a v+1)))):=⟨by
      obtain⟨inner,ho⟩:=Kd.iS I.out.ro;obtain⟨cells,hc⟩:=iR ho go rfl;exact J6.out.set (p:=⟨go,u,none⟩) hc _⟩
     have f4:r.heap.size<=(Wq.setCell ⟨go,u,none⟩ (.int .i64 (rd a v+1))).heap.size:=by simpa using b0
     have f5:=zA (b1.out.trans (fp (bo:=go) (j:=u) Wq (.int .i64 (rd a v+1)) (show go<r.heap.size by omega)));have f6:Aside0 (∀k,k≠go->(Wq.setCell ⟨go,u,none⟩ (.int .i64 (rd a v+1))).heap[k]? =W.heap[k]?):=⟨fun k hk=>(Below.heap_setCell _ _ _ _ hk).trans (b4.out k hk)⟩;have f7:Aside0 (∀k,(Wq.setCell ⟨go,u,none⟩ (.int .i64 (rd a v+1))).heap.size<=k->k≠go/\(k<wr.heap.size\/wr.heap.size+3<=k)):=⟨fun k hk=>by
      simp only[World.size_setCell] at hk;omega⟩
     have f8:Aside0 (((Q'.map fun x:Nat=>(x:Int)).length+1)*8<=140737488355328):=⟨by
      have h1:=S.out;have z:=HK.out.1;have h3:=HK.out.2;rw[List.length_cons] at z;rw[List.length_map];omega⟩
     have f9:=zA (Below.setCell (p:=⟨go,u,none⟩) b2.out g4 (.int .i64 (rd a v+1)));have z4:=i.out.c4;have h0:go≠b3+1+1:=n3;clear G I5 I6 I J5 J6 b0 b1 b2 b4 aP O ar av aB;gi_wp2_with (gi_at_builtin;go_loud (refine vN (Kd.int .i64) (w0:=w) w.heap.size rfl (.tmp 51) (.tmp 53) 25 3 (.int .i64 0) 8 rfl Tryz.underlying25 fW rfl (by decide) (by omega) qv' (Q'.map fun x:Nat=>(x:Int)) (u:Int) [.int .i64 u] (fun k=>k≠go/\(k<wr.heap.size\/wr.heap.size+3<=k)) (fun _=>False) rfl (by rw[World.size_setCell];rfl) rfl (fun _ hk=>hk.elim) f7.out i.out.rq i.out.hb i.out.hb.size f8.out ?_;intro v1 h7 T c8 aS f';obtain⟨A1,c1,bv, -⟩:=Kd.np T;obtain⟨nx,dd⟩:∃nx,nx=((Q'.map fun x:Nat=>(x:Int))++[(u:Int)]).length:=⟨_,rfl⟩;rw[<-dd] at bv;clear dd;subst bv;have gb:=zA (i.out.push T aS c8);have X4:=zA (cR i.out.x4 aS (fun e=>(i.out.own _ e.symm).2.2.2.2 rfl));have ed:=dK X4.out;have h9:=bD X4.out 0;have gc:=zA aS;clear T aS f' c8))
     have U:=gc.out;have T:=i.out.own;have Y:∀k,(k=wr.heap.size\/k=wr.heap.size+1\/k=wr.heap.size+1+1\/k=g)->some k≠qv'.ownBlock:=fun k hk e=>by
      have:=T k e.symm;rcases hk with rfl|rfl|rfl|rfl<;>omega
     have h_:=U.size;refine⟨(f5.out.trans (vO i.out.rq U)).trans (fp _ _ (show b3+1+1<r.heap.size by omega)),⟨fun _=>Below.setCell (p:=⟨b3+1+1,0,none⟩) (f9.out.grown U i.out.hb.size (fun k e=>(T k e).2.2.1)) n5 _,fun k hk ck=>?_⟩,?_,_,_,Q'++[u],gb.out,?_,?_,aG (cR f0.out U (Y _ (.inl rfl))) (show wr.heap.size≠b3+1+1 by omega) _,(f1.out.vM i.out.rq U).set X4.out _⟩
     ·refine(Below.heap_setCell _ _ _ _ (show k≠b3+1+1 by rcases hk with rfl|rfl|rfl<;>omega)).trans ((U.block k ?_ (Y k (hk.elim (fun h=>.inr (.inl h)) (fun h=>.inr (.inr h))))).trans (f6.out k (by rcases hk with rfl|rfl|rfl<;>omega)))
      have h1:=f4;rcases hk with rfl|rfl|rfl<;>omega
     ·simp only[World.size_setCell];omega
     ·rw[K2.out];exact K4.out
     ·rw[K3.out,List.length_append]
      have h1:=S.out;have z:=jz (a.set u (rd a v+1));rw[K3.out,List.length_set,e_.out] at z;simp only[List.length_cons,List.length_nil];omega
    ·have K4:=zA ((l1 (by omega)).lX (cx.out (fun _=>True)))
     have fn:decide (rd a u<0)=false:=aZ bi;clear l1 l2 O ar av a4 a5 aB;gi_wp2;exact⟨cn.refl _ _,⟨fun _=>ao _ _,fun _ _ _=>rfl⟩,aP,a,qv',Q',G.out,K4.out,S.out,I5.out,I6.out⟩
   case G1=>
    rintro s' xs W W' _ rfl ⟨P,a,qv',Q',i1,i2,i4,i5,i6⟩ H b6;have G:=zA (i1.bk H (by omega)).free;have I2:=zA (Bf.done i2 (fun x y ge hex=>hex.2 (by rw[<-hex.1];exact ge)));have S:=zA i4;have I6:=zA (i6.bk H (by omega));have gg:=zA b6;have aP:r.heap.size<W'.heap.size:=(Array.getElem?_eq_some_iff.1 b6).1;clear i1 i2 i4 i5 i6 b6;gi_wp2;exact kL.intro (2*(n-b7 a)+Q'.length) (by rw[HK.out.1];have:=S.out;simp only[List.length_cons];omega) (HJ.out _ _ _ ⟨_,_,_,_,_,_,_,_,_,_,_,_,a,qv',Q',_,G,I2,by omega,⟨rfl,by have h1:=S.out;have z:=HK.out.1;have h3:=HK.out.2;rw[List.length_cons] at z;omega⟩,rfl⟩) (r.heap.size+1) (by omega) (I6.out.push (by omega) (by omega) gg.out)
  ·obtain⟨Z,a2⟩:∃Z,Z=Value.slice (some ⟨gq,oq+1,none⟩) (L-1) (cq-1):=⟨_,rfl⟩
   have a3:=zA (a1.out.vQ (lo':=wr.heap.size) (hi':=wr.heap.size+3) (qv':=Z) (Q':=rest) (by have h:=cd.out;rw[if_neg ed,show rest.length=L-1 by have:=hh.out;omega] at h;rw[a2];exact h));gi_wp2_with (first|(refine⟨trivial,?_⟩;gi_at_call 194;refine(callsIn_wide.2 (lQ g v _)).mono ?_;rintro e w3 ⟨rfl,rfl⟩))
   rw[<-a2];obtain⟨M,aa⟩:∃X,X=(wr.alloc (.cells #[.int .i64 v] 3)).setCell ⟨b3+1+1,0,none⟩ Z:=⟨_,rfl⟩;have ce:Aside0 (M.heap[wr.heap.size]? =some (.cells #[.int .i64 v] 3 (0,0))):=⟨by rw[aa];exact aG d8.out (show wr.heap.size≠b3+1+1 by omega) _⟩;have cf:M.heap.size=wr.heap.size+1:=by rw[aa];simp
   have ch:Aside0 (cE (b3+3) b ds M):=⟨by rw[aa];exact d9.out.set a1.out.x4 _⟩;rw[<-aa] at a3⊢;have Z1:=bm M (.cells #[.pointer (some ⟨g,0,none⟩)] 135);have Z2:=heap_alloc2_new M (.cells #[.pointer (some ⟨g,0,none⟩)] 135) (.cells #[.int .i64 v] 3);rw[cf] at Z1 Z2;have O:=zA ((a3.out.alloc (.cells #[.pointer (some ⟨g,0,none⟩)] 135)).alloc (.cells #[.int .i64 v] 3));have ar:=zA (ay (ay ce.out (.cells #[.pointer (some ⟨g,0,none⟩)] 135)) (.cells #[.int .i64 v] 3));have av:=zA ((ch.out.below (aq (ao _ _) (.cells #[.pointer (some ⟨g,0,none⟩)] 135))).below (aq (ao _ _) (.cells #[.int .i64 v] 3)));have a4:=zA (ay Z1 (.cells #[.int .i64 v] 3));have a5:=zA Z2;have aB:=zA (aM dk.out O.out.hb);have a9:((M.alloc (.cells #[.pointer (some ⟨g,0,none⟩)] 135)).alloc (.cells #[.int .i64 v] 3)).heap.size=wr.heap.size+3:=by simp[cf]
   have e3:=Nat.le_of_eq a9;have e4:=Nat.le_of_eq a9.symm;clear a9;clear d8 d9 a1 cd a3 ce ch Z1 Z2 aa a2 V x4 eb x3 cc hj he hf hg hl;generalize (M.alloc (.cells #[.pointer (some ⟨g,0,none⟩)] 135)).alloc (.cells #[.int .i64 v] 3)=r at O ar av a4 a5 aB e3 e4⊢;refine iC (σ:=Unit) (α:=Int×Int) (F:=Fence.wide) (n:=10) rfl (by decide) (gf:=207) (lb:=#[.pointer (some ⟨wr.heap.size+1,0,none⟩),.pointer (some ⟨wr.heap.size+1+1,0,none⟩)]) rfl trivial (enters_of Tryz.func207 (by kernel_rfl) rfl)
    (fun o=>qt (wr.heap.size+1) (wr.heap.size+1+1) g n A0 c0 E q dv sv er v w _ gi HE.out hn a0 (aq (aq O.out.hb _) _) (ay (ay a4.out _) _) (ay (ay a5.out _) _) (ay (ay aB.out _) _)) (fun _=>rfl)
    (fun _=>True) ?GM ?st2 ?G0
    (fun _ pre W=>r.heap.size<=W.heap.size/\∃(a:List Int) (qv':Value) (Q':List Nat),DI w b3 (b3+1+1) go co n wr.heap.size (wr.heap.size+3) a qv' Q' W/\Bf n q (kU E) a Q' (rd a v) (oT v pre)/\2*(n-b7 a)+Q'.length<=2*(n-b7 out)+rest.length/\W.heap[wr.heap.size]? =some (.cells #[.int .i64 v] 3 (0,0))/\cE (b3+3) b ds W) (fun _ _ _ _=>False)
    ?GK (fun _ _ _ _ _ _ h _=>h) ?GO (fun _ _ _ _ _ h _=>h) ?GV ?GN ?a12 ?GL ?GQ ?GY (fun _ _ _ _ _ _ _ h=>h.elim)
   case GL=>
    intro l x W K Y;gi_wp2;exact Y
   case GM=>
    intro o s W1 h;exact⟨trivial,by rw[h];exact cn.refl _ _⟩
   case st2=>intro s A B _ h;exact cZ h
   case G0=>intro s x A B _ h;exact cZ h.2
   case GK=>
    rintro s pre A B _ ⟨P,a,qv',Q',h1,z,h4,h5,h6⟩ N;exact⟨Nat.le_trans P N.size,a,qv',Q',h1.below N,z,h4,aM h5 N,h6.below N⟩
   case GO=>
    rintro s pre A B ⟨P,a,qv',Q',h1,z,h4,h5,h6⟩ aF;exact⟨by rw[aF.size];exact P,a,qv',Q',h1.bk aF (by omega),z,h4,aF.cells h5,h6.bk aF (by omega)⟩
   case GV=>
    intro s A B C D aL ci cj;refine⟨fun aY=>((aL.below w.heap.size (by omega)).trans (ci.1 (by rw[aL.size];exact aY))).trans (cj.below w.heap.size (by omega)),fun k hk ck=>?_⟩;have cl:k≠r.heap.size+1:=by rcases hk with rfl|rfl|rfl<;>omega
    exact(cj.heap k cl).trans ((ci.2 k hk (by rw[aL.size];exact ck)).trans (aL.heap k cl))
   case GN=>
    rintro o s W1 rfl;exact⟨by simp;omega,out,Z,rest,(O.out.alloc _).alloc _,hm.out.lX (fun x y h=>⟨h,by simp⟩),aI _,ay (ay ar.out _) _,(av.out.below (aq (ao _ _) _)).below (aq (ao _ _) _)⟩
   case GQ=>
    rintro l s' pre ⟨u,m⟩ Wb Wc W _ ⟨P,a,qv',Q',i1,i2,i4,i5,i6⟩ ⟨⟨cr,e5⟩,ab⟩ e6 H;have G:=zA ((i1.below ab).bk H (by omega));have S:=zA i4;have I5:=zA (H.cells (aM i5 ab));have I6:=zA ((i6.below ab).bk H (by omega));have aP:r.heap.size<=W.heap.size:=by have:=H.size;have:=ab.size;omega
    clear i1 i4 i5 i6 ab H e6 P;simp only at cr;obtain⟨u0,u1,m0,m1⟩:=cr;obtain⟨u,rfl⟩:=Int.eq_ofNat_of_zero_le u0;have aR:u<n:=by omega
    obtain⟨l1,l2⟩:=Bf.look (ex:=fun y=>¬∃m,((y:Int),m)∈pre) i2 aR a0 ⟨m,e5⟩;have hP:=i2.d0;have hQ:rd a v<=1000:=by have h1:=i2.hi v a0;have z:=jz a;have h3:=i2.len;omega
    have e_:=zA i2.len;have z3:=G.out.c3;have z4:=G.out.jQ u aR;have cv:∀(ex:Nat->Prop) (x y:Nat),(x=v/\(¬∃m,((y:Int),m)∈pre)/\y≠u)->oT v (pre++[((u:Int),m)]) x y:=fun ex x y h=>⟨h.1,fun⟨m',ag⟩=>by
     rcases List.mem_append.1 ag with ag|ag
     ·exact h.2.1 ⟨m',ag⟩
     ·have:=List.mem_singleton.1 ag
      injection this with e1 e2
      exact h.2.2 (by omega)⟩
    have cx:=zA cv;clear cv i2;by_cases bi:rd a u<0
    ·obtain⟨k1,k2,k3,k4⟩:=l2 bi
     have K2:=zA k2;have K3:=zA k3;have K4:=zA (k4.lX (cx.out (fun _=>True)));have fn:decide (rd a u<0)=true:=az bi;clear l1 l2 k1 k2 k3 k4;gi_wp2;have z3:=G.out.c3;have z4:=G.out.jQ v a0;have z5:=(al I5.out 0).trans rfl;have fo:wrap64 (rd a v+1)=rd a v+1:=by unfold wrap64;omega
     have hV:(0:Int)<=(u:Int):=by omega
     have hW:(0:Int)<=(v:Int):=by omega
     have bv:(v:Int)<(n:Int):=by omega
     refine oJ [_,_,_,_,_,_,_,_] _ rfl (by kernel_rfl) rfl (by kernel_rfl) (by kernel_rfl) (by kernel_rfl) (by kernel_rfl) ?_;repeat(gi_big_quiet_step (fail))
     refine wpQuietIn_nil ?_;rintro _ ⟨nq,rfl⟩;have I:=zA (G.out.drewN nq);have J5:=zA (ir I5.out nq);have J6:=zA (I6.out.below (bY (ao _ _) nq));have b0:r.heap.size<=(W.drewN nq).heap.size:=by simpa using aP
     have b1:=zA (cZ (nw:=r.heap.size) (bY (ao W.heap.size W) nq));have b2:=zA (bY (ao w.heap.size W) nq);have b4:Aside0 (∀k,k≠go->(W.drewN nq).heap[k]? =W.heap[k]?):=⟨fun k _=>by simp⟩;clear z3 z4 z5 fo;have z5:=I.out.vR u aR;have z6:=I.out.jQ u aR;generalize W.drewN nq=Wq at I J5 J6 b0 b1 b2 b4 z5 z6⊢;obtain⟨g1,g2,g3,g4⟩:=I.out.ld;obtain⟨n1,n2,n3,n4,n5⟩:=I.out.ne;have i:=zA (I.out.vP u (rd a v+1));have fv:wr.heap.size≠go:=by omega
     have f0:=zA (aG (p:=⟨go,u,none⟩) J5.out fv (.int .i64 (rd a v+1)));have f1:Aside0 (cE (b3+3) b ds (Wq.setCell ⟨go,u,none⟩ (.int .i64 (rd a v+1)))):=⟨by
      obtain⟨inner,ho⟩:=Kd.iS I.out.ro;obtain⟨cells,hc⟩:=iR ho go rfl;exact J6.out.set (p:=⟨go,u,none⟩) hc _⟩
     have f4:r.heap.size<=(Wq.setCell ⟨go,u,none⟩ (.int .i64 (rd a v+1))).heap.size:=by simpa using b0
     have f5:=zA (b1.out.trans (fp (bo:=go) (j:=u) Wq (.int .i64 (rd a v+1)) (show go<r.heap.size by omega)));have f6:Aside0 (∀k,k≠go->(Wq.setCell ⟨go,u,none⟩ (.int .i64 (rd a v+1))).heap[k]? =W.heap[k]?):=⟨fun k hk=>(Below.heap_setCell _ _ _ _ hk).trans (b4.out k hk)⟩;have f7:Aside0 (∀k,(Wq.setCell ⟨go,u,none⟩ (.int .i64 (rd a v+1))).heap.size<=k->k≠go/\(k<wr.heap.size\/wr.heap.size+3<=k)):=⟨fun k hk=>by
      simp only[World.size_setCell] at hk;omega⟩
     have f8:Aside0 (((Q'.map fun x:Nat=>(x:Int)).length+1)*8<=140737488355328):=⟨by
      have h1:=S.out;have z:=HK.out.1;have h3:=HK.out.2;rw[List.length_cons] at z;rw[List.length_map];omega⟩
     have f9:=zA (Below.setCell (p:=⟨go,u,none⟩) b2.out g4 (.int .i64 (rd a v+1)));have z4:=i.out.c4;have h0:go≠b3+1+1:=n3;clear G I5 I6 I J5 J6 b0 b1 b2 b4 aP O ar av aB;gi_wp2_with (gi_at_builtin;go_loud (refine vN (Kd.int .i64) (w0:=w) w.heap.size rfl (.tmp 51) (.tmp 53) 25 3 (.int .i64 0) 8 rfl Tryz.underlying25 fW rfl (by decide) (by omega) qv' (Q'.map fun x:Nat=>(x:Int)) (u:Int) [.int .i64 u] (fun k=>k≠go/\(k<wr.heap.size\/wr.heap.size+3<=k)) (fun _=>False) rfl (by rw[World.size_setCell];rfl) rfl (fun _ hk=>hk.elim) f7.out i.out.rq i.out.hb i.out.hb.size f8.out ?_;intro v1 h7 T c8 aS f';obtain⟨A1,c1,bv, -⟩:=Kd.np T;obtain⟨nx,dd⟩:∃nx,nx=((Q'.map fun x:Nat=>(x:Int))++[(u:Int)]).length:=⟨_,rfl⟩;rw[<-dd] at bv;clear dd;subst bv;have gb:=zA (i.out.push T aS c8);have X4:=zA (cR i.out.x4 aS (fun e=>(i.out.own _ e.symm).2.2.2.2 rfl));have ed:=dK X4.out;have h9:=bD X4.out 0;have gc:=zA aS;clear T aS f' c8))
     have U:=gc.out;have T:=i.out.own;have Y:∀k,(k=wr.heap.size\/k=wr.heap.size+1\/k=wr.heap.size+1+1\/k=g)->some k≠qv'.ownBlock:=fun k hk e=>by
      have:=T k e.symm;rcases hk with rfl|rfl|rfl|rfl<;>omega
     have h_:=U.size;refine⟨(f5.out.trans (vO i.out.rq U)).trans (fp _ _ (show b3+1+1<r.heap.size by omega)),⟨fun _=>Below.setCell (p:=⟨b3+1+1,0,none⟩) (f9.out.grown U i.out.hb.size (fun k e=>(T k e).2.2.1)) n5 _,fun k hk ck=>?_⟩,?_,_,_,Q'++[u],gb.out,?_,?_,aG (cR f0.out U (Y _ (.inl rfl))) (show wr.heap.size≠b3+1+1 by omega) _,(f1.out.vM i.out.rq U).set X4.out _⟩
     ·refine(Below.heap_setCell _ _ _ _ (show k≠b3+1+1 by rcases hk with rfl|rfl|rfl<;>omega)).trans ((U.block k ?_ (Y k (hk.elim (fun h=>.inr (.inl h)) (fun h=>.inr (.inr h))))).trans (f6.out k (by rcases hk with rfl|rfl|rfl<;>omega)))
      have h1:=f4;rcases hk with rfl|rfl|rfl<;>omega
     ·simp only[World.size_setCell];omega
     ·rw[K2.out];exact K4.out
     ·rw[K3.out,List.length_append]
      have h1:=S.out;have z:=jz (a.set u (rd a v+1));rw[K3.out,List.length_set,e_.out] at z;simp only[List.length_cons,List.length_nil];omega
    ·have K4:=zA ((l1 (by omega)).lX (cx.out (fun _=>True)))
     have fn:decide (rd a u<0)=false:=aZ bi;clear l1 l2 O ar av a4 a5 aB;gi_wp2;exact⟨cn.refl _ _,⟨fun _=>ao _ _,fun _ _ _=>rfl⟩,aP,a,qv',Q',G.out,K4.out,S.out,I5.out,I6.out⟩
   case GY=>
    rintro s' xs W W' _ rfl ⟨P,a,qv',Q',i1,i2,i4,i5,i6⟩ H b6;have G:=zA (i1.bk H (by omega)).free;have I2:=zA (Bf.done i2 (fun x y ge hex=>hex.2 (by rw[<-hex.1];exact ge)));have S:=zA i4;have I6:=zA (i6.bk H (by omega));have gg:=zA b6;have aP:r.heap.size<W'.heap.size:=(Array.getElem?_eq_some_iff.1 b6).1;clear i1 i2 i4 i5 i6 b6;gi_wp2;exact kL.intro (2*(n-b7 a)+Q'.length) (by rw[HK.out.1];have:=S.out;simp only[List.length_cons];omega) (HJ.out _ _ _ ⟨_,_,_,_,_,_,_,_,_,_,_,_,a,qv',Q',_,G,I2,by omega,⟨rfl,by have h1:=S.out;have z:=HK.out.1;have h3:=HK.out.2;rw[List.length_cons] at z;omega⟩,rfl⟩) (r.heap.size+1) (by omega) (I6.out.push (by omega) (by omega) gg.out)
end
section
attribute [local go_sem] jr js jt ju mo mq mr mu
def fP (xs:List Int):Nat->Int
 |0=>rd xs 0
 |k+1=>if fP xs k<rd xs ((k+1:Nat):Int) then rd xs ((k+1:Nat):Int) else fP xs k
theorem DZ (A:Option Addr) (c:Nat) (xs:List Int) (w:World) (h:Kd.C (Kd.int .i64) w A xs.length xs) (h1:1<=xs.length):
  Calls Tryz.prog 167 #[.slice A xs.length c] w fun e w'=>e= .returned (.int .i64 (fP xs (xs.length-1)))/\Below w.heap.size w w':=by
 have v:xs.length<=9223372036854775807:=Kd.l9 h;have b:=zA (ao w.heap.size w);have m:=zA h;obtain⟨a,n,g⟩:=Kd.bL h 0 (by omega) (by omega);subst n;have g:w.cell? a=some (.int .i64 (rd xs 0)):=by simpa [Addr.add] using g
 have x:(1:Int)<=(xs.length:Int):=by omega
 have B:((xs.length:Nat):Int)<=9223372036854775807:=by omega
 clear h;go_enter Tryz.func167,Tryz.ntmps167
 go_wp2;clear g;go_loopg [3,4] (xs.length-1) (fun o p q wr=>∃i:Nat,p= .int .i64 (fP xs (i-1))/\q= .int .i64 i/\1<=i/\i<=xs.length/\Aside0 (Below w.heap.size w wr)/\Aside0 (o=xs.length-i))
 case atStart=>exact⟨1,rfl,rfl,aI _,h1,b,⟨rfl⟩⟩
 case round=>
  clear b;obtain⟨i,rfl,rfl,D,E,b,r⟩:=hrel;by_cases F:i<xs.length
  ·have s:(0:Int)<=(i:Int):=by omega
   have u:(i:Int)<(xs.length:Int):=by omega
   obtain⟨a',k,g⟩:=Kd.bL (Kd.au m.out b.out) (i:Int) s u;injection k with k
   subst k;rw[aQ] at g;have l:Aside0 (fP xs (i+1-1)=if fP xs (i-1)<rd xs (i:Int) then rd xs (i:Int) else fP xs (i-1)):=⟨by
    obtain⟨j,rfl⟩:∃j,i=j+1:=⟨i-1,by omega⟩;rfl⟩
   generalize fP xs (i-1)=y at l⊢;generalize rd xs (i:Int)=z at g l;go_wp2
   all_goals
    go_roundg (xs.length- (i+1))
    case measure=>rw[r.out];omega
    case rel=>exact⟨i+1,(by rw[l.out];first|rw[if_pos (by assumption)]|rw[if_neg (by assumption)]|rw[if_neg (by omega)]),by go_num,by omega,by omega,b,⟨rfl⟩⟩
  ·obtain rfl:i=xs.length:=by omega
   go_wp2;go_ret;exact⟨rfl,b.out⟩
end
section
attribute [local go_sem] Oper.semAt_some
theorem D0 (g n:Nat) (A0:Option Addr) (c0:Nat) (E:List S83) (q:Int) (dv Q:Value) (R:Int) (v:Nat) (lb:Array Value) (B:Nat->Bool) (w:World) (ab:Kd.C aT w A0 E.length E) (hE:ep n E) (hn:n<=1000) (hv:v<n) (i:gK w g n (.slice A0 E.length c0) q dv Q R)
  (hB:∀(W:World) (u:Int),Below w.heap.size w W->0<=u->u<n->Calls Tryz.prog 169 (#[.int .i64 u]++lb) W fun e w'=>e= .returned (.bool (B u.toNat))/\Below W.heap.size W w'):
  Calls Tryz.prog 168 #[.pointer (some ⟨g,0,none⟩),.int .i64 v,.func (.func 169) #[] lb] w fun e w'=>e= .returned (.int .i64 (eh B (cz E v E.length)))/\Below w.heap.size w w':=by
 have a9:=zA hB;have HE:=zA hE;have ak:=zA i;clear hB hE i;refine(callsIn_wide (n:=10)).1 ?_;refine callsIn_of_wp_marks Tryz.func168 rfl trivial ?_ rfl;simp only[Tryz.ntmps168,List.size_toArray,List.length_cons,List.length_nil,Nat.reduceAdd,Nat.reduceSub,Array.replicate_succ,Array.replicate_zero,List.push_toArray,List.append_toArray,List.nil_append,List.cons_append];gi_wp2_with (refine⟨trivial,?_⟩;gi_at_call 194;refine(callsIn_wide.2 (lQ g v _)).mono ?_;rintro e w3 ⟨rfl,rfl⟩)
 obtain⟨p,am⟩:∃o:Obj,o= .cells #[.func (.func 169) #[] lb] 121:=⟨_,rfl⟩;obtain⟨on,an⟩:∃o:Obj,o= .cells #[.int .i64 0] 3:=⟨_,rfl⟩;obtain⟨r,ap⟩:∃o:Obj,o= .cells #[.pointer (some ⟨g,0,none⟩)] 135:=⟨_,rfl⟩;obtain⟨y,av⟩:∃o:Obj,o= .cells #[.int .i64 v] 3:=⟨_,rfl⟩;have Z0:=bm w p;have S:=bm (w.alloc p) on;have T:=bm ((w.alloc p).alloc on) r;have U:=bm (((w.alloc p).alloc on).alloc r) y;simp only[World.size_alloc] at S T U;have H0:=zA ((ay (ay (ay Z0 on) r) y).trans (by rw[am]:_=some (.cells #[.func (.func 169) #[] lb] 121 (0,0))));have H1:=zA ((ay (ay S r) y).trans (by rw[an]:_=some (.cells #[.int .i64 0] 3 (0,0))));have H2:=zA ((ay T y).trans (by rw[ap]:_=some (.cells #[.pointer (some ⟨g,0,none⟩)] 135 (0,0))));have H3:=zA (U.trans (by rw[av]:_=some (.cells #[.int .i64 v] 3 (0,0))));have z:=zA (aq (aq (aq (aq (ao w.heap.size w) p) on) r) y);have aP:Aside0 (gK ((((w.alloc p).alloc on).alloc r).alloc y) g n (.slice A0 E.length c0) q dv Q R):=⟨aM ak.out z.out⟩;have bv:g<w.heap.size:=aE ak.out;have bf:=zA (Kd.au ab z.out);clear Z0 S T U;subst am an ap av;have bg:=z.out.size;have bi:((((w.alloc (.cells #[.func (.func 169) #[] lb] 121)).alloc (.cells #[.int .i64 0] 3)).alloc (.cells #[.pointer (some ⟨g,0,none⟩)] 135)).alloc (.cells #[.int .i64 v] 3)).heap.size=w.heap.size+4:=by simp
 generalize ((((w.alloc (.cells #[.func (.func 169) #[] lb] 121)).alloc (.cells #[.int .i64 0] 3)).alloc (.cells #[.pointer (some ⟨g,0,none⟩)] 135)).alloc (.cells #[.int .i64 v] 3))=j at H0 H1 H2 H3 z aP bf bg bi⊢;refine iC (σ:=Unit) (α:=Int×Int) (F:=Fence.wide) (n:=10) rfl (by decide) (gf:=207) (lb:=#[.pointer (some ⟨w.heap.size+1+1,0,none⟩),.pointer (some ⟨w.heap.size+1+1+1,0,none⟩)]) rfl trivial (enters_of Tryz.func207 (by kernel_rfl) rfl)
  (fun o=>oE (w.heap.size+1+1) (w.heap.size+1+1+1) g n A0 c0 E q dv Q R v w _ ab HE.out hn hv (aq (aq z.out _) _) (ay (ay H2.out _) _) (ay (ay H3.out _) _) (ay (ay aP.out _) _)) (fun _=>rfl)
  (fun _=>True) ?eF ?st ?ar
  (fun _ pre W=>j.heap.size<=W.heap.size/\W.heap[w.heap.size]? =some (.cells #[.func (.func 169) #[] lb] 121 (0,0))/\W.heap[w.heap.size+1]? =some (.cells #[.int .i64 (eh B pre)] 3 (0,0))/\Below w.heap.size w W) (fun _ _ _ _=>False)
  ?is (fun _ _ _ _ _ _ h _=>h) ?ib (fun _ _ _ _ _ h _=>h) ?kt ?h0 ?a1 ?assign ?body ?done (fun _ _ _ _ _ _ _ h=>h.elim)
 case assign=>
  intro l x W K hK;gi_wp2;exact hK
 case eF=>
  intro o s W1 h;exact⟨trivial,by rw[h];exact cn.refl _ _⟩
 case st=>intro s A B _ h;exact cZ h
 case ar=>intro s x A B _ h;exact cZ h.2
 case is=>
  rintro s pre A B _ ⟨H,h1,V,X⟩ i;exact⟨Nat.le_trans H i.size,aM h1 i,aM V i,a8 X i⟩
 case ib=>
  rintro s pre A B ⟨H,h1,V,X⟩ hb;exact⟨by rw[hb.size];exact H,hb.cells h1,hb.cells V,X.trans (hb.below w.heap.size (by omega))⟩
 case kt=>
  intro s A B C D N aR aS;refine⟨fun aY=>((N.below w.heap.size (by omega)).trans (aR.1 (by rw[N.size];exact aY))).trans (aS.below w.heap.size (by omega)),fun k hk I=>?_⟩;have a0:k≠j.heap.size+1:=by rcases hk with rfl|rfl|rfl<;>omega
  exact(aS.heap k a0).trans ((aR.2 k hk (by rw[N.size];exact I)).trans (N.heap k a0))
 case h0=>
  rintro o s W1 rfl;exact⟨by simp;omega,ay (ay H0.out _) _,ay (ay H1.out _) _,aq (aq z.out _) _⟩
 case body=>
  rintro l s pre ⟨u,m⟩ Wb W1 W _ ⟨H,i1,i2,i3⟩ ⟨Y,J⟩ bn b;have Z:=zA (b.cells (aM i1 J));have L:=zA (b.cells (aM i2 J));have b3:=zA ((a8 i3 J).trans (b.below w.heap.size (by omega)));have bx:j.heap.size<=W.heap.size:=by have:=b.size;have:=J.size;omega
  clear i1 i2 i3 J b bn;simp only at Y;have b0:W.cell? ⟨w.heap.size,0,none⟩=some (.func (.func 169) #[] lb):=(al Z.out 0).trans rfl;have O:=zA (a9.out W u b3.out Y.1 Y.2.1);have M:=zA (qw B pre (u,m));generalize eh B pre=s0 at L M;cases P:B u.toNat with
  |true=>
   rw[P] at O M;clear P;gi_wp2_with (refine⟨trivial,?_⟩;gi_at_call 169;refine(callsIn_wide.2 O.out).mono ?_;rintro e w5 ⟨rfl,G⟩;have a:=zA G;have D2:=zA (aM L.out G);have c5:w5.cell? ⟨w.heap.size+1,0,none⟩=some (.int .i64 s0):=(al D2.out 0).trans rfl;have f5:=bD D2.out 0;clear G)
   have aY:=a.out.size;refine⟨(cZ a.out).trans (fp _ _ (by show w.heap.size+1<j.heap.size;omega)),⟨fun aY=>Below.setCell (a.out.mono aY) (by show w.heap.size<=w.heap.size+1;omega) _,fun k hk I=>?_⟩,by simp;omega,?_,?_,Below.setCell (a8 b3.out a.out) (by show w.heap.size<=w.heap.size+1;omega) _⟩
   ·rw[Below.heap_setCell _ _ _ _ (by rcases hk with rfl|rfl|rfl<;>(show _≠w.heap.size+1)<;>omega)]
    exact a.out.block k I
   ·rw[Below.heap_setCell _ _ _ _ (by show w.heap.size≠w.heap.size+1;omega)]
    exact aM Z.out a.out
   ·have h:=bR D2.out 0 (.int .i64 (wrap64 (s0+m)))
    rw[M.out];simpa using h
  |false=>
   rw[P] at O M;clear P;gi_wp2_with (refine⟨trivial,?_⟩;gi_at_call 169;refine(callsIn_wide.2 O.out).mono ?_;rintro e w5 ⟨rfl,G⟩;have a:=zA G;clear G)
   have aY:=a.out.size;exact⟨cZ a.out,⟨fun aY=>a.out.mono aY,fun k hk I=>a.out.block k I⟩,by omega,aM Z.out a.out,by rw[M.out];exact aM L.out a.out,a8 b3.out a.out⟩
 case done=>
  rintro s xs W W' _ rfl ⟨H,i1,i2,i3⟩ b a3;have L:=zA (b.cells i2);have b3:=zA (i3.trans (b.below w.heap.size (by omega)));have a4:=zA a3;clear i1 i2 i3 a3;have hc:W'.cell? ⟨w.heap.size+1,0,none⟩=some (.int .i64 (eh B (cz E v E.length))):=(al L.out 0).trans rfl;gi_wp2_with fail
  have bo:Bk j.heap.size W' (W'.putObj j.heap.size (.deferred none)):=⟨_,_,a4.out,rfl,rfl⟩;exact jc (D:=j.heap.size) rfl a4.out (results_tmp rfl _ _ _) ⟨rfl,b3.out.trans (bo.below w.heap.size (by omega))⟩
end
section
attribute [local go_sem] Oper.semAt_some jr js jt ju
theorem D3 (gb a cr n:Nat) (B:Nat->Bool) (ok:Nat->Prop) (base:Nat) (W:World) (u:Int) (hb:W.heap[gb]? =some (.cells #[.slice (some ⟨a,0,none⟩) n cr] 43 (0,0))) (g:Kd.bool.R 4 W base ok (.slice (some ⟨a,0,none⟩) n cr) ((List.range n).map B)) (h:0<=u) (hn:u<n):
  Calls Tryz.prog 169 #[.int .i64 u,.pointer (some ⟨gb,0,none⟩)] W fun e w'=>e= .returned (.bool (B u.toNat))/\Below W.heap.size W w':=by
 have i:W.cell? ⟨gb,0,none⟩=some (.slice (some ⟨a,0,none⟩) n cr):=(al hb 0).trans rfl;have b:=(Kd.bP false g u h hn).1;have e:bO false ((List.range n).map B) u=B u.toNat:=by
  obtain⟨m,rfl⟩:=Int.eq_ofNat_of_zero_le h;have:m<n:=by omega
  simp[bO,bh,List.getElem?_map,List.getElem?_range this]
 rw[e] at b;have b:W.cell? ⟨a,u.toNat,none⟩=some (.bool (B u.toNat)):=b;clear g hb e;go_enter Tryz.func169,Tryz.ntmps169
 go_wp2;go_ret;exact⟨rfl,ao _ _⟩
theorem D4 (A:Option Addr) (c n:Nat) (xs:List Int) (w:World) (a:xs.length=n) (b:Kd.C (Kd.int .i64) w A xs.length xs) (h1:1<=n):
  Calls Tryz.prog 167 #[.slice A n c] w fun e w'=>e= .returned (.int .i64 (fP xs (n-1)))/\Below w.heap.size w w':=by
 subst a;exact DZ A c xs w b h1
theorem vS (xs:List Int):∀k i:Nat,i<=k->rd xs (i:Int)<=fP xs k
 |0,i,h=>by
  obtain rfl:i=0:=by omega
  exact Int.le_refl _
 |k+1,i,h=>by
  unfold fP;by_cases e:i=k+1
  ·subst e;split<;>omega
  ·have:=vS xs k i (by omega)
   split<;>omega
theorem vT (xs:List Int):∀k:Nat,∃i,i<=k/\fP xs k=rd xs (i:Int)
 |0=>⟨0,aI _,rfl⟩
 |k+1=>by
  unfold fP;split
  ·exact⟨k+1,aI _,rfl⟩
  ·obtain⟨i,h1,a⟩:=vT xs k
   exact⟨i,by omega,a⟩
structure D5 (n q:Nat) (t:Nat->Nat->Int) (out:List Int):Prop where
 len:out.length=n
 q0:rd out (q:Int)=0
 pos:∀v:Nat,v<n->0<=rd out (v:Int)/\rd out (v:Int)<n
 vU:∀u v:Nat,u<n->v<n->0<t u v->rd out (v:Int)<=rd out (u:Int)+1
 back:∀v:Nat,v<n->v≠q->∃u:Nat,u<n/\0<t v u/\rd out (u:Int)+1=rd out (v:Int)
theorem rf {n:Nat} {E:List S83} (h:bM n E) {u v:Nat} (hu:u<n) (g:v<n):kU E v u↔0<ai E v u:=by
 have h1:∀L:List (Int×Int),(∀x∈L,0<=x.1/\x.1<n/\x.1≠v/\1<=x.2/\x.2<=50)->0<=dL (fun w=>if w=u then 1 else 0) L/\(0<dL (fun w=>if w=u then 1 else 0) L↔∃m,((u:Int),m)∈L):=by
  intro L;induction L with
  |nil=>intro _;simp[dL]
  |cons x L i=>
   intro a;obtain⟨i1,i2⟩:=i (fun y j=>a y (List.mem_cons_of_mem _ j));have k:=a x (List.mem_cons_self ..);simp only[dL];by_cases e:x.1.toNat=u
   ·rw[if_pos e,Int.mul_one]
    refine⟨by omega,fun _=>⟨x.2,?_⟩,fun _=>by omega⟩;have:x=((u:Int),x.2):=by rw[<-e];ext<;>simp;omega
    rw[<-this];exact List.mem_cons_self ..
   ·rw[if_neg e,Int.mul_zero,Int.zero_add]
    refine⟨i1,fun h=>?_,fun⟨m,hm⟩=>?_⟩
    ·obtain⟨m,hm⟩:=i2.1 h
     exact⟨m,List.mem_cons_of_mem _ hm⟩
    ·rcases List.mem_cons.1 hm with rfl|hm
     ·exact absurd (show ((u:Int)).toNat=u by simp) e
     ·exact i2.2 ⟨m,hm⟩
 have b:=h1 _ (oL h E.length (aI _) (v:=v));rw[oK h _ g,T.jx hu (fun w _ hw=>by rw[if_neg hw,Int.mul_zero]),if_pos rfl,Int.mul_one] at b;exact b.2.symm
theorem Bf.dst {n q:Nat} {E:List S83} (h:bM n E) (m:T.dz n (ai E)) (o:q<n) {out:List Int} {D:Int} (hb:Bf n q (kU E) out [] D (fun _ _=>False)):D5 n q (ai E) out:=by
 have i:∀v:Nat,v<n->0<=rd out (v:Int):=by
  intro v e;refine Classical.byContradiction fun p=>?_
  obtain⟨a,b,k,l,h1,g,j⟩:=m (fun v=>decide (0<=rd out (v:Int))) ⟨q,o,by simp[hb.q0]⟩ ⟨v,e,by simpa using p⟩;have:=hb.ke a k (aw h1) (by simp) b l ((rf h l k).2 j) (fun f=>f);exact(of_decide_eq_false g) this.1
 refine⟨hb.len,hb.q0,fun v e=>⟨i v e,?_⟩,fun u v hu e r=>(hb.ke u hu (i u hu) (by simp) v e ((rf h e hu).2 r) (fun f=>f)).2,fun v e s=>?_⟩
 ·have h1:=hb.hi v e
  have g:=jz out;rw[hb.len] at g;omega
 ·obtain⟨u,hu,h1,g,j⟩:=hb.back v e s (i v e)
  exact⟨u,hu,by rw[h.wt.sym];exact(rf h e hu).1 h1,j⟩
structure LI (w0 w:World) (g gd gs go cd cs co n:Nat) (A0:Option Addr) (c0:Nat) (E:List S83) (q:Int) (out d s:List Int) (W:World):Prop where
 si:SI w0 g gd gs cd cs n A0 c0 E q d s W
 fo:(Kd.int .i64).R 3 W w.heap.size (fun _=>True) (.slice (some ⟨go,0,none⟩) n co) out
 hw:w0.heap.size<=w.heap.size/\gd<w.heap.size/\gs<w.heap.size/\g<w.heap.size/\w.heap.size<=go
namespace LI
variable {w0 w W W':World} {g gd gs go cd cs co n c0 l:Nat} {A0:Option Addr} {E:List S83} {q:Int} {out d s:List Int}
theorem below (h:LI w0 w g gd gs go cd cs co n A0 c0 E q out d s W) (hb:Below W.heap.size W W'):LI w0 w g gd gs go cd cs co n A0 c0 E q out d s W':=⟨h.si.below hb,Kd.cU h.fo hb,h.hw⟩
theorem alloc (h:LI w0 w g gd gs go cd cs co n A0 c0 E q out d s W) (o:Obj):LI w0 w g gd gs go cd cs co n A0 c0 E q out d s (W.alloc o):=h.below (aq (ao _ _) o)
theorem drewN (h:LI w0 w g gd gs go cd cs co n A0 c0 E q out d s W) (m:Nat):LI w0 w g gd gs go cd cs co n A0 c0 E q out d s (W.drewN m):=h.below (bY (ao _ _) m)
theorem drew (h:LI w0 w g gd gs go cd cs co n A0 c0 E q out d s W):LI w0 w g gd gs go cd cs co n A0 c0 E q out d s W.drew:=h.drewN 1
theorem g_ (h:LI w0 w g gd gs go cd cs co n A0 c0 E q out d s W) (p:Addr) (v:Value) (a:w.heap.size<=p.block) (h1:p.block≠go):LI w0 w g gd gs go cd cs co n A0 c0 E q out d s (W.setCell p v):=
 ⟨h.si.g_ p v (by have:=h.hw;omega) (by have:=h.hw;omega),Kd.a_ (Kd.ff (Kd.gC rfl h.fo) (fun k hk=>Below.heap_setCell _ _ _ _ (fun e=>h1 (by rw[<-e];injection hk)))) (fun _ _=>trivial),h.hw⟩
theorem jQ (h:LI w0 w g gd gs go cd cs co n A0 c0 E q out d s W) (v:Nat) (a:v<n):W.cell? ⟨go,v,none⟩=some (.int .i64 (rd out v)):=by
 have:=(Kd.bP 0 h.fo (v:Int) (by omega) (by omega)).1;rw[aQ] at this;exact this
theorem D6 (h:LI w0 w g gd gs go cd cs co n A0 c0 E q out d s W) {d' s':List Int} (a:SI w0 g gd gs cd cs n A0 c0 E q d' s' W') (hk:∀k,k<W.heap.size->k≠gd->k≠gs->W'.heap[k]? =W.heap[k]?):LI w0 w g gd gs go cd cs co n A0 c0 E q out d' s' W':=
 ⟨a,Kd.a_ (Kd.ff (Kd.gC rfl h.fo) (fun k e=>by
  injection e with e
  subst e;have h1:=h.hw;exact hk _ (Kd.a7 h.fo _ rfl) (by omega) (by omega))) (fun _ _=>trivial),h.hw⟩
end LI
theorem D7 (g gd gs cd cs n:Nat) (A0:Option Addr) (c0:Nat) (E:List S83) (q:Nat) (d:List Int) (w0 w:World) (an:Kd.C aT w0 A0 E.length E) (hE:bM n E) (hl:E.length<=1000) (hC:jD n E) (hn:n<=12) (hq:q<n) (aa:T.sN (T.val n (ai E)) n<=19)
  (hd:∀v:Nat,v<n-> -200<=rd d v/\rd d v<=200) (bg:d.length=n) (h:SI w0 g gd gs cd cs n A0 c0 E q d (List.replicate n 0) w):
  Calls Tryz.prog 110 #[.pointer (some ⟨g,0,none⟩)] w fun e w'=>e= .returned (.tuple #[])/\∃(d' s':List Int),d'.length=n/\s'.length=n/\SI w0 g gd gs cd cs n A0 c0 E q d' s' w'/\(∀v:Nat,v<n->v≠q->0<=rd d' v)/\∃dist:Nat->Int,T.e7 n (ai E) (fun v=>rd d (v:Nat)) dist 200 0 (fun v=>rd d' (v:Nat)) (fun v=>rd s' (v:Nat)):=by
 have e':=Tryz.underlying188;have hu:=Tryz.underlying24;have o:=zA hE;have HC:=zA hC;have HD:=zA hd;have bi:=h.hb.size;obtain⟨q1,q2,q3,q4,q5⟩:=h.ld;have HS:=zA h;have c9:1<=n:=by omega
 clear hE hC hd h;go_enter Tryz.func110,Tryz.ntmps110
 go_wp2_with (first|(go_at_call 165;refine(DY g n A0 c0 E q _ _ 0 _ (Kd.au an HS.out.hb) o.out.jJ (by omega) hq HS.out.st).mono ?_;rintro e w1 ⟨go,co,out,D,rfl,hO,K,bk⟩;have s:=zA (Bf.dst o.out (o.out.conn HC.out) hq bk);have ar:Aside0 (LI w0 w g gd gs go cd cs co n A0 c0 E q out d (List.replicate n 0) w1):=⟨HS.out.below K,hO,bi,q1,q2,q3,Kd.dD hO go rfl⟩;clear hO K bk)|(go_at_call 167;refine(D4 _ _ n out _ s.out.len (Kd.aD ar.out.fo).2.2 c9).mono ?_;rintro e w2 ⟨rfl,K⟩;have L:=zA (ar.out.below K);clear K ar))
 obtain⟨im,c',dd⟩:=vT out (n-1);obtain⟨G,av⟩:∃G:Nat,fP out (n-1)=G:=⟨(fP out (n-1)).toNat,by have:=s.out.pos im (by omega);omega⟩;have aB:G<=n:=by have:=s.out.pos im (by omega);omega
 have HM:Aside0 (∀v:Nat,v<n->rd out (v:Int)<=G):=⟨fun v l=>by rw[<-av];exact vS out (n-1) v (by omega)⟩;have bv:Aside0 (T.e7 n (ai E) (fun v=>rd d (v:Nat)) (fun v=>rd out (v:Nat)) 200 G (fun v=>rd d (v:Nat)) (fun v=>rd (List.replicate n 0) (v:Nat))):=⟨by
  have h:=T.e7.start (n:=n) (t:=ai E) (D:=fun v=>rd d (v:Nat)) (dist:=fun v=>rd out (v:Nat)) (B:=200) (k:=G) (by omega) (fun v l=>(HD.out v l).1) HM.out (by omega);rw[show (fun v:Nat=>rd (List.replicate n 0) (v:Int))=fun _=>0 from by
   funext v
   simp[rd,bh,List.getElem?_replicate];split<;>rfl]
  exact h⟩
 rw[av];clear av dd c';have dk:=zA bg;have dl:=zA (List.length_replicate (n:=n) (a:=(0:Int)));clear bg;go_loopg [4] (G) (fun M kv wr=>∃(k:Nat) (d' s':List Int),kv= .int .i64 k/\k<=n/\Aside0 (LI w0 w g gd gs go cd cs co n A0 c0 E q out d' s' wr)/\Aside0 (d'.length=n)/\Aside0 (s'.length=n)/\Aside0 (T.e7 n (ai E) (fun v=>rd d (v:Nat)) (fun v=>rd out (v:Nat)) 200 k (fun v=>rd d' (v:Nat)) (fun v=>rd s' (v:Nat)))/\Aside0 (M=k))
 case atStart=>exact⟨G,d,List.replicate n 0,rfl,aB,L,dk,dl,bv,⟨rfl⟩⟩
 case round=>
  clear L bv HM aB HS;obtain⟨k,d',s',rfl,aB,b,O,P,I,HK⟩:=hrel;by_cases hk:0<k
  ·have fn:(0:Int)<(k:Int):=by omega
   have dv:(0:Int)<=(n:Int):=by omega
   have s5:=b.out.si.f5;have s0:=b.out.si.f0;go_wp2_with (first|((with_reducible refine aJ (N:=33) rfl ?_);refine Kd.jn Kd.bool _ 4 rfl (N:=33) rfl 43 _ _ rfl (n:Int) rfl rfl Tryz.underlying43 (.bool false) 1 lH rfl (by decide) (by omega) false (ok:=fun _=>True) (okp:=fun _=>True) rfl (fun _ hk=>hk) trivial dv (by simp;omega) (ao _ _) (aI _) ?_;intro v1 w5 ho hb d1 d2;rw[aQ] at ho;obtain⟨j,cr,l,fq,d3, -⟩:=Kd.eV ho (by rw[List.length_replicate];omega);rw[List.length_replicate] at l;subst l;have bx:=zA ho;have b4:=zA (b.out.below hb);clear ho hb d1 d2))
   have fr:=Kd.a7 b.out.fo go rfl;have ft:=b.out.si.hb.size;have fv:=b.out.hw;have d4:w.heap.size<=wr.heap.size:=by omega
   have d5:j≠go:=by omega
   have d6:w.heap.size<=j:=by omega
   have ag:=zA (bm w5 (.cells #[.slice (some ⟨j,0,none⟩) n cr] 43));have aL:=zA (Kd.ba (Kd.aK bx.out (.cells #[.slice (some ⟨j,0,none⟩) n cr] 43)) (base':=w.heap.size) d4);have aO:=zA (b4.out.alloc (.cells #[.slice (some ⟨j,0,none⟩) n cr] 43));clear bx b4 s5 s0 b;generalize w5.alloc (.cells #[.slice (some ⟨j,0,none⟩) n cr] 43)=W6 at ag aL aO⊢;generalize w5.heap.size=gb at ag d3⊢;have b5:Aside0 (Kd.bool.R 4 W6 w.heap.size (fun _=>True) (.slice (some ⟨j,0,none⟩) n cr) ((List.range n).map fun u:Nat=>if u<0 then decide (rd out (u:Int)<k) else false)):=⟨by
    have h:=aL.out;rw[show (List.replicate n false:List Bool)=(List.range n).map fun u:Nat=>if u<0 then decide (rd out (u:Int)<k) else false from by
     refine List.ext_getElem (by simp) fun i h1 H=>?_
     simp] at h
    exact h⟩
   clear aL;go_loopg [36] (n) (fun M vv aR=>∃v:Nat,v<=n/\vv= .int .i64 v/\Aside0 (LI w0 w g gd gs go cd cs co n A0 c0 E q out d' s' aR)/\Aside0 (aR.heap[gb]? =some (.cells #[.slice (some ⟨j,0,none⟩) n cr] 43 (0,0)))/\Aside0 (Kd.bool.R 4 aR w.heap.size (fun _=>True) (.slice (some ⟨j,0,none⟩) n cr) ((List.range n).map fun u:Nat=>if u<v then decide (rd out (u:Int)<k) else false))/\Aside0 (M=n-v))
   case atStart=>exact⟨0,by omega,rfl,aO,ag,b5,⟨rfl⟩⟩
   case round=>
    clear aO ag b5;obtain⟨v,l,rfl,b,m,Q,J⟩:=hrel;by_cases p:v<n
    ·have d8:(0:Int)<=(v:Int):=by omega
     have d9:(v:Int)<(n:Int):=by omega
     have S:=dK m.out;have b1:=b.out.jQ v p;obtain⟨U,hf⟩:=Kd.bP false Q.out (v:Int) (by omega) (by omega);rw[aQ] at U hf;generalize bO false ((List.range n).map fun u:Nat=>if u<v then decide (rd out (u:Int)<k) else false) (v:Int)=z at U;replace U:wr.cell? ⟨j,v,none⟩=some (.bool z):=U;have V:=Kd.de Q.out (v:Int) (decide (rd out (v:Int)<k));rw[aQ] at V;have em:(((List.range n).map fun u:Nat=>if u<v then decide (rd out (u:Int)<k) else false).set v (decide (rd out (v:Int)<k)))=(List.range n).map fun u:Nat=>if u<v+1 then decide (rd out (u:Int)<k) else false:=by
      refine List.ext_getElem (by simp) fun i h1 H=>?_
      rw[List.getElem_set];simp only[List.getElem_map,List.getElem_range];by_cases e:v=i
      ·subst e;simp
      ·rw[if_neg e]
       by_cases h:i<v
       ·rw[if_pos h,if_pos (by omega)]
       ·rw[if_neg h,if_neg (by omega)]
     rw[em] at V;have b6:=zA (Kd.bd V.1);have b_:=zA (fw (cR (g:=gb) m.out V.2 (fun e=>by injection e with e;omega)));have L:=zA ((b.out.g_ ⟨j,v,none⟩ (.bool (decide (rd out (v:Int)<k))) d6 d5).drew);clear V em b m Q;go_wp2;go_region
     clear S b1 U hf;generalize (wr.setCell ⟨j,v,none⟩ (.bool (decide (rd out (v:Int)<k)))).drew=W7 at L b_ b6⊢;go_wp2;go_roundg (n- (v+1))
     case measure=>rw[J.out];omega
     case rel=>exact⟨v+1,by omega,by go_num,L,b_,b6,⟨rfl⟩⟩
    ·obtain rfl:n=v:=by omega
     go_wp2;have r:Aside0 (Kd.bool.R 4 wr w.heap.size (fun _=>True) (.slice (some ⟨j,0,none⟩) n cr) ((List.range n).map (T.bG (fun v=>rd out (v:Nat)) k))):=⟨by
      have h:=Q.out;rw[show ((List.range n).map fun u:Nat=>if u<n then decide (rd out (u:Int)<k) else false)=(List.range n).map (T.bG (fun v=>rd out (v:Nat)) k) from List.map_congr_left fun u hu=>by
       rw[if_pos (List.mem_range.1 hu)];rfl] at h
      exact h⟩
     have ea:0<=T.fm n (ai E) (fun v=>rd out (v:Nat)) 200 k:=by have:=T.oh (n:=n) (t:=ai E) (fun v=>rd out (v:Nat)) (show (0:Int)<=200 by omega) k;omega
     have eb:=T.qi o.out.wt (fun v=>rd out (v:Nat)) (B:=200) (by omega) aa k;have b':Aside0 (∀v:Nat,v<n-> -T.fm n (ai E) (fun v=>rd out (v:Nat)) 200 k<=rd d' v):=⟨fun v l=>I.out.low v l⟩;clear Q J;obtain⟨Y,a0⟩:∃Y,Y=T.fm n (ai E) (fun v=>rd out (v:Nat)) 200 k:=⟨_,rfl⟩;rw[<-a0] at ea eb b';have ed:=zA a0;clear a0;go_loopg [51,7] (n) (fun M vv tv wr=>∃(v:Nat) (x:Int),v<=n/\vv= .int .i64 v/\tv= .int .i64 x/\0<=x/\x<=Y/\Aside0 (∀u:Nat,u<v->rd out u=k->rd d' u<0-> -rd d' u<=x*T.sN (fun w=>if T.bG (fun v=>rd out (v:Nat)) k w=true then ai E u w else 0) n)/\Aside0 (LI w0 w g gd gs go cd cs co n A0 c0 E q out d' s' wr)/\Aside0 (wr.heap[gb]? =some (.cells #[.slice (some ⟨j,0,none⟩) n cr] 43 (0,0)))/\Aside0 (Kd.bool.R 4 wr w.heap.size (fun _=>True) (.slice (some ⟨j,0,none⟩) n cr) ((List.range n).map (T.bG (fun v=>rd out (v:Nat)) k)))/\Aside0 (M=n-v))
     case atStart=>exact⟨0,0,by omega,rfl,rfl,by omega,by omega,⟨fun u hu=>by omega⟩,b,m,r,⟨rfl⟩⟩
     case round=>
      clear b m r;obtain⟨v,x,l,rfl,rfl,a1,a2,X,b,m,r,J⟩:=hrel;by_cases p:v<n
      ·have d8:(0:Int)<=(v:Int):=by omega
       have d9:(v:Int)<(n:Int):=by omega
       have S:=dK m.out;have b1:=b.out.jQ v p;have b2:=b.out.si.kf v p;have b3:=b.out.si.f3;by_cases F:rd out v=k
       ·have el:(rd out v==(k:Int))=true:=by simpa using F
        by_cases ca:rd d' v<0
        ·have er:decide (rd d' v<0)=true:=az ca
         obtain⟨u,hu,cb,cc⟩:=s.out.back v p (fun e=>by have:=s.out.q0;rw[<-e] at this;omega);have ce:=zA (BZ o.out.wt hu cb cc F);have cf:Aside0 (T.sN (fun w=>if T.bG (fun v=>rd out (v:Nat)) k w=true then ai E v w else 0) n<=600):=⟨by
          have h:=T.cN (f:=fun w=>if T.bG (fun v=>rd out (v:Nat)) k w=true then ai E v w else 0) (g:=fun _=>50) (n:=n) (fun w _=>by
           have:=o.out.jJ.times v w;show (if T.bG (fun v=>rd out (v:Nat)) k w=true then ai E v w else 0)<=50
           split<;>omega)
          rw[T.iZ] at h;omega⟩
         have ch:=zA (qG o.out hl (T.bG (fun v=>rd out (v:Nat)) k) p);have f2:=(mR o.out.wt hn aa (fun v l=>HD.out v l) (by omega) (by omega) I.out v p).1;have f4:=b'.out v p;have a3:=zA F;clear F cb cc;go_wp2_with (go_at_call 168;refine(D0 g n A0 c0 E q _ _ 0 v #[.pointer (some ⟨gb,0,none⟩)] (T.bG (fun v=>rd out (v:Nat)) k) _ (Kd.au an b.out.si.hb) o.out.jJ (by omega) p b.out.si.st (fun W u ci es ev=>D3 gb j cr n _ _ _ W u (aM m.out ci) (Kd.cU r.out ci) es ev)).mono ?_;rintro e w8 ⟨rfl,ak⟩;have Z:=zA (b.out.below ak);have ex:=zA (aM m.out ak);have ey:=zA (Kd.cU r.out ak);have c2:=Z.out.si.kf v p;have c3:=Z.out.si.f3;rw[ch.out];clear ak S b1 b2 b3 b m r;obtain⟨y,hy⟩:∃y,y=T.sN (fun w=>if T.bG (fun v=>rd out (v:Nat)) k w=true then ai E v w else 0) n:=⟨_,rfl⟩;rw[<-hy];have a4:=ce.out;have e0:=cf.out;rw[<-hy] at a4 e0;have HY:=zA hy;clear hy ce cf ch)
         all_goals
          have e2:=zA (BU (a:= -rd d' v) (x:=y) a4);have cj:=zA (BW (a:= -rd d' v) (x:=y) (by omega) a4);go_roundg (n- (v+1))
          case measure=>rw[J.out];omega
          case rel=>exact⟨v+1,_,by omega,by go_num,rfl,by have:=cj.out;omega,by have:=cj.out;omega,⟨fun u hu h1 H=>by
           have hc:=e2.out;by_cases e:u=v
           ·subst e
            rw[<-HY.out];first|exact hc|exact Int.le_trans hc (Int.mul_le_mul_of_nonneg_right (by assumption) (by omega))
           ·have hT:=X.out u (by omega) h1 H
            first|exact hT|exact Int.le_trans hT (Int.mul_le_mul_of_nonneg_right (by omega) (T.dg fun w _=>by
             show 0<=(if T.bG (fun v=>rd out (v:Nat)) k w=true then ai E u w else 0)
             have:=o.out.wt.pos u w;split<;>omega))⟩,Z,ex,ey,⟨rfl⟩⟩
        ·have er:decide (rd d' v<0)=false:=aZ ca
         have a3:=zA F;clear F;go_wp2;go_roundg (n- (v+1))
         case measure=>rw[J.out];omega
         case rel=>exact⟨v+1,x,by omega,by go_num,rfl,a1,a2,⟨fun u hu h1 H=>by
          by_cases e:u=v
          ·subst e;omega
          ·exact X.out u (by omega) h1 H⟩,b,m,r,⟨rfl⟩⟩
       ·have el:(rd out v==(k:Int))=false:=by simpa using F
        have a3:=zA F;clear F;go_wp2;go_roundg (n- (v+1))
        case measure=>rw[J.out];omega
        case rel=>exact⟨v+1,x,by omega,by go_num,rfl,a1,a2,⟨fun u hu h1 H=>by
         by_cases e:u=v
         ·subst e;exact absurd h1 a3.out
         ·exact X.out u (by omega) h1 H⟩,b,m,r,⟨rfl⟩⟩
      ·obtain rfl:n=v:=by omega
       by_cases f6:0<x
       ·have S:=dK m.out
        obtain⟨cq,cv⟩:=BX o.out hn aa (fun v l=>HD.out v l) s.out.vU (show (1:Int)<=(k:Int) by omega) (by omega) O.out P.out I.out a1 (by rw[<-ed.out];exact a2) X.out;have e3:=zA cq;have e4:=zA cv;obtain⟨a5,a9⟩:=mP E (T.bG (fun v=>rd out (v:Nat)) k) x (d',s') n;have a5:=zA a5;have a9:=zA a9;clear cq cv;rename_i e5 e6;clear e5 e6;go_wp2_with (go_at_call 166;refine(uq g gd gs j cd cs cr n A0 c0 E q d' s' (T.bG (fun v=>rd out (v:Nat)) k) x w0 _ an o.out.jJ (by omega) (by omega) b.out.si (Kd.ba r.out bi) ⟨by omega,by omega⟩ O.out P.out e4.out).mono ?_;rintro e w8 ⟨rfl,cx,c1,aY⟩;have Z:=zA (b.out.D6 cx c1);clear cx c1 b m r S)
        go_roundg (k-1)
        case measure=>rw[HK.out];omega
        case rel=>exact⟨k-1,_,_,by go_num,by omega,Z,⟨a5.out.trans O.out⟩,⟨a9.out.trans P.out⟩,⟨by
         have h:=e3.out;rw[show ((k:Int)-1)=((k-1:Nat):Int) by omega] at h;exact h⟩,⟨rfl⟩⟩
       ·obtain rfl:x=0:=by omega
        go_wp2;go_roundg (k-1)
        case measure=>rw[HK.out];omega
        case rel=>exact⟨k-1,d',s',by go_num,by omega,b,O,P,⟨by
         have h:=BY o.out aa s.out.vU I.out X.out;rw[show ((k:Int)-1)=((k-1:Nat):Int) by omega] at h;exact h⟩,⟨rfl⟩⟩
  ·obtain rfl:k=0:=by omega
   go_wp2;go_end0;exact⟨rfl,d',s',O.out,P.out,b.out.si,fun v l e_=>I.out.kb v l (by obtain⟨u,hu,h1,H⟩:=s.out.back v l e_;have:=s.out.pos u hu;show ((0:Nat):Int)<rd out (v:Int);omega),_,I.out⟩
end
section
attribute [local go_sem] Oper.semAt_some
theorem D8 (A0:Option Addr) (c0 n:Nat) (l0:List Int) (w:World) (h:l0.length=n) (h1:1<=n) (hn:n<=1000) (i:Kd.C (Kd.int .i64) w A0 l0.length l0) (j:l0.length<=c0):
  Calls Tryz.prog 57 #[.slice A0 n c0] w fun e w'=>∃gd a,e= .returned (.slice (some ⟨gd,0,none⟩) n a)/\(Kd.int .i64).R 3 w' w.heap.size (fun _=>True) (.slice (some ⟨gd,0,none⟩) n a) l0/\Below w.heap.size w w':=by
 subst h;refine(fL.calls A0 c0 l0 l0 w i j (by unfold fL.f clone.f;rw[if_pos (by omega)])).mono ?_;rintro e w1 ⟨v0,rfl,b,k⟩;obtain⟨g,cap,rfl, -⟩:=Kd.eV b (by omega);exact⟨g,cap,rfl,b,k⟩
abbrev Hg (w:World) (N:Int) (A0:Option Addr) (k c0:Nat) (w':World):Prop:=w'.heap[w.heap.size]? =some (.cells #[.int .i64 N,.slice A0 k c0] 24 (0,0))/\w'.cell? ⟨w.heap.size,0,none⟩=some (.int .i64 N)/\w'.cell? ⟨w.heap.size,1,none⟩=some (.slice A0 k c0)/\Below w.heap.size w w'
theorem Hg.of {w w':World} {N:Int} {A0:Option Addr} {k c0:Nat} (h:w'.heap[w.heap.size]? =some (.cells #[.int .i64 N,.slice A0 k c0] 24 (0,0))) (hb:Below w.heap.size w w'):Hg w N A0 k c0 w':=⟨h,(al h 0).trans rfl,(al h 1).trans rfl,hb⟩
theorem Hg.start (w:World) (N:Int) (A0:Option Addr) (k c0:Nat):Hg w N A0 k c0 (w.alloc (.cells #[.int .i64 N,.slice A0 k c0] 24)).drew:=Hg.of (fw (bm w _)) (bV (aq (ao _ _) _))
theorem Hg.alloc {w w':World} {N:Int} {A0:Option Addr} {k c0:Nat} (h:w'.heap[w.heap.size]? =some (.cells #[.int .i64 N,.slice A0 k c0] 24 (0,0))) (hb:Below w.heap.size w w') (o:Obj):Hg w N A0 k c0 (w'.alloc o):=Hg.of (ay h o) (aq hb o)
theorem Hg.below {w w' a:World} {N:Int} {A0:Option Addr} {k c0:Nat} (h:w'.heap[w.heap.size]? =some (.cells #[.int .i64 N,.slice A0 k c0] 24 (0,0))) (hb:Below w.heap.size w w') (b:Below w'.heap.size w' a):Hg w N A0 k c0 a:=Hg.of (aM h b) (a8 hb b)
theorem D9 (n:Nat) (q:Int) (A0:Option Addr) (c0:Nat) (E:List S83) (m:Option Addr) (cd:Nat) (d:List Int) (w:World) (hd:Kd.C (Kd.int .i64) w m d.length d) (r:d.length<=cd) (s:d.length=n) (h1:1<=n) (hn:n<=1000):
  Calls Tryz.prog 109 #[.agg #[.int .i64 n,.slice A0 E.length c0],.int .i64 q,.slice m n cd] w fun e w'=>∃g gd gs b x,e= .returned (.pointer (some ⟨g,0,none⟩))/\SI w g gd gs b x n A0 c0 E q d (List.replicate n 0) w':=by
 have hu:=Tryz.underlying24;have G:=Tryz.underlying188;have y:=zA s;have z:=zA r;have B:=zA hd;have H:(0:Int)<=(n:Int):=by omega
 have I:(n:Int)<=1000:=by omega
 obtain⟨zs,u,v⟩:=lS 29 Tryz.underlying29 n hn;have l:=zA v;clear s r hd v;go_enter Tryz.func109,Tryz.ntmps109
 go_wp2_with fail
 go_region_held3 (fun w'=>w'.heap[w.heap.size]? =some (.cells #[.int .i64 n,.slice A0 E.length c0] 24 (0,0))/\w'.cell? ⟨w.heap.size,0,none⟩=some (.int .i64 n)/\w'.cell? ⟨w.heap.size,1,none⟩=some (.slice A0 E.length c0)/\Below w.heap.size w w')
  (first
   |exact Hg.start w n A0 E.length c0
   |((try go_split_ands);refine⟨by assumption,by assumption,by assumption,by assumption⟩)
   |((try go_split_ands);exact Hg.alloc (by assumption) (by assumption) _)
   |((try go_split_ands);exact Hg.below (by assumption) (by assumption) (by assumption))
   |fail)
  ((go_at_call 57;refine(D8 m cd n d _ y.out h1 hn (Kd.au B.out (by go_split_ands;assumption)) z.out).mono ?_;rintro e w1 ⟨gd,b,rfl,a,i⟩))
 ·rename_i hHeld
  obtain⟨-, -, -,j⟩:=hHeld;have D:=Kd.a7 a gd rfl;have o:=Kd.dD a gd rfl;have p:=i.size;simp only[World.drew,World.size_alloc] at o p;have hS:=l.out w1 (fun _=>True) trivial;have k:=zA (SI.mk (g:=w1.heap.size+1) j (by have h:=bm (w1.alloc (.cells zs 3)) (.cells #[.int .i64 n,.slice A0 E.length c0,.int .i64 q,.slice (some ⟨gd,0,none⟩) n b,.slice (some ⟨w1.heap.size,0,none⟩) n n,.int .i64 0] 188);rw[World.size_alloc] at h;exact h)
   (Kd.aK (Kd.aK (Kd.ba a (by simp[World.drew])) _) _) (Kd.ba (Kd.aK hS _) (by omega)) ⟨by omega,by omega,by omega,by omega⟩)
  clear a i j hS l u;generalize (w1.alloc (.cells zs 3)).alloc (.cells #[.int .i64 n,.slice A0 E.length c0,.int .i64 q,.slice (some ⟨gd,0,none⟩) n b,.slice (some ⟨w1.heap.size,0,none⟩) n n,.int .i64 0] 188)=F at k⊢;go_wp2;go_ret;exact⟨_,_,_,_,_,rfl,k.out⟩
 ·rename_i hHeld
  obtain⟨-, -, -,j⟩:=hHeld;have D:=Kd.a7 a gd rfl;have o:=Kd.dD a gd rfl;have p:=i.size;simp only[World.drew,World.size_alloc] at o p;have hS:=Kd.cU (Kd.bd (l.out (w.alloc (.cells #[.int .i64 n,.slice A0 E.length c0] 24)) (fun _=>True) trivial)) i;rw[World.size_alloc] at hS;have k:=zA (SI.mk (g:=w1.heap.size) j (bm w1 (.cells #[.int .i64 n,.slice A0 E.length c0,.int .i64 q,.slice (some ⟨gd,0,none⟩) n b,.slice (some ⟨w.heap.size+1,0,none⟩) n n,.int .i64 0] 188))
   (Kd.aK (Kd.ba a (by simp[World.drew];omega)) _) (Kd.ba (Kd.aK hS _) (by omega)) ⟨by omega,by omega,by omega,by omega⟩)
  clear a i j hS l u;generalize w1.alloc (.cells #[.int .i64 n,.slice A0 E.length c0,.int .i64 q,.slice (some ⟨gd,0,none⟩) n b,.slice (some ⟨w.heap.size+1,0,none⟩) n n,.int .i64 0] 188)=F at k⊢;go_wp2;go_ret;exact⟨_,_,_,_,_,rfl,k.out⟩
end
section
attribute [local go_sem] Oper.semAt_some
def eS (s:List Int) (o:Int):Nat->List Int
 |0=>s
 |k+1=>(eS s o k).set k (rd (eS s o k) k-o)
theorem m_ (s:List Int) (o:Int):∀k,(eS s o k).length=s.length
 |0=>rfl
 |k+1=>by simp[eS,m_ s o k]
theorem oU (s:List Int) (o:Int):∀(k v:Nat),k<=s.length->v<s.length->rd (eS s o k) v=if v<k then rd s v-o else rd s v
 |0,v,_,a=>by rw[if_neg (by omega)];rfl
 |k+1,v,hk,a=>by
  have b:=oU s o k;unfold eS;by_cases e:k=v
  ·subst e
   rw[gZ _ _ _ (by rw[m_];exact a),b k (by omega) a,if_neg (by omega),if_pos (by omega)]
  ·rw[fD _ _ _ _ e,b v (by omega) a]
   by_cases h:v<k
   ·rw[if_pos h,if_pos (by omega)]
   ·rw[if_neg h,if_neg (by omega)]
theorem D_ (g gd gs cd cs n:Nat) (A0:Option Addr) (c0:Nat) (E:List S83) (q:Nat) (d s:List Int) (w0 w:World) (z:1<=n) (hn:n<=12) (B:q<n) (h:SI w0 g gd gs cd cs n A0 c0 E q d s w) (C:d.length=n) (D:s.length=n)
  (hd:∀v:Nat,v<n-> -1048576<=rd d v/\rd d v<=1048576) (p:∀v:Nat,v<n->0<=rd s v/\rd s v<=2000000/\ -1048576<=rd s v-rd s q/\rd s v-rd s q<=1048576):
  Calls Tryz.prog 112 #[.pointer (some ⟨g,0,none⟩)] w fun e w'=>e= .returned (.tuple #[.slice (some ⟨gd,0,none⟩) n cd,.slice (some ⟨gs,0,none⟩) n cs,.int .i64 0])/\SI w0 g gd gs cd cs n A0 c0 E q d (eS s (rd s q) n) w':=by
 have ad:=Tryz.underlying188;have hu:=Tryz.underlying24;have O:=zA hd;have F:=zA p;have G:=zA C;have j:=zA D;have a:=zA h;obtain⟨P,Q, -, -⟩:=p q B;have ag:(q:Int)<(n:Int):=by omega
 have ak:(0:Int)<=(q:Int):=by omega
 clear hd p C D h;have R:=a.out.f5;have b:=a.out.f4;have s2:=a.out.f2;have r:=a.out.cells q B;go_enter Tryz.func112,Tryz.ntmps112
 go_wp2_with fail
 go_quiet (fail)
 clear R s2 r;rename_i nq;have k:=zA (a.out.drewN nq);clear a b;generalize w.drewN nq=W1 at k⊢;have b:=k.out.f4;generalize H:rd s q=o at P Q;have I:=zA H;clear H;go_wp2;go_loopg [31] (n) (fun S T wr=>∃v:Nat,v<=n/\T= .int .i64 v/\Aside0 (SI w0 g gd gs cd cs n A0 c0 E q d (eS s o v) wr)/\Aside0 (S=n-v))
 case atStart=>exact⟨0,by omega,rfl,k,⟨rfl⟩⟩
 case round=>
  clear k b;obtain⟨v,l,rfl,a,U⟩:=hrel;by_cases m:v<n
  ·have am:(0:Int)<=(v:Int):=by omega
   have an:(v:Int)<(n:Int):=by omega
   have b:=a.out.f4;have r:=a.out.cells v m;have sf:=a.out.ui v m;have J:Aside0 (∀W,SI w0 g gd gs cd cs n A0 c0 E q d ((eS s o v).set v (rd (eS s o v) v-o)) W->SI w0 g gd gs cd cs n A0 c0 E q d (eS s o (v+1)) W):=⟨fun W h=>h⟩;have V:0<=rd (eS s o v) v/\rd (eS s o v) v<=2000000:=by
    rw[oU s o v v (by rw[j.out];omega) (by rw[j.out];exact m),if_neg (by omega)];have:=F.out v m;omega
   obtain⟨X,Y⟩:=V;have i:=zA (J.out _ (a.out.oH v (rd (eS s o v) v-o)));clear J a;generalize rd (eS s o v) v=y at X Y r i;go_wp2;go_roundg (n- (v+1))
   case measure=>rw[U.out];omega
   case rel=>exact⟨v+1,by omega,by go_num,i,⟨rfl⟩⟩
  ·obtain rfl:n=v:=by omega
   have s0:=a.out.f0;have K:=a.out.f3;have b:=a.out.f4;obtain⟨Z,e2,L⟩:=Kd.aD a.out.d;obtain⟨e4,M,N⟩:=Kd.aD a.out.s;have u:=zA (And.intro e2 L);have x:=zA (And.intro M N);have ab:Aside0 (∀v:Nat,v<n-> -1048576<=rd (eS s o n) v/\rd (eS s o n) v<=1048576):=⟨fun v l=>by
    rw[oU s o n v (by rw[j.out];omega) (by rw[j.out];exact l),if_pos l];have:=F.out v l;rw[I.out] at this;omega⟩
   clear Z e2 L e4 M N;go_wp2_with fail
   go_quiet ((first|(go_at_call 87;with_reducible exact uH (some ⟨gd,0,none⟩) cd n d _ _ G.out z hn O.out (Kd.fJ u.out.2 _) (by rw[G.out];exact u.out.1))|(go_at_call 87;with_reducible exact uH (some ⟨gs,0,none⟩) cs n (eS s o n) _ _ (by rw[m_];exact j.out) z hn ab.out (Kd.fJ x.out.2 _) (by rw[m_,j.out];exact x.out.1))))
   have i:=zA (a.out.drewN nq);clear s0 K b a u x;generalize wr.drewN nq=W2 at i⊢;have K:=i.out.f3;have b:=i.out.f4;go_wp2_with fail
   go_quiet (fail)
   go_wp2;refine bodyPost_ret (results_tmp3 rfl _ _ _) rfl ?_;exact⟨rfl,by rw[I.out];exact i.out.drewN _⟩
end
def jg.f (k:Nat) (a:Int) (g:List (S83)) (e:Int) (l2:List Int):Option (Int):=(cu.f k a g).bind fun b=>(if b.2=0 then(if b.1=true then(if e<0 then(some 2) else(if e>=a then(some 2) else((bt.f k l2 a).bind fun t248=>(some t248)))) else(some 13)) else(some b.2))
theorem jg.calls (k:Nat) (g:Int) (m:Option Addr) (n:Nat) (i:List (S83)) (x:Int) (E:Option Addr) (c2:Nat) (l2:List Int) (r:Int) (w:World) (F:Kd.C aT w m i.length i) (G:i.length<=n) (I:Kd.C (Kd.int .i64) w E l2.length l2) (J:l2.length<=c2) (h:jg.f k g i x l2=some r):
  Calls Tryz.prog 108 #[.agg #[.int .i64 g,.slice m i.length n],.int .i64 x,.slice E l2.length c2] w fun e w'=>e= .returned (.int .i64 r)/\Below w.heap.size w w':=by
 have S:=Tryz.underlying24;have q:=zA F;have s:=zA G;clear F G;have K:=zA I;have L:=zA J;clear I J;have a:=zA (ao w.heap.size w);unfold jg.f at h;have H:=h;clear h;obtain⟨⟨t246,t247⟩,u,H⟩:=zo H;dsimp only at H;by_cases v:t247=0
 ·rw[if_pos v] at H
  obtain⟨M,O⟩:=bF v;clear v;by_cases y:t246=true
  ·subst y
   replace H:=zi H;by_cases o:x<0
   ·rw[if_pos o] at H
    have P:=az o;clear o;obtain rfl:=aH H;go_enter Tryz.func108,Tryz.ntmps108
    go_wp2_with (first|((with_reducible refine aJ (N:=3) rfl ?_);refine zX 3 #[.int .i64 g,.slice m i.length n] 24 ?_;intro z j T l hb;have b:=zA (l);have B:=zG a j;have D:=zG a j;replace a:=zS a hb;clear hb l j;obtain⟨U,V,W,X⟩:=ax b)|((with_reducible refine aC (f:=113) rfl ?_);refine zL (some 11) Tryz.func113 #[.agg #[.int .i64 g,.slice m i.length n]] ?_;(with_reducible refine(cu.calls k g _ _ i true t247 _ ?af ?ah u.out).mono ?_);(case af=>exact Kd.au q.out zB);(case ah=>exact s.out);rintro e Y ⟨rfl,hb⟩;refine⟨_,rfl,?_⟩;replace b:=zb b hb;replace a:=zS a hb;(try clear hb)))
    go_ret;exact⟨zE,zB⟩
   ·rw[if_neg o] at H
    have P:=aZ o;clear o;by_cases p:x>=g
    ·rw[if_pos p] at H
     have Q:=az p;clear p;obtain rfl:=aH H;go_enter Tryz.func108,Tryz.ntmps108
     go_wp2_with (first|((with_reducible refine aJ (N:=3) rfl ?_);refine zX 3 #[.int .i64 g,.slice m i.length n] 24 ?_;intro z j Z l hb;have b:=zA (l);have B:=zG a j;have D:=zG a j;replace a:=zS a hb;clear hb l j;obtain⟨aa,ab,ad,ag⟩:=ax b)|((with_reducible refine aC (f:=113) rfl ?_);refine zL (some 11) Tryz.func113 #[.agg #[.int .i64 g,.slice m i.length n]] ?_;(with_reducible refine(cu.calls k g _ _ i true t247 _ ?af ?ah u.out).mono ?_);(case af=>exact Kd.au q.out zB);(case ah=>exact s.out);rintro e ak ⟨rfl,hb⟩;refine⟨_,rfl,?_⟩;replace b:=zb b hb;replace a:=zS a hb;(try clear hb);obtain⟨am,an,ap,ar⟩:=ax b))
     go_ret;exact⟨zE,zB⟩
    ·rw[if_neg p] at H
     have Q:=aZ p;clear p;obtain⟨t248,R,H⟩:=zo H;obtain rfl:=aH H;go_enter Tryz.func108,Tryz.ntmps108
     go_wp2_with (first|((with_reducible refine aJ (N:=3) rfl ?_);refine zX 3 #[.int .i64 g,.slice m i.length n] 24 ?_;intro z j av l hb;have b:=zA (l);have B:=zG a j;have D:=zG a j;replace a:=zS a hb;clear hb l j;obtain⟨aB,aF,aL,aO⟩:=ax b)|((with_reducible refine aC (f:=113) rfl ?_);refine zL (some 11) Tryz.func113 #[.agg #[.int .i64 g,.slice m i.length n]] ?_;(with_reducible refine(cu.calls k g _ _ i true t247 _ ?af ?ah u.out).mono ?_);(case af=>exact Kd.au q.out zB);(case ah=>exact s.out);rintro e aP ⟨rfl,hb⟩;refine⟨_,rfl,?_⟩;replace b:=zb b hb;replace a:=zS a hb;(try clear hb);obtain⟨aR,aS,a0,a2⟩:=ax b)|((with_reducible refine aC (f:=87) rfl ?_);refine zL (some 33) Tryz.func87 #[.slice E l2.length c2,.int .i64 g] ?_;(with_reducible refine(bt.calls k _ _ l2 g t248 _ ?af ?ah R.out).mono ?_);(case af=>exact Kd.au K.out zB);(case ah=>exact L.out);rintro e w' ⟨rfl,⟨nd,rfl⟩⟩;refine⟨_,rfl,?_⟩))
     go_ret;exact⟨zE,zB⟩
  ·replace y:=Bool.eq_false_iff.mpr y
   subst y;replace H:=zj H;obtain rfl:=aH H;go_enter Tryz.func108,Tryz.ntmps108
   go_wp2_with (first|((with_reducible refine aJ (N:=3) rfl ?_);refine zX 3 #[.int .i64 g,.slice m i.length n] 24 ?_;intro z j a4 l hb;have b:=zA (l);have B:=zG a j;have D:=zG a j;replace a:=zS a hb;clear hb l j;obtain⟨a5,a9,be,bf⟩:=ax b)|((with_reducible refine aC (f:=113) rfl ?_);refine zL (some 11) Tryz.func113 #[.agg #[.int .i64 g,.slice m i.length n]] ?_;(with_reducible refine(cu.calls k g _ _ i false t247 _ ?af ?ah u.out).mono ?_);(case af=>exact Kd.au q.out zB);(case ah=>exact s.out);rintro e bg ⟨rfl,hb⟩;refine⟨_,rfl,?_⟩;replace b:=zb b hb;replace a:=zS a hb;(try clear hb)))
   go_ret;exact⟨zE,zB⟩
 ·rw[if_neg v] at H
  obtain⟨M,O⟩:=bI v;obtain rfl:=aH H;go_enter Tryz.func108,Tryz.ntmps108
  go_wp2_with (first|((with_reducible refine aJ (N:=3) rfl ?_);refine zX 3 #[.int .i64 g,.slice m i.length n] 24 ?_;intro z j bi l hb;have b:=zA (l);have B:=zG a j;have D:=zG a j;replace a:=zS a hb;clear hb l j;obtain⟨bk,bn,bo,bv⟩:=ax b)|((with_reducible refine aC (f:=113) rfl ?_);refine zL (some 11) Tryz.func113 #[.agg #[.int .i64 g,.slice m i.length n]] ?_;(with_reducible refine(cu.calls k g _ _ i t246 t247 _ ?af ?ah u.out).mono ?_);(case af=>exact Kd.au q.out zB);(case ah=>exact s.out);rintro e bw ⟨rfl,hb⟩;refine⟨_,rfl,?_⟩;replace b:=zb b hb;replace a:=zS a hb;(try clear hb)))
  go_ret;exact⟨zE,zB⟩
end Go.Proofs.YtffdiakgjakngaaGreat.P


namespace Go.Proofs.YtffdiakgjakngaaGreat.P
open Go.RowKit Go.Proofs.YtffdiakgjakngaaGreatW.PrintWords Go.Proofs.YtffdiakgjakngaaGreatW.PrintLast Go.Proofs.YtffdiakgjakngaaGreatW.PrintMore
set_option linter.unusedVariables false
set_option linter.unusedSimpArgs false
set_option maxHeartbeats 8000000
set_option maxRecDepth 100000
section
attribute [local go_sem] Oper.semAt_some
def ki.f (k:Nat) (N:Int) (E:List S83) (q:Int) (d:List Int):Option (List Int×List Int×Int):=
 (jg.f k N E q d).bind fun e=>if e=0 then(if gM N E q d=true then((hU N.toNat E q.toNat d k).bind fun s=>some (dM N.toNat E d s,s,0)) else none) else some ([],[],e)
theorem Ea {n q:Nat} {t:Nat->Nat->Int} (b:T.Wt n t) (a:q<n) (hn:n<=12) (e:T.sN (T.val n t) n<=19) {D dist:Nat->Int} (g:∀v,v<n-> -200<=D v/\D v<=200) {d s:List Int} (i:d.length=n) (j:s.length=n) (hp:∀v:Nat,v<n->v≠q->0<=rd d v)
  (h:T.e7 n t D dist 200 0 (fun v=>rd d (v:Nat)) (fun v=>rd s (v:Nat))):je n q t D d s:=by
 have hb:=mR b hn e g (by omega) (by omega) h;exact⟨i,j,h.eq,hp,(hb q a).1,fun v k=>(hb v k).2.2.1,(hb q a).2.2.2⟩
theorem Eb (k:Nat) (N:Int) (A0:Option Addr) (c0:Nat) (E:List S83) (q:Int) (a:Option Addr) (c2:Nat) (d:List Int) (t:Int) (w:World) (j:Kd.C aT w A0 E.length E) (l:E.length<=c0) (b:Kd.C (Kd.int .i64) w a d.length d) (g:d.length<=c2)
  (h:jg.f k N E q d=some t) (i:t≠0):
  Calls Tryz.prog 54 #[.agg #[.int .i64 N,.slice A0 E.length c0],.int .i64 q,.slice a d.length c2] w fun e w'=>e= .returned (.tuple #[.slice none 0 0,.slice none 0 0,.int .i64 t])/\Below w.heap.size w w':=by
 have hu:=Tryz.underlying24;have m:=zA h;have n:=zA b;have o:=zA g;have r:(t != 0)=true:=by simpa using i
 clear h i b g;go_enter Tryz.func54,Tryz.ntmps54
 go_wp2_with (go_at_call 108;refine(jg.calls k N A0 c0 E q a c2 d t _ (Kd.bE j _) l (Kd.bE n.out _) o.out m.out).mono ?_;rintro e w1 ⟨rfl,hb⟩;have p:=zA (a8 (aq (ao w.heap.size w) _) hb);clear hb)
 refine bodyPost_ret (results_tmp3 rfl _ _ _) rfl ?_;exact⟨rfl,p.out⟩
theorem Ec (n:Nat) (q:Int) (A0:Option Addr) (c0:Nat) (E:List S83) (a:Option Addr) (cd:Nat) (d:List Int) (w:World) (hd:Kd.C (Kd.int .i64) w a d.length d) (b:d.length<=cd) (h:d.length=n) (h1:1<=n) (hn:n<=1000):
  Calls Tryz.prog 109 #[.agg #[.int .i64 n,.slice A0 E.length c0],.int .i64 q,.slice a d.length cd] w fun e w'=>∃g gd gs i j,e= .returned (.pointer (some ⟨g,0,none⟩))/\SI w g gd gs i j n A0 c0 E q d (List.replicate n 0) w':=by
 subst h;exact D9 d.length q A0 c0 E a cd d w hd b rfl h1 hn
theorem Ed (k n:Nat) (A0:Option Addr) (c0:Nat) (E:List S83) (q:Nat) (z:Option Addr) (c2:Nat) (d s:List Int) (w:World) (J:Kd.C aT w A0 E.length E) (ak:E.length<=c0) (K:Kd.C (Kd.int .i64) w z d.length d) (L:d.length<=c2)
  (M:jg.f k n E q d=some 0) (l:dN n q E d) (N:kg n E q d s=true):
  Calls Tryz.prog 54 #[.agg #[.int .i64 n,.slice A0 E.length c0],.int .i64 q,.slice z d.length c2] w fun e w'=>∃gd gs m o,e= .returned (.tuple #[.slice (some ⟨gd,0,none⟩) n m,.slice (some ⟨gs,0,none⟩) n o,.int .i64 0])/\gd≠gs/\(Kd.int .i64).R 3 w' w.heap.size (fun _=>True) (.slice (some ⟨gd,0,none⟩) n m) (dM n E d s)/\(Kd.int .i64).R 3 w' w.heap.size (fun _=>True) (.slice (some ⟨gs,0,none⟩) n o) s/\Below w.heap.size w w':=by
 have hu:=Tryz.underlying24;have HG:=zA M;have O:=zA K;have P:=zA L;have a:=zA l;have F:=(mT l.right).1 N;have G:=zA F.2;have an:=zA F.1;have Q:=zA l.dl;clear M K L F N;have S:=l.n1;have r:=l.n12;have p:=l.q;clear l;go_enter Tryz.func54,Tryz.ntmps54
 go_wp2_with (go_at_call 108;refine(jg.calls k n A0 c0 E q z c2 d 0 _ (Kd.bE J _) ak (Kd.bE O.out _) P.out HG.out).mono ?_;rintro e w1 ⟨rfl,hb⟩;have H:=aM (bm w (.cells #[.int .i64 n,.slice A0 E.length c0] 24)) hb;have y0:=(al H 0).trans rfl;have y1:=(al H 1).trans rfl;have B:=zA (a8 (aq (ao w.heap.size w) _) hb);clear hb H)
 refine(Ec n q A0 c0 E z c2 d w1 (Kd.au O.out B.out) P.out Q.out S (by omega)).mono ?_;rintro e w2 ⟨g,gd,gs,m,o,rfl,j⟩;have U:=zA j;have V:=zA (Kd.au J B.out);have W:=B.out.size;clear j y0 y1;go_wp2_with (go_at_call 110;refine(D7 g gd gs m o n A0 c0 E q d w1 _ V.out a.out.right a.out.len a.out.conn r p a.out.val a.out.d Q.out U.out).mono ?_;rintro e w3 ⟨rfl,d3,s3,l1,l2,j,hp,dist,hle⟩;have X:=zA j;have Y:=zA (Ea a.out.right.wt p r a.out.val a.out.d l1 l2 hp hle);clear l1 l2 j hp hle U)
 refine(DS g gd gs m o n A0 c0 E q (fun v=>rd d (v:Nat)) (fun v=>rd (dM n E d s) (v:Nat)) (fun v=>rd s (v:Nat)) d3 s3 w1 w3 V.out a.out.right a.out.len a.out.conn r p a.out.val a.out.d G.out Y.out X.out).mono ?_;rintro e w4 ⟨rfl,d4,b,j,x,Z⟩;have aa:=zA j;have aB:=zA (x.bounds a.out.right.wt (a.out.right.conn a.out.conn) p r a.out.val a.out.d G.out);have I:eB n q (ai E) (fun v=>rd d (v:Nat)) (fun v=>rd d4 (v:Nat)) (fun v=>rd b (v:Nat)-rd b q):=⟨⟨x.kb,Z⟩,fun v i=>by
  have h:=T.kF n (ai E) (fun u=>rd b (u:Nat)) (fun _=>rd b q) v;rw[T.i'] at h;rw[h,x.eq v i];omega,by show rd b q-rd b q=0;omega⟩
 have HU:=zA (eB.unique a.out.right.wt (a.out.right.conn a.out.conn) p I G.out);have ad:=zA (eB.bound a.out.right.wt (a.out.right.conn a.out.conn) p r a.out.val a.out.d I);have ag:=zA x.dl;have D:=zA x.sl;clear j x Z I X Y;go_wp2_with (go_at_call 112;refine(D_ g gd gs m o n A0 c0 E q d4 b w1 _ S r p aa.out ag.out D.out (fun v i=>by have:=ad.out v i;omega) (fun v i=>by have h1: -31536<=rd b v-rd b q/\rd b v-rd b q<=31536/\_:=ad.out v i;have h2:=aB.out v i;omega)).mono ?_;rintro e w5 ⟨rfl,j⟩;have aF:=zA j;clear j aa)
 refine bodyPost_ret (results_tmp3 rfl _ _ _) rfl ?_;have e1:d4=dM n E d s:=mS ag.out (qL n E d s) (fun v i=>(HU.out v i).1);have e2:eS b (rd b q) n=s:=mS ((m_ _ _ _).trans D.out) an.out (fun v i=>by
  rw[oU _ _ _ _ (by rw[D.out];omega) (by rw[D.out];exact i),if_pos i];exact(HU.out v i).2)
 have y:=aF.out;rw[e1,e2] at y;exact⟨gd,gs,m,o,rfl,y.ne.1,Kd.ba y.d W,Kd.ba y.s W,a8 B.out y.hb⟩
theorem ki.calls (k:Nat) (b:Int) (g:Option Addr) (i:Nat) (a:List (S83)) (j:Int) (l:Option Addr) (c2:Nat) (l2:List Int) (y:List Int) (z:List Int) (B:Int) (w:World) (D:Kd.C aT w g a.length a) (E:a.length<=i) (F:Kd.C (Kd.int .i64) w l l2.length l2) (G:l2.length<=c2) (h:ki.f k b a j l2=some (y,z,B)):
  Calls Tryz.prog 54 #[.agg #[.int .i64 b,.slice g a.length i],.int .i64 j,.slice l l2.length c2] w fun e w'=>∃o p:Value,e= .returned (.tuple #[o,p,.int .i64 B])/\Kd.R (Kd.int .i64) 3 w' w.heap.size (fun r=>some r≠(p:Value).ownBlock) o y/\Kd.R (Kd.int .i64) 3 w' w.heap.size (fun r=>some r≠(o:Value).ownBlock) p z/\Below w.heap.size w w':=by
 unfold ki.f at h;obtain⟨e,he,u⟩:=Option.bind_eq_some_iff.1 h;clear h;have h:=u;by_cases v:e=0
 ·subst v
  rw[if_pos rfl] at h;by_cases x:gM b a j l2=true
  ·rw[if_pos x] at h
   obtain⟨n,q,rfl,rfl,hk⟩:=oM x;obtain⟨s,m,u⟩:=Option.bind_eq_some_iff.1 h;clear h;have h:=u;simp only[aQ,Option.some.injEq,Prod.mk.injEq] at m h;obtain⟨rfl,rfl,rfl⟩:=h;refine(Ed k n g i a q l c2 l2 s w D E F G he hk (qM m)).mono ?_;rintro e w' ⟨gd,gs,K,L,rfl,H,hd,m,hb⟩;exact⟨_,_,rfl,Kd.a_ (Kd.gC rfl hd) (fun k hk e=>H (by have:=hk.symm.trans e;injection this)),Kd.a_ (Kd.gC rfl m) (fun k hk e=>H (by have:=e.symm.trans hk;injection this)),hb⟩
  ·rw[if_neg x] at h;cases h
 ·rw[if_neg v] at h
  injection h with h
  injection h with h1 h
  injection h with I J
  subst h1 I J;refine(Eb k b g i a j l c2 l2 e w D E F G he v).mono ?_;rintro e' w' ⟨rfl,hb⟩;exact⟨_,_,rfl,Kd.cW _ _ _ _ _,Kd.cW _ _ _ _ _,hb⟩
end
section
attribute [local go_sem] Oper.semAt_some
theorem vV (W:World) (t:TypeId) {A B:Option Addr} {a b:List Int} {e cb:Nat} (h:Kd.C (Kd.int .i64) W A a.length a) (k:a.length<=e) (hb:Kd.C (Kd.int .i64) W B b.length b) (l:b.length<=cb):
  Kd.C (Kd.slice 3 (Kd.int .i64)) (W.alloc (.cells #[.slice A a.length e,.slice B b.length cb] t)) (some ⟨W.heap.size,0,none⟩) [a,b].length [a,b]:=by
 have g:=bm W (.cells #[.slice A a.length e,.slice B b.length cb] t);refine⟨rfl,by simp,fun _=>⟨_,rfl,fun j p hp=>?_⟩⟩;match j,hp with
 |0,hp=>
  obtain rfl:a=p:=by simpa using hp
  refine⟨[.slice A a.length e],rfl,⟨A,e,rfl,k,Kd.bE h _⟩,fun i u hu=>?_⟩;match i,hu with
  |0,hu=>
   obtain rfl:Value.slice A a.length e=u:=by simpa using hu
   rw[add_plain];exact(al g 0).trans rfl
  |i+1,hu=>simp at hu
 |1,hp=>
  obtain rfl:b=p:=by simpa using hp
  refine⟨[.slice B b.length cb],rfl,⟨B,cb,rfl,l,Kd.bE hb _⟩,fun i u hu=>?_⟩;match i,hu with
  |0,hu=>
   obtain rfl:Value.slice B b.length cb=u:=by simpa using hu
   rw[add_plain];exact(al g 1).trans rfl
  |i+1,hu=>simp at hu
 |j+2,hp=>simp at hp
theorem rh (W:World) (t:TypeId) {A:Option Addr} {a:List Int} {b:Nat} (e:Kd.C (Kd.int .i64) W A a.length a) (g:a.length<=b):
  Kd.C (Kd.slice 3 (Kd.int .i64)) (W.alloc (.cells #[.slice A a.length b] t)) (some ⟨W.heap.size,0,none⟩) [a].length [a]:=by
 have h:=bm W (.cells #[.slice A a.length b] t);refine⟨rfl,by simp,fun _=>⟨_,rfl,fun j p hp=>?_⟩⟩;match j,hp with
 |0,hp=>
  obtain rfl:a=p:=by simpa using hp
  refine⟨[.slice A a.length b],rfl,⟨A,b,rfl,g,Kd.bE e _⟩,fun i u hu=>?_⟩;match i,hu with
  |0,hu=>
   obtain rfl:Value.slice A a.length b=u:=by simpa using hu
   rw[add_plain];exact(al h 0).trans rfl
  |i+1,hu=>simp at hu
 |j+1,hp=>simp at hp
def eM (a b:List Int) (k:Nat):List Int:=(List.range a.length).map fun v=>if v<k then rd a (v:Nat)-rd b (v:Nat) else 0
def cI (a b:List Int):List Int:=eM a b a.length
def na (a b:List Int):Bool:=decide (a.length=b.length/\1<=a.length/\a.length<=12)&&a.all ct&&b.all ct
def iO.f (k:Nat) (a b:List Int):Option (List Int×Int):=
 (bN.f k [a,b]).bind fun e=>if e=0 then(if na a b=true then(if(cI a b).all ct=true then some (cI a b,0) else some ([],11)) else none) else some ([],e)
theorem iO.mono:∀l0 l1 k,aj (iO.f k l0 l1) (iO.f (k+1) l0 l1):=by
 intro a b k;unfold iO.f;exact aj.bind (bN.mono _ _) (fun _=>aj.refl _)
theorem Ee (x y:Int) (w:World) (a: -1048576<=x/\x<=1048576) (b: -1048576<=y/\y<=1048576):Calls Tryz.prog 59 #[.int .i64 x,.int .i64 y] w fun e w'=>e= .returned (.int .i64 (x-y))/\w'=w:=by
 obtain⟨h1,g⟩:=a;obtain⟨h,i⟩:=b;go_enter Tryz.func59,Tryz.ntmps59
 go_wp2;go_ret;exact⟨rfl,rfl⟩
theorem kV (a b:List Int) (k:Nat):(eM a b k).length=a.length:=by simp[eM]
theorem Ef {a b:List Int} {v:Nat} (g:v<a.length):(eM a b v).set v (rd a v-rd b v)=eM a b (v+1):=by
 unfold eM;refine List.ext_getElem (by simp) fun i h1 j=>?_
 rw[List.getElem_set];simp only[List.getElem_map,List.getElem_range];by_cases e:v=i
 ·subst e;simp
 ·rw[if_neg e]
  by_cases h:i<v
  ·rw[if_pos h,if_pos (by omega)]
  ·rw[if_neg h,if_neg (by omega)]
theorem vW {a b:List Int} {v:Nat} (e:v<a.length):rd (cI a b) v=rd a v-rd b v:=by
 rw[show rd (cI a b) (v:Int)=(cI a b).getD v 0 by simp[rd],cI,eM,bh,List.getElem?_map,List.getElem?_range e];simp[e]
theorem Eg (k:Nat) (A0:Option Addr) (c0:Nat) (a:List Int) (g:Option Addr) (c1:Nat) (b:List Int) (t:Int) (n:Value) (w:World) (h:Kd.C (Kd.int .i64) w A0 a.length a) (o:a.length<=c0) (i:Kd.C (Kd.int .i64) w g b.length b) (p:b.length<=c1)
  (j:bN.f k [a,b]=some t) (l:t≠0):
  Calls Tryz.prog 58 #[.slice A0 a.length c0,.slice g b.length c1,n] w fun e w'=>e= .returned (.tuple #[.slice none 0 0,.int .i64 t])/\Below w.heap.size w w':=by
 have q:=zA j;have r:=zA (vV w 26 h o i p);have s:(t != 0)=true:=by simpa using l
 clear j l h i;go_enter Tryz.func58,Tryz.ntmps58
 go_wp2_with (go_at_call 118;refine(bN.calls k (some ⟨w.heap.size,0,none⟩) 2 [a,b] t _ r.out (by simp) q.out).mono ?_;rintro e w1 ⟨rfl,⟨m,rfl⟩⟩)
 go_ret2;exact⟨rfl,bY (aq (ao _ _) _) m⟩
def iP (n:Nat) (a b:List Int) (base:Nat) (e:Ending) (w':World):Prop:=if(cI a b).all ct=true then ∃go co,e= .returned (.tuple #[.slice (some ⟨go,0,none⟩) n co,.int .i64 0])/\(Kd.int .i64).R 3 w' base (fun _=>True) (.slice (some ⟨go,0,none⟩) n co) (cI a b) else e= .returned (.tuple #[.slice none 0 0,.int .i64 11])
theorem iP.bad {n:Nat} {a b:List Int} {base:Nat} {w':World} {v:Nat} (e:v<a.length) (h:ct (rd a v-rd b v)=false):iP n a b base (.returned (.tuple #[.slice none 0 0,.int .i64 11])) w':=by
 unfold iP;rw[if_neg];intro g;rw[List.all_eq_true] at g;have i:v<(cI a b).length:=by simpa [cI,kV] using e
 have h1:=g (cI a b)[v] (List.getElem_mem i);have j:=vW (b:=b) e;rw[show rd (cI a b) (v:Int)=(cI a b)[v] by simp[rd,bh,bX i]] at j;rw[j,h] at h1;cases h1
theorem Eh (k n:Nat) (A0:Option Addr) (c0:Nat) (a:List Int) (S:Option Addr) (c1:Nat) (b:List Int) (w:World) (E:Kd.C (Kd.int .i64) w A0 a.length a) (an:a.length<=c0) (F:Kd.C (Kd.int .i64) w S b.length b) (ap:b.length<=c1)
  (T:bN.f k [a,b]=some 0) (G:a.length=n) (H:b.length=n) (bv:1<=n) (hn:n<=12) (U:∀v:Nat,v<n-> -1048576<=rd a v/\rd a v<=1048576) (hb:∀v:Nat,v<n-> -1048576<=rd b v/\rd b v<=1048576):
  Calls Tryz.prog 58 #[.slice A0 n c0,.slice S n c1,.func (.func 59) #[] #[]] w fun e w'=>iP n a b w.heap.size e w'/\Below w.heap.size w w':=by
 have HG:=zA T;have I:=vV w 26 E an F ap;rw[G,H] at I;have HC:=zA I;have aB:=zA E;have aF:=zA F;have HA:=zA U;have HB:=zA hb;have q:=zA G;have aP:=zA H;have aR:(0:Int)<=(n:Int):=by omega
 clear T E F U hb I G H;go_enter Tryz.func58,Tryz.ntmps58
 go_wp2_with (first|(go_at_call 118;refine(bN.calls k (some ⟨w.heap.size,0,none⟩) 2 [a,b] 0 _ HC.out (by simp) HG.out).mono ?_;rintro e w1 ⟨rfl,⟨m,rfl⟩⟩)|((with_reducible refine aJ (N:=20) rfl ?_);refine Kd.jn (Kd.int .i64) (w0:=w) w.heap.size 3 rfl (N:=20) rfl 26 _ _ rfl (n:Int) rfl rfl Tryz.underlying26 (.int .i64 0) 8 fW rfl (by decide) (by omega) 0 (ok:=fun _=>True) (okp:=fun _=>True) rfl (fun _ hk=>hk) trivial aR (by simp;omega) (bY (aq (ao _ _) _) m) (by simp) ?_;intro v1 w5 r hb a0 a1;rw[aQ] at r;obtain⟨go,co,J,a2,bw, -⟩:=Kd.eV r (by rw[List.length_replicate];omega);rw[List.length_replicate] at J;subst J;have V:=zA r;have W:=zA hb;clear r hb a0 a1))
 have X:Aside0 ((Kd.int .i64).R 3 w5 w.heap.size (fun _=>True) (.slice (some ⟨go,0,none⟩) n co) (eM a b 0)):=⟨by
  have h:=V.out;rw[show List.replicate n (0:Int)=eM a b 0 from by
   rw[<-q.out];unfold eM;refine List.ext_getElem (by simp) fun i h1 h2=>?_
   simp] at h
  exact h⟩
 clear V;go_loopg [23] (n) (fun kq vv wr=>∃v:Nat,v<=n/\vv= .int .i64 v/\Aside0 ((Kd.int .i64).R 3 wr w.heap.size (fun _=>True) (.slice (some ⟨go,0,none⟩) n co) (eM a b v))/\Aside0 (Below w.heap.size w wr)/\Aside0 (∀u:Nat,u<v->ct (rd a u-rd b u)=true)/\Aside0 (kq=n-v))
 case atStart=>exact⟨0,by omega,rfl,X,W,⟨fun u hu=>by omega⟩,⟨rfl⟩⟩
 case round=>
  clear X W;obtain⟨v,J,rfl,s,l,Y,HK⟩:=hrel;by_cases Z:v<n
  ·have b0:(0:Int)<=(v:Int):=by omega
   have b1:(v:Int)<(n:Int):=by omega
   have ad:=q.out;have a9:=aP.out;obtain⟨aa,ea,K⟩:=Kd.bL (Kd.au aB.out l.out) (v:Int) (by omega) (by omega);obtain⟨ab,eb,L⟩:=Kd.bL (Kd.au aF.out l.out) (v:Int) (by omega) (by omega);subst ea eb;rw[aQ] at K L;obtain⟨g,hf⟩:=Kd.bP 0 s.out (v:Int) (by omega) (by omega);rw[aQ] at g hf;generalize bO 0 (eM a b v) (v:Int)=z at g;replace g:wr.cell? ⟨go,v,none⟩=some (.int .i64 z):=g;have ag:=HA.out v Z;have ak:=HB.out v Z;have M:=Kd.de (Kd.bd s.out) (v:Int) (rd a v-rd b v);rw[aQ,Ef (show v<a.length by omega)] at M;have B:=zA M.1;have o:=zA (Below.setCell (p:=⟨go,v,none⟩) (bV l.out) a2 (.int .i64 (rd a v-rd b v)));have O:=zA (show ct (rd a v-rd b v)=true->∀u:Nat,u<v+1->ct (rd a u-rd b u)=true from fun h u hu=>by
    by_cases e:u=v
    ·subst e;exact h
    ·exact Y.out u (by omega))
   have P:Aside0 (ct (rd a v-rd b v)=false->∀w',iP n a b w.heap.size (.returned (.tuple #[.slice none 0 0,.int .i64 11])) w'):=⟨fun h w'=>iP.bad (by omega) h⟩;have b4:=zA ad;clear M s l ad a9;generalize rd a v=x at K ag B o O P;generalize rd b v=y at L ak B o O P;go_wp2_with fail
   refine wp_region_still_tail 13 (by kernel_rfl) (by kernel_rfl) ?_;simp only[List.take_succ_cons,List.take_zero,List.drop_succ_cons,List.drop_zero];repeat(first|still_step|still_call (Ee x y _ ag ak))
   refine wpStill_nil ?_;change wpList _ _ _ _ _ wr.drew
   have bg:wr.drew.cell? ⟨go,v,none⟩=some (.int .i64 z):=g;have bi:wr.drew.frozen? ⟨go,v,none⟩=false:=hf;clear g hf K L;generalize wr.drew=W2 at B o bg bi⊢;have D:=zA (uE (x-y));cases j:ct (x-y) with
   |true=>
    have Q:=zA j;rw[j] at D;clear j;go_wp2_with (go_at_call 119;refine(gI.calls (x-y) true _ D.out).mono ?_;rintro e w8 ⟨rfl,⟨m8,rfl⟩⟩)
    go_roundg (n- (v+1))
    case measure=>rw[HK.out];omega
    case rel=>exact⟨v+1,by omega,by go_num,⟨Kd.bq B.out _⟩,⟨bY o.out _⟩,⟨O.out Q.out⟩,⟨rfl⟩⟩
   |false=>
    have Q:=zA j;rw[j] at D;clear j;go_wp2_with (go_at_call 119;refine(gI.calls (x-y) false _ D.out).mono ?_;rintro e w8 ⟨rfl,⟨m8,rfl⟩⟩)
    go_ret2;exact⟨P.out Q.out _,bY o.out _⟩
  ·obtain rfl:n=v:=by omega
   go_wp2;go_ret2;have bn:(cI a b).all ct=true:=by
    rw[List.all_eq_true];intro x hx;obtain⟨u,hu,rfl⟩:=List.getElem_of_mem hx;have am:u<a.length:=by simpa [cI,kV] using hu
    have:=Y.out u (by rw[<-q.out];exact am);rw[<-vW am] at this;simpa [rd,bh,bX hu] using this
   refine⟨?_,l.out⟩;unfold iP;rw[if_pos bn];refine⟨go,co,rfl,?_⟩;have h:=s.out;unfold cI;rw[q.out];exact h
theorem vX {l:List Int}:l.all ct=true↔∀v:Nat,v<l.length-> -1048576<=rd l v/\rd l v<=1048576:=by
 have e:∀(v:Nat) (a:v<l.length),rd l (v:Int)=l[v]:=fun v a=>by simp[rd,bh,bX a]
 rw[List.all_eq_true];constructor
 ·intro h v a
  rw[e v a];simpa [ct] using h l[v] (List.getElem_mem a)
 ·intro h x b
  obtain⟨v,a,rfl⟩:=List.getElem_of_mem b;have:=h v a;rw[e v a] at this;simpa [ct] using this
theorem Ei (k:Nat) (A0:Option Addr) (c0:Nat) (a:List Int) (g:Option Addr) (c1:Nat) (b:List Int) (t:Int) (w:World) (h:Kd.C (Kd.int .i64) w A0 a.length a) (i:a.length<=c0) (j:Kd.C (Kd.int .i64) w g b.length b) (l:b.length<=c1)
  (m:bN.f k [a,b]=some t) (n:t≠0):
  Calls Tryz.prog 16 #[.slice A0 a.length c0,.slice g b.length c1] w fun e w'=>e= .returned (.tuple #[.slice none 0 0,.int .i64 t])/\Below w.heap.size w w':=by
 have o:=zA (Eg k A0 c0 a g c1 b t (.func (.func 59) #[] #[]) w h i j l m n);clear h i j l m n;go_enter Tryz.func16,Tryz.ntmps16
 go_wp2_with (go_at_call 58;refine o.out.mono ?_;rintro e w1 ⟨rfl,hb⟩;have p:=zA hb;clear hb)
 go_ret2;exact⟨rfl,p.out⟩
theorem Ej (k n:Nat) (A0:Option Addr) (c0:Nat) (a:List Int) (g:Option Addr) (c1:Nat) (b:List Int) (w:World) (m:Kd.C (Kd.int .i64) w A0 a.length a) (o:a.length<=c0) (p:Kd.C (Kd.int .i64) w g b.length b) (q:b.length<=c1)
  (r:bN.f k [a,b]=some 0) (i:a.length=n) (j:b.length=n) (z:1<=n) (hn:n<=12) (s:∀v:Nat,v<n-> -1048576<=rd a v/\rd a v<=1048576) (hb:∀v:Nat,v<n-> -1048576<=rd b v/\rd b v<=1048576):
  Calls Tryz.prog 16 #[.slice A0 a.length c0,.slice g b.length c1] w fun e w'=>iP n a b w.heap.size e w'/\Below w.heap.size w w':=by
 have B:=zA (Eh k n A0 c0 a g c1 b w m o p q r i j z hn s hb);rw[i,j];clear m o p q r s hb i j;have u:=zA (show ∀e w',iP n a b w.heap.size e w'->(∃go co,e= .returned (.tuple #[.slice (some ⟨go,0,none⟩) n co,.int .i64 0]))\/e= .returned (.tuple #[.slice none 0 0,.int .i64 11]) from fun e w' h=>by
  unfold iP at h;split at h
  ·obtain⟨go,co,he, -⟩:=h;exact .inl ⟨go,co,he⟩
  ·exact .inr h)
 go_enter Tryz.func16,Tryz.ntmps16
 go_wp2_with fail
 refine B.out.mono ?_;rintro e w1 ⟨l,hb⟩;have x:=zA l;have y:=zA hb;have hp:=u.out e w1 l;clear l hb u;rcases hp with⟨go,co,rfl⟩|rfl
 ·go_wp2
  go_ret2;exact⟨x.out,y.out⟩
 ·go_wp2
  go_ret2;exact⟨x.out,y.out⟩
theorem iO.calls (k:Nat) (A0:Option Addr) (c0:Nat) (l0:List Int) (g:Option Addr) (c1:Nat) (l1:List Int) (j:List Int) (l:Int) (w:World) (m:Kd.C (Kd.int .i64) w A0 l0.length l0) (n:l0.length<=c0) (o:Kd.C (Kd.int .i64) w g l1.length l1) (p:l1.length<=c1) (h:iO.f k l0 l1=some (j,l)):
  Calls Tryz.prog 16 #[.slice A0 l0.length c0,.slice g l1.length c1] w fun e w'=>∃q:Value,e= .returned (.tuple #[q,.int .i64 l])/\Kd.R (Kd.int .i64) 3 w' w.heap.size (fun _=>True) q j/\Below w.heap.size w w':=by
 unfold iO.f at h;obtain⟨e,he,r⟩:=Option.bind_eq_some_iff.1 h;clear h;have h:=r;clear r;by_cases i:e=0
 ·subst i
  rw[if_pos rfl] at h;by_cases a:na l0 l1=true
  ·rw[if_pos a] at h
   unfold na at a;simp only[Bool.and_eq_true,decide_eq_true_eq] at a;obtain⟨⟨⟨h1,u,x⟩,y⟩,z⟩:=a;refine(Ej k l0.length A0 c0 l0 g c1 l1 w m n o p he rfl h1.symm u x (vX.1 y) (fun v D=>vX.1 z v (by omega))).mono ?_;rintro e w' ⟨b,hb⟩;unfold iP at b;by_cases s:(cI l0 l1).all ct=true
   ·rw[if_pos s] at b h
    obtain⟨go,co,rfl,B⟩:=b;simp only[Option.some.injEq,Prod.mk.injEq] at h;obtain⟨rfl,rfl⟩:=h;exact⟨_,rfl,B,hb⟩
   ·rw[if_neg s] at b h
    simp only[Option.some.injEq,Prod.mk.injEq] at h;obtain⟨rfl,rfl⟩:=h;exact⟨_,b,Kd.cW _ _ _ _ _,hb⟩
  ·rw[if_neg a] at h;cases h
 ·rw[if_neg i] at h
  simp only[Option.some.injEq,Prod.mk.injEq] at h;obtain⟨rfl,rfl⟩:=h;refine(Ei k A0 c0 l0 g c1 l1 e w m n o p he i).mono ?_;rintro e' w' ⟨rfl,hb⟩;exact⟨_,rfl,Kd.cW _ _ _ _ _,hb⟩
end
def jh.f (k:Nat) (b:Int) (e:List (S83)) (l1:List Int):Option (Bool×List Int×List Int×Int):=(ki.f k b e 0 l1).bind fun a=>(if a.2.2=0 then(if 0<(a.1.length:Int) then(some (decide ((rd a.1 0)>=0),a.1,a.2.1,0)) else(none)) else(some (false,([]:List Int),([]:List Int),a.2.2)))
theorem jh.calls (k:Nat) (g:Int) (l:Option Addr) (m:Nat) (b:List (S83)) (q:Option Addr) (c1:Nat) (l1:List Int) (B:Bool) (D:List Int) (E:List Int) (F:Int) (w:World) (G:Kd.C aT w l b.length b) (I:b.length<=m) (J:Kd.C (Kd.int .i64) w q l1.length l1) (K:l1.length<=c1) (h:jh.f k g b l1=some (B,D,E,F)):
  Calls Tryz.prog 14 #[.agg #[.int .i64 g,.slice l b.length m],.slice q l1.length c1] w fun e w'=>∃u v:Value,e= .returned (.tuple #[.bool B,u,v,.int .i64 F])/\Kd.R (Kd.int .i64) 3 w' w.heap.size (fun x=>some x≠(v:Value).ownBlock) u D/\Kd.R (Kd.int .i64) 3 w' w.heap.size (fun x=>some x≠(u:Value).ownBlock) v E/\Below w.heap.size w w':=by
 have ag:=Tryz.underlying24;have L:=zA G;have M:=zA I;clear G I;have O:=zA J;have P:=zA K;clear J K;have a:=zA (ao w.heap.size w);unfold jh.f at h;have H:=h;clear h;obtain⟨⟨t250,t253,t256⟩,Q,H⟩:=zo H;dsimp only at H;by_cases c4:t256=0
 ·rw[if_pos c4] at H
  obtain⟨U,V⟩:=bF c4;clear c4;by_cases r:0<(t250.length:Int)
  ·rw[if_pos r] at H
   have ak:=az r;have am:decide (0<t250.length)=true:=az (by omega);clear r;simp only[Option.some.injEq,Prod.mk.injEq] at H;obtain⟨rfl,rfl,rfl,rfl⟩:=H;go_enter Tryz.func14,Tryz.ntmps14
   go_wp2_with (first|((with_reducible refine aJ (N:=2) rfl ?_);refine zX 2 #[.int .i64 g,.slice l b.length m] 24 ?_;intro W i w6 n hb;have j:=zA (n);have X:=zG a i;have Y:=zG a i;replace a:=zS a hb;clear hb n i;obtain⟨ap,ar,av,aB⟩:=ax j)|((with_reducible refine aC (f:=54) rfl ?_);refine zL (some 14) Tryz.func54 #[.agg #[.int .i64 g,.slice l b.length m],.int .i64 0,.slice q l1.length c1] ?_;(with_reducible refine(ki.calls k g _ _ b 0 _ _ l1 t250 t253 t256 _ ?af ?ah ?aX ?aW Q.out).mono ?_);(case af=>exact Kd.au L.out zB);(case ah=>exact M.out);(case aX=>exact Kd.au O.out zB);(case aW=>exact P.out);rintro e w8 ⟨Z,aa,rfl,o,p,hb⟩;refine⟨_,rfl,?_⟩;have s:=zA (Kd.ba o (bp zB));have S:=zA (Kd.ba p (bp zB));replace j:=zb j hb;replace a:=zS a hb;(try clear hb);(try clear o);(try clear p);obtain⟨aL,aO,ab⟩:=Kd.bb s.out;subst ab;have y:0<=(0:Int):=(by omega);have z:0<(t250.length:Int):=aw ‹_›;obtain⟨aP,ad,T⟩:=Kd.bL (Kd.aD s.out).2.2 0 y z;cases ad;have aR:(0<t250.length)=True:=eq_true (by omega);(try rw[show ((0:Int)).toNat=0 from rfl] at T);(try rw[Addr.add_zero'] at T);replace y:=eq_true y;replace z:=eq_true z))
   refine bodyPost_ret (sh (rs:=[.tmp 4,.tmp 5,.tmp 6,.tmp 7]) rfl (by simp) (.tmp (.tmp (.tmp (.tmp .nil))))) rfl ?_;exact⟨_,_,zE,by(with_reducible repeat(first|apply Kd.aK|apply Kd.bq|apply Kd.bd));exact s.out,by(with_reducible repeat(first|apply Kd.aK|apply Kd.bq|apply Kd.bd));exact S.out,zB⟩
  ·rw[if_neg r] at H
   exact absurd H (by simp)
 ·rw[if_neg c4] at H
  obtain⟨U,V⟩:=bI c4;simp only[Option.some.injEq,Prod.mk.injEq] at H;obtain⟨rfl,rfl,rfl,rfl⟩:=H;go_enter Tryz.func14,Tryz.ntmps14
  go_wp2_with (first|((with_reducible refine aJ (N:=2) rfl ?_);refine zX 2 #[.int .i64 g,.slice l b.length m] 24 ?_;intro W i aS n hb;have j:=zA (n);have X:=zG a i;have Y:=zG a i;replace a:=zS a hb;clear hb n i;obtain⟨a0,a1,a2,a3⟩:=ax j)|((with_reducible refine aC (f:=54) rfl ?_);refine zL (some 14) Tryz.func54 #[.agg #[.int .i64 g,.slice l b.length m],.int .i64 0,.slice q l1.length c1] ?_;(with_reducible refine(ki.calls k g _ _ b 0 _ _ l1 t250 t253 t256 _ ?af ?ah ?aX ?aW Q.out).mono ?_);(case af=>exact Kd.au L.out zB);(case ah=>exact M.out);(case aX=>exact Kd.au O.out zB);(case aW=>exact P.out);rintro e a4 ⟨Z,aa,rfl,o,p,hb⟩;refine⟨_,rfl,?_⟩;have s:=zA (Kd.ba o (bp zB));have S:=zA (Kd.ba p (bp zB));replace j:=zb j hb;replace a:=zS a hb;(try clear hb);(try clear o);(try clear p)))
  refine bodyPost_ret (sh (rs:=[.tmp 4,.tmp 5,.tmp 6,.tmp 7]) rfl (by simp) (.tmp (.tmp (.tmp (.tmp .nil))))) rfl ?_;exact⟨_,_,zE,by first|exact Kd.cW _ _ _ _ _|exact Kd.fx _ _ _ _ _|exact Kd.V_nil _ _ _ _ _|exact Kd.Q_nil _ _ _ _ _|exact Kd.fh _ _ _ _ _,by first|exact Kd.cW _ _ _ _ _|exact Kd.fx _ _ _ _ _|exact Kd.V_nil _ _ _ _ _|exact Kd.Q_nil _ _ _ _ _|exact Kd.fh _ _ _ _ _,zB⟩
def fe.l0:Nat->List (List Int)->Int->Int->Int->List (S83)->Option (Int)
 |0,_,_,_,_,_=>none
 |k+1,b,e,a,g,i=>if a<e then(if 0<=a then(if a<(b.length:Int) then((bt.f k (a6 b a) g).bind fun h=>(if h=0 then(fe.l0 k b e (wrap64 (a+1)) g i) else(some h))) else(none)) else(none)) else(some 0)
def fe.f (k:Nat) (b:Int) (e:List (S83)) (l1:List (List Int)):Option (Int):=(cu.f k b e).bind fun a=>(if a.2=0 then(if a.1=true then(fe.l0 k l1 (l1.length:Int) 0 b e) else(some 13)) else(some a.2))
theorem fe.calls (k:Nat) (b:Int) (m:Option Addr) (n:Nat) (i:List (S83)) (U:Option Addr) (c1:Nat) (l1:List (List Int)) (r:Int) (w:World) (V:Kd.C aT w m i.length i) (W:i.length<=n) (X:Kd.C (Kd.slice 3 (Kd.int .i64)) w U l1.length l1) (Y:l1.length<=c1) (h:fe.f k b i l1=some r):
  Calls Tryz.prog 93 #[.agg #[.int .i64 b,.slice m i.length n],.slice U l1.length c1] w fun e w'=>e= .returned (.int .i64 r)/\Below w.heap.size w w':=by
 have a0:=Tryz.underlying24;have G:=zA V;have I:=zA W;clear V W;have Z:=zA X;have a1:=zA Y;clear X Y;have a:=zA (ao w.heap.size w);unfold fe.f at h;have H:=h;clear h;obtain⟨⟨aa,z⟩,J,H⟩:=zo H;dsimp only at H;by_cases c4:z=0
 ·rw[if_pos c4] at H
  obtain⟨ab,ad⟩:=bF c4;clear c4;by_cases B:aa=true
  ·subst B
   replace H:=zi H;have D:=zA H;clear H;go_enter Tryz.func93,Tryz.ntmps93
   go_wp2_with (first|((with_reducible refine aJ (N:=2) rfl ?_);refine zX 2 #[.int .i64 b,.slice m i.length n] 24 ?_;intro K l w6 o hb;have j:=zA (o);have ag:=zG a l;have ak:=zG a l;replace a:=zS a hb;clear hb o l;obtain⟨ar,av,aB,aF⟩:=ax j)|((with_reducible refine aC (f:=113) rfl ?_);refine zL (some 12) Tryz.func113 #[.agg #[.int .i64 b,.slice m i.length n]] ?_;(with_reducible refine(cu.calls k b _ _ i true z _ ?af ?ah J.out).mono ?_);(case af=>exact Kd.au G.out zB);(case ah=>exact I.out);rintro e w8 ⟨rfl,hb⟩;refine⟨_,rfl,?_⟩;replace j:=zb j hb;replace a:=zS a hb;(try clear hb)))
   go_loopg [22] k (fun kq v22 w'=>∃(g:Int),v22= .int .i64 g/\Aside0 (fe.l0 kq l1 (l1.length:Int) g b i=some r)/\Aside0 (kq<=k)/\Aside0 (w'.heap[K]? =some (.cells #[.int .i64 b,(.slice m i.length n)] 24 (0,0)))/\Aside0 (Below w.heap.size w w'))
   case atStart=>exact⟨(0),zT,D,⟨aI _⟩,⟨zK j⟩,⟨zB⟩⟩
   case round=>
    clear D;clear ab ad ar av aB aF;obtain⟨g,rfl,L,an,j,a⟩:=hrel;cases gk with
    |zero=>exact absurd L.out (by simp[fe.l0])
    |succ M=>
     have H:=L.out;clear L;simp only[fe.l0] at H;by_cases u:g<(l1.length:Int)
     ·rw[if_pos u] at H
      have aL:=az u;clear u;by_cases E:0<=g
      ·rw[if_pos E] at H
       have a4:=az E;clear E;by_cases F:g<(l1.length:Int)
       ·rw[if_pos F] at H
        have a5:=az F;clear F;obtain⟨O,ap,H⟩:=zo H;by_cases v:O=0
        ·rw[if_pos v] at H
         obtain⟨aO,aP⟩:=bF v;clear v;have D:=zA H;clear H;have p:0<=(g:Int):=aw ‹_›;have q:g<(l1.length:Int):=aw ‹_›;obtain⟨aR,P,Q,R,s,x,y⟩:=fX Z.out g p q;cases R;replace s:=(a.out.cell (bs w _ s)).trans s;have S:=zA y;have T:=zA x;clear y x;replace p:=eq_true p;replace q:=eq_true q;obtain⟨a9,be,bf,bg⟩:=ax j;go_wp2_with (first|((with_reducible refine aC (f:=87) rfl ?_);refine zL (some 29) Tryz.func87 #[.slice P (a6 l1 g).length Q,.int .i64 b] ?_;(with_reducible refine(bt.calls M _ _ (a6 l1 g) b O _ ?af ?ah ap.out).mono ?_);(case af=>exact Kd.au S.out zB);(case ah=>exact T.out);rintro e w' ⟨rfl,⟨nd,rfl⟩⟩;refine⟨_,rfl,?_⟩))
         go_roundg M
         case measure=>have:=an.out;omega
         case rel=>exact⟨(wrap64 (g+1)),zT,D,⟨by have:=an.out;omega⟩,⟨zK j⟩,⟨zB⟩⟩
        ·rw[if_neg v] at H
         obtain⟨aO,aP⟩:=bI v;obtain rfl:=aH H;have p:0<=(g:Int):=aw ‹_›;have q:g<(l1.length:Int):=aw ‹_›;obtain⟨aR,P,Q,R,s,x,y⟩:=fX Z.out g p q;cases R;replace s:=(a.out.cell (bs w _ s)).trans s;have S:=zA y;have T:=zA x;clear y x;replace p:=eq_true p;replace q:=eq_true q;obtain⟨bi,bk,bn,bo⟩:=ax j;go_wp2_with (first|((with_reducible refine aC (f:=87) rfl ?_);refine zL (some 29) Tryz.func87 #[.slice P (a6 l1 g).length Q,.int .i64 b] ?_;(with_reducible refine(bt.calls M _ _ (a6 l1 g) b O _ ?af ?ah ap.out).mono ?_);(case af=>exact Kd.au S.out zB);(case ah=>exact T.out);rintro e w' ⟨rfl,⟨nd,rfl⟩⟩;refine⟨_,rfl,?_⟩))
         go_ret;exact⟨zE,zB⟩
       ·rw[if_neg F] at H
        exact absurd H (by simp)
      ·rw[if_neg E] at H
       exact absurd H (by simp)
     ·rw[if_neg u] at H
      have aL:=aZ u;clear u;obtain rfl:=aH H;go_wp2;go_ret;exact⟨zE,zB⟩
  ·replace B:=Bool.eq_false_iff.mpr B
   subst B;replace H:=zj H;obtain rfl:=aH H;go_enter Tryz.func93,Tryz.ntmps93
   go_wp2_with (first|((with_reducible refine aJ (N:=2) rfl ?_);refine zX 2 #[.int .i64 b,.slice m i.length n] 24 ?_;intro K l bv o hb;have j:=zA (o);have ag:=zG a l;have ak:=zG a l;replace a:=zS a hb;clear hb o l;obtain⟨bw,bx,b0,b1⟩:=ax j)|((with_reducible refine aC (f:=113) rfl ?_);refine zL (some 12) Tryz.func113 #[.agg #[.int .i64 b,.slice m i.length n]] ?_;(with_reducible refine(cu.calls k b _ _ i false z _ ?af ?ah J.out).mono ?_);(case af=>exact Kd.au G.out zB);(case ah=>exact I.out);rintro e b2 ⟨rfl,hb⟩;refine⟨_,rfl,?_⟩;replace j:=zb j hb;replace a:=zS a hb;(try clear hb)))
   go_ret;exact⟨zE,zB⟩
 ·rw[if_neg c4] at H
  obtain⟨ab,ad⟩:=bI c4;obtain rfl:=aH H;go_enter Tryz.func93,Tryz.ntmps93
  go_wp2_with (first|((with_reducible refine aJ (N:=2) rfl ?_);refine zX 2 #[.int .i64 b,.slice m i.length n] 24 ?_;intro K l b3 o hb;have j:=zA (o);have ag:=zG a l;have ak:=zG a l;replace a:=zS a hb;clear hb o l;obtain⟨b4,b5,b6,b_⟩:=ax j)|((with_reducible refine aC (f:=113) rfl ?_);refine zL (some 12) Tryz.func113 #[.agg #[.int .i64 b,.slice m i.length n]] ?_;(with_reducible refine(cu.calls k b _ _ i aa z _ ?af ?ah J.out).mono ?_);(case af=>exact Kd.au G.out zB);(case ah=>exact I.out);rintro e b' ⟨rfl,hb⟩;refine⟨_,rfl,?_⟩;replace j:=zb j hb;replace a:=zS a hb;(try clear hb)))
  go_ret;exact⟨zE,zB⟩
def dB.f (k:Nat) (b:Int) (e:List (S83)):Option (Int):=(cu.f k b e).bind fun a=>(if a.2=0 then(if a.1=true then(some 0) else(some 13)) else(some a.2))
theorem dB.mono:∀a0 a k,aj (dB.f k a0 a) (dB.f (k+1) a0 a):=by
 intro a0 a k;unfold dB.f;with_reducible repeat' first|exact cu.mono _ _ _|exact aj.refl _|exact aj.none _|refine aj.ite ?_ ?_|refine aj.bind ?_ (fun _=>?_)
theorem dB.calls (k:Nat) (g:Int) (l:Option Addr) (m:Nat) (b:List (S83)) (r:Int) (w:World) (s:Kd.C aT w l b.length b) (u:b.length<=m) (h:dB.f k g b=some r):
  Calls Tryz.prog 55 #[.agg #[.int .i64 g,.slice l b.length m]] w fun e w'=>e= .returned (.int .i64 r)/\Below w.heap.size w w':=by
 have D:=Tryz.underlying24;have o:=zA s;have p:=zA u;clear s u;have a:=zA (ao w.heap.size w);unfold dB.f at h;have H:=h;clear h;obtain⟨⟨t198,t199⟩,q,H⟩:=zo H;dsimp only at H;by_cases c3:t199=0
 ·rw[if_pos c3] at H
  obtain⟨z,B⟩:=bF c3;clear c3;by_cases c4:t198=true
  ·subst c4
   replace H:=zi H;obtain rfl:=aH H;go_enter Tryz.func55,Tryz.ntmps55
   go_wp2_with (first|((with_reducible refine aJ (N:=1) rfl ?_);refine zX 1 #[.int .i64 g,.slice l b.length m] 24 ?_;intro v i E n hb;have j:=zA (n);have x:=zG a i;have y:=zG a i;replace a:=zS a hb;clear hb n i;obtain⟨F,G,I,J⟩:=ax j)|((with_reducible refine aC (f:=113) rfl ?_);refine zL (some 7) Tryz.func113 #[.agg #[.int .i64 g,.slice l b.length m]] ?_;(with_reducible refine(cu.calls k g _ _ b true t199 _ ?af ?ah q.out).mono ?_);(case af=>exact Kd.au o.out zB);(case ah=>exact p.out);rintro e K ⟨rfl,hb⟩;refine⟨_,rfl,?_⟩;replace j:=zb j hb;replace a:=zS a hb;(try clear hb)))
   go_ret;exact⟨zE,zB⟩
  ·replace c4:=Bool.eq_false_iff.mpr c4
   subst c4;replace H:=zj H;obtain rfl:=aH H;go_enter Tryz.func55,Tryz.ntmps55
   go_wp2_with (first|((with_reducible refine aJ (N:=1) rfl ?_);refine zX 1 #[.int .i64 g,.slice l b.length m] 24 ?_;intro v i L n hb;have j:=zA (n);have x:=zG a i;have y:=zG a i;replace a:=zS a hb;clear hb n i;obtain⟨M,O,P,Q⟩:=ax j)|((with_reducible refine aC (f:=113) rfl ?_);refine zL (some 7) Tryz.func113 #[.agg #[.int .i64 g,.slice l b.length m]] ?_;(with_reducible refine(cu.calls k g _ _ b false t199 _ ?af ?ah q.out).mono ?_);(case af=>exact Kd.au o.out zB);(case ah=>exact p.out);rintro e R ⟨rfl,hb⟩;refine⟨_,rfl,?_⟩;replace j:=zb j hb;replace a:=zS a hb;(try clear hb)))
   go_ret;exact⟨zE,zB⟩
 ·rw[if_neg c3] at H
  obtain⟨z,B⟩:=bI c3;obtain rfl:=aH H;go_enter Tryz.func55,Tryz.ntmps55
  go_wp2_with (first|((with_reducible refine aJ (N:=1) rfl ?_);refine zX 1 #[.int .i64 g,.slice l b.length m] 24 ?_;intro v i ie n hb;have j:=zA (n);have x:=zG a i;have y:=zG a i;replace a:=zS a hb;clear hb n i;obtain⟨S,T,U,V⟩:=ax j)|((with_reducible refine aC (f:=113) rfl ?_);refine zL (some 7) Tryz.func113 #[.agg #[.int .i64 g,.slice l b.length m]] ?_;(with_reducible refine(cu.calls k g _ _ b t198 t199 _ ?af ?ah q.out).mono ?_);(case af=>exact Kd.au o.out zB);(case ah=>exact p.out);rintro e W ⟨rfl,hb⟩;refine⟨_,rfl,?_⟩;replace j:=zb j hb;replace a:=zS a hb;(try clear hb)))
  go_ret;exact⟨zE,zB⟩
theorem ri {n:Nat} {E:List S83} (g:E.length<=1000) (b:cT n E=0) (hp:partsOf E n=1):Ev (fun k=>cu.f k n E) (true,(0:Int)):=by
 obtain⟨h1,j,a⟩:=j6 b;unfold cu.f;have e:=nU (n:Int) E g;rw[b] at e;refine Ev.bind e ?_;have h:j9 (n:Int) E=true:=by
  unfold j9;rw[az (by omega),Bool.true_and];refine List.all_eq_true.2 fun x i=>?_
  have:=a.ok x i;simp[cM] at this⊢;omega
 simp only[if_true,if_pos h,aQ];rw[show decide (cY (aN E) n=1)=true from az ((tz (by omega) (kG a.ct)).2 ((ka (by omega) a).1 hp))];exact Ev.const _
theorem nc {l:List Int} {n:Nat} (h1:1<=n) (a:n<=12) (b:l.length=n) (hb:∀v:Nat,v<n-> -1048576<=rd l v/\rd l v<=1048576):fN l n=0:=qK.2 ⟨by omega,by omega,by omega,fun v e=>hb v (by omega)⟩
theorem Ek {n q:Nat} {E:List S83} {d:List Int} (h:dN n q E d) (b:cT n E=0):Ev (fun k=>jg.f k n E q d) 0:=by
 unfold jg.f;have h1:=h.q;refine Ev.bind (ri h.len b ((ka h.n1 h.right).2 h.conn)) ?_;simp only[if_true,if_neg (show ¬(q:Int)<0 by omega),if_neg (show ¬(q:Int)>=(n:Int) by omega)];refine Ev.bind (a:=(0:Int)) ?_ (Ev.const _);have:=kN d n (by have:=h.dl;have:=h.n12;omega);rw[nc h.n1 h.n12 h.dl (fun v e=>by have:=h.d v e;omega)] at this;exact this
theorem El {n q:Nat} {E:List S83} {d:List Int} (h:dN n q E d) (a:cT n E=0):∃s,Ev (fun k=>ki.f k n E q d) (dM n E d s,s,(0:Int))/\s.length=n/\eB n q (ai E) (fun v=>rd d (v:Nat)) (fun v=>rd (dM n E d s) (v:Nat)) (fun v=>rd s (v:Nat)):=by
 obtain⟨s,h1,b,e⟩:=Ca h.right h.conn h.q d;refine⟨s,?_,b,e⟩;unfold ki.f;refine Ev.bind (Ek h a) ?_;simp only[if_true,if_pos (h.ok a),aQ];exact Ev.bind h1 (Ev.const _)
theorem vY {n:Nat} {E:List S83} {d:List Int} (h:dN n 0 E d) (a:cT n E=0):∃s,Ev (fun k=>jh.f k n E d) (decide (rd (dM n E d s) 0>=0),dM n E d s,s,(0:Int))/\s.length=n/\eB n 0 (ai E) (fun v=>rd d (v:Nat)) (fun v=>rd (dM n E d s) (v:Nat)) (fun v=>rd s (v:Nat)):=by
 obtain⟨s,h1,b,e⟩:=El h a;refine⟨s,?_,b,e⟩;unfold jh.f;refine Ev.bind h1 ?_;have:=h.n1;simp only[if_true,if_pos (show (0:Int)<((dM n E d s).length:Int) by rw[qL];omega)];exact Ev.const _
theorem Em {n:Nat} {E:List S83} {d:List Int} (h:dN n 0 E d) (b:cT n E=0):Ev (fun k=>fe.f k n E [d]) 0:=by
 unfold fe.f;refine Ev.bind (ri h.len b ((ka h.n1 h.right).2 h.conn)) ?_;simp only[if_true];refine Ev.of_succ ?_;simp only[fe.l0,List.length_singleton,if_pos (show (0:Int)<((1:Nat):Int) by decide),if_pos (show (0:Int)<=0 by decide),lW,mX];have a:=kN d n (by have:=h.dl;have:=h.n12;omega);rw[nc h.n1 h.n12 h.dl (fun v e=>by have:=h.d v e;omega)] at a;refine Ev.bind a ?_;simp only[if_true];refine Ev.of_succ ?_;simp only[fe.l0,if_neg (show ¬(1:Int)<((1:Nat):Int) by decide)];exact Ev.const _
theorem En {n:Nat} {E:List S83} {d s:List Int} (h:dN n 0 E d) (b:eB n 0 (ai E) (fun v=>rd d (v:Nat)) (fun v=>rd (dM n E d s) (v:Nat)) (fun v=>rd s (v:Nat))):rd (dM n E d s) 0>=0↔T.bZ n (ai E) (fun v=>rd d (v:Nat)):=by
 have g:=h.q;have he:T.bU n (ai E) (fun v=>rd d (v:Nat)) (fun v=>rd (dM n E d s) (v:Nat)):=⟨_,b.eq⟩;have e:=T.mD h.right.wt g b.red;constructor
 ·intro a
  exact(e.2 a).fA he.symm
 ·intro a
  exact e.1 (a.fA he)
section
end
section
attribute [local go_sem] Oper.semAt_some
def eN (d:List Int):Nat->Int
 |0=>0
 |k+1=>eN d k+rd d k
theorem rj {d:List Int} {n:Nat} (hd:∀v:Nat,v<n-> -1048576<=rd d v/\rd d v<=1048576):∀k,k<=n-> -(k*1048576)<=eN d k/\eN d k<=k*1048576
 |0,_=>by simp[eN]
 |k+1,h=>by
  have h1:=rj hd k (by omega);have a:=hd k (by omega);unfold eN;omega
theorem Eo (A0:Option Addr) (c0 n:Nat) (d:List Int) (w:World) (b:Kd.C (Kd.int .i64) w A0 d.length d) (p:d.length<=c0) (a:d.length=n) (K:1<=n) (hn:n<=12) (hd:∀v:Nat,v<n-> -1048576<=rd d v/\rd d v<=1048576):
  Calls Tryz.prog 148 #[.slice A0 n c0] w fun e w'=>e= .returned (.tuple #[.int .i64 (eN d n),.int .i64 0])/\Below w.heap.size w w':=by
 obtain⟨k,hk⟩:=(DN d (by omega)).get;rw[show q_ d=0 from qK.2 ⟨by omega,by omega,rfl,fun v l=>hd v (by omega)⟩] at hk;have q:=zA hk;have g:=rh w 26 b p;rw[a] at g;have r:=zA g;have s:=zA b;have u:=zA hd;have z:=zA a;have B:=zA (rj hd);clear hk b hd g a;go_enter Tryz.func148,Tryz.ntmps148
 go_wp2_with (go_at_call 118;refine(bN.calls k (some ⟨w.heap.size,0,none⟩) 1 [d] 0 _ r.out (by simp) q.out).mono ?_;rintro e w1 ⟨rfl,⟨m,rfl⟩⟩)
 have h:=zA (bY (aq (ao w.heap.size w) (.cells #[.slice A0 n c0] 26)) m);generalize (w.alloc (.cells #[.slice A0 n c0] 26)).drewN m=W1 at h⊢;go_loopg [5,16] (n) (fun D E F wr=>∃v:Nat,v<=n/\F= .int .i64 v/\E= .int .i64 (eN d v)/\Aside0 (Below w.heap.size w wr)/\Aside0 (D=n-v))
 case atStart=>exact⟨0,by omega,rfl,rfl,h,⟨rfl⟩⟩
 case round=>
  clear h;obtain⟨v,l,rfl,rfl,i,G⟩:=hrel;by_cases H:v<n
  ·have L:(0:Int)<=(v:Int):=by omega
   have M:(v:Int)<(n:Int):=by omega
   have a:=z.out;obtain⟨N,I,o⟩:=Kd.bL (Kd.au s.out i.out) (v:Int) (by omega) (by omega);subst I;rw[aQ] at o;have h1:=u.out v H;have J:=B.out v l;have j:=zA (show eN d (v+1)=eN d v+rd d v from rfl);clear a;generalize rd d v=x at o h1 j;generalize eN d v=y at J j⊢;go_wp2;go_roundg (n- (v+1))
   case measure=>rw[G.out];omega
   case rel=>exact⟨v+1,by omega,by go_num,by rw[j.out],i,⟨rfl⟩⟩
  ·obtain rfl:n=v:=by omega
   go_wp2;go_ret2;exact⟨rfl,i.out⟩
end
end Go.Proofs.YtffdiakgjakngaaGreat.P
namespace Go.Proofs.YtffdiakgjakngaaGreat.P
open Go.RowKit Go.Maps Go.Proofs.YtffdiakgjakngaaGreatW.PrintWords Go.Proofs.YtffdiakgjakngaaGreatW.PrintLast Go.Proofs.YtffdiakgjakngaaGreatW.PrintMore
set_option linter.unusedVariables false
set_option linter.unusedSimpArgs false
set_option maxHeartbeats 8000000
set_option maxRecDepth 100000
section
theorem vZ {α:Type} (f:α->α):∀(l:List α) (j:Nat) (e:α),l[j]? =some e->l.modify j f=l.set j (f e)
 |[],j,e,h=>by simp at h
 |x::l,0,e,h=>by
  obtain rfl:x=e:=by simpa using h
  rfl
 |x::l,j+1,e,h=>by
  have:=vZ f l j e (by simpa using h);simp[this]
def ei (l:List Int):Value:=.agg (l.map (Value.int .i64)).toArray
def lY (l:List Int):Prop:=l.length=12/\∀x∈l, -1000000<=x/\x<=1000000
theorem kj:WideMaps.KeyLaw Tryz.prog 172:=deep_law (m:=2) (by decide) (by kernel_rfl) (by kernel_rfl) (by kernel_rfl)
theorem mapM_some {α β:Type} {f:α->Option β}:∀{l:List α},(∀x∈l,∃y,f x=some y)->∃ys,l.mapM f=some ys
 |[],_=>⟨[],rfl⟩
 |x::l,h=>by
  obtain⟨y,a⟩:=h x (List.mem_cons_self ..);obtain⟨ys,b⟩:=mapM_some (l:=l) (fun z e=>h z (List.mem_cons_of_mem _ e));exact⟨y::ys,by rw[List.mapM_cons,a,b];rfl⟩
theorem rl:Tryz.prog.underlying 172=some (.array 12 3):=by kernel_rfl
theorem v_:Tryz.prog.cellsOf 172=12:=by kernel_rfl
theorem Ep:Tryz.prog.cellsOf 3=1:=by kernel_rfl
theorem Er:Tryz.prog.keyType 172=true:=by kernel_rfl
theorem Es:∃m,Tryz.prog.types.size=m+1:=⟨Tryz.prog.types.size-1,by
 have h:decide (0<Tryz.prog.types.size)=true:=by kernel_rfl
 have a:=aw h;omega⟩
theorem oV {l:List Int} (h:lY l):∃s,keyOf Tryz.prog 172 (ei l)=some s:=by
 unfold keyOf;rw[rl];have hf:(ei l).formed Tryz.prog 172=true:=by
  unfold ei Value.formed;rw[rl,v_];simp[h.1]
 simp only[Er,hf,Bool.and_self,if_true];obtain⟨m,hm⟩:=Es;rw[hm];unfold Program.keyLits;rw[rl];have b:(ei l).cells.toList=l.map (Value.int .i64):=by simp[ei,Value.cells]
 rw[b];dsimp only;rw[v_,Ep];simp only[List.length_map,h.1,if_true];obtain⟨ys,g⟩:=mapM_some (f:=fun i=>Tryz.prog.keyLits (m+1) 3 (List.take 1 (List.drop (i*1) (l.map (Value.int .i64))))) (l:=List.range 12) (fun i hi=>by
  have hi:=List.mem_range.1 hi;have a:i<l.length:=by rw[h.1];exact hi
  have e:List.take 1 (List.drop (i*1) (l.map (Value.int .i64)))=[Value.int .i64 l[i]]:=by
   rw[Nat.mul_one,List.drop_eq_getElem_cons (by simpa using a)];simp
  have hb:=h.2 l[i] (List.getElem_mem a);refine⟨[.int .i64 l[i]],?_⟩;show Tryz.prog.keyLits (m+1) 3 (List.take 1 (List.drop (i*1) (l.map (Value.int .i64))))=_
  rw[e];unfold Program.keyLits;rw[Tryz.underlying3];simp only[true_and];rw[if_pos (WalkArith.wf_i64 (by omega))])
 rw[g];exact⟨_,rfl⟩
theorem Et {a b:List Int} (h:ei a=ei b):a=b:=by
 unfold ei at h;injection h with h
 have e:=congrArg Array.toList h;simp only at e;have key:∀a b:List Int,a.map (Value.int .i64)=b.map (Value.int .i64)->a=b:=by
  intro a;induction a with
  |nil=>intro b h;cases b with|nil=>rfl|cons y b=>simp at h
  |cons x a g=>
   intro b h;cases b with
   |nil=>simp at h
   |cons y b=>
    simp only[List.map_cons,List.cons.injEq,Value.int.injEq,true_and] at h;rw[h.1,g b h.2]
 exact key a b e
def dX (G:List Int->Int->Prop) (w:World) (b:Nat):Prop:=∃es clock,w.heap[b]? =some (.map es clock)/\(∀e∈es.toList,∃l x,e.key=ei l/\e.val= .int .i64 x/\lY l/\G l x)/\(es.toList.map fun e=>e.key).Pairwise (· ≠ ·)
namespace dX
variable {G:List Int->Int->Prop} {w w':World} {b:Nat}
theorem lt (h:dX G w b):b<w.heap.size:=by
 obtain⟨es,c,h, -⟩:=h;exact aE h
theorem iE (h:dX G w b) (hk:w'.heap[b]? =w.heap[b]?):dX G w' b:=by
 obtain⟨es,c,h1,a,e⟩:=h;exact⟨es,c,hk.trans h1,a,e⟩
theorem below (h:dX G w b) (hb:Below w.heap.size w w'):dX G w' b:=h.iE (hb.block b h.lt)
theorem alloc (h:dX G w b) (o:Obj):dX G (w.alloc o) b:=h.below (aq (ao _ _) o)
theorem g_ (h:dX G w b) (p:Addr) (v:Value) (hp:b≠p.block):dX G (w.setCell p v) b:=h.iE (Below.heap_setCell _ _ _ _ hp)
theorem made (w:World):dX G (w.alloc (.map #[] 0)) w.heap.size:=⟨#[],0,bm w _,fun e he=>by simp at he,by simp⟩
theorem look (h:dX G w b) (y:∀w,(zeroValue 3).run Tryz.prog w= .ok (.int .i64 0) w) {l:List Int} (o:lY l):
  (∃x,G l x/\∀w':World,w'.heap[b]? =w.heap[b]? ->(Instr.lookup 169 (.map (some b)) (ei l) true).run Tryz.prog w'= .ok (.tuple #[.int .i64 x,.bool true]) w')\/(∀w':World,w'.heap[b]? =w.heap[b]? ->(Instr.lookup 169 (.map (some b)) (ei l) true).run Tryz.prog w'= .ok (.tuple #[.int .i64 0,.bool false]) w'):=by
 obtain⟨es,c,hb,r,p⟩:=h;have u:∀e∈es.toList,∃l,keyOf Tryz.prog 172 e.key=some l:=fun e he=>by
  obtain⟨l,x,hk, -,o, -⟩:=r e he;rw[hk];exact oV o
 obtain⟨s,n⟩:=oV o;by_cases hex:∃(j:Nat) (e:MapEntry),es.toList[j]? =some e/\e.key=ei l
 ·left
  obtain⟨j,e,i,hk⟩:=hex;obtain⟨l',x,a,z,D,B⟩:=r e (List.mem_of_getElem? i);obtain rfl:=Et (a.symm.trans hk);refine⟨x,B,fun w' q=>?_⟩;rcases kj.find w' n es.toList u with⟨h1,v⟩|⟨k,e',h1,g,a⟩
  ·exact absurd hk (v e (List.mem_of_getElem? i))
  ·have C:e'=e:=by
    have l1:=(List.getElem?_eq_some_iff.1 i).1;have l2:=(List.getElem?_eq_some_iff.1 g).1;have g1:=(List.getElem?_eq_some_iff.1 i).2;have g2:=(List.getElem?_eq_some_iff.1 g).2;rw[List.pairwise_iff_getElem] at p;rcases Nat.lt_trichotomy j k with m|m|m
    ·have:=p j k (by simpa using l1) (by simpa using l2) m
     simp only[List.getElem_map,g1,g2] at this;exact absurd (hk.trans a.symm) this
    ·subst m
     rw[i] at g;exact(aH g).symm
    ·have:=p k j (by simpa using l2) (by simpa using l1) m
     simp only[List.getElem_map,g1,g2] at this;exact absurd (a.trans hk.symm) this
   subst C;simp[Instr.lookup,run_underlying Tryz.underlying169,MapKept.run_getObj_map (q.trans hb),kj.check w' _ n,h1,z,Result.andThen]
 ·right
  intro w' q;rcases kj.find w' n es.toList u with⟨h1,v⟩|⟨k,e',h1,g,a⟩
  ·simp[Instr.lookup,run_underlying Tryz.underlying169,MapKept.run_getObj_map (q.trans hb),kj.check w' _ n,h1,y,Result.andThen]
  ·exact absurd ⟨k,e',g,a⟩ hex
theorem store (h:dX G w b) {l:List Int} {x:Int} (a:lY l) (o:G l x):
  ∃w',(Instr.mapUpdate 169 (.map (some b)) (ei l) (.int .i64 x)).run Tryz.prog w= .ok () w'/\dX G w' b/\w.grownBy w' (some b):=by
 obtain⟨es,c,hb,n,p⟩:=h;have u:∀e∈es.toList,∃l,keyOf Tryz.prog 172 e.key=some l:=fun e he=>by
  obtain⟨l,x,hk, -,a, -⟩:=n e he;rw[hk];exact oV a
 obtain⟨s,g⟩:=oV a;have q:=aE hb;rcases kj.find w g es.toList u with⟨h1,v⟩|⟨j,e,h1,m,hk⟩
 ·refine⟨w.putObj b (.map (es.push ⟨ei l,.int .i64 x,c⟩) (c+1)),?_,⟨_,_,World.putObj_heap_same q,fun e he=>?_,?_⟩,?_⟩
  ·simp[Instr.mapUpdate,run_underlying Tryz.underlying169,MapKept.run_getObj_map hb,kj.check w _ g,h1,MapKept.run_setObj_map _ hb,Result.andThen,World.putObj]
  ·simp only[Array.toList_push,List.mem_append,List.mem_singleton] at he
   rcases he with he|rfl
   ·exact n e he
   ·exact⟨l,x,rfl,rfl,a,o⟩
  ·simp only[Array.toList_push,List.map_append,List.map_cons,List.map_nil]
   refine List.pairwise_append.2 ⟨p,by simp,fun k hk k' y=>?_⟩;obtain rfl:=List.mem_singleton.1 y;obtain⟨e,he,rfl⟩:=List.mem_map.1 hk;exact v e he
  ·exact grownBy_putObj' w b _
 ·have z:j<es.toList.length:=(List.getElem?_eq_some_iff.1 m).1
  have B:es[j]? =some e:=by simpa using m
  have r:(es.modify j (fun e'=>{e' with key:=ei l,val:=.int .i64 x})).toList=es.toList.set j {e with key:=ei l,val:=.int .i64 x}:=by rw[Array.toList_modify,vZ _ _ _ _ m]
  refine⟨w.putObj b (.map (es.modify j (fun e'=>{e' with key:=ei l,val:=.int .i64 x})) c),?_,⟨_,_,World.putObj_heap_same q,fun e' he=>?_,?_⟩,?_⟩
  ·simp[Instr.mapUpdate,run_underlying Tryz.underlying169,MapKept.run_getObj_map hb,kj.check w _ g,h1,B,hk,kj.stays w g,MapKept.run_setObj_map _ hb,Result.andThen,World.putObj]
  ·rw[r] at he
   rcases List.mem_or_eq_of_mem_set he with he|rfl
   ·exact n e' he
   ·exact⟨l,x,rfl,rfl,a,o⟩
  ·rw[r]
   have:(es.toList.set j {e with key:=ei l,val:=.int .i64 x}).map (fun e=>e.key)=es.toList.map (fun e=>e.key):=by
    rw[List.map_set];refine List.ext_getElem (by simp) fun i D a2=>?_
    rw[List.getElem_set];split
    ·rename_i C
     subst C;have:es.toList[j]=e:=by
      have:=bX z;rw[m] at this;exact(aH this).symm
     simp only[List.getElem_map,this];exact hk.symm
    ·rfl
   rw[this];exact p
  ·exact grownBy_putObj' w b _
theorem len (h:dX G w b) (ty:TypeId):∃m:Nat,(Builtin.len_ #[169] ty #[.map (some b)]).run Tryz.prog w= .ok (.int .i64 m) w/\∃a:List (List Int),a.length=m/\a.Pairwise (· ≠ ·)/\∀l∈a,∃x,G l x:=by
 obtain⟨es,c,hb,j,n⟩:=h;refine⟨es.size,by simp[Builtin.len_,run_underlying Tryz.underlying169,MapKept.run_getObj_map hb,goInt,Result.andThen],?_⟩;have key:∀L:List MapEntry,(∀e∈L,∃l x,e.key=ei l/\e.val= .int .i64 x/\lY l/\G l x)->(L.map fun e=>e.key).Pairwise (· ≠ ·)->∃a:List (List Int),a.length=L.length/\a.map ei=L.map (fun e=>e.key)/\a.Pairwise (· ≠ ·)/\∀l∈a,∃x,G l x:=by
  intro L;induction L with
  |nil=>intro _ _;exact⟨[],rfl,rfl,List.Pairwise.nil,fun l o=>by cases o⟩
  |cons e L p=>
   intro h i;obtain⟨l,x,hk, -, -,q⟩:=h e (List.mem_cons_self ..);rw[List.map_cons,List.pairwise_cons] at i;obtain⟨a,i1,i2,i3,i4⟩:=p (fun e he=>h e (List.mem_cons_of_mem _ he)) i.2;refine⟨l::a,by simp[i1],by simp[i2,hk],List.pairwise_cons.2 ⟨fun k g r=>?_,i3⟩,fun k g=>?_⟩
   ·subst r
    refine i.1 (ei l) ?_ hk;rw[<-i2];exact List.mem_map.2 ⟨l,g,rfl⟩
   ·rcases List.mem_cons.1 g with rfl|g
    ·exact⟨x,q⟩
    ·exact i4 k g
 obtain⟨a,i1, -,i3,i4⟩:=key es.toList j n;exact⟨a,by simpa using i1,i3,i4⟩
end dX
end
end Go.Proofs.YtffdiakgjakngaaGreat.P
namespace Go.Proofs.YtffdiakgjakngaaGreat.P
open Go.RowKit Go.Proofs.YtffdiakgjakngaaGreatW.PrintWords Go.Proofs.YtffdiakgjakngaaGreatW.PrintLast Go.Proofs.YtffdiakgjakngaaGreatW.PrintMore
set_option linter.unusedVariables false
set_option linter.unusedSimpArgs false
set_option maxHeartbeats 8000000
set_option maxRecDepth 100000
section
attribute [local go_sem] Oper.semAt_some jr js jt ju
theorem oW (d:List Int):∀n,eN d n=T.sN (fun v=>rd d (v:Nat)) n
 |0=>rfl
 |n+1=>by
  show eN d n+_=T.sN _ n+_
  rw[oW d n]
def gw (W:World) (a:Nat) (n:Nat) (A0:Option Addr) (E:List S83) (c0:Nat) (g:Int) (b:Nat):Prop:=W.heap[a]? =some (.cells #[.int .i64 n,.slice A0 E.length c0,.int .i64 g,.map (some b)] 171 (0,0))
def eT (a:Nat) (W W':World):Prop:=Below a W W'/\∀k,k<W.heap.size->k≠a->W'.heap[k]? =W.heap[k]?
theorem eT.lZ {a:Nat} {W W':World} (h:Below W.heap.size W W') (hm:a<=W.heap.size):eT a W W':=⟨h.mono hm,fun k hk _=>h.block k hk⟩
theorem eT.trans {a:Nat} {A B C:World} (h:eT a A B) (b:eT a B C):eT a A C:=⟨h.1.trans b.1,fun k hk e=>(b.2 k (Nat.lt_of_lt_of_le hk h.1.size) e).trans (h.2 k hk e)⟩
theorem eT.wa {a:Nat} {W W':World} (h:eT a W W') {k:Nat} {cs:Array Value} {t:TypeId} (hk:W.heap[k]? =some (.cells cs t (0,0))) (b:k≠a):W'.heap[k]? =some (.cells cs t (0,0)):=(h.2 k (aE hk) b).trans hk
structure rp (n:Nat) (E:List S83) (g:Int):Prop where
 n1:1<=n
 n12:n<=12
 right:bM n E
 conn:jD n E
 len:E.length<=1000
 val:T.sN (T.val n (ai E)) n<=19
 gen:T.eZ n (ai E) g
 g0: -100<=g/\g<=100
 nf:∀d:List Int,dN n 0 E d->∃k s,jh.f k n E d=some (decide (rd (dM n E d s) 0>=0),dM n E d s,s,0)/\kg n E 0 d s=true
 b7:∀a:List (List Int),a.Pairwise (· ≠ ·)->(∀l∈a,∃x,jL n (ai E) g l x)->a.length<16384
def oX (n:Nat) (d:List Int):Prop:=d.length=n/\∀v:Nat,v<n-> -200<=rd d v/\rd d v<=200
def rr (n:Nat) (t:Nat->Nat->Int) (g:Int) (d:List Int) (a:Nat) (W:World) (e:Ending) (W':World):Prop:=∃r:Int,e= .returned (.tuple #[.int .i64 r,.int .i64 0])/\Rk n t d r/\dX (jL n t g) W' a/\eT a W W'
theorem we (n:Nat) (A0:Option Addr) (c0:Nat) (E:List S83) (g:Int) (q i:Nat) (w0:World) (g2:Kd.C aT w0 A0 E.length E) (em:E.length<=c0) (hG:rp n E g) (g3:w0.heap.size<=i)
  (d:List Int) (A:Option Addr) (c:Nat) (W:World) (hd:oX n d) (ih:0<=eN d n->∀(d':List Int) (A':Option Addr) (c':Nat) (W':World),oX n d'->eN d' n<eN d n->Below w0.heap.size w0 W'->gw W' q n A0 E c0 g i->dX (jL n (ai E) g) W' i->Kd.C (Kd.int .i64) W' A' d'.length d'->d'.length<=c'->Calls Tryz.prog 95 #[.pointer (some ⟨q,0,none⟩),.slice A' n c'] W' (rr n (ai E) g d' i W')) (hB:Below w0.heap.size w0 W) (hF:gw W q n A0 E c0 g i) (hM:dX (jL n (ai E) g) W i) (ak:q≠i) (hC:Kd.C (Kd.int .i64) W A d.length d) (hc:d.length<=c):
  Calls Tryz.prog 95 #[.pointer (some ⟨q,0,none⟩),.slice A n c] W (rr n (ai E) g d i W):=by
  have IH:=zA ih;have X:=zA hG;have HD:=zA hd;have HB:=zA hB;have HF:=zA hF;have HM:=zA hM;have HC:=zA hC;have c6:=zA hc;have ey:=hG.n1;have b5:=hG.n12;have e1:=hG.g0;have h6:=Tryz.underlying171;have hu:=Tryz.underlying24;have g5:=hM.lt;have h7:=aE hF;have e2:=zA (rj (n:=n) (d:=d) (fun v Q=>by have:=hd.2 v Q;omega) n (aI n));have e3:=zA (oW d n);clear ih hG hd hB hF hM hC hc;go_enter Tryz.func95,Tryz.ntmps95
  go_wp2_with fail
  refine(Eo A c n d W HC.out c6.out HD.out.1 ey b5 (fun v Q=>by have:=HD.out.2 v Q;omega)).mono ?_;rintro e w1 ⟨rfl,hb⟩;have b6:=zA hb;have b_:=zA (show gw w1 q n A0 E c0 g i from aM HF.out hb);have ap:=zA (HM.out.below hb);clear hb;have b':=zA (a8 HB.out b6.out);have ca:=zA (eT.lZ b6.out (Nat.le_of_lt g5));have y2:w1.cell? ⟨q,2,none⟩=some (.int .i64 g):=(al b_.out 2).trans rfl;have y0:w1.cell? ⟨q,0,none⟩=some (.int .i64 n):=(al b_.out 0).trans rfl;have y1:w1.cell? ⟨q,1,none⟩=some (.slice A0 E.length c0):=(al b_.out 1).trans rfl;have Z:0<n:=by omega
  have aa:=zA X.out.right.wt;have e4:=zA (X.out.right.conn X.out.conn);have hb:=e2.out;have bv:Aside0 (eN d n=T.sN (fun v=>rd d (v:Nat)) n):=e3;generalize g6:eN d n=S at hb IH bv⊢;have g7: -20000000<=S:=by omega
  have g8:S<=20000000:=by omega
  clear g6 hb e2 e3;by_cases e5:S<0
  ·have P:Aside0 (Rk n (ai E) d (-1)):=⟨uM aa.out Z (fun hw=>by have:=hw.bl aa.out;rw[<-bv.out] at this;omega)⟩
   have g9:decide (S<0)=true:=az e5;go_wp2;go_ret2;exact⟨-1,rfl,P.out,ap.out,ca.out⟩
  have g9:decide (S<0)=false:=aZ e5;by_cases cb:2*g-2<S
  ·have P:Aside0 (Rk n (ai E) d (S-g)):=⟨by rw[bv.out];exact Cc aa.out e4.out Z X.out.gen (by rw[<-bv.out];exact cb)⟩
   have g':decide (2*g-2<S)=true:=az cb;obtain⟨ha,he⟩:=e1;go_wp2;go_ret2;exact⟨S-g,rfl,P.out,ap.out,ca.out⟩
  have g':decide (2*g-2<S)=false:=aZ cb;obtain⟨ha,he⟩:=e1;obtain⟨kW,s,e_,hs⟩:=X.out.nf d ⟨ey,b5,Z,X.out.len,X.out.right,X.out.conn,X.out.val,HD.out.1,HD.out.2⟩;have cc:=(mT X.out.right).1 hs;have cd:=zA cc.2;have Y:=zA (qL n E d s);have bw:=zA e_;have fd:=zA (Kd.au g2 b'.out);have fn:=zA (Kd.au HC.out b6.out);have c7:=zA (eB.bound aa.out e4.out Z b5 X.out.val HD.out.2 cc.2);have bx:Aside0 (T.bU n (ai E) (fun v=>rd d (v:Nat)) (fun v=>rd (dM n E d s) (v:Nat))):=⟨⟨_,cc.2.eq⟩⟩;have hf:=zA HD.out.1;clear e_ hs cc;generalize dM n E d s=cl at cd Y bw c7 bx;have hg:=hf.out;subst hg;cases aO:decide (rd cl 0>=0) with
  |false=>
   have aP:¬0<=rd cl (0:Nat):=by simpa using aO
   have P:Aside0 (Rk d.length (ai E) d (-1)):=⟨uM aa.out Z (fun hw=>aP ((T.mD aa.out Z cd.out.red).1 (hw.fA bx.out)))⟩;rw[aO] at bw;clear aO aP;go_wp2_with (go_at_call 14;refine(jh.calls kW d.length A0 c0 E A c d false cl s 0 _ fd.out em fn.out c6.out bw.out).mono ?_;rintro e w2 ⟨v1,v2,rfl,aR,c8,ad⟩;have ce:=zA (ca.out.trans (eT.lZ ad (Nat.le_of_lt ap.out.lt)));have aS:=zA (ap.out.below ad);clear aR c8 ad)
   go_ret2;exact⟨-1,rfl,P.out,aS.out,ce.out⟩
  |true=>
   have aP:0<=rd cl (0:Nat):=by simpa using aO
   have hh:Aside0 (T.bZ d.length (ai E) (fun v=>rd cl (v:Nat))):=⟨(T.mD aa.out Z cd.out.red).2 aP⟩;have hl:=zA aP;rw[aO] at bw;clear aO aP;go_wp2_with (go_at_call 14;refine(jh.calls kW d.length A0 c0 E A c d true cl s 0 _ fd.out em fn.out c6.out bw.out).mono ?_;rintro e w2 ⟨v1,v2,rfl,aR,c8,ad⟩;obtain⟨l,cr,rfl,h',ib, -⟩:=Kd.eV aR (by rw[Y.out];omega);rw[Y.out] at aR⊢;have cf:=zA (Kd.a_ aR (ok':=fun _=>True) (fun _ _=>trivial));have ce:=zA (ca.out.trans (eT.lZ ad (Nat.le_of_lt ap.out.lt)));have aS:=zA (ap.out.below ad);have fo:=zA (a8 b'.out ad);have fq:=zA (show gw w2 q d.length A0 E c0 g i from aM b_.out ad);have ii:=ad.size;clear aR c8 ad)
   obtain⟨qs,fr,c9⟩:∃qs:List Int,qs=jf cl/\qs.length=12:=⟨_,rfl,Cf (by rw[Y.out];exact b5)⟩;have HQ:=zA fr;have ft:=Kd.aD cf.out;have hm:=zA ft.2.2;rw[run_copy_row _ (w2.alloc (.cells #[.int .i64 0,.int .i64 0,.int .i64 0,.int .i64 0,.int .i64 0,.int .i64 0,.int .i64 0,.int .i64 0,.int .i64 0,.int .i64 0,.int .i64 0,.int .i64 0] 172)) 25 26 3 3 w2.heap.size 0 12 12 ⟨l,0,none⟩ d.length cr _ 172 (cl.map (Value.int .i64)) Tryz.underlying25 (by kernel_rfl) (bm w2 _) (by rw[List.length_map,Y.out];show d.length=min d.length 12;omega) (fun j v hj=>by
    obtain⟨dk,ho⟩:=List.getElem?_eq_some_iff.1 hj;rw[List.length_map] at dk;have h:=(Kd.bP 0 (Kd.aK cf.out (.cells #[.int .i64 0,.int .i64 0,.int .i64 0,.int .i64 0,.int .i64 0,.int .i64 0,.int .i64 0,.int .i64 0,.int .i64 0,.int .i64 0,.int .i64 0,.int .i64 0] 172)) (j:Int) (by omega) (by rw[Y.out] at dk;omega)).1;rw[aQ] at h;rw[add_plain,h,<-ho];simp[bO,bh,bX dk]) (by rw[List.length_map,Y.out];simp;omega) (fun v Q=>by obtain⟨x, -,rfl⟩:=List.mem_map.1 Q;rfl)]
   have hp:∃z B D F G H I J K M N O:Int,qs=[z,B,D,F,G,H,I,J,K,M,N,O]:=by
    match qs,c9 with
    |[z,B,D,F,G,H,I,J,K,M,N,O],_=>exact⟨_,_,_,_,_,_,_,_,_,_,_,_,rfl⟩
   obtain⟨z,B,D,F,G,H,I,J,K,M,N,O,hk⟩:=hp;rw[show ((#[.int .i64 0,.int .i64 0,.int .i64 0,.int .i64 0,.int .i64 0,.int .i64 0,.int .i64 0,.int .i64 0,.int .i64 0,.int .i64 0,.int .i64 0,.int .i64 0]:Array Value).toList.take 0++cl.map (Value.int .i64)++(#[.int .i64 0,.int .i64 0,.int .i64 0,.int .i64 0,.int .i64 0,.int .i64 0,.int .i64 0,.int .i64 0,.int .i64 0,.int .i64 0,.int .i64 0,.int .i64 0]:Array Value).toList.drop (0+(cl.map (Value.int .i64)).length)).toArray=#[.int .i64 z,.int .i64 B,.int .i64 D,.int .i64 F,.int .i64 G,.int .i64 H,.int .i64 I,.int .i64 J,.int .i64 K,.int .i64 M,.int .i64 N,.int .i64 O] from by
    rw[show (#[.int .i64 0,.int .i64 0,.int .i64 0,.int .i64 0,.int .i64 0,.int .i64 0,.int .i64 0,.int .i64 0,.int .i64 0,.int .i64 0,.int .i64 0,.int .i64 0]:Array Value).toList=List.replicate 12 (Value.int .i64 0) from rfl,List.take_zero,List.nil_append,List.length_map,Nat.zero_add,List.drop_replicate];have h:qs.map (Value.int .i64)=cl.map (Value.int .i64)++List.replicate (12-cl.length) (Value.int .i64 0):=by rw[HQ.out,jf,List.map_append,List.map_replicate]
    rw[<-h,hk];rfl]
   have dl:=zA hk;have U:=zA (setRow_heap (w2.alloc (.cells #[.int .i64 0,.int .i64 0,.int .i64 0,.int .i64 0,.int .i64 0,.int .i64 0,.int .i64 0,.int .i64 0,.int .i64 0,.int .i64 0,.int .i64 0,.int .i64 0] 172)) w2.heap.size _ #[.int .i64 z,.int .i64 B,.int .i64 D,.int .i64 F,.int .i64 G,.int .i64 H,.int .i64 I,.int .i64 J,.int .i64 K,.int .i64 M,.int .i64 N,.int .i64 O] _ _ (bm w2 _));have ar:=zA (below_setRow (g:=w2.heap.size) (aq (ao w2.heap.size w2) (.cells #[.int .i64 0,.int .i64 0,.int .i64 0,.int .i64 0,.int .i64 0,.int .i64 0,.int .i64 0,.int .i64 0,.int .i64 0,.int .i64 0,.int .i64 0,.int .i64 0] 172)) (aI _) #[.int .i64 z,.int .i64 B,.int .i64 D,.int .i64 F,.int .i64 G,.int .i64 H,.int .i64 I,.int .i64 J,.int .i64 K,.int .i64 M,.int .i64 N,.int .i64 O]);clear hk fr ft;rw[Result.andThen_ok];generalize (w2.alloc (.cells #[.int .i64 0,.int .i64 0,.int .i64 0,.int .i64 0,.int .i64 0,.int .i64 0,.int .i64 0,.int .i64 0,.int .i64 0,.int .i64 0,.int .i64 0,.int .i64 0] 172)).setRow w2.heap.size #[.int .i64 z,.int .i64 B,.int .i64 D,.int .i64 F,.int .i64 G,.int .i64 H,.int .i64 I,.int .i64 J,.int .i64 K,.int .i64 M,.int .i64 N,.int .i64 O]=y at U ar⊢;rw[Oper.upon_value];have fv:=zA (a8 fo.out ar.out);have ds:=zA (show gw y q d.length A0 E c0 g i from aM fq.out ar.out);have a0:=zA (aS.out.below ar.out);have dv:=zA (ce.out.trans (eT.lZ ar.out (Nat.le_of_lt aS.out.lt)));have f0:=zA (Kd.cU cf.out ar.out);have f1:l≠i:=by have:=ap.out.lt;omega
   have f2:w2.heap.size≠i:=by have:=aS.out.lt;omega
   have d0:l≠w2.heap.size:=by omega
   clear fo fq aS ce cf ar hm;have f4:Aside0 (lY qs):=⟨⟨c9,fun x hx=>by
    rw[HQ.out,jf] at hx;rcases List.mem_append.1 hx with hx|hx
    ·obtain⟨v,Q,rfl⟩:=List.getElem_of_mem hx
     have h:=c7.out v (by rw[<-Y.out];exact Q);have e:rd cl (v:Int)=cl[v]:=by simp[rd,bh,bX Q]
     rw[e] at h;omega
    ·rw[List.eq_of_mem_replicate hx];omega⟩⟩
   have d1:=a0.out.look p5 f4.out;rw[dl.out] at d1;have x0:y.cell? ⟨w2.heap.size,0,none⟩=some (.int .i64 z):=(al U.out 0).trans rfl;have x1:y.cell? ⟨w2.heap.size,1,none⟩=some (.int .i64 B):=(al U.out 1).trans rfl;have x2:y.cell? ⟨w2.heap.size,2,none⟩=some (.int .i64 D):=(al U.out 2).trans rfl;have x3:y.cell? ⟨w2.heap.size,3,none⟩=some (.int .i64 F):=(al U.out 3).trans rfl;have x4:y.cell? ⟨w2.heap.size,4,none⟩=some (.int .i64 G):=(al U.out 4).trans rfl;have x5:y.cell? ⟨w2.heap.size,5,none⟩=some (.int .i64 H):=(al U.out 5).trans rfl;have x6:y.cell? ⟨w2.heap.size,6,none⟩=some (.int .i64 I):=(al U.out 6).trans rfl;have x7:y.cell? ⟨w2.heap.size,7,none⟩=some (.int .i64 J):=(al U.out 7).trans rfl;have x8:y.cell? ⟨w2.heap.size,8,none⟩=some (.int .i64 K):=(al U.out 8).trans rfl;have x9:y.cell? ⟨w2.heap.size,9,none⟩=some (.int .i64 M):=(al U.out 9).trans rfl;have be:y.cell? ⟨w2.heap.size,10,none⟩=some (.int .i64 N):=(al U.out 10).trans rfl;have bf:y.cell? ⟨w2.heap.size,11,none⟩=some (.int .i64 O):=(al U.out 11).trans rfl;have f3:y.cell? ⟨q,3,none⟩=some (.map (some i)):=(al ds.out 3).trans rfl;have b0:ei [z,B,D,F,G,H,I,J,K,M,N,O]= .agg #[.int .i64 z,.int .i64 B,.int .i64 D,.int .i64 F,.int .i64 G,.int .i64 H,.int .i64 I,.int .i64 J,.int .i64 K,.int .i64 M,.int .i64 N,.int .i64 O]:=rfl;rw[b0] at d1;clear b0 c9;rcases d1 with⟨x,hx,b1⟩|b1
   ·have d2:∀m,(Instr.lookup 169 (.map (some i)) (.agg #[.int .i64 z,.int .i64 B,.int .i64 D,.int .i64 F,.int .i64 G,.int .i64 H,.int .i64 I,.int .i64 J,.int .i64 K,.int .i64 M,.int .i64 N,.int .i64 O]) true).run Tryz.prog (y.drewN m)= .ok (.tuple #[.int .i64 x,.bool true]) (y.drewN m):=fun m=>b1 _ rfl
    have hq:Aside0 (Rk d.length (ai E) d x):=⟨by
     obtain⟨c',hr,f5,ht, -⟩:=hx;rw[<-dl.out,HQ.out] at f5;obtain rfl:=Cg Y.out hr f5;exact T.b8.fA bx.out.symm ht⟩
    clear b1 hx;go_wp2_with fail
    go_quiet (fail)
    clear d2 x0 x1 x2 x3 x4 x5 x6 x7 x8 x9 be bf f3;have bg:=zA (a0.out.below (bY (ao _ _) nq));have b2:=zA (dv.out.trans (eT.lZ (bY (ao _ _) nq) (Nat.le_of_lt a0.out.lt)));go_wp2;go_ret2;exact⟨x,rfl,hq.out,bg.out,b2.out⟩
   ·have d2:∀m,(Instr.lookup 169 (.map (some i)) (.agg #[.int .i64 z,.int .i64 B,.int .i64 D,.int .i64 F,.int .i64 G,.int .i64 H,.int .i64 I,.int .i64 J,.int .i64 K,.int .i64 M,.int .i64 N,.int .i64 O]) true).run Tryz.prog (y.drewN m)= .ok (.tuple #[.int .i64 0,.bool false]) (y.drewN m):=fun m=>b1 _ rfl
    clear b1;go_wp2_with fail
    go_quiet (fail)
    clear d2 x0 x1 x2 x3 x4 x5 x6 x7 x8 x9 be bf f3;have av:=bY (ao y.heap.size y) nq;have bg:=zA (a0.out.below av);have b2:=zA (dv.out.trans (eT.lZ av (Nat.le_of_lt a0.out.lt)));have ci:=zA (show gw (y.drewN nq) q d.length A0 E c0 g i from aM ds.out av);have d3:=zA (Kd.cU f0.out av);have d4:=zA (a8 fv.out av);have cj:=zA (aM U.out av);clear av a0 dv ds f0 fv U;generalize y.drewN nq=W4 at bg b2 ci d3 d4 cj⊢;obtain⟨ml,hlen,ks,hD,f6,f7⟩:=bg.out.len 3;have hE:=X.out.b7 ks f6 f7;have im:((ml:Int)==16384)=false:=by simp;omega
    have f3:W4.cell? ⟨q,3,none⟩=some (.map (some i)):=(al ci.out 3).trans rfl;clear hD f6 f7 hE;have f8:T.sN (fun v=>rd cl (v:Nat)) d.length=S:=by rw[bv.out];exact T.bU.bl aa.out bx.out
    have ck:Aside0 (∀v:Nat,v<d.length->0<=rd cl v):=⟨fun v Q=>by
     by_cases e:v=0
     ·subst e;exact hl.out
     ·exact(c7.out v Q).2.2.2.2 e |>.1⟩
    have f9:Aside0 (∀v:Nat,v<d.length->rd cl v<=198):=⟨fun v Q=>by
     have h:=T.fz (f:=fun v=>rd cl (v:Nat)) Q ck.out;have h2:rd cl (v:Nat)<=T.sN (fun v=>rd cl (v:Nat)) d.length:=h;omega⟩
    have d5:=zA f8;clear f8;go_wp2;clear hlen f3;generalize d6:w2.heap.size=o at f2 d0 cj⊢;have io:=Nat.le_of_eq d6;have ip:=Nat.le_of_eq d6.symm;clear d6;have it:(d.length:Int)<=12:=by omega
    go_loopg [81,14] (d.length) (fun kq vv lv wr=>∃(v:Nat) (L:Int),v<=d.length/\vv= .int .i64 v/\lv= .int .i64 L/\ -20000000<=L/\L<=20000000/\Aside0 (∀u,u<v->∀k,T.b8 d.length (ai E) (fun w=>rd cl (w:Nat)-T.one u w) k->L<=k+1)/\Aside0 (L=S\/∃u,u<v/\∃k,T.b8 d.length (ai E) (fun w=>rd cl (w:Nat)-T.one u w) k/\L=k+1)/\Aside0 ((Kd.int .i64).R 3 wr w1.heap.size (fun _=>True) (.slice (some ⟨l,0,none⟩) d.length cr) cl)/\Aside0 (dX (jL d.length (ai E) g) wr i)/\Aside0 (eT i W wr)/\Aside0 (Below w0.heap.size w0 wr)/\Aside0 (gw wr q d.length A0 E c0 g i)/\Aside0 (wr.heap[o]? =some (.cells #[.int .i64 z,.int .i64 B,.int .i64 D,.int .i64 F,.int .i64 G,.int .i64 H,.int .i64 I,.int .i64 J,.int .i64 K,.int .i64 M,.int .i64 N,.int .i64 O] 172 (0,0)))/\Aside0 (kq=d.length-v))
    case atStart=>exact⟨0,S,by omega,rfl,rfl,g7,g8,⟨fun u hu=>by omega⟩,⟨.inl rfl⟩,d3,bg,b2,d4,ci,cj,⟨rfl⟩⟩
    case round=>
     clear d3 bg b2 d4 ci cj;obtain⟨v,L,Q,rfl,rfl,hK,hL,d7,f',HR,HM,HK,gb,HF,V,hN⟩:=hrel;by_cases b3:v<d.length
     ·have iv:(0:Int)<=(v:Int):=by omega
      have i0:(v:Int)<(d.length:Int):=by omega
      have d8:=Y.out;obtain⟨z1,z2⟩:=Kd.bP 0 HR.out (v:Int) (by omega) (by omega);rw[aQ] at z1 z2;replace z1:wr.cell? ⟨l,v,none⟩=some (.int .i64 (rd cl v)):=z1;have hO:=ck.out v b3;have hP:=f9.out v b3;have P:=Kd.de HR.out (v:Int) (rd cl v-1);rw[aQ] at P;have bk:=zA P.1;have cv:=zA (show gw (wr.setCell ⟨l,v,none⟩ (.int .i64 (rd cl v-1))) q d.length A0 E c0 g i from aG HF.out (by show q≠l;have:=HF.out;intro e;subst e;have h2:=(Kd.fT HR.out q rfl);obtain⟨cs,b4⟩:=h2;rw[gw,b4] at this;injection this with h;injection h with _ h _;exact absurd h (by decide)) _);have d9:=zA (HM.out.g_ ⟨l,v,none⟩ (.int .i64 (rd cl v-1)) (fun e=>f1 e.symm));have ea:=zA (aG (p:=⟨l,v,none⟩) V.out (fun e=>d0 e.symm) (.int .i64 (rd cl v-1)));have cx:=zA (Below.setCell (p:=⟨l,v,none⟩) gb.out (by show w0.heap.size<=l;have:=b'.out.size;omega) (.int .i64 (rd cl v-1)));have i1:W.heap.size<=l:=by have:=b6.out.size;omega
      have eb:Aside0 (eT i W (wr.setCell ⟨l,v,none⟩ (.int .i64 (rd cl v-1)))):=⟨Below.setCell (p:=⟨l,v,none⟩) HK.out.1 (by show i<=l;omega) _,fun k hk ak=>(Below.heap_setCell _ _ _ _ (by show k≠l;omega)).trans (HK.out.2 k hk ak)⟩;have c1:∀u,u<d.length->rd (cl.set v (rd cl v-1)) (u:Nat)=rd cl u-T.one v u:=Cd d8 b3;have gc:eN (cl.set v (rd cl v-1)) d.length=S-1:=by
       rw[oW,T.bQ c1,T.dy,d5.out,T.fB b3]
      have gd:=zA (IH.out (by omega) (cl.set v (rd cl v-1)) (some ⟨l,0,none⟩) cr _ ⟨by rw[List.length_set];exact d8,fun u hu=>by
       rw[c1 u hu];have a:=ck.out u hu;have b:=f9.out u hu;unfold T.one;split<;>omega⟩ (by omega) cx.out cv.out d9.out (Kd.aD bk.out).2.2 (by have h:=(Kd.aD bk.out);rw[<-h.1];exact h.2.1))
      have ge:=zA c1;have gf:=zA (Ce (c:=cl) (v:=v) (by omega) (rd cl v-1));have hQ:=zA (show (cl.set v (rd cl v-1)).length=cl.length from by rw[List.length_set]);clear P c1 d8 HR HM HK gb HF V;generalize gg:rd cl v=xv at z1 hO hP gc bk cv d9 ea cx eb gd gf hQ ge;have i2:=zA gg;clear gg;go_wp2_with fail
      refine gd.out.mono ?_;rintro e w6 ⟨r,rfl,c3,gi,bn⟩;have i3: -1<=r:=c3.1;have ed:Aside0 (T.b8 d.length (ai E) (fun w=>rd cl (w:Nat)-T.one v w) r):=⟨qO (fun u hu=>(ge.out u hu).symm) c3⟩;have i4:r<=S:=by
       by_cases e0:0<=r
       ·have h:=T.b8.pY aa.out Z c3 e0
        rw[<-oW,gc] at h;omega
       ·omega
      clear c3;have eg:=zA (Kd.a_ (ok':=fun _=>True) (Kd.ff (Kd.gC rfl bk.out) (fun k hk=>bn.2 k (by obtain⟨cs,b4⟩:=Kd.fT bk.out k hk.symm;exact aE b4) (by have:=aH (show some l=some k from hk.symm);omega))) (fun _ _=>trivial));have gl:=zA (show gw w6 q d.length A0 E c0 g i from bn.wa cv.out ak);have hT:=zA (bn.wa ea.out f2);have hV:=zA (show Below w0.heap.size w0 w6 from cx.out.trans (bn.1.mono g3));have gm:=zA (eb.out.trans bn);have hW:=zA gi;clear gi bn bk cv ea cx eb d9;obtain⟨z3,z4⟩:=Kd.bP 0 eg.out (v:Int) (by omega) (by omega);rw[aQ] at z3 z4;have gn:bO 0 (cl.set v (xv-1)) (v:Int)=xv-1:=gZ _ _ _ (by rw[Y.out];exact b3);rw[gn] at z3;have P:=Kd.de eg.out (v:Int) xv;rw[aQ,gf.out] at P;have go:=zA P.1;clear P gn;have gp:=zA (show gw (w6.setCell ⟨l,v,none⟩ (.int .i64 xv)) q d.length A0 E c0 g i from aG gl.out (by show q≠l;have:=gl.out;intro e;subst e;have h2:=(Kd.fT eg.out q rfl);obtain⟨cs,b4⟩:=h2;rw[gw,b4] at this;injection this with h;injection h with _ h _;exact absurd h (by decide)) _);have gq:=zA (hW.out.g_ ⟨l,v,none⟩ (.int .i64 xv) (fun e=>f1 e.symm));have gs:=zA (aG (p:=⟨l,v,none⟩) hT.out (fun e=>d0 e.symm) (.int .i64 xv));have gt:=zA (Below.setCell (p:=⟨l,v,none⟩) hV.out (by show w0.heap.size<=l;have:=b'.out.size;omega) (.int .i64 xv));have gx:Aside0 (eT i W (w6.setCell ⟨l,v,none⟩ (.int .i64 xv))):=⟨Below.setCell (p:=⟨l,v,none⟩) gm.out.1 (by show i<=l;omega) _,fun k hk ak=>(Below.heap_setCell _ _ _ _ (by show k≠l;omega)).trans (gm.out.2 k hk ak)⟩;go_wp2
      all_goals
       go_roundg (d.length- (v+1))
       case measure=>rw[hN.out];omega
      case rel=>exact⟨v+1,r+1,by omega,by go_num,rfl,by omega,by omega,⟨fun u hu k hk=>by
       by_cases e:u=v
       ·subst e
        have:=T.b8.unique Z hk ed.out;omega
       ·have:=d7.out u (by omega) k hk
        omega⟩,⟨.inr ⟨v,by omega,r,ed.out,rfl⟩⟩,go,gq,gx,gt,gp,gs,⟨rfl⟩⟩
      exact⟨v+1,L,by omega,by go_num,rfl,hK,hL,⟨fun u hu k hk=>by
       by_cases e:u=v
       ·subst e
        have:=T.b8.unique Z hk ed.out;omega
       ·exact d7.out u (by omega) k hk⟩,⟨f'.out.imp id (fun⟨u,hu,h⟩=>⟨u,by omega,h⟩)⟩,go,gq,gx,gt,gp,gs,⟨rfl⟩⟩
     ·obtain rfl:v=d.length:=by omega
      have P:Aside0 (Rk d.length (ai E) cl L):=⟨Cb aa.out Z hh.out d7.out (by rw[d5.out];exact f'.out)⟩;have hX:Aside0 (Rk d.length (ai E) d L):=⟨T.b8.fA bx.out.symm P.out⟩;have hY:Aside0 (jL d.length (ai E) g qs L):=⟨cl,Y.out,HQ.out,P.out,ck.out,fun v Q h0=>T.od aa.out cd.out.red.2 Q h0,by rw[d5.out];simpa using cb⟩;obtain⟨w9,ek,g1,el⟩:=dX.store (HM.out.iE (w':=wr.drew) rfl) f4.out hY.out;have x0:wr.cell? ⟨o,0,none⟩=some (.int .i64 z):=(al V.out 0).trans rfl;have x1:wr.cell? ⟨o,1,none⟩=some (.int .i64 B):=(al V.out 1).trans rfl;have x2:wr.cell? ⟨o,2,none⟩=some (.int .i64 D):=(al V.out 2).trans rfl;have x3:wr.cell? ⟨o,3,none⟩=some (.int .i64 F):=(al V.out 3).trans rfl;have x4:wr.cell? ⟨o,4,none⟩=some (.int .i64 G):=(al V.out 4).trans rfl;have x5:wr.cell? ⟨o,5,none⟩=some (.int .i64 H):=(al V.out 5).trans rfl;have x6:wr.cell? ⟨o,6,none⟩=some (.int .i64 I):=(al V.out 6).trans rfl;have x7:wr.cell? ⟨o,7,none⟩=some (.int .i64 J):=(al V.out 7).trans rfl;have x8:wr.cell? ⟨o,8,none⟩=some (.int .i64 K):=(al V.out 8).trans rfl;have x9:wr.cell? ⟨o,9,none⟩=some (.int .i64 M):=(al V.out 9).trans rfl;have be:wr.cell? ⟨o,10,none⟩=some (.int .i64 N):=(al V.out 10).trans rfl;have bf:wr.cell? ⟨o,11,none⟩=some (.int .i64 O):=(al V.out 11).trans rfl;have f3:wr.cell? ⟨q,3,none⟩=some (.map (some i)):=(al HF.out 3).trans rfl;rw[dl.out] at ek;have b0:ei [z,B,D,F,G,H,I,J,K,M,N,O]= .agg #[.int .i64 z,.int .i64 B,.int .i64 D,.int .i64 F,.int .i64 G,.int .i64 H,.int .i64 I,.int .i64 J,.int .i64 K,.int .i64 M,.int .i64 N,.int .i64 O]:=rfl;rw[b0] at ek;have h3:=zA g1;have h4:=HM.out.lt;have h5:Aside0 (eT i W w9):=⟨⟨Below.grown (gS HK.out.1) el (Nat.le_of_lt h4) (fun k e=>by cases e;exact aI _),fun k hk ak=>(el.block k (Nat.lt_of_lt_of_le hk (HK.out.1.size)) (fun e=>ak (aH e))).trans (HK.out.2 k hk ak)⟩⟩;clear g1 el b0;go_wp2_with fail
      refine wp_region_still_tail 6 (by kernel_rfl) (by kernel_rfl) ?_;simp only[List.take_succ_cons,List.take_zero,List.drop_succ_cons,List.drop_zero];repeat still_step
      refine wpStill_nil ?_;change wpList _ _ _ _ _ wr.drew
      replace x0:wr.drew.cell? ⟨o,0,none⟩=some (.int .i64 z):=x0;replace x1:wr.drew.cell? ⟨o,1,none⟩=some (.int .i64 B):=x1;replace x2:wr.drew.cell? ⟨o,2,none⟩=some (.int .i64 D):=x2;replace x3:wr.drew.cell? ⟨o,3,none⟩=some (.int .i64 F):=x3;replace x4:wr.drew.cell? ⟨o,4,none⟩=some (.int .i64 G):=x4;replace x5:wr.drew.cell? ⟨o,5,none⟩=some (.int .i64 H):=x5;replace x6:wr.drew.cell? ⟨o,6,none⟩=some (.int .i64 I):=x6;replace x7:wr.drew.cell? ⟨o,7,none⟩=some (.int .i64 J):=x7;replace x8:wr.drew.cell? ⟨o,8,none⟩=some (.int .i64 K):=x8;replace x9:wr.drew.cell? ⟨o,9,none⟩=some (.int .i64 M):=x9;replace be:wr.drew.cell? ⟨o,10,none⟩=some (.int .i64 N):=be;replace bf:wr.drew.cell? ⟨o,11,none⟩=some (.int .i64 O):=bf;replace f3:wr.drew.cell? ⟨q,3,none⟩=some (.map (some i)):=f3;generalize wr.drew=wd at x0 x1 x2 x3 x4 x5 x6 x7 x8 x9 be bf f3 ek⊢;go_wp2;go_ret2;exact⟨L,rfl,hX.out,h3.out,h5.out⟩
theorem wg (n:Nat) (A0:Option Addr) (c0:Nat) (E:List S83) (g:Int) (b a:Nat) (w0:World) (e:Kd.C aT w0 A0 E.length E) (i:E.length<=c0) (j:rp n E g) (k:w0.heap.size<=a) (l:b≠a):
  ∀(m:Nat) (d:List Int) (A:Option Addr) (c:Nat) (W:World),oX n d->eN d n<m->Below w0.heap.size w0 W->gw W b n A0 E c0 g a->dX (jL n (ai E) g) W a->Kd.C (Kd.int .i64) W A d.length d->d.length<=c->
   Calls Tryz.prog 95 #[.pointer (some ⟨b,0,none⟩),.slice A n c] W (rr n (ai E) g d a W)
 |0,d,A,c,W,hd,r,o,hF,p,hC,q=>we n A0 c0 E g b a w0 e i j k d A c W hd (fun h=>by omega) o hF p l hC q
 |m+1,d,A,c,W,hd,r,o,hF,p,hC,q=>we n A0 c0 E g b a w0 e i j k d A c W hd (fun h d' A' s W' u B v w x y z=>wg n A0 c0 E g b a w0 e i j k l m d' A' s W' u (by omega) v w x y z) o hF p l hC q
end
end Go.Proofs.YtffdiakgjakngaaGreat.P
namespace Go.Proofs.YtffdiakgjakngaaGreat.P
open Go.RowKit Go.Maps Go.Proofs.YtffdiakgjakngaaGreatW.PrintWords Go.Proofs.YtffdiakgjakngaaGreatW.PrintLast Go.Proofs.YtffdiakgjakngaaGreatW.PrintMore
set_option linter.unusedVariables false
set_option linter.unusedSimpArgs false
set_option maxHeartbeats 8000000
set_option maxRecDepth 100000
section
attribute [local go_sem] Oper.semAt_some
theorem Eu (G:List Int->Int->Prop) (k n:Nat) (A0:Option Addr) (c0:Nat) (E:List S83) (n' g:Int) (a:List S83) (w:World) (m:Kd.C aT w A0 E.length E) (v:E.length<=c0) (o:fH.f k n E=some (n',a,0)) (p:fG.f k n' a=some (g,0)):
  Calls Tryz.prog 94 #[.agg #[.int .i64 n,.slice A0 E.length c0]] w fun e w'=>∃h b,e= .returned (.tuple #[.pointer (some ⟨h,0,none⟩),.int .i64 0])/\gw w' h n A0 E c0 g b/\dX G w' b/\h≠b/\w.heap.size<=b/\Below w.heap.size w w':=by
 have hu:=Tryz.underlying24;have J:=Tryz.underlying171;have x:=zA o;have y:=zA p;have z:=zA m;clear o p m;go_enter Tryz.func94,Tryz.ntmps94
 have q:=bm w (.cells #[.int .i64 n,.slice A0 E.length c0] 24);go_wp2_with (go_at_call 30;refine(fH.calls k n A0 c0 E n' a 0 _ (Kd.bE z.out _) v x.out).mono ?_;rintro e w1 ⟨v1,rfl,i,j⟩;obtain⟨B,c1,rfl⟩:=Kd.bb i;have r:=zA (Kd.aD i);have D:=zA (a8 (aq (ao w.heap.size w) _) j);have F:=zA (aM q j);clear i j)
 refine(fG.calls k n' B c1 a g 0 _ (Kd.bE r.out.2.2 _) r.out.2.1 y.out).mono ?_;rintro e w2 ⟨rfl,l⟩;have s:=zA (aM (ay F.out _) l);have u:=zA (a8 (aq D.out _) l);have K:w2.cell? ⟨w.heap.size,0,none⟩=some (.int .i64 n):=(al s.out 0).trans rfl;have L:w2.cell? ⟨w.heap.size,1,none⟩=some (.slice A0 E.length c0):=(al s.out 1).trans rfl;have aY:=u.out.size;clear l q;have M:=@run_makeMap Tryz.prog;go_wp2_with fail
 have H:=aq (ao w2.heap.size w2) (.map #[] 0);have I:=aq H (.cells #[.int .i64 n,.slice A0 E.length c0,.int .i64 g,.map (some w2.heap.size)] 171);go_ret2;refine⟨_,w2.heap.size,rfl,?_,(dX.made w2).alloc _,by omega,by omega,a8 u.out I⟩;have:=bm (w2.alloc (.map #[] 0)) (.cells #[.int .i64 n,.slice A0 E.length c0,.int .i64 g,.map (some w2.heap.size)] 171);rw[show (w2.alloc (.map #[] 0)).heap.size=w2.heap.size+1 from by simp] at this;exact this
noncomputable def wh (n:Nat) (t:Nat->Nat->Int) (d:List Int):Int:=@Classical.epsilon Int ⟨0⟩ fun r=>Rk n t d r
theorem wj {n:Nat} {t:Nat->Nat->Int} {d:List Int} (hn:0<n) {r:Int} (h:Rk n t d r):wh n t d=r:=
 T.b8.unique hn (@Classical.epsilon_spec_aux Int ⟨0⟩ (fun r=>Rk n t d r) ⟨r,h⟩) h
noncomputable def eC.f (k:Nat) (N:Int) (E:List S83) (d:List Int):Option (Int×Int):=
 (fe.f k N E [d]).bind fun e=>if e=0 then(if gM N E 0 d=true then((fH.f k N E).bind fun p=>if p.2.2=0 then((fG.f k p.1 p.2.1).bind fun g=>if g.2=0 then(if T.sN (T.can N.toNat (ai E)) N.toNat=2*g.1-2 then some (wh N.toNat (ai E) d,0) else none) else none) else none) else none) else some (0,e)
theorem Ew (k:Nat) (N:Int) (A0:Option Addr) (c0:Nat) (E:List S83) (a:Option Addr) (c2:Nat) (d:List Int) (t:Int) (w:World) (l:Kd.C aT w A0 E.length E) (m:E.length<=c0) (g:Kd.C (Kd.int .i64) w a d.length d) (h:d.length<=c2)
  (i:fe.f k N E [d]=some t) (j:t≠0):
  Calls Tryz.prog 41 #[.agg #[.int .i64 N,.slice A0 E.length c0],.slice a d.length c2] w fun e w'=>e= .returned (.tuple #[.int .i64 0,.int .i64 t])/\Below w.heap.size w w':=by
 have hu:=Tryz.underlying24;have n:=zA i;have o:=zA g;have p:=zA h;have r:(t != 0)=true:=by simpa using j
 clear i j g h;go_enter Tryz.func41,Tryz.ntmps41
 have b:=rh (w.alloc (.cells #[.int .i64 N,.slice A0 E.length c0] 24)) 26 (Kd.bE o.out _) p.out;rw[show (w.alloc (.cells #[.int .i64 N,.slice A0 E.length c0] 24)).heap.size=w.heap.size+1 from by simp] at b;go_wp2_with fail
 refine(fe.calls k N A0 c0 E (some ⟨w.heap.size+1,0,none⟩) 1 [d] t _ (Kd.bE (Kd.bE l _) _) m b (aI 1) n.out).mono ?_;rintro e w1 ⟨rfl,hb⟩;have q:=zA (a8 (aq (aq (ao w.heap.size w) (.cells #[.int .i64 N,.slice A0 E.length c0] 24)) (.cells #[.slice a d.length c2] 26)) hb);clear hb b;go_wp2;go_ret2;exact⟨rfl,q.out⟩
theorem Ex {n:Nat} {t:Nat->Nat->Int} (a:T.Wt n t) (hn:n<=12) (h:T.sN (T.val n t) n<=19) {g:Int} (b:T.eZ n t g): -100<=g/\g<=100:=by
 have h1:T.sN (T.can n t) n=T.sN (T.val n t) n-2*n:=by
  have key:∀m:Nat,T.sN (T.can n t) m=T.sN (T.val n t) m-2*m:=by
   intro m;induction m with
   |zero=>simp[T.sN]
   |succ m e=>
    show T.sN (T.can n t) m+T.can n t m=T.sN (T.val n t) m+T.val n t m-_
    rw[e];unfold T.can;omega
  exact key n
 have i:T.sN (T.can n t) n=2*g-2:=b;have j:0<=T.sN (T.val n t) n:=T.dg fun v _=>T.dg fun u _=>a.pos v u
 omega
theorem Ey {n:Nat} {E:List S83} {d:List Int} {g:Int} (h:dN n 0 E d) (i:cT n E=0) (a:T.eZ n (ai E) g):rp n E g where
 n1:=h.n1
 n12:=h.n12
 right:=h.right
 conn:=h.conn
 len:=h.len
 val:=h.val
 gen:=a
 g0:=Ex h.right.wt h.n12 h.val a
 nf:=fun d' e=>by
  obtain⟨s,h1,b,j⟩:=vY e i;obtain⟨k,hk⟩:=h1.get;exact⟨k,s,hk,(mT e.right).2 ⟨b,j⟩⟩
 b7:=fun l h1 b=>Cl h.right.wt h.n1 a h.val l h1 b
theorem Ez (k n:Nat) (A0:Option Addr) (c0:Nat) (E:List S83) (a:Option Addr) (c2:Nat) (d:List Int) (n' g:Int) (h:List S83) (w:World) (i:Kd.C aT w A0 E.length E) (j:E.length<=c0) (p:Kd.C (Kd.int .i64) w a d.length d) (q:d.length<=c2)
  (s:fe.f k n E [d]=some 0) (b:dN n 0 E d) (u:cT n E=0) (v:fH.f k n E=some (n',h,0)) (x:fG.f k n' h=some (g,0)) (K:T.eZ n (ai E) g):
  Calls Tryz.prog 41 #[.agg #[.int .i64 n,.slice A0 E.length c0],.slice a d.length c2] w fun e w'=>∃r,e= .returned (.tuple #[.int .i64 r,.int .i64 0])/\Rk n (ai E) d r/\Below w.heap.size w w':=by
 have hu:=Tryz.underlying24;have L:=zA s;have M:=zA v;have N:=zA x;have y:=zA p;have z:=zA q;have O:=zA (Ey b u K);have P:Aside0 (oX n d):=⟨b.dl,b.d⟩;have Q:=zA b.dl;clear s v x p q b u;have B:=bm w (.cells #[.int .i64 n,.slice A0 E.length c0] 24);have l:=rh (w.alloc (.cells #[.int .i64 n,.slice A0 E.length c0] 24)) 26 (Kd.bE y.out _) z.out;rw[show (w.alloc (.cells #[.int .i64 n,.slice A0 E.length c0] 24)).heap.size=w.heap.size+1 from by simp] at l;go_enter Tryz.func41,Tryz.ntmps41
 go_wp2_with fail
 refine(fe.calls k n A0 c0 E (some ⟨w.heap.size+1,0,none⟩) 1 [d] 0 _ (Kd.bE (Kd.bE i _) _) j l (aI 1) L.out).mono ?_;rintro e w1 ⟨rfl,hb⟩;have D:=zA (aM (ay B (.cells #[.slice a d.length c2] 26)) hb);have m:=zA (a8 (aq (aq (ao w.heap.size w) (.cells #[.int .i64 n,.slice A0 E.length c0] 24)) (.cells #[.slice a d.length c2] 26)) hb);have Z:w1.cell? ⟨w.heap.size,0,none⟩=some (.int .i64 n):=(al D.out 0).trans rfl;have y1:w1.cell? ⟨w.heap.size,1,none⟩=some (.slice A0 E.length c0):=(al D.out 1).trans rfl;clear hb l B;go_wp2_with fail
 refine(Eu (jL n (ai E) g) k n A0 c0 E n' g h w1 (Kd.au i m.out) j M.out N.out).mono ?_;rintro e w2 ⟨R,F,rfl,hF,G,S,ab,H⟩;have o:=zA (a8 m.out H);have U:=zA hF;have V:=zA G;have I:w.heap.size<=F:=by have:=m.out.size;omega
 clear hF G H;go_wp2_with fail
 have W:=Q.out;subst W;refine(wg d.length A0 c0 E g R F w i j O.out I S ((eN d d.length).toNat+1) d a c2 w2 P.out (by omega) o.out U.out V.out (Kd.au y.out o.out) z.out).mono ?_;rintro e w3 ⟨r,rfl,J, -,hk⟩;have X:=zA J;have Y:=zA (o.out.trans (hk.1.mono I));clear J hk;go_wp2;go_ret2;exact⟨r,rfl,X.out,Y.out⟩
theorem eC.calls (k:Nat) (j:Int) (l:Option Addr) (m:Nat) (b:List (S83)) (o:Option Addr) (c1:Nat) (l1:List Int) (s:Int) (u:Int) (w:World) (v:Kd.C aT w l b.length b) (x:b.length<=m) (y:Kd.C (Kd.int .i64) w o l1.length l1) (z:l1.length<=c1) (h:eC.f k j b l1=some (s,u)):
  Calls Tryz.prog 41 #[.agg #[.int .i64 j,.slice l b.length m],.slice o l1.length c1] w fun e w'=>e= .returned (.tuple #[.int .i64 s,.int .i64 u])/\Below w.heap.size w w':=by
 unfold eC.f at h;obtain⟨e,he,a⟩:=Option.bind_eq_some_iff.1 h;clear h;by_cases q:e=0
 ·subst q
  rw[if_pos rfl] at a;by_cases i:gM j b 0 l1=true
  ·rw[if_pos i] at a
   obtain⟨⟨n',E,F⟩,G,a⟩:=Option.bind_eq_some_iff.1 a;have H:cT j b=0:=by
    unfold gM at i;rw[Bool.and_eq_true,decide_eq_true_eq] at i;exact i.1.2.2.2.2.2.1
   obtain⟨n,I,rfl,L,hO⟩:=oM i;obtain rfl:I=0:=by omega
   simp only at a;by_cases B:F=0
   ·subst B
    rw[if_pos rfl] at a;obtain⟨⟨g,e2⟩,J,a⟩:=Option.bind_eq_some_iff.1 a;simp only at a;by_cases D:e2=0
    ·subst D
     rw[if_pos rfl] at a;by_cases p:T.sN (T.can (n:Int).toNat (ai b)) (n:Int).toNat=2*g-2
     ·rw[if_pos p] at a
      simp only[Option.some.injEq,Prod.mk.injEq,aQ] at a;obtain⟨rfl,rfl⟩:=a;rw[aQ] at p;refine(Ez k n l m b o c1 l1 n' g E w v x y z he hO H G J p).mono ?_;rintro e w' ⟨r,rfl,K,hb⟩;rw[wj hO.n1 K];exact⟨rfl,hb⟩
     ·rw[if_neg p] at a;cases a
    ·rw[if_neg D] at a;cases a
   ·rw[if_neg B] at a;cases a
  ·rw[if_neg i] at a;cases a
 ·rw[if_neg q] at a
  simp only[Option.some.injEq,Prod.mk.injEq] at a;obtain⟨rfl,rfl⟩:=a;exact Ew k j l m b o c1 l1 e w v x y z he q
end
end Go.Proofs.YtffdiakgjakngaaGreat.P


namespace Go.Proofs.YtffdiakgjakngaaGreat.P
open Go.RowKit Go.Proofs.YtffdiakgjakngaaGreatW.PrintWords Go.Proofs.YtffdiakgjakngaaGreatW.PrintLast Go.Proofs.YtffdiakgjakngaaGreatW.PrintMore
set_option linter.unusedVariables false
set_option linter.unusedSimpArgs false
set_option maxHeartbeats 8000000
set_option maxRecDepth 100000
def dq.f (k:Nat) (a:Int) (b:List (S83)):Option (List Int×Int):=(dB.f k a b).bind fun t231=>(if t231=0 then((iN.f k a b).bind fun t232=>(some (t232,0))) else(some (([]:List Int),t231)))
theorem dq.mono:∀a0 a k,aj (dq.f k a0 a) (dq.f (k+1) a0 a):=by
 intro a0 a k;unfold dq.f;with_reducible repeat' first|exact iN.mono _ _ _|exact dB.mono _ _ _|exact aj.refl _|exact aj.none _|refine aj.ite ?_ ?_|refine aj.bind ?_ (fun _=>?_)
theorem dq.calls (k:Nat) (g:Int) (j:Option Addr) (l:Nat) (b:List (S83)) (q:List Int) (r:Int) (w:World) (s:Kd.C aT w j b.length b) (u:b.length<=l) (h:dq.f k g b=some (q,r)):
  Calls Tryz.prog 35 #[.agg #[.int .i64 g,.slice j b.length l]] w fun e w'=>∃v:Value,e= .returned (.tuple #[v,.int .i64 r])/\Kd.R (Kd.int .i64) 3 w' w.heap.size (fun _=>True) v q/\Below w.heap.size w w':=by
 have J:=Tryz.underlying24;have o:=zA s;have p:=zA u;clear s u;have a:=zA (ao w.heap.size w);unfold dq.f at h;have H:=h;clear h;obtain⟨t231,x,H⟩:=zo H;by_cases c3:t231=0
 ·rw[if_pos c3] at H
  obtain⟨z,B⟩:=bF c3;clear c3;obtain⟨t232,D,H⟩:=zo H;simp only[Option.some.injEq,Prod.mk.injEq] at H;obtain⟨rfl,rfl⟩:=H;go_enter Tryz.func35,Tryz.ntmps35
  go_wp2_with (first|((with_reducible refine aJ (N:=1) rfl ?_);refine zX 1 #[.int .i64 g,.slice j b.length l] 24 ?_;intro E m K n hb;have i:=zA (n);have F:=zG a m;have G:=zG a m;replace a:=zS a hb;clear hb n m;obtain⟨L,M,O,P⟩:=ax i)|((with_reducible refine aC (f:=55) rfl ?_);refine zL (some 6) Tryz.func55 #[.agg #[.int .i64 g,.slice j b.length l]] ?_;(with_reducible refine(dB.calls k g _ _ b t231 _ ?af ?ah x.out).mono ?_);(case af=>exact Kd.au o.out zB);(case ah=>exact p.out);rintro e Q ⟨rfl,hb⟩;refine⟨_,rfl,?_⟩;replace i:=zb i hb;replace a:=zS a hb;(try clear hb);obtain⟨S,T,U,V⟩:=ax i)|((with_reducible refine aC (f:=89) rfl ?_);refine zL (some 11) Tryz.func89 #[.agg #[.int .i64 g,.slice j b.length l]] ?_;(with_reducible refine(iN.calls k g _ _ b t232 _ ?af ?ah D.out).mono ?_);(case af=>exact Kd.au o.out zB);(case ah=>exact p.out);rintro e W ⟨v233,rfl,y,hb⟩;refine⟨_,rfl,?_⟩;have I:=zA (Kd.ba y (bp zB));replace i:=zb i hb;replace a:=zS a hb;(try clear hb);(try clear y)))
  go_ret2;exact⟨_,zE,by(with_reducible repeat(first|apply Kd.aK|apply Kd.bq|apply Kd.bd));exact I.out,zB⟩
 ·rw[if_neg c3] at H
  obtain⟨z,B⟩:=bI c3;simp only[Option.some.injEq,Prod.mk.injEq] at H;obtain⟨rfl,rfl⟩:=H;go_enter Tryz.func35,Tryz.ntmps35
  go_wp2_with (first|((with_reducible refine aJ (N:=1) rfl ?_);refine zX 1 #[.int .i64 g,.slice j b.length l] 24 ?_;intro E m X n hb;have i:=zA (n);have F:=zG a m;have G:=zG a m;replace a:=zS a hb;clear hb n m;obtain⟨Y,Z,aa,ab⟩:=ax i)|((with_reducible refine aC (f:=55) rfl ?_);refine zL (some 6) Tryz.func55 #[.agg #[.int .i64 g,.slice j b.length l]] ?_;(with_reducible refine(dB.calls k g _ _ b t231 _ ?af ?ah x.out).mono ?_);(case af=>exact Kd.au o.out zB);(case ah=>exact p.out);rintro e ad ⟨rfl,hb⟩;refine⟨_,rfl,?_⟩;replace i:=zb i hb;replace a:=zS a hb;(try clear hb)))
  go_ret2;exact⟨_,zE,by first|exact Kd.cW _ _ _ _ _|exact Kd.fx _ _ _ _ _|exact Kd.V_nil _ _ _ _ _|exact Kd.Q_nil _ _ _ _ _|exact Kd.fh _ _ _ _ _,zB⟩
def cX.f (k:Nat) (b:Int) (g:List (S83)) (l1:List Int):Option (List Int×Int):=(dq.f k b g).bind fun a=>(if a.2=0 then((bt.f k l1 b).bind fun t240=>(if t240=0 then((iO.f k a.1 l1).bind fun e=>(some (e.1,e.2))) else(some (([]:List Int),t240)))) else(some (([]:List Int),a.2)))
theorem cX.mono:∀a0 a a2 k,aj (cX.f k a0 a a2) (cX.f (k+1) a0 a a2):=by
 intro a0 a a2 k;unfold cX.f;with_reducible repeat' first|exact bt.mono _ _ _|exact iO.mono _ _ _|exact dq.mono _ _ _|exact aj.refl _|exact aj.none _|refine aj.ite ?_ ?_|refine aj.bind ?_ (fun _=>?_)
theorem cX.calls (k:Nat) (b:Int) (m:Option Addr) (n:Nat) (i:List (S83)) (q:Option Addr) (c1:Nat) (l1:List Int) (z:List Int) (B:Int) (w:World) (D:Kd.C aT w m i.length i) (E:i.length<=n) (F:Kd.C (Kd.int .i64) w q l1.length l1) (G:l1.length<=c1) (h:cX.f k b i l1=some (z,B)):
  Calls Tryz.prog 32 #[.agg #[.int .i64 b,.slice m i.length n],.slice q l1.length c1] w fun e w'=>∃I:Value,e= .returned (.tuple #[I,.int .i64 B])/\Kd.R (Kd.int .i64) 3 w' w.heap.size (fun _=>True) I z/\Below w.heap.size w w':=by
 have aa:=Tryz.underlying24;have s:=zA D;have u:=zA E;clear D E;have v:=zA F;have x:=zA G;clear F G;have a:=zA (ao w.heap.size w);unfold cX.f at h;have H:=h;clear h;obtain⟨⟨t236,t239⟩,y,H⟩:=zo H;dsimp only at H;by_cases c4:t239=0
 ·rw[if_pos c4] at H
  obtain⟨P,Q⟩:=bF c4;clear c4;obtain⟨t240,J,H⟩:=zo H;by_cases r:t240=0
  ·rw[if_pos r] at H
   obtain⟨S,T⟩:=bF r;clear r;obtain⟨⟨t241,t242⟩,U,H⟩:=zo H;dsimp only at H;simp only[Option.some.injEq,Prod.mk.injEq] at H;obtain⟨rfl,rfl⟩:=H;go_enter Tryz.func32,Tryz.ntmps32
   go_wp2_with (first|((with_reducible refine aJ (N:=2) rfl ?_);refine zX 2 #[.int .i64 b,.slice m i.length n] 24 ?_;intro K l w8 o hb;have g:=zA (o);have L:=zG a l;have M:=zG a l;replace a:=zS a hb;clear hb o l;obtain⟨ad,ag,ak,am⟩:=ax g)|((with_reducible refine aC (f:=35) rfl ?_);refine zL (some 11) Tryz.func35 #[.agg #[.int .i64 b,.slice m i.length n]] ?_;(with_reducible refine(dq.calls k b _ _ i t236 t239 _ ?af ?ah y.out).mono ?_);(case af=>exact Kd.au s.out zB);(case ah=>exact u.out);rintro e an ⟨O,rfl,j,hb⟩;refine⟨_,rfl,?_⟩;have p:=zA (Kd.ba j (bp zB));replace g:=zb g hb;replace a:=zS a hb;(try clear hb);(try clear j);obtain⟨ap,ar,av,aB⟩:=ax g)|((with_reducible refine aC (f:=87) rfl ?_);refine zL (some 20) Tryz.func87 #[.slice q l1.length c1,.int .i64 b] ?_;(with_reducible refine(bt.calls k _ _ l1 b t240 _ ?af ?ah J.out).mono ?_);(case af=>exact Kd.au v.out zB);(case ah=>exact x.out);rintro e w' ⟨rfl,⟨V,rfl⟩⟩;refine⟨_,rfl,?_⟩;obtain⟨W,X,Y⟩:=Kd.bb p.out;subst Y)|((with_reducible refine aC (f:=16) rfl ?_);refine zL (some 26) Tryz.func16 #[.slice W t236.length X,.slice q l1.length c1] ?_;(with_reducible refine(iO.calls k _ _ t236 _ _ l1 t241 t242 _ ?af ?ah ?aX ?aW U.out).mono ?_);(case af=>exact zC (Kd.aD p.out).2.2);(case ah=>exact(Kd.aD p.out).2.1);(case aX=>exact Kd.au v.out zB);(case aW=>exact x.out);rintro e aF ⟨aL,rfl,j,hb⟩;refine⟨_,rfl,?_⟩;have Z:=zA (Kd.ba (Kd.bB j (Kd.a7 (zR p))) (bp zB));replace p:=bH p j hb;replace g:=zb g hb;replace a:=zS a hb;(try clear hb);(try clear j)))
   go_ret2;exact⟨_,zE,by(with_reducible repeat(first|apply Kd.aK|apply Kd.bq|apply Kd.bd));exact Kd.a_ Z.out (fun _ hk=>trivial),zB⟩
  ·rw[if_neg r] at H
   obtain⟨S,T⟩:=bI r;simp only[Option.some.injEq,Prod.mk.injEq] at H;obtain⟨rfl,rfl⟩:=H;go_enter Tryz.func32,Tryz.ntmps32
   go_wp2_with (first|((with_reducible refine aJ (N:=2) rfl ?_);refine zX 2 #[.int .i64 b,.slice m i.length n] 24 ?_;intro K l aO o hb;have g:=zA (o);have L:=zG a l;have M:=zG a l;replace a:=zS a hb;clear hb o l;obtain⟨aP,aR,aS,a0⟩:=ax g)|((with_reducible refine aC (f:=35) rfl ?_);refine zL (some 11) Tryz.func35 #[.agg #[.int .i64 b,.slice m i.length n]] ?_;(with_reducible refine(dq.calls k b _ _ i t236 t239 _ ?af ?ah y.out).mono ?_);(case af=>exact Kd.au s.out zB);(case ah=>exact u.out);rintro e a1 ⟨O,rfl,j,hb⟩;refine⟨_,rfl,?_⟩;have p:=zA (Kd.ba j (bp zB));replace g:=zb g hb;replace a:=zS a hb;(try clear hb);(try clear j);obtain⟨a2,a3,a4,a5⟩:=ax g)|((with_reducible refine aC (f:=87) rfl ?_);refine zL (some 20) Tryz.func87 #[.slice q l1.length c1,.int .i64 b] ?_;(with_reducible refine(bt.calls k _ _ l1 b t240 _ ?af ?ah J.out).mono ?_);(case af=>exact Kd.au v.out zB);(case ah=>exact x.out);rintro e w' ⟨rfl,⟨V,rfl⟩⟩;refine⟨_,rfl,?_⟩))
   go_ret2;exact⟨_,zE,by first|exact Kd.cW _ _ _ _ _|exact Kd.fx _ _ _ _ _|exact Kd.V_nil _ _ _ _ _|exact Kd.Q_nil _ _ _ _ _|exact Kd.fh _ _ _ _ _,zB⟩
 ·rw[if_neg c4] at H
  obtain⟨P,Q⟩:=bI c4;simp only[Option.some.injEq,Prod.mk.injEq] at H;obtain⟨rfl,rfl⟩:=H;go_enter Tryz.func32,Tryz.ntmps32
  go_wp2_with (first|((with_reducible refine aJ (N:=2) rfl ?_);refine zX 2 #[.int .i64 b,.slice m i.length n] 24 ?_;intro K l a9 o hb;have g:=zA (o);have L:=zG a l;have M:=zG a l;replace a:=zS a hb;clear hb o l;obtain⟨be,bf,bg,bi⟩:=ax g)|((with_reducible refine aC (f:=35) rfl ?_);refine zL (some 11) Tryz.func35 #[.agg #[.int .i64 b,.slice m i.length n]] ?_;(with_reducible refine(dq.calls k b _ _ i t236 t239 _ ?af ?ah y.out).mono ?_);(case af=>exact Kd.au s.out zB);(case ah=>exact u.out);rintro e bk ⟨O,rfl,j,hb⟩;refine⟨_,rfl,?_⟩;have p:=zA (Kd.ba j (bp zB));replace g:=zb g hb;replace a:=zS a hb;(try clear hb);(try clear j)))
  go_ret2;exact⟨_,zE,by first|exact Kd.cW _ _ _ _ _|exact Kd.fx _ _ _ _ _|exact Kd.V_nil _ _ _ _ _|exact Kd.Q_nil _ _ _ _ _|exact Kd.fh _ _ _ _ _,zB⟩
noncomputable def ij.f (k:Nat) (a:Int) (b:List (S83)) (l1:List Int):Option (Int×Int):=(cX.f k a b l1).bind fun e=>(if e.2=0 then((eC.f k a b l1).bind fun g=>(if g.2=0 then((eC.f k a b e.1).bind fun h=>(if h.2=0 then(some (wrap64 (g.1-h.1),0)) else(some (0,h.2)))) else(some (0,g.2)))) else(some (0,e.2)))
theorem ij.calls (k:Nat) (i:Int) (l:Option Addr) (m:Nat) (g:List (S83)) (q:Option Addr) (c1:Nat) (l1:List Int) (O:Int) (P:Int) (w:World) (Q:Kd.C aT w l g.length g) (R:g.length<=m) (S:Kd.C (Kd.int .i64) w q l1.length l1) (T:l1.length<=c1) (h:ij.f k i g l1=some (O,P)):
  Calls Tryz.prog 27 #[.agg #[.int .i64 i,.slice l g.length m],.slice q l1.length c1] w fun e w'=>e= .returned (.tuple #[.int .i64 O,.int .i64 P])/\Below w.heap.size w w':=by
 have ar:=Tryz.underlying24;have r:=zA Q;have s:=zA R;clear Q R;have v:=zA S;have x:=zA T;clear S T;have a:=zA (ao w.heap.size w);unfold ij.f at h;have H:=h;clear h;obtain⟨⟨u,y⟩,D,H⟩:=zo H;dsimp only at H;by_cases c4:y=0
 ·rw[if_pos c4] at H
  obtain⟨W,X⟩:=bF c4;clear c4;obtain⟨⟨F,E⟩,G,H⟩:=zo H;dsimp only at H;by_cases z:E=0
  ·rw[if_pos z] at H
   obtain⟨Y,Z⟩:=bF z;clear z;obtain⟨⟨U,I⟩,V,H⟩:=zo H;dsimp only at H;by_cases B:I=0
   ·rw[if_pos B] at H
    obtain⟨aa,ab⟩:=bF B;clear B;simp only[Option.some.injEq,Prod.mk.injEq] at H;obtain⟨rfl,rfl⟩:=H;go_enter Tryz.func27,Tryz.ntmps27
    go_wp2_with (first|((with_reducible refine aJ (N:=2) rfl ?_);refine zX 2 #[.int .i64 i,.slice l g.length m] 24 ?_;intro J n w9 o hb;have b:=zA (o);have K:=zG a n;have L:=zG a n;replace a:=zS a hb;clear hb o n;obtain⟨aB,aF,aL,aO⟩:=ax b)|((with_reducible refine aC (f:=32) rfl ?_);refine zL (some 13) Tryz.func32 #[.agg #[.int .i64 i,.slice l g.length m],.slice q l1.length c1] ?_;(with_reducible refine(cX.calls k i _ _ g _ _ l1 u y _ ?af ?ah ?aX ?aW D.out).mono ?_);(case af=>exact Kd.au r.out zB);(case ah=>exact s.out);(case aX=>exact Kd.au v.out zB);(case aW=>exact x.out);rintro e ie ⟨M,rfl,p,hb⟩;refine⟨_,rfl,?_⟩;have j:=zA (Kd.ba p (bp zB));replace b:=zb b hb;replace a:=zS a hb;(try clear hb);(try clear p);obtain⟨aP,aR,aS,a0⟩:=ax b)|((with_reducible refine aC (f:=41) rfl ?_);refine zL (some 22) Tryz.func41 #[.agg #[.int .i64 i,.slice l g.length m],.slice q l1.length c1] ?_;(with_reducible refine(eC.calls k i _ _ g _ _ l1 F E _ ?af ?ah ?aX ?aW G.out).mono ?_);(case af=>exact Kd.au r.out zB);(case ah=>exact s.out);(case aX=>exact Kd.au v.out zB);(case aW=>exact x.out);rintro e a1 ⟨rfl,hb⟩;refine⟨_,rfl,?_⟩;replace j:=br j hb;replace b:=zb b hb;replace a:=zS a hb;(try clear hb);obtain⟨a2,a3,a4,a5⟩:=ax b;obtain⟨ad,ag,ak⟩:=Kd.bb j.out;subst ak)|((with_reducible refine aC (f:=41) rfl ?_);refine zL (some 31) Tryz.func41 #[.agg #[.int .i64 i,.slice l g.length m],.slice ad u.length ag] ?_;(with_reducible refine(eC.calls k i _ _ g _ _ u U I _ ?af ?ah ?aX ?aW V.out).mono ?_);(case af=>exact Kd.au r.out zB);(case ah=>exact s.out);(case aX=>exact zC (Kd.aD j.out).2.2);(case aW=>exact(Kd.aD j.out).2.1);rintro e a9 ⟨rfl,hb⟩;refine⟨_,rfl,?_⟩;replace j:=br j hb;replace b:=zb b hb;replace a:=zS a hb;(try clear hb)))
    go_ret2;exact⟨zE,zB⟩
   ·rw[if_neg B] at H
    obtain⟨aa,ab⟩:=bI B;simp only[Option.some.injEq,Prod.mk.injEq] at H;obtain⟨rfl,rfl⟩:=H;go_enter Tryz.func27,Tryz.ntmps27
    go_wp2_with (first|((with_reducible refine aJ (N:=2) rfl ?_);refine zX 2 #[.int .i64 i,.slice l g.length m] 24 ?_;intro J n be o hb;have b:=zA (o);have K:=zG a n;have L:=zG a n;replace a:=zS a hb;clear hb o n;obtain⟨bf,bg,bi,bk⟩:=ax b)|((with_reducible refine aC (f:=32) rfl ?_);refine zL (some 13) Tryz.func32 #[.agg #[.int .i64 i,.slice l g.length m],.slice q l1.length c1] ?_;(with_reducible refine(cX.calls k i _ _ g _ _ l1 u y _ ?af ?ah ?aX ?aW D.out).mono ?_);(case af=>exact Kd.au r.out zB);(case ah=>exact s.out);(case aX=>exact Kd.au v.out zB);(case aW=>exact x.out);rintro e bn ⟨M,rfl,p,hb⟩;refine⟨_,rfl,?_⟩;have j:=zA (Kd.ba p (bp zB));replace b:=zb b hb;replace a:=zS a hb;(try clear hb);(try clear p);obtain⟨bo,bv,bw,bx⟩:=ax b)|((with_reducible refine aC (f:=41) rfl ?_);refine zL (some 22) Tryz.func41 #[.agg #[.int .i64 i,.slice l g.length m],.slice q l1.length c1] ?_;(with_reducible refine(eC.calls k i _ _ g _ _ l1 F E _ ?af ?ah ?aX ?aW G.out).mono ?_);(case af=>exact Kd.au r.out zB);(case ah=>exact s.out);(case aX=>exact Kd.au v.out zB);(case aW=>exact x.out);rintro e b0 ⟨rfl,hb⟩;refine⟨_,rfl,?_⟩;replace j:=br j hb;replace b:=zb b hb;replace a:=zS a hb;(try clear hb);obtain⟨b1,b2,b3,b4⟩:=ax b;obtain⟨am,an,ap⟩:=Kd.bb j.out;subst ap)|((with_reducible refine aC (f:=41) rfl ?_);refine zL (some 31) Tryz.func41 #[.agg #[.int .i64 i,.slice l g.length m],.slice am u.length an] ?_;(with_reducible refine(eC.calls k i _ _ g _ _ u U I _ ?af ?ah ?aX ?aW V.out).mono ?_);(case af=>exact Kd.au r.out zB);(case ah=>exact s.out);(case aX=>exact zC (Kd.aD j.out).2.2);(case aW=>exact(Kd.aD j.out).2.1);rintro e b5 ⟨rfl,hb⟩;refine⟨_,rfl,?_⟩;replace j:=br j hb;replace b:=zb b hb;replace a:=zS a hb;(try clear hb)))
    go_ret2;exact⟨zE,zB⟩
  ·rw[if_neg z] at H
   obtain⟨Y,Z⟩:=bI z;simp only[Option.some.injEq,Prod.mk.injEq] at H;obtain⟨rfl,rfl⟩:=H;go_enter Tryz.func27,Tryz.ntmps27
   go_wp2_with (first|((with_reducible refine aJ (N:=2) rfl ?_);refine zX 2 #[.int .i64 i,.slice l g.length m] 24 ?_;intro J n b6 o hb;have b:=zA (o);have K:=zG a n;have L:=zG a n;replace a:=zS a hb;clear hb o n;obtain⟨b_,b',ca,cb⟩:=ax b)|((with_reducible refine aC (f:=32) rfl ?_);refine zL (some 13) Tryz.func32 #[.agg #[.int .i64 i,.slice l g.length m],.slice q l1.length c1] ?_;(with_reducible refine(cX.calls k i _ _ g _ _ l1 u y _ ?af ?ah ?aX ?aW D.out).mono ?_);(case af=>exact Kd.au r.out zB);(case ah=>exact s.out);(case aX=>exact Kd.au v.out zB);(case aW=>exact x.out);rintro e cc ⟨M,rfl,p,hb⟩;refine⟨_,rfl,?_⟩;have j:=zA (Kd.ba p (bp zB));replace b:=zb b hb;replace a:=zS a hb;(try clear hb);(try clear p);obtain⟨cd,ce,cf,ch⟩:=ax b)|((with_reducible refine aC (f:=41) rfl ?_);refine zL (some 22) Tryz.func41 #[.agg #[.int .i64 i,.slice l g.length m],.slice q l1.length c1] ?_;(with_reducible refine(eC.calls k i _ _ g _ _ l1 F E _ ?af ?ah ?aX ?aW G.out).mono ?_);(case af=>exact Kd.au r.out zB);(case ah=>exact s.out);(case aX=>exact Kd.au v.out zB);(case aW=>exact x.out);rintro e ci ⟨rfl,hb⟩;refine⟨_,rfl,?_⟩;replace j:=br j hb;replace b:=zb b hb;replace a:=zS a hb;(try clear hb)))
   go_ret2;exact⟨zE,zB⟩
 ·rw[if_neg c4] at H
  obtain⟨W,X⟩:=bI c4;simp only[Option.some.injEq,Prod.mk.injEq] at H;obtain⟨rfl,rfl⟩:=H;go_enter Tryz.func27,Tryz.ntmps27
  go_wp2_with (first|((with_reducible refine aJ (N:=2) rfl ?_);refine zX 2 #[.int .i64 i,.slice l g.length m] 24 ?_;intro J n cj o hb;have b:=zA (o);have K:=zG a n;have L:=zG a n;replace a:=zS a hb;clear hb o n;obtain⟨ck,cl,co,cq⟩:=ax b)|((with_reducible refine aC (f:=32) rfl ?_);refine zL (some 13) Tryz.func32 #[.agg #[.int .i64 i,.slice l g.length m],.slice q l1.length c1] ?_;(with_reducible refine(cX.calls k i _ _ g _ _ l1 u y _ ?af ?ah ?aX ?aW D.out).mono ?_);(case af=>exact Kd.au r.out zB);(case ah=>exact s.out);(case aX=>exact Kd.au v.out zB);(case aW=>exact x.out);rintro e cr ⟨M,rfl,p,hb⟩;refine⟨_,rfl,?_⟩;have j:=zA (Kd.ba p (bp zB));replace b:=zb b hb;replace a:=zS a hb;(try clear hb);(try clear p)))
  go_ret2;exact⟨zE,zB⟩
def bu.l0:Nat->List Int->List Int->Int->Int->Option (Bool)
 |0,_,_,_,_=>none
 |k+1,b,x1,e,a=>if a<e then(if 0<=a then(if a<(b.length:Int) then(if a<(x1.length:Int) then(if(rd b a)=(rd x1 a) then(bu.l0 k b x1 e (wrap64 (a+1))) else(some false)) else(none)) else(none)) else(none)) else(some true)
def bu.f (k:Nat) (l0:List Int) (l1:List Int):Option (Bool):=if(l0.length:Int)=(l1.length:Int) then(bu.l0 k l0 l1 (l0.length:Int) 0) else(some false)
theorem bu.cm:∀k,(∀a b e g,aj (bu.l0 k a b e g) (bu.l0 (k+1) a b e g))
 |0=>fun _ _ _ _ r h=>by simp[bu.l0] at h
 |k+1=>by
  have i:=bu.cm k
  ·intro a b e g
   unfold bu.l0;with_reducible repeat' first|exact i _ _ _ _|exact aj.refl _|exact aj.none _|refine aj.ite ?_ ?_|refine aj.bind ?_ (fun _=>?_)
theorem bu.mono:∀a0 a k,aj (bu.f k a0 a) (bu.f (k+1) a0 a):=by
 intro a0 a k;have b:=bu.cm k;unfold bu.f;with_reducible repeat' first|exact b _ _ _ _|exact aj.refl _|exact aj.none _|refine aj.ite ?_ ?_|refine aj.bind ?_ (fun _=>?_)
theorem bu.calls (k:Nat) (A0:Option Addr) (c0:Nat) (l0:List Int) (v:Option Addr) (c1:Nat) (l1:List Int) (r:Bool) (w:World) (x:Kd.C (Kd.int .i64) w A0 l0.length l0) (y:l0.length<=c0) (z:Kd.C (Kd.int .i64) w v l1.length l1) (B:l1.length<=c1) (h:bu.f k l0 l1=some r):
  Calls Tryz.prog 33 #[.slice A0 l0.length c0,.slice v l1.length c1] w fun e w'=>e= .returned (.bool r)/\aA w w':=by
 have D:=zA x;have U:=zA y;clear x y;have E:=zA z;have V:=zA B;clear z B;unfold bu.f at h;have H:=h;clear h;by_cases c3:(l0.length:Int)=(l1.length:Int)
 ·rw[if_pos c3] at H
  obtain⟨F,G⟩:=bF c3;have I:(l0.length==l1.length)=true:=by first|simpa using c3|(simp at c3⊢;omega)
  clear c3;have m:=zA H;clear H;go_enter Tryz.func33,Tryz.ntmps33
  go_wp2;repeat(go_quiet (fail);try go_wp2)
  go_loopg [13] k (fun J L w'=>∃(a:Int),L= .int .i64 a/\Aside0 (bu.l0 J l0 l1 (l0.length:Int) a=some r)/\Aside0 (J<=k)/\aA w w')
  case atStart=>exact⟨(0),zT,m,⟨aI _⟩,by repeat(first|exact aA.refl _|apply aA.step)⟩
  case round=>
   clear m;clear F G I;obtain⟨a,rfl,q,K,⟨m1,rfl⟩⟩:=hrel;cases gk with
   |zero=>exact absurd q.out (by simp[bu.l0])
   |succ M=>
    have H:=q.out;clear q;simp only[bu.l0] at H;by_cases c4:a<(l0.length:Int)
    ·rw[if_pos c4] at H
     have N:=az c4;clear c4;by_cases n:0<=a
     ·rw[if_pos n] at H
      have W:=az n;clear n;by_cases o:a<(l0.length:Int)
      ·rw[if_pos o] at H
       have X:=az o;clear o;by_cases p:a<(l1.length:Int)
       ·rw[if_pos p] at H
        have Y:=az p;clear p;by_cases l:(rd l0 a)=(rd l1 a)
        ·rw[if_pos l] at H
         obtain⟨O,P⟩:=bF l;clear l;have m:=zA H;clear H;have b:0<=(a:Int):=aw ‹_›;have g:a<(l0.length:Int):=aw ‹_›;obtain⟨Q,s,R⟩:=Kd.bL D.out a b g;cases s;replace b:=eq_true b;replace g:=eq_true g;have i:0<=(a:Int):=aw ‹_›;have j:a<(l1.length:Int):=aw ‹_›;obtain⟨S,u,T⟩:=Kd.bL E.out a i j;cases u;replace i:=eq_true i;replace j:=eq_true j;go_wp2;repeat(go_quiet (fail);try go_wp2)
         go_roundg M
         case measure=>have:=K.out;omega
         case rel=>exact⟨(wrap64 (a+1)),zT,m,⟨by have:=K.out;omega⟩,by repeat(first|exact aA.refl _|apply aA.step)⟩
        ·rw[if_neg l] at H
         obtain⟨O,P⟩:=bI l;obtain rfl:=aH H;have b:0<=(a:Int):=aw ‹_›;have g:a<(l0.length:Int):=aw ‹_›;obtain⟨Q,s,R⟩:=Kd.bL D.out a b g;cases s;replace b:=eq_true b;replace g:=eq_true g;have i:0<=(a:Int):=aw ‹_›;have j:a<(l1.length:Int):=aw ‹_›;obtain⟨S,u,T⟩:=Kd.bL E.out a i j;cases u;replace i:=eq_true i;replace j:=eq_true j;go_wp2;repeat(go_quiet (fail);try go_wp2)
         go_ret;exact⟨zT,by repeat(first|exact aA.refl _|apply aA.step)⟩
       ·rw[if_neg p] at H
        exact absurd H (by simp)
      ·rw[if_neg o] at H
       exact absurd H (by simp)
     ·rw[if_neg n] at H
      exact absurd H (by simp)
    ·rw[if_neg c4] at H
     have N:=aZ c4;clear c4;obtain rfl:=aH H;go_wp2;repeat(go_quiet (fail);try go_wp2)
     go_ret;exact⟨zT,by repeat(first|exact aA.refl _|apply aA.step)⟩
 ·rw[if_neg c3] at H
  obtain⟨F,G⟩:=bI c3;have I:(l0.length==l1.length)=false:=by first|simpa using c3|(simp at c3⊢;omega)
  obtain rfl:=aH H;go_enter Tryz.func33,Tryz.ntmps33
  go_wp2;repeat(go_quiet (fail);try go_wp2)
  go_ret;exact⟨zT,by repeat(first|exact aA.refl _|apply aA.step)⟩
theorem wk {n:Nat} {E:List S83} {d:List Int} (h:dN n 0 E d) (a:cT n E=0) {n' g:Int} {b:List S83} (i:Ev (fun k=>fH.f k n E) (n',b,(0:Int))) (j:Ev (fun k=>fG.f k n' b) (g,(0:Int))) (l:T.eZ n (ai E) g) {r:Int} (m:Rk n (ai E) d r):
  Ev (fun k=>eC.f k n E d) (r,(0:Int)):=by
 unfold eC.f;refine Ev.bind (Em h a) ?_;have e:=h.ok a;simp only[if_true,aQ];simp only[Int.ofNat_zero] at e;simp only[if_pos e];refine Ev.bind i ?_;simp only[if_true];refine Ev.bind j ?_;have o:T.sN (T.can n (ai E)) n=2*g-2:=l;simp only[if_true,if_pos o,wj h.n1 m];exact Ev.const _
mutual
def cp.j0:Nat->Int->Bool->Int->List (S83)->Option ((List (List Int))×Int)
 |0,_,_,_,_=>none
 |k+1,x1,b,e,g=>if b=true then(some (([]:List (List Int)),2)) else((gR.f k e g x1).bind fun a=>(if a.2=0 then(cp.l0 k x1 ([]:List (List Int)) a.1 (a.1.length:Int) 0) else(some (([]:List (List Int)),a.2))))
def cp.l0:Nat->Int->List (List Int)->List (List Int)->Int->Int->Option ((List (List Int))×Int)
 |0,_,_,_,_,_=>none
 |k+1,x1,b,e,g,a=>if a<g then(if 0<=a then(if a<(e.length:Int) then((fL.f (a6 e a)).bind fun h=>(if 0<=x1 then(if x1<(h.length:Int) then(if b.length<5864062014805 then(cp.l0 k x1 (b++[(h.set (x1:Int).toNat (-1))]) e g (wrap64 (a+1))) else(none)) else(none)) else(none))) else(none)) else(none)) else(some (b,0))
end
def cp.f (k:Nat) (a:Int) (e:List (S83)) (b:Int):Option ((List (List Int))×Int):=(dB.f k a e).bind fun g=>(if g=0 then(if b<0 then(cp.j0 k b true a e) else(cp.j0 k b (decide (b>=a)) a e)) else(some (([]:List (List Int)),g)))
theorem cp.cm:∀k,(∀a b e g,aj (cp.j0 k a b e g) (cp.j0 (k+1) a b e g))/\(∀a b e g i,aj (cp.l0 k a b e g i) (cp.l0 (k+1) a b e g i))
 |0=>⟨fun _ _ _ _ r h=>by simp[cp.j0] at h,fun _ _ _ _ _ r h=>by simp[cp.l0] at h⟩
 |k+1=>by
  obtain⟨j,l⟩:=cp.cm k;refine⟨?_,?_⟩
  ·intro a b e g
   unfold cp.j0;with_reducible repeat' first|exact j _ _ _ _|exact l _ _ _ _ _|exact dB.mono _ _ _|exact gR.mono _ _ _ _|exact aj.refl _|exact aj.none _|refine aj.ite ?_ ?_|refine aj.bind ?_ (fun _=>?_)
  ·intro a b e g i
   unfold cp.l0;with_reducible repeat' first|exact j _ _ _ _|exact l _ _ _ _ _|exact dB.mono _ _ _|exact gR.mono _ _ _ _|exact aj.refl _|exact aj.none _|refine aj.ite ?_ ?_|refine aj.bind ?_ (fun _=>?_)
theorem cp.mono:∀a0 a a2 k,aj (cp.f k a0 a a2) (cp.f (k+1) a0 a a2):=by
 intro a0 a a2 k;obtain⟨b,e⟩:=cp.cm k;unfold cp.f;with_reducible repeat' first|exact b _ _ _ _|exact e _ _ _ _ _|exact dB.mono _ _ _|exact gR.mono _ _ _ _|exact aj.refl _|exact aj.none _|refine aj.ite ?_ ?_|refine aj.bind ?_ (fun _=>?_)
theorem cp.calls (k:Nat) (n:Int) (z:Option Addr) (B:Nat) (m:List (S83)) (l:Int) (O:List (List Int)) (P:Int) (w:World) (b4:Kd.C aT w z m.length m) (b5:m.length<=B) (h:cp.f k n m l=some (O,P)):
  Calls Tryz.prog 15 #[.agg #[.int .i64 n,.slice z m.length B],.int .i64 l] w fun e w'=>∃b6:Value,e= .returned (.tuple #[b6,.int .i64 P])/\Kd.N (Kd.slice 3 (Kd.int .i64)) 26 w' w.heap.size (fun a=>(w.heap.size<=a)) b6 O/\Below w.heap.size w w':=by
 have ew:=Tryz.underlying24;have aa:=zA b4;have ab:=zA b5;clear b4 b5;have j:=zA (ao w.heap.size w);unfold cp.f at h;have H:=h;clear h;obtain⟨a5,A3,H⟩:=zo H;by_cases c4:a5=0
 ·rw[if_pos c4] at H
  obtain⟨b',ca⟩:=bF c4;clear c4;have a9:=zA H;clear H;go_enter Tryz.func15,Tryz.ntmps15
  go_upto_region 4 with (first|((with_reducible refine aJ (N:=2) rfl ?_);refine zX 2 #[.int .i64 n,.slice z m.length B] 24 ?_;intro o hg w6 U hb;have g:=zA (U);have c2:=zG j hg;have c3:=zG j hg;replace j:=zS j hb;clear hb U hg;obtain⟨c5,c6,c7,c8⟩:=ax g)|((with_reducible refine aC (f:=55) rfl ?_);refine zL (some 14) Tryz.func55 #[.agg #[.int .i64 n,.slice z m.length B]] ?_;(with_reducible refine(dB.calls k n _ _ m a5 _ ?af ?ah A3.out).mono ?_);(case af=>exact Kd.au aa.out zB);(case ah=>exact ab.out);rintro e w8 ⟨rfl,hb⟩;refine⟨_,rfl,?_⟩;replace g:=zb g hb;replace j:=zS j hb;(try clear hb)))
  (try simp only[Act.put,List.setIfInBounds_toArray,List.set_cons_zero,List.set_cons_succ])
  go_cut [25] (fun v25 wc=>∃(J:Nat) (ad:Bool),v25= .bool ad/\Aside0 (cp.j0 J l ad n m=some (O,P))/\Aside0 (J<=k)/\Aside0 (wc.heap[o]? =some (.cells #[.int .i64 n,(.slice z m.length B)] 24 (0,0)))/\Aside0 (Below w.heap.size w wc))
  case first=>
   have H:=a9.out;clear a9;by_cases Q:l<0
   ·rw[if_pos Q] at H
    have W:=az Q;clear Q
    (first|rw[W]|(simp only[bT,bW];rw[W])|skip)
    have G:=zA H;clear H;go_wp2;go_meet
    case rel=>exact⟨_,(true),zT,G,⟨by first|omega|exact aI _⟩,⟨zK g⟩,⟨zB⟩⟩
   ·rw[if_neg Q] at H
    have W:=aZ Q;clear Q
    (first|rw[W]|(simp only[bT,bW];rw[W])|skip)
    have G:=zA H;clear H;obtain⟨e0,e1,e2,e3⟩:=ax g;go_wp2;go_meet
    case rel=>exact⟨_,(decide (l>=n)),zT,G,⟨by first|omega|exact aI _⟩,⟨zK g⟩,⟨zB⟩⟩
  case rest=>
   clear a9;clear b' ca c5 c6 c7 c8;obtain⟨J,ad,rfl,K,cb,g,j⟩:=hcut;cases J with
   |zero=>exact absurd K.out (by simp[cp.j0])
   |succ ag=>
    have H:=K.out;clear K;simp only[cp.j0] at H;by_cases ak:ad=true
    ·subst ak
     replace H:=zi H;simp only[Option.some.injEq,Prod.mk.injEq] at H;obtain⟨rfl,rfl⟩:=H;go_wp2;go_ret2;exact⟨_,zE,by first|exact Kd.fh _ _ _ _ _|exact Kd.fx _ _ _ _ _|exact Kd.V_nil _ _ _ _ _|exact Kd.Q_nil _ _ _ _ _|exact Kd.cW _ _ _ _ _,zB⟩
    ·replace ak:=Bool.eq_false_iff.mpr ak
     subst ak;replace H:=zj H;obtain⟨⟨i,be⟩,cc,H⟩:=zo H;dsimp only at H;by_cases X:be=0
     ·rw[if_pos X] at H
      obtain⟨cd,ce⟩:=bF X;clear X;have G:=zA H;clear H;obtain⟨c',dd,dk,dl⟩:=ax g;go_wp2_with (first|((with_reducible refine aC (f:=56) rfl ?_);refine zL (some 29) Tryz.func56 #[.agg #[.int .i64 n,.slice z m.length B],.int .i64 l] ?_;(with_reducible refine(gR.calls ag n _ _ m l i be _ ?af ?ah cc.out).mono ?_);(case af=>exact Kd.au aa.out zB);(case ah=>exact ab.out);rintro e e4 ⟨ds,rfl,y,hb⟩;refine⟨_,rfl,?_⟩;have bf:=zA (Kd.mh (Kd.eI (ok':=fun a=>(w.heap.size<=a)/\a≠o) y (fun a Y=>⟨(Nat.le_trans (bp zB) Y),(Kd.lu (zK g) a Y)⟩)) (bp zB));replace g:=zb g hb;replace j:=zS j hb;(try clear hb);(try clear y);obtain⟨cf,F,dv⟩:=Kd.mj bf.out;subst dv))
      go_loopg [9,37] ag (fun J v9 v37 w'=>∃(I:List (List Int)) (q:Int),v37= .int .i64 q/\Aside0 (cp.l0 J l I i (i.length:Int) q=some (O,P))/\Aside0 (J<=ag)/\Aside0 (Kd.N (Kd.slice 3 (Kd.int .i64)) 26 w' w.heap.size (fun a=>(w.heap.size<=a)/\some a≠((.slice cf i.length F):Value).ownBlock/\a≠o) v9 I)/\Aside0 (Kd.N (Kd.slice 3 (Kd.int .i64)) 26 w' w.heap.size (fun a=>(w.heap.size<=a)/\some a≠(v9:Value).ownBlock/\a≠o) (.slice cf i.length F) i)/\Aside0 (w'.heap[o]? =some (.cells #[.int .i64 n,(.slice z m.length B)] 24 (0,0)))/\Aside0 (Below w.heap.size w w'))
      case atStart=>exact⟨(([]:List (List Int))),(0),zT,G,⟨aI _⟩,⟨by first|exact Kd.fh _ _ _ _ _|exact Kd.fx _ _ _ _ _|exact Kd.V_nil _ _ _ _ _|exact Kd.Q_nil _ _ _ _ _|exact Kd.cW _ _ _ _ _⟩,⟨by(with_reducible repeat(first|apply Kd.eP|apply Kd.fV|apply Kd.fU));exact Kd.eI bf.out (fun _ hk=>⟨hk.1,⟨(by simp[Value.ownBlock]),hk.2⟩⟩)⟩,⟨zK g⟩,⟨zB⟩⟩
      case round=>
       clear G;clear cd ce c' dd dk dl;obtain⟨I,q,rfl,K,ch,D,s,g,j⟩:=hrel;cases gk with
       |zero=>exact absurd K.out (by simp[cp.l0])
       |succ k2=>
        have H:=K.out;clear K;simp only[cp.l0] at H;by_cases S:q<(i.length:Int)
        ·rw[if_pos S] at H
         have d0:=az S;clear S;by_cases am:0<=q
         ·rw[if_pos am] at H
          have e5:=az am;clear am;by_cases an:q<(i.length:Int)
          ·rw[if_pos an] at H
           have e6:=az an;clear an;obtain⟨r,d1,H⟩:=zo H;by_cases ap:0<=l
           ·rw[if_pos ap] at H
            have e':=az ap;clear ap;by_cases ar:l<(r.length:Int)
            ·rw[if_pos ar] at H
             have fb:=az ar;clear ar;obtain⟨av,bi⟩:∃y_:List Int,y_=(r.set (l:Int).toNat (-1)):=⟨_,rfl⟩;replace H:(if I.length<5864062014805 then(cp.l0 k2 l (I++[av]) i (i.length:Int) (wrap64 (q+1))) else(none))=some (O,P):=zh bi H;have d2:=zA bi;clear bi;by_cases aR:I.length<5864062014805
             ·rw[if_pos aR] at H
              have d3:=zA aR;clear aR;obtain⟨ci,bn⟩:∃y_:List (List Int),y_=(I++[av]):=⟨_,rfl⟩;replace H:(cp.l0 k2 l ci i (i.length:Int) (wrap64 (q+1)))=some (O,P):=zh bn H;have d4:=zA bn;clear bn;have G:=zA H;clear H;have a0:0<=(q:Int):=aw ‹_›;have a2:q<(i.length:Int):=aw ‹_›;obtain⟨L,d5,d6,d7,d8,cj,ck⟩:=fX (Kd.iV s.out).2.2 q a0 a2;cases d7;obtain⟨fd,d9,ea,cl⟩:=Kd.nI s.out [] q a0 (by first|exact a2|exact aw ‹_› |(have e_:=(Kd.iV s.out).1;omega));obtain⟨fo,fq,rfl,bo,bv⟩:=Kd.kC ea;have a3:=cl 0 _ rfl;rw[Nat.add_zero,show ((Kd.slice 3 (Kd.int .i64))).sz=1 from rfl,Nat.mul_one] at a3;replace a3:=aH (a3.symm.trans d8);injection a3 with co eb cq
              rw[co] at bv;rw[cq] at bo;have T:=zA (show Kd.V (Kd.int .i64) 3 _ w.heap.size _ _ (a6 i q) from Kd.pH bo bv);clear co eb cq bv bo;clear cl d9;have Z:=zA ck;have ed:=zA cj;clear ck cj;replace a0:=eq_true a0;replace a2:=eq_true a2;go_wp2_with (first|((with_reducible refine aC (f:=57) rfl ?_);refine zL (some 42) Tryz.func57 #[.slice d5 (a6 i q).length d6] ?_;(with_reducible refine(fL.calls _ _ (a6 i q) r _ ?af ?ah d1.out).mono ?_);(case af=>repeat(first|exact(by repeat(first|(with_reducible exact Z.out)|(with_reducible refine Kd.bE ?_ _)|(with_reducible refine Kd.fJ ?_ _)|(with_reducible refine Kd.fg ?_)|exact Z.out))|(with_reducible refine Kd.bE ?_ _)|(with_reducible refine Kd.fJ ?_ _)|(with_reducible refine Kd.fg ?_)));(case ah=>exact ed.out);rintro e cr ⟨fr,rfl,y,hb⟩;refine⟨_,rfl,?_⟩;replace D:=gE D y hb;replace s:=gE s y hb;replace T:=zA (Kd.nL (by(with_reducible repeat(first|apply Kd.V_alloc|apply Kd.lE|apply Kd.V_drew));exact T.out) (Kd.dD y) hb);have u:=zA (Kd.ba (Kd.ze (M:=fun a=>(w.heap.size<=a)) y (bp zB) (fun a h_=>h_)) (bp zB));replace g:=zb g hb;replace Z:=zA (Kd.au (by repeat(first|(with_reducible exact Z.out)|(with_reducible refine Kd.bE ?_ _)|(with_reducible refine Kd.fJ ?_ _)|(with_reducible refine Kd.fg ?_)|exact Z.out)) hb);replace j:=zS j hb;(try clear hb);(try clear y);have bw:0<=(l:Int):=aw ‹_›;have bx:(l:Int)<((r.length:Int):Int):=aw ‹_›;obtain⟨x,E,cs,cv,ek,ft,cx⟩:=Kd.eV u.out (by omega);(first|cases cs|(injection cs with a4 el em;(first|subst a4|(injection a4 with a4;subst a4));subst em;clear el));have er:=zA cv;have fv:=zA cx;clear cv ek cx;obtain⟨f0,f1⟩:=Kd.bP 0 u.out (l:Int) bw bx;replace bw:=eq_true bw;replace bx:=eq_true bx;have n_:=zA (Kd.a_ (ok':=(fun a=>(w.heap.size<=a))) u.out (fun a hk=>hk.1));clear u;have u:=n_;clear n_;obtain⟨f2,f3⟩:=Kd.bP 0 u.out (l:Int) (aw ‹_›) (aw ‹_›);have b0:=Kd.de u.out (l:Int) (-1))|((with_reducible refine jq (t:=3) (p:=45) rfl ?_);refine jo (t:=3) (p:=45) (v:=?Ge) (w1:=(cr.setCell ⟨x,(l:Int).toNat,none⟩ (.int .i64 (-1)))) ?hg ?ho ?hn ?hr ?_;(case ho=>rfl);(case hg=>rfl);(case hn=>rfl);(case hr=>first|(go_simp;done)|(go_simp;rfl));intro b1 hw;have hg:cr.grownBy b1 (some x):=(by rw[hw];exact b0.2);have c1:Kd.R (Kd.int .i64) 3 b1 w.heap.size (fun a=>(w.heap.size<=a)) (.slice (some ⟨x,0,none⟩) r.length E) av:=(by rw[hw,d2.out];exact b0.1);clear b0;replace D:=zA (Kd.pI (v:=(.slice (some ⟨x,0,none⟩) r.length E)) (v1:=(.slice (some ⟨x,0,none⟩) r.length E)) (ok:=(fun a=>(w.heap.size<=a)/\some a≠(.slice (some L) i.length F:Value).ownBlock/\a≠o)) (zN D) hg (.inl rfl));replace s:=zA (Kd.pI (v:=(.slice (some ⟨x,0,none⟩) r.length E)) (v1:=(.slice (some ⟨x,0,none⟩) r.length E)) (ok:=(fun a=>(w.heap.size<=a)/\some a≠(u9:Value).ownBlock/\a≠o)) (zN s) hg (.inl rfl));replace g:=zA (cR (zK g) hg (Kd.db u.out g.out (by decide)));replace T:=zA (Kd.sL (v:=(.slice (some ⟨x,0,none⟩) r.length E)) (v1:=(.slice (some ⟨x,0,none⟩) r.length E)) (ok:=(fun a=>(w.heap.size<=a)/\some a≠(u9:Value).ownBlock/\some a≠(.slice (some L) i.length F:Value).ownBlock/\a≠o)) (by(with_reducible repeat(first|apply Kd.V_alloc|apply Kd.lE|apply Kd.V_drew));exact Kd.sK T.out (fun _ hk=>⟨⟨hk.1.1.1,⟨hk.1.1.2.1,⟨hk.1.2,hk.1.1.2.2⟩⟩⟩,hk.2⟩)) hg (.inl rfl));replace u:=zA (c1);replace j:=zA ((by rw[hw];exact dx (j.out) er.out:Below w.heap.size w b1));clear hg hw c1)|((with_reducible refine nJ (b:=.append) (xs:=#[.tmp 46,.tmp 48]) rfl ?_);at_builtin;refine Kd.yY (Kd.slice 3 (Kd.int .i64)) (w0:=w) w.heap.size rfl (.tmp 46) (.tmp 48) 33 26 (.slice none 0 0) 24 rfl Tryz.underlying33 pO rfl (by decide) (by omega) u9 I av [.slice (some ⟨x,0,none⟩) r.length E] (fun a=>(w.heap.size<=a)/\some a≠(.slice (some L) i.length F:Value).ownBlock/\a≠o) (fun a=>((fun a=>(w.heap.size<=a)/\some a≠(.slice (some L) i.length F:Value).ownBlock/\a≠o)) a/\some a≠(u9:Value).ownBlock) rfl rfl ?aP (fun _ hk=>hk) ?aF ?aO ?aB ?aS ?aL ?_;(case aP=>have es:=(Kd.aD u.out).1;have b2:=zA u.out;rw[es] at b2⊢;exact(Kd.zc (Kd.aD (Kd.a_ (ok':=(fun a=>((fun a=>(w.heap.size<=a)/\some a≠(.slice (some L) i.length F:Value).ownBlock/\a≠o)) a/\some a≠(u9:Value).ownBlock)) (Kd.fS (Kd.nt (Kd.nt (b2.out) (Kd.nH s.out) (by decide)) (Kd.nH D.out) (by decide)) g.out (by decide)) (fun a hk=>⟨⟨hk.1.1.1,⟨hk.1.1.2,hk.2⟩⟩,hk.1.2⟩))).2.1 (Kd.yJ (Kd.a_ (ok':=(fun a=>((fun a=>(w.heap.size<=a)/\some a≠(.slice (some L) i.length F:Value).ownBlock/\a≠o)) a/\some a≠(u9:Value).ownBlock)) (Kd.fS (Kd.nt (Kd.nt (b2.out) (Kd.nH s.out) (by decide)) (Kd.nH D.out) (by decide)) g.out (by decide)) (fun a hk=>⟨⟨hk.1.1.1,⟨hk.1.1.2,hk.2⟩⟩,hk.1.2⟩)))));(case aB=>exact zB);(case aF=>exact(fun a hk=>⟨(Nat.le_trans (bp zB) hk),Kd.ku (Kd.sF (zN s)) a hk,Kd.lu (zK g) a hk⟩));(case aO=>exact(by(with_reducible repeat(first|apply Kd.eP|apply Kd.fV|apply Kd.fU));exact Kd.eI D.out (fun _ hk=>⟨hk.1.1,⟨hk.1.2.1,hk.1.2.2⟩⟩)));(case aS=>exact(bp zB));(case aL=>have:=d3.out;omega);intro f4 f5 ho hb hg b3;rw[<-d4.out] at ho;replace s:=zA (Kd.pI (ok:=(fun a=>(w.heap.size<=a)/\some a≠(.slice (some ⟨x,0,none⟩) r.length E:Value).ownBlock/\a≠o)) (by(with_reducible repeat(first|apply Kd.eP|apply Kd.fV|apply Kd.fU));exact Kd.eI s.out (fun _ hk=>⟨⟨hk.1.1,⟨hk.2,hk.1.2.2⟩⟩,hk.1.2.1⟩)) hg b3);replace g:=zA (cR (zK g) hg (Kd.yO D.out g.out (by decide)));replace T:=zA (Kd.sL (ok:=(fun a=>(w.heap.size<=a)/\some a≠(.slice (some L) i.length F:Value).ownBlock/\some a≠(.slice (some ⟨x,0,none⟩) r.length E:Value).ownBlock/\a≠o)) (by(with_reducible repeat(first|apply Kd.V_alloc|apply Kd.lE|apply Kd.V_drew));exact Kd.sK T.out (fun _ hk=>⟨⟨hk.1.1,⟨hk.1.2.2.1,⟨hk.2,hk.1.2.2.2⟩⟩⟩,hk.1.2.1⟩)) hg b3);replace j:=zA (hb);have ev:=zA (ho);clear D u;clear ho hb hg b3))
              go_roundg k2
              case measure=>have:=cb.out;have:=ch.out;omega
              case rel=>exact⟨(ci),(wrap64 (q+1)),zT,G,⟨by have:=cb.out;have:=ch.out;omega⟩,⟨zN ev⟩,⟨by(with_reducible repeat(first|apply Kd.eP|apply Kd.fV|apply Kd.fU));exact Kd.eI s.out (fun _ hk=>⟨hk.1.1,⟨hk.2,hk.1.2.2⟩⟩)⟩,⟨zK g⟩,⟨zB⟩⟩
             ·rw[if_neg aR] at H
              exact absurd H (by simp)
            ·rw[if_neg ar] at H
             exact absurd H (by simp)
           ·rw[if_neg ap] at H
            exact absurd H (by simp)
          ·rw[if_neg an] at H
           exact absurd H (by simp)
         ·rw[if_neg am] at H
          exact absurd H (by simp)
        ·rw[if_neg S] at H
         have d0:=aZ S;clear S;simp only[Option.some.injEq,Prod.mk.injEq] at H;obtain⟨rfl,rfl⟩:=H;go_wp2;go_ret2;exact⟨_,zE,by(with_reducible repeat(first|apply Kd.eP|apply Kd.fV|apply Kd.fU));exact Kd.eI D.out (fun _ hk=>hk.1),zB⟩
     ·rw[if_neg X] at H
      obtain⟨cd,ce⟩:=bI X;simp only[Option.some.injEq,Prod.mk.injEq] at H;obtain⟨rfl,rfl⟩:=H;obtain⟨f6,f7,f8,f9⟩:=ax g;go_wp2_with (first|((with_reducible refine aC (f:=56) rfl ?_);refine zL (some 29) Tryz.func56 #[.agg #[.int .i64 n,.slice z m.length B],.int .i64 l] ?_;(with_reducible refine(gR.calls ag n _ _ m l i be _ ?af ?ah cc.out).mono ?_);(case af=>exact Kd.au aa.out zB);(case ah=>exact ab.out);rintro e f' ⟨ds,rfl,y,hb⟩;refine⟨_,rfl,?_⟩;have bf:=zA (Kd.mh (Kd.eI (ok':=fun a=>(w.heap.size<=a)/\a≠o) y (fun a Y=>⟨(Nat.le_trans (bp zB) Y),(Kd.lu (zK g) a Y)⟩)) (bp zB));replace g:=zb g hb;replace j:=zS j hb;(try clear hb);(try clear y)))
      go_ret2;exact⟨_,zE,by first|exact Kd.fh _ _ _ _ _|exact Kd.fx _ _ _ _ _|exact Kd.V_nil _ _ _ _ _|exact Kd.Q_nil _ _ _ _ _|exact Kd.cW _ _ _ _ _,zB⟩
 ·rw[if_neg c4] at H
  obtain⟨b',ca⟩:=bI c4;simp only[Option.some.injEq,Prod.mk.injEq] at H;obtain⟨rfl,rfl⟩:=H;go_enter Tryz.func15,Tryz.ntmps15
  go_wp2_with (first|((with_reducible refine aJ (N:=2) rfl ?_);refine zX 2 #[.int .i64 n,.slice z m.length B] 24 ?_;intro o hg gb U hb;have g:=zA (U);have c2:=zG j hg;have c3:=zG j hg;replace j:=zS j hb;clear hb U hg;obtain⟨gc,gd,ge,gf⟩:=ax g)|((with_reducible refine aC (f:=55) rfl ?_);refine zL (some 14) Tryz.func55 #[.agg #[.int .i64 n,.slice z m.length B]] ?_;(with_reducible refine(dB.calls k n _ _ m a5 _ ?af ?ah A3.out).mono ?_);(case af=>exact Kd.au aa.out zB);(case ah=>exact ab.out);rintro e gg ⟨rfl,hb⟩;refine⟨_,rfl,?_⟩;replace g:=zb g hb;replace j:=zS j hb;(try clear hb)))
  go_ret2;exact⟨_,zE,by first|exact Kd.fh _ _ _ _ _|exact Kd.fx _ _ _ _ _|exact Kd.V_nil _ _ _ _ _|exact Kd.Q_nil _ _ _ _ _|exact Kd.cW _ _ _ _ _,zB⟩
theorem wm {n:Nat} {E:List S83} (a:E.length<=1000) (b:cT n E=0) (hp:partsOf E n=1):Ev (fun k=>dB.f k n E) 0:=by
 unfold dB.f;refine Ev.bind (ri a b hp) ?_;simp only[if_true];exact Ev.const _
def ng (v:Int) (x:S83):Int:=if x.f0≠x.f1/\(x.f0=v\/x.f1=v) then x.f2 else 0
theorem wu {v:Int} {x:S83} (e:x.f0=x.f1):ng v x=0:=if_neg (fun h=>h.1 e)
theorem wv {v:Int} {x:S83} (e:¬x.f0=x.f1) (h:x.f0=v\/x.f1=v):ng v x=x.f2:=if_pos ⟨e,h⟩
theorem EA {v:Int} {x:S83} (a:¬x.f0=v) (h1:¬x.f1=v):ng v x=0:=if_neg (fun h=>h.2.elim a h1)
def jR (v:Nat):List S83->Int
 |[]=>0
 |x::E=>ng v x+jR v E
theorem ru {n:Nat} {u:Nat} (hu:u<n):∀(E:List S83) (f:Nat->Nat->Int),(∀x∈E,cM n x=true/\x.f0<=x.f1/\(x.f0≠x.f1->f x.f0.toNat x.f1.toNat=0/\f x.f1.toNat x.f0.toNat=0))->E.Pairwise jB->T.val n (E.foldl dh f) u=T.val n f u+jR u E
 |[],f,_,_=>by simp[jR]
 |x::E,f,h,hp=>by
  obtain⟨l,g⟩:=List.pairwise_cons.1 hp;obtain⟨h1,s,b⟩:=h x (List.mem_cons_self ..);simp[cM] at h1;by_cases e:x.f0=x.f1
  ·rw[List.foldl_cons,show dh f x=f from if_pos e,jR,wu e,Int.zero_add]
   exact ru hu E f (fun y a=>h y (List.mem_cons_of_mem _ a)) g
  ·obtain⟨b,m⟩:=b e
   have o:=val_step_eq (n:=n) (f:=f) (x:=x) (by omega) (by omega) e b m hu;have p:=ru hu E (dh f x) (fun y a=>by
    obtain⟨i,q,j⟩:=h y (List.mem_cons_of_mem _ a);have hb:=l y a;unfold jB at hb;have r:=i;simp[cM] at r;refine⟨i,q,fun k=>?_⟩;unfold dh;rw[if_neg e];refine⟨?_,?_⟩
    ·show (if _ then _ else _)=_
     rw[if_neg (by omega),if_neg (by omega)];exact(j k).1
    ·show (if _ then _ else _)=_
     rw[if_neg (by omega),if_neg (by omega)];exact(j k).2) g
   rw[List.foldl_cons,p,o,jR];unfold ng T.one;by_cases c0:u=x.f0.toNat
   ·rw[if_neg (show ¬u=x.f1.toNat by omega),if_pos c0,if_pos ⟨e,.inl (by omega)⟩];omega
   ·by_cases c1:u=x.f1.toNat
    ·rw[if_pos c1,if_neg c0,if_pos ⟨e,.inr (by omega)⟩];omega
    ·rw[if_neg c1,if_neg c0,if_neg (fun h=>by rcases h.2 with h|h<;>omega)];omega
theorem EB {n:Nat} {E:List S83} (a:bM n E) {v:Nat} (e:v<n):T.val n (ai E) v=jR v E:=by
 have h:=ru e E (fun _ _=>0) (fun x b=>⟨a.ok x b,a.le x b,fun _=>⟨rfl,rfl⟩⟩) a.order;have g:T.val n (fun _ _=>0) v=0:=T.jw n;rw[g,Int.zero_add] at h;exact h
theorem EC {E:List S83} {i:Nat} (h:i<E.length):ae E i∈E:=by
 have e:ae E i=E[i]:=by simp[ae,bh,bX h]
 rw[e];exact List.getElem_mem h
theorem wx {n:Nat} {E:List S83} (h:bM n E) (l:E.length<=1000) (v:Nat):∀(m i:Nat) (s:Int),i+m=E.length->0<=s->s<=50*i->Ev (fun k=>cA.l0 k v s E E.length i) (s+jR v (E.drop i),(0:Int))
 |0,i,s,hi,o,h1=>by
  refine Ev.of_succ ?_;simp only[cA.l0,if_neg (show ¬(i:Int)<E.length by omega),List.drop_of_length_le (show E.length<=i by omega),jR,Int.add_zero];exact Ev.const _
 |m+1,i,s,hi,o,h1=>by
  have b:=fun s=>wx h l v m (i+1) s (by omega)
  have j:=h.ok _ (EC (E:=E) (i:=i) (by omega));simp[cM] at j;refine Ev.of_succ ?_;simp only[cA.l0,if_pos (show (i:Int)<E.length by omega),if_pos (show (0:Int)<=i by omega),dF (show i<=1000000 by omega)];rw[nT (show i<E.length by omega),jR];generalize ae E i=x at j⊢;have hw:wrap64 (s+x.f2)=s+x.f2:=gV (by omega);by_cases e:x.f0=x.f1
  ·have:=b s (by omega) (by omega)
   rw[wu e,Int.zero_add];simp only[if_pos e];exact this
  ·by_cases a:x.f0=v
   ·have:=b (s+x.f2) (by omega) (by omega)
    rw[wv e (.inl a),<-Int.add_assoc];simp only[if_neg e,if_pos a,hw];exact this
   ·by_cases g:x.f1=v
    ·have:=b (s+x.f2) (by omega) (by omega)
     rw[wv e (.inr g),<-Int.add_assoc];simp only[if_neg e,if_neg a,if_pos g,hw];exact this
    ·have:=b s (by omega) (by omega)
     rw[EA a g,Int.zero_add];simp only[if_neg e,if_neg a,if_neg g];exact this
theorem ED {n:Nat} {E:List S83} (b:bM n E) (e:E.length<=1000) (g:cT n E=0) {v:Nat} (h:v<n):Ev (fun k=>cA.f k n E v) (T.val n (ai E) v,(0:Int)):=by
 unfold cA.f;refine Ev.bind (a:=(0:Int)) ?_ ?_
 ·unfold dp.f
  have h1:=nU n E e;rw[g] at h1;refine Ev.bind h1 ?_;simp only[if_true];refine Ev.of_succ ?_;simp only[dp.l0,List.length_cons,List.length_nil,Nat.zero_add,Int.natCast_one,Int.ofNat_one,if_pos (show (0:Int)<1 by decide),if_pos (show (0:Int)<=0 by decide),show rd [(v:Int)] 0=v from rfl,sY,Option.bind_some,az (show (0:Int)<=v/\(v:Int)<n by omega),if_true];refine Ev.of_succ ?_;rw[show wrap64 (0+1)=1 from gV (x:=1) (by decide)];simp only[dp.l0,if_neg (show ¬(1:Int)<1 by decide)];exact Ev.const _
 ·simp only[if_true]
  have:=wx b e v E.length 0 0 (by omega) (by omega) (by omega);rw[List.drop_zero,Int.zero_add,<-EB b h] at this;exact this
theorem wy {n:Nat} {E:List S83} (a:bM n E) (b:E.length<=1000) (e:cT n E=0):∀v,v<=n->Ev (fun k=>kT k n E v) ((List.range v).map fun u=>T.val n (ai E) u)
 |0,_=>Ev.const _
 |v+1,h=>by
  have g:=wy a b e v (by omega);have i:=ED a b e (v:=v) (by omega);simp only[kT];refine Ev.bind g ?_;refine Ev.bind i ?_;rw[List.range_succ,List.map_append];exact Ev.const _
def cG (n:Nat) (E:List S83):List Int:=(List.range n).map fun u=>T.can n (ai E) u
theorem EE {n:Nat} {E:List S83} {v:Nat} (a:v<n):rd (cG n E) (v:Int)=T.can n (ai E) v:=by
 simp[cG,rd,bh,a]
theorem EF {n:Nat} {E:List S83} (hn:1<=n) (i:n<=12) (e:E.length<=1000) (b:cT n E=0) (hp:partsOf E n=1) (g:∀v:Nat,v<n->0<=T.val n (ai E) v/\T.val n (ai E) v<=1000):Ev (fun k=>dq.f k n E) (cG n E,(0:Int)):=by
 unfold dq.f;refine Ev.bind (wm e b hp) ?_;simp only[if_true];refine Ev.bind (a:=cG n E) ?_ (Ev.const _);unfold iN.f;simp only[if_pos (show (1:Int)<=n/\(n:Int)<=1000 by omega),aQ];refine Ev.bind (wy (j6 b).2.2 e b n (aI _)) ?_;rw[show jP ((List.range n).map fun u=>T.val n (ai E) u) n n=cG n E from by
  unfold jP cG;refine List.map_congr_left fun u hu=>?_
  have hu:=List.mem_range.1 hu;have h:=g u hu;rw[if_pos hu,show rd ((List.range n).map fun u=>T.val n (ai E) u) (u:Int)=T.val n (ai E) u by simp[rd,bh,hu]];unfold T.can;exact gV (by omega)]
 exact Ev.const _
section
theorem wz (c:List Int) (a:c.length<=100000):∀(m i:Nat),i+m=c.length->Ev (fun k=>bu.l0 k c c c.length i) true
 |0,i,hi=>by
  refine Ev.of_succ ?_;simp only[bu.l0,if_neg (show ¬((i:Int)<(c.length:Int)) by omega)];exact Ev.const _
 |m+1,i,hi=>by
  have b:=wz c a m (i+1) (by omega);refine Ev.of_succ ?_;simp only[bu.l0,if_pos (show (i:Int)<(c.length:Int) by omega),if_pos (show (0:Int)<=(i:Int) by omega),if_true,dF (show i<=1000000 by omega)];exact b
theorem wA (c:List Int) (a:c.length<=100000):Ev (fun k=>bu.f k c c) true:=by
 unfold bu.f;simp only[if_true];exact wz c a c.length 0 (by omega)
theorem wB (c:List Int) (b:c.length<=12) (hb:∀v:Nat,v<c.length-> -2000<=rd c v/\rd c v<=2000):∀(m i:Nat),i+m=c.length->Ev (fun k=>fs.l0 k c (T.sN (fun v=>rd c (v:Nat)) i) i) (T.sN (fun v=>rd c (v:Nat)) c.length)
 |0,i,hi=>by
  obtain rfl:i=c.length:=by omega
  refine Ev.of_succ ?_;simp only[fs.l0,if_neg (show ¬((c.length:Int)<(c.length:Int)) by omega)];exact Ev.const _
 |m+1,i,hi=>by
  have a:=wB c b hb m (i+1) (by omega);have e:∀j,j<=c.length-> -(2000*j:Int)<=T.sN (fun v=>rd c (v:Nat)) j/\T.sN (fun v=>rd c (v:Nat)) j<=2000*j:=fun j=>by
   induction j with
   |zero=>intro _;simp[T.sN]
   |succ j g=>
    intro l;have h1:=g (by omega);have h:=hb j (by omega);rw[T.dH];omega
  have h1:=e i (by omega);have h:=hb i (by omega);refine Ev.of_succ ?_;simp only[fs.l0,if_pos (show (i:Int)<(c.length:Int) by omega),if_pos (show (0:Int)<=(i:Int) by omega),dF (show i<=1000000 by omega),gV (show -1000000000<=T.sN (fun v=>rd c (v:Nat)) i+rd c i/\T.sN (fun v=>rd c (v:Nat)) i+rd c i<=1000000000 by omega)];rw[T.dH] at a;exact a
theorem EG (c:List Int) (a:c.length<=12) (hb:∀v:Nat,v<c.length-> -2000<=rd c v/\rd c v<=2000):Ev (fun k=>fs.f k c) (T.sN (fun v=>rd c (v:Nat)) c.length):=by
 unfold fs.f;exact wB c a hb c.length 0 (by omega)
end
end Go.Proofs.YtffdiakgjakngaaGreat.P
namespace Go.Proofs.YtffdiakgjakngaaGreat.T
set_option linter.unusedVariables false
set_option linter.unusedSimpArgs false
set_option maxHeartbeats 8000000
set_option maxRecDepth 100000
structure fQ (n:Nat) (t:Nat->Nat->Int) (D b:Nat->Int):Prop where
 pos:∀v,v<n->0<=b v
 low:∀v,v<n->0<b v->D v+aV n t b v<=val n t v-1
 under:∀p:Nat->Int,(∀v,v<n->0<=p v)->(∀v,v<n->0<=D v+aV n t p v)->∀v,v<n->b v<=p v
theorem fQ.start (n:Nat) (t:Nat->Nat->Int) (D:Nat->Int):fQ n t D (fun _=>0):=
 ⟨fun _ _=>Int.le_refl _,fun v _ h=>by omega,fun p hp _ v a=>hp v a⟩
theorem fQ.step {n:Nat} {t:Nat->Nat->Int} (a:Wt n t) {D b:Nat->Int} (h:fQ n t D b) {v:Nat} (g:v<n) (hd:D v+aV n t b v<0):fQ n t D (fun u=>b u+one v u):=by
 have j:∀u,0<=one v u:=fun u=>by unfold one;split<;>omega
 refine⟨fun u hu=>by have:=h.pos u hu;have:=j u;show 0<=b u+one v u;omega,fun u hu hp=>?_,fun p hp i u hu=>?_⟩
 ·rw[jy]
  by_cases e:u=v
  ·subst e;rw[nY a g];omega
  ·rw[nZ g e]
   have l:b u+one v u=b u:=by unfold one;rw[if_neg e];omega
   have h1:=h.low u hu (by have:0<b u+one v u:=hp;omega);have:=a.pos u v;omega
 ·have h1:=h.under p hp i
  show b u+one v u<=p u
  by_cases e:u=v
  ·subst e
   have k:one u u=1:=if_pos rfl;have m:=h1 u hu;by_cases e2:b u=p u
   ·exfalso
    have o:aV n t p u<=aV n t b u:=by
     unfold aV;refine cN fun w hw=>Int.mul_le_mul_of_nonneg_left ?_ (a.pos _ _)
     have:=h1 w hw;omega
    have:=i u hu;omega
   ·omega
  ·have k:one v u=0:=if_neg e
   have:=h1 u hu;omega
theorem fQ.lost {n:Nat} {t:Nat->Nat->Int} (hn:0<n) {D b:Nat->Int} (h:fQ n t D b) (g:∀v,v<n->1<=b v):¬bZ n t D:=by
 rintro⟨D',⟨s,h1⟩,i⟩;obtain⟨m,hm,j⟩:=nV s hn;have:=h.under (fun u=>s m-s u) (fun u hu=>by have:=j u hu;show 0<=s m-s u;omega) (fun v a=>by
  have e:aV n t (fun u=>s m-s u) v= -aV n t s v:=by
   rw[kF n t (fun _=>s m) s v,i'];omega
  rw[e];have:=h1 v a;have:=i v a;omega) m hm
 have k:=g m hm;have:b m<=s m-s m:=this;omega
theorem fQ.nf {n:Nat} {t:Nat->Nat->Int} {D b:Nat->Int} (h:∀v,v<n->0<=D v+aV n t b v):bZ n t D:=
 ⟨fun v=>D v+aV n t b v,⟨fun u=> -b u,fun v _=>by rw[kE];show D v+aV n t b v=_;omega⟩,h⟩
theorem fQ.EH {n:Nat} {t:Nat->Nat->Int} (i:Wt n t) (j:dz n t) {D b:Nat->Int} (h:fQ n t D b) {q:Nat} (k:q<n) (hb:b q=0) {M:Int} (l:0<=M) (m:∀v,v<n->val n t v-1-D v<=M):sN b n<=n*(n*(n*M)):=by
 have h1:=mI i j k hb l (fun v a hp=>by
  have:=h.low v a hp;have:=m v a;omega)
 have e:=cN (g:=fun _=>(n:Int)*(n*M)) h1;rw[iZ] at e;exact e
end Go.Proofs.YtffdiakgjakngaaGreat.T
namespace Go.Proofs.YtffdiakgjakngaaGreat.P
open Go.RowKit Go.Proofs.YtffdiakgjakngaaGreatW.PrintWords Go.Proofs.YtffdiakgjakngaaGreatW.PrintLast Go.Proofs.YtffdiakgjakngaaGreatW.PrintMore
set_option linter.unusedVariables false
set_option linter.unusedSimpArgs false
set_option maxHeartbeats 8000000
set_option maxRecDepth 100000
def eD.l0:Nat->List Int->Int->Option (Int)
 |0,_,_=>none
 |k+1,a,x3=>if x3<(a.length:Int) then(if 0<=x3 then(if(rd a x3)<0 then(some x3) else(eD.l0 k a (wrap64 (x3+1)))) else(none)) else(some (-1))
def eD.f (k:Nat) (l0:List Int):Option (Int):=eD.l0 k l0 0
theorem eD.calls (k:Nat) (A0:Option Addr) (c0:Nat) (l0:List Int) (r:Int) (w:World) (m:Kd.C (Kd.int .i64) w A0 l0.length l0) (n:l0.length<=c0) (h:eD.f k l0=some r):
  Calls Tryz.prog 145 #[.slice A0 l0.length c0] w fun e w'=>e= .returned (.int .i64 r)/\aA w w':=by
 have o:=zA m;have z:=zA n;clear m n;have H:(eD.l0 k l0 0)=some r:=h;clear h;have i:=zA H;clear H;go_enter Tryz.func145,Tryz.ntmps145
 go_wp2;go_loopg [3] k (fun p v3 w'=>∃(a:Int),v3= .int .i64 a/\Aside0 (eD.l0 p l0 a=some r)/\Aside0 (p<=k)/\aA w w')
 case atStart=>exact⟨(0),zT,i,⟨aI _⟩,by repeat(first|exact aA.refl _|apply aA.step)⟩
 case round=>
  clear i;obtain⟨a,rfl,j,q,⟨m1,rfl⟩⟩:=hrel;cases gk with
  |zero=>exact absurd j.out (by simp[eD.l0])
  |succ s=>
   have H:=j.out;clear j;simp only[eD.l0] at H;by_cases c2:a<(l0.length:Int)
   ·rw[if_pos c2] at H
    have u:=az c2;clear c2;by_cases c3:0<=a
    ·rw[if_pos c3] at H
     have B:=az c3;clear c3;by_cases c4:(rd l0 a)<0
     ·rw[if_pos c4] at H
      have v:=az c4;clear c4;obtain rfl:=aH H;have b:0<=(a:Int):=aw ‹_›;have g:a<(l0.length:Int):=aw ‹_›;obtain⟨x,l,y⟩:=Kd.bL o.out a b g;cases l;replace b:=eq_true b;replace g:=eq_true g;go_wp2;go_ret;exact⟨zT,by repeat(first|exact aA.refl _|apply aA.step)⟩
     ·rw[if_neg c4] at H
      have v:=aZ c4;clear c4;have i:=zA H;clear H;have b:0<=(a:Int):=aw ‹_›;have g:a<(l0.length:Int):=aw ‹_›;obtain⟨x,l,y⟩:=Kd.bL o.out a b g;cases l;replace b:=eq_true b;replace g:=eq_true g;go_wp2;go_roundg s
      case measure=>have:=q.out;omega
      case rel=>exact⟨(wrap64 (a+1)),zT,i,⟨by have:=q.out;omega⟩,by repeat(first|exact aA.refl _|apply aA.step)⟩
    ·rw[if_neg c3] at H
     exact absurd H (by simp)
   ·rw[if_neg c2] at H
    have u:=aZ c2;clear c2;obtain rfl:=aH H;go_wp2;go_ret;exact⟨zT,by repeat(first|exact aA.refl _|apply aA.step)⟩
def eE.l0:Nat->List Bool->Int->Option (Bool)
 |0,_,_=>none
 |k+1,a,x3=>if x3<(a.length:Int) then(if 0<=x3 then(if bO false a x3=true then(eE.l0 k a (wrap64 (x3+1))) else(some false)) else(none)) else(some true)
def eE.f (k:Nat) (l0:List Bool):Option (Bool):=eE.l0 k l0 0
theorem eE.calls (k:Nat) (A0:Option Addr) (c0:Nat) (l0:List Bool) (r:Bool) (w:World) (p:Kd.C Kd.bool w A0 l0.length l0) (q:l0.length<=c0) (h:eE.f k l0=some r):
  Calls Tryz.prog 146 #[.slice A0 l0.length c0] w fun e w'=>e= .returned (.bool r)/\aA w w':=by
 have s:=zA p;have F:=zA q;clear p q;have H:(eE.l0 k l0 0)=some r:=h;clear h;have i:=zA H;clear H;go_enter Tryz.func146,Tryz.ntmps146
 go_wp2;go_loopg [3] k (fun u v3 w'=>∃(a:Int),v3= .int .i64 a/\Aside0 (eE.l0 u l0 a=some r)/\Aside0 (u<=k)/\aA w w')
 case atStart=>exact⟨(0),zT,i,⟨aI _⟩,by repeat(first|exact aA.refl _|apply aA.step)⟩
 case round=>
  clear i;obtain⟨a,rfl,l,v,⟨m1,rfl⟩⟩:=hrel;cases gk with
  |zero=>exact absurd l.out (by simp[eE.l0])
  |succ x=>
   have H:=l.out;clear l;simp only[eE.l0] at H;by_cases c2:a<(l0.length:Int)
   ·rw[if_pos c2] at H
    have B:=az c2;clear c2;by_cases c3:0<=a
    ·rw[if_pos c3] at H
     have G:=az c3;clear c3;obtain⟨y,m⟩:∃D:Bool,D=(bO false l0 a):=⟨_,rfl⟩;replace H:(if y=true then(eE.l0 x l0 (wrap64 (a+1))) else(some false))=some r:=by rw[<-m] at H;exact H
     have z:=zA m;clear m;by_cases j:y=true
     ·subst j
      replace H:=zi H;have i:=zA H;clear H;have b:0<=(a:Int):=aw ‹_›;have g:a<(l0.length:Int):=aw ‹_›;obtain⟨E,n,o⟩:=Kd.iT s.out a b g
      (try rw[<-z.out] at o)
      cases n;replace b:=eq_true b;replace g:=eq_true g;go_wp2;go_roundg x
      case measure=>have:=v.out;omega
      case rel=>exact⟨(wrap64 (a+1)),zT,i,⟨by have:=v.out;omega⟩,by repeat(first|exact aA.refl _|apply aA.step)⟩
     ·replace j:=Bool.eq_false_iff.mpr j
      subst j;replace H:=zj H;obtain rfl:=aH H;have b:0<=(a:Int):=aw ‹_›;have g:a<(l0.length:Int):=aw ‹_›;obtain⟨E,n,o⟩:=Kd.iT s.out a b g
      (try rw[<-z.out] at o)
      cases n;replace b:=eq_true b;replace g:=eq_true g;go_wp2;go_ret;exact⟨zT,by repeat(first|exact aA.refl _|apply aA.step)⟩
    ·rw[if_neg c3] at H
     exact absurd H (by simp)
   ·rw[if_neg c2] at H
    have B:=aZ c2;clear c2;obtain rfl:=aH H;go_wp2;go_ret;exact⟨zT,by repeat(first|exact aA.refl _|apply aA.step)⟩
end Go.Proofs.YtffdiakgjakngaaGreat.P


