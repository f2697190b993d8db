/- RiemannrochLoses answers true whatever the input (text 2 of 7): own walks and plain laws; no conditions. -/
import Derived.Below
import Derived.BigQuiet
import Derived.BigRegion
import Derived.Deep.QuietTactic
import Derived.Deep.RegionHeld3
import Derived.Deep.RegionLaw
import Derived.Lib.Hide
import Derived.LoopIn
import Derived.LoopNIn
import Derived.Maps.OwnOps
import Derived.Maps.Views
import Derived.Outline
import Derived.OwnWalkIn
import Derived.RangeFuncBound
import Derived.RangeFuncCalls
import Derived.RangeFuncLeaves
import Derived.RangeFuncNested
import Derived.RegionIn
import Derived.RegionTactic
import Derived.Shelf.RegionOpen
import Derived.Sort.LoopGhostIn
import Derived.TacticsInMore
import Derived.WalkKit
import Derived.WalkSpells
import Derived.Test.YtffdiakgjakngaaGreatLoses1
namespace Go.Proofs.YtffdiakgjakngaaGreat.P
open Go.RowKit Go.Proofs.YtffdiakgjakngaaGreatW.PrintWords Go.Proofs.YtffdiakgjakngaaGreatW.PrintLast Go.Proofs.YtffdiakgjakngaaGreatW.PrintMore
set_option linter.unusedVariables false
set_option linter.unusedSimpArgs false
set_option maxHeartbeats 8000000
set_option maxRecDepth 100000
mutual
def di.j0:Nat->Bool->Int->List (S83)->Option (Int)
 |0,_,_,_=>none
 |k+1,a,b,e=>if a=true then(some 2) else(di.l0 k 0 b e)
def di.l0:Nat->Int->Int->List (S83)->Option (Int)
 |0,_,_,_=>none
 |k+1,x3,b,a=>if x3<(a.length:Int) then((fk.f k b a x3).bind fun t117=>(if t117=0 then(di.l0 k (wrap64 (x3+1)) b a) else(some t117))) else(some 0)
end
def di.f (k:Nat) (a:Int) (b:List (S83)):Option (Int):=if a<1 then(di.j0 k true a b) else(di.j0 k (decide (a>12)) a b)
theorem di.calls (k:Nat) (g:Int) (m:Option Addr) (n:Nat) (a:List (S83)) (r:Int) (w:World) (D:Kd.C aN w m a.length a) (E:a.length<=n) (h:di.f k g a=some r):
  Calls Tryz.prog 103 #[.agg #[.int .i64 g,.slice m a.length n]] w fun e w'=>e= .returned (.int .i64 r)/\Below w.heap.size w w':=by
 have S:=Tryz.underlying24;have F:=zA D;have G:=zA E;clear D E;have i:=zA (aq w.heap.size w);unfold di.f at h;have H:=h;clear h;have y:=zA H;clear H;go_enter Tryz.func103,Tryz.ntmps103
 go_upto_region 1 with (first|((with_reducible refine aJ (N:=1) rfl ?_);refine zX 1 #[.int .i64 g,.slice m a.length n] 24 ?_;intro I z w3 J hb;have b:=zA (J);have T:=zG i z;have U:=zG i z;replace i:=zS i hb;clear hb J z))
 (try simp only[Act.put,List.setIfInBounds_toArray,List.set_cons_zero,List.set_cons_succ])
 go_cut [12] (fun v12 wc=>∃(o:Nat) (v:Bool),v12= .bool v/\Aside0 (di.j0 o v g a=some r)/\Aside0 (o<=k)/\Aside0 (wc.heap[I]? =some (.cells #[.int .i64 g,(.slice m a.length n)] 24 (0,0)))/\Aside0 (Below w.heap.size w wc))
 case first=>
  have H:=y.out;clear y;by_cases c4:g<1
  ·rw[if_pos c4] at H
   have s:=az c4;clear c4
   (first|rw[s]|(simp only[bG,bL];rw[s])|skip)
   have l:=zA H;clear H;obtain⟨V,W,X,Y⟩:=ax b;go_wp2;go_meet
   case rel=>exact⟨_,(true),zT,l,⟨by first|omega|exact aI _⟩,⟨zK b⟩,⟨zB⟩⟩
  ·rw[if_neg c4] at H
   have s:=a6 c4;clear c4
   (first|rw[s]|(simp only[bG,bL];rw[s])|skip)
   have l:=zA H;clear H;obtain⟨Z,aa,ab,ad⟩:=ax b;go_wp2;go_meet
   case rel=>exact⟨_,(decide (g>12)),zT,l,⟨by first|omega|exact aI _⟩,⟨zK b⟩,⟨zB⟩⟩
 case rest=>
  clear y;obtain⟨o,v,rfl,p,K,b,i⟩:=hcut;cases o with
  |zero=>exact absurd p.out (by simp[di.j0])
  |succ L=>
   have H:=p.out;clear p;simp only[di.j0] at H;by_cases x:v=true
   ·subst x
    replace H:=zi H;obtain rfl:=aH H;go_wp2;go_ret;exact⟨zE,zB⟩
   ·replace x:=Bool.eq_false_iff.mpr x
    subst x;replace H:=zj H;have l:=zA H;clear H;go_wp2;go_loopg [3] L (fun o v3 w'=>∃(j:Int),v3= .int .i64 j/\Aside0 (di.l0 o j g a=some r)/\Aside0 (o<=L)/\Aside0 (w'.heap[I]? =some (.cells #[.int .i64 g,(.slice m a.length n)] 24 (0,0)))/\Aside0 (Below w.heap.size w w'))
    case atStart=>exact⟨(0),zT,l,⟨aI _⟩,⟨zK b⟩,⟨zB⟩⟩
    case round=>
     clear l;obtain⟨j,rfl,p,M,b,i⟩:=hrel;cases gk with
     |zero=>exact absurd p.out (by simp[di.l0])
     |succ B=>
      have H:=p.out;clear p;simp only[di.l0] at H;by_cases q:j<(a.length:Int)
      ·rw[if_pos q] at H
       have P:=az q;clear q;obtain⟨t117,O,H⟩:=zo H;by_cases u:t117=0
       ·rw[if_pos u] at H
        obtain⟨Q,R⟩:=bH u;clear u;have l:=zA H;clear H;obtain⟨ag,ak,am,an⟩:=ax b;go_wp2_with (first|((with_reducible refine aG (f:=153) rfl ?_);refine zL (some 22) Tryz.func153 #[.agg #[.int .i64 g,.slice m a.length n],.int .i64 j] ?_;(with_reducible refine(fk.calls B g _ _ a j t117 _ ?ah ?ai O.out).mono ?_);(case ah=>exact Kd.aw F.out zB);(case ai=>exact G.out);rintro e ap ⟨rfl,hb⟩;refine⟨_,rfl,?_⟩;replace b:=zb b hb;replace i:=zS i hb;(try clear hb)))
        go_roundg B
        case measure=>have:=K.out;have:=M.out;omega
        case rel=>exact⟨(wrap64 (j+1)),zT,l,⟨by have:=K.out;have:=M.out;omega⟩,⟨zK b⟩,⟨zB⟩⟩
       ·rw[if_neg u] at H
        obtain⟨Q,R⟩:=bI u;obtain rfl:=aH H;obtain⟨ar,av,aB,aF⟩:=ax b;go_wp2_with (first|((with_reducible refine aG (f:=153) rfl ?_);refine zL (some 22) Tryz.func153 #[.agg #[.int .i64 g,.slice m a.length n],.int .i64 j] ?_;(with_reducible refine(fk.calls B g _ _ a j t117 _ ?ah ?ai O.out).mono ?_);(case ah=>exact Kd.aw F.out zB);(case ai=>exact G.out);rintro e aL ⟨rfl,hb⟩;refine⟨_,rfl,?_⟩;replace b:=zb b hb;replace i:=zS i hb;(try clear hb)))
        go_ret;exact⟨zE,zB⟩
      ·rw[if_neg q] at H
       have P:=a6 q;clear q;obtain rfl:=aH H;obtain⟨aO,aP,aS,a0⟩:=ax b;go_wp2;go_ret;exact⟨zE,zB⟩
def fM.f (a0:Int) (a:Int):Option (Bool):=if a>=0 then(some (decide (a<a0))) else(some false)
theorem fM.calls (a0:Int) (a:Int) (r:Bool) (w:World) (h:fM.f a0 a=some r):
  Calls Tryz.prog 121 #[.int .i64 a0,.int .i64 a] w fun e w'=>e= .returned (.bool r)/\aC w w':=by
 have H:(if a>=0 then(some (decide (a<a0))) else(some false))=some r:=h;clear h;by_cases c3:a>=0
 ·rw[if_pos c3] at H
  have b:=az c3;clear c3;obtain rfl:=aH H;go_enter Tryz.func121,Tryz.ntmps121
  go_wp2;go_ret;exact⟨zT,by repeat(first|exact aC.refl _|apply aC.step)⟩
 ·rw[if_neg c3] at H
  have b:=a6 c3;clear c3;obtain rfl:=aH H;go_enter Tryz.func121,Tryz.ntmps121
  go_wp2;go_ret;exact⟨zT,by repeat(first|exact aC.refl _|apply aC.step)⟩
def cmp_isNaN_int.f (a0:Int):Option (Bool):=some (a0 != a0)
theorem cmp_isNaN_int.calls (a0:Int) (r:Bool) (w:World) (h:cmp_isNaN_int.f a0=some r):
  Calls Tryz.prog 164 #[.int .i64 a0] w fun e w'=>e= .returned (.bool r)/\aC w w':=by
 have H:(some (a0 != a0))=some r:=h;clear h;obtain rfl:=aH H;go_enter Tryz.func164,Tryz.ntmps164
 go_wp2;go_ret;exact⟨zT,by repeat(first|exact aC.refl _|apply aC.step)⟩
def iw.f (a0:Int) (a:Int):Option (Int):=(cmp_isNaN_int.f a0).bind fun t200=>((cmp_isNaN_int.f a).bind fun t201=>(if t200=true then(if t201=true then(some 0) else(some (-1))) else(if t201=true then(some 1) else(if a0<a then(some (-1)) else(if a0>a then(some 1) else(some 0))))))
theorem iw.calls (a0:Int) (a:Int) (r:Int) (w:World) (h:iw.f a0 a=some r):
  Calls Tryz.prog 107 #[.int .i64 a0,.int .i64 a] w fun e w'=>e= .returned (.int .i64 r)/\aC w w':=by
 unfold iw.f at h;have H:=h;clear h;obtain⟨t200,g,H⟩:=zo H;obtain⟨t201,i,H⟩:=zo H;by_cases l:t200=true
 ·subst l
  replace H:=zi H;by_cases m:t201=true
  ·subst m
   replace H:=zi H;obtain rfl:=aH H;go_enter Tryz.func107,Tryz.ntmps107
   go_wp2_with (first|((with_reducible refine aG (f:=164) rfl ?_);refine zL (some 8) Tryz.func164 #[.int .i64 a0] ?_;(with_reducible refine(cmp_isNaN_int.calls a0 true _ g.out).mono ?_);rintro e w' ⟨rfl,⟨b,rfl⟩⟩;refine⟨_,rfl,?_⟩)|((with_reducible refine aG (f:=164) rfl ?_);refine zL (some 10) Tryz.func164 #[.int .i64 a] ?_;(with_reducible refine(cmp_isNaN_int.calls a true _ i.out).mono ?_);rintro e w' ⟨rfl,⟨b,rfl⟩⟩;refine⟨_,rfl,?_⟩))
   go_ret;exact⟨zT,by repeat(first|exact aC.refl _|apply aC.step)⟩
  ·replace m:=Bool.eq_false_iff.mpr m
   subst m;replace H:=zj H;obtain rfl:=aH H;go_enter Tryz.func107,Tryz.ntmps107
   go_wp2_with (first|((with_reducible refine aG (f:=164) rfl ?_);refine zL (some 8) Tryz.func164 #[.int .i64 a0] ?_;(with_reducible refine(cmp_isNaN_int.calls a0 true _ g.out).mono ?_);rintro e w' ⟨rfl,⟨b,rfl⟩⟩;refine⟨_,rfl,?_⟩)|((with_reducible refine aG (f:=164) rfl ?_);refine zL (some 10) Tryz.func164 #[.int .i64 a] ?_;(with_reducible refine(cmp_isNaN_int.calls a false _ i.out).mono ?_);rintro e w' ⟨rfl,⟨b,rfl⟩⟩;refine⟨_,rfl,?_⟩))
   go_ret;exact⟨zT,by repeat(first|exact aC.refl _|apply aC.step)⟩
 ·replace l:=Bool.eq_false_iff.mpr l
  subst l;replace H:=zj H;by_cases n:t201=true
  ·subst n
   replace H:=zi H;obtain rfl:=aH H;go_enter Tryz.func107,Tryz.ntmps107
   go_wp2_with (first|((with_reducible refine aG (f:=164) rfl ?_);refine zL (some 8) Tryz.func164 #[.int .i64 a0] ?_;(with_reducible refine(cmp_isNaN_int.calls a0 false _ g.out).mono ?_);rintro e w' ⟨rfl,⟨b,rfl⟩⟩;refine⟨_,rfl,?_⟩)|((with_reducible refine aG (f:=164) rfl ?_);refine zL (some 10) Tryz.func164 #[.int .i64 a] ?_;(with_reducible refine(cmp_isNaN_int.calls a true _ i.out).mono ?_);rintro e w' ⟨rfl,⟨b,rfl⟩⟩;refine⟨_,rfl,?_⟩))
   go_ret;exact⟨zT,by repeat(first|exact aC.refl _|apply aC.step)⟩
  ·replace n:=Bool.eq_false_iff.mpr n
   subst n;replace H:=zj H;by_cases j:a0<a
   ·rw[if_pos j] at H
    have o:=az j;clear j;obtain rfl:=aH H;go_enter Tryz.func107,Tryz.ntmps107
    go_wp2_with (first|((with_reducible refine aG (f:=164) rfl ?_);refine zL (some 8) Tryz.func164 #[.int .i64 a0] ?_;(with_reducible refine(cmp_isNaN_int.calls a0 false _ g.out).mono ?_);rintro e w' ⟨rfl,⟨b,rfl⟩⟩;refine⟨_,rfl,?_⟩)|((with_reducible refine aG (f:=164) rfl ?_);refine zL (some 10) Tryz.func164 #[.int .i64 a] ?_;(with_reducible refine(cmp_isNaN_int.calls a false _ i.out).mono ?_);rintro e w' ⟨rfl,⟨b,rfl⟩⟩;refine⟨_,rfl,?_⟩))
    go_ret;exact⟨zT,by repeat(first|exact aC.refl _|apply aC.step)⟩
   ·rw[if_neg j] at H
    have o:=a6 j;clear j;by_cases k:a0>a
    ·rw[if_pos k] at H
     have p:=az k;clear k;obtain rfl:=aH H;go_enter Tryz.func107,Tryz.ntmps107
     go_wp2_with (first|((with_reducible refine aG (f:=164) rfl ?_);refine zL (some 8) Tryz.func164 #[.int .i64 a0] ?_;(with_reducible refine(cmp_isNaN_int.calls a0 false _ g.out).mono ?_);rintro e w' ⟨rfl,⟨b,rfl⟩⟩;refine⟨_,rfl,?_⟩)|((with_reducible refine aG (f:=164) rfl ?_);refine zL (some 10) Tryz.func164 #[.int .i64 a] ?_;(with_reducible refine(cmp_isNaN_int.calls a false _ i.out).mono ?_);rintro e w' ⟨rfl,⟨b,rfl⟩⟩;refine⟨_,rfl,?_⟩))
     go_ret;exact⟨zT,by repeat(first|exact aC.refl _|apply aC.step)⟩
    ·rw[if_neg k] at H
     have p:=a6 k;clear k;obtain rfl:=aH H;go_enter Tryz.func107,Tryz.ntmps107
     go_wp2_with (first|((with_reducible refine aG (f:=164) rfl ?_);refine zL (some 8) Tryz.func164 #[.int .i64 a0] ?_;(with_reducible refine(cmp_isNaN_int.calls a0 false _ g.out).mono ?_);rintro e w' ⟨rfl,⟨b,rfl⟩⟩;refine⟨_,rfl,?_⟩)|((with_reducible refine aG (f:=164) rfl ?_);refine zL (some 10) Tryz.func164 #[.int .i64 a] ?_;(with_reducible refine(cmp_isNaN_int.calls a false _ i.out).mono ?_);rintro e w' ⟨rfl,⟨b,rfl⟩⟩;refine⟨_,rfl,?_⟩))
     go_ret;exact⟨zT,by repeat(first|exact aC.refl _|apply aC.step)⟩
def dm.l0:Nat->Int->List Int->Int->Int->Option (Int)
 |0,_,_,_,_=>none
 |k+1,x3,b,e,a=>if a<e then(if 0<=a then(if a<(b.length:Int) then(if(rd b a)=x3 then(dm.l0 k x3 b e (wrap64 (a+1))) else(some (rd b a))) else(none)) else(none)) else(some x3)
def dm.f (k:Nat) (l0:List Int):Option (Int):=dm.l0 k 0 l0 (l0.length:Int) 0
theorem dm.cy:∀k,(∀a b e g,al (dm.l0 k a b e g) (dm.l0 (k+1) a b e g))
 |0=>fun _ _ _ _ r h=>by simp[dm.l0] at h
 |k+1=>by
  have i:=dm.cy k
  ·intro a b e g
   unfold dm.l0;with_reducible repeat' first|exact i _ _ _ _|exact al.refl _|exact al.none _|refine al.ite ?_ ?_|refine al.bind ?_ (fun _=>?_)
theorem dm.mono:∀a0 k,al (dm.f k a0) (dm.f (k+1) a0):=by
 intro a0 k;have a:=dm.cy k;unfold dm.f;with_reducible repeat' first|exact a _ _ _ _|exact al.refl _|exact al.none _|refine al.ite ?_ ?_|refine al.bind ?_ (fun _=>?_)
theorem dm.calls (k:Nat) (A0:Option Addr) (c0:Nat) (l0:List Int) (r:Int) (w:World) (n:Kd.C (Kd.int .i64) w A0 l0.length l0) (o:l0.length<=c0) (h:dm.f k l0=some r):
  Calls Tryz.prog 177 #[.slice A0 l0.length c0] w fun e w'=>e= .returned (.int .i64 r)/\aC w w':=by
 have p:=zA n;have E:=zA o;clear n o;have H:(dm.l0 k 0 l0 (l0.length:Int) 0)=some r:=h;clear h;have j:=zA H;clear H;go_enter Tryz.func177,Tryz.ntmps177
 go_wp2;go_loopg [8] k (fun q u w'=>∃(a:Int),u= .int .i64 a/\Aside0 (dm.l0 q 0 l0 (l0.length:Int) a=some r)/\Aside0 (q<=k)/\aC w w')
 case atStart=>exact⟨(0),zT,j,⟨aI _⟩,by repeat(first|exact aC.refl _|apply aC.step)⟩
 case round=>
  clear j;obtain⟨a,rfl,l,s,⟨m1,rfl⟩⟩:=hrel;cases gk with
  |zero=>exact absurd l.out (by simp[dm.l0])
  |succ v=>
   have H:=l.out;clear l;simp only[dm.l0] at H;by_cases c2:a<(l0.length:Int)
   ·rw[if_pos c2] at H
    have x:=az c2;clear c2;by_cases c3:0<=a
    ·rw[if_pos c3] at H
     have F:=az c3;clear c3;by_cases c4:a<(l0.length:Int)
     ·rw[if_pos c4] at H
      have G:=az c4;clear c4;by_cases i:(rd l0 a)=0
      ·rw[if_pos i] at H
       obtain⟨y,z⟩:=bH i;clear i;have j:=zA H;clear H;have b:0<=(a:Int):=ay ‹_›;have g:a<(l0.length:Int):=ay ‹_›;obtain⟨B,m,D⟩:=Kd.bU p.out a b g;cases m;replace b:=eq_true b;replace g:=eq_true g;go_wp2;go_roundg v
       case measure=>have:=s.out;omega
       case rel=>exact⟨(wrap64 (a+1)),zT,j,⟨by have:=s.out;omega⟩,by repeat(first|exact aC.refl _|apply aC.step)⟩
      ·rw[if_neg i] at H
       obtain⟨y,z⟩:=bI i;obtain rfl:=aH H;have b:0<=(a:Int):=ay ‹_›;have g:a<(l0.length:Int):=ay ‹_›;obtain⟨B,m,D⟩:=Kd.bU p.out a b g;cases m;replace b:=eq_true b;replace g:=eq_true g;go_wp2;go_ret;exact⟨zT,by repeat(first|exact aC.refl _|apply aC.step)⟩
     ·rw[if_neg c4] at H
      exact absurd H (by simp)
    ·rw[if_neg c3] at H
     exact absurd H (by simp)
   ·rw[if_neg c2] at H
    have x:=a6 c2;clear c2;obtain rfl:=aH H;go_wp2;go_ret;exact⟨zT,by repeat(first|exact aC.refl _|apply aC.step)⟩
def dG.f (k:Nat) (a:Int) (b:Int) (e:Int) (g:Int):Option (Int):=(iw.f a e).bind fun t205=>((iw.f b g).bind fun t206=>((dm.f k (([t205,t206]:List Int))).bind fun t210=>(some t210)))
theorem dG.mono:∀a0 a a2 a3 k,al (dG.f k a0 a a2 a3) (dG.f (k+1) a0 a a2 a3):=by
 intro a0 a a2 a3 k;unfold dG.f;with_reducible repeat' first|exact dm.mono _ _|exact al.refl _|exact al.none _|refine al.ite ?_ ?_|refine al.bind ?_ (fun _=>?_)
def dG.T1:Bool×List (List Nat×List Nat):=(true,[([],[]),([0],[0]),([],[]),([2],[2]),([1,3],[1,3]),([],[]),([5],[5]),([],[]),([7],[7]),([6,8,4],[6,8]),([4,9],[4,9]),([10,9],[10]),([11,11,0,1,2,3,4,5,6,7,8,9,10,11],[11])])
def dG.B1:List Nat:=[0,1,0,4,15,0,32,0,128,511,1023,2047,4095]
theorem dG.BH:dO .any (opsOf Tryz.f122 1)=dG.T1:=by kernel_rfl
theorem dG.BI:kY dG.T1.2 dG.B1=true:=by kernel_rfl
theorem dG.calls (k:Nat) (p:Int) (q:Int) (s:Int) (u:Int) (r:Int) (w:World) (h:dG.f k p q s u=some r):
  Calls Tryz.prog 122 #[.agg #[.int .i64 p,.int .i64 q],.agg #[.int .i64 s,.int .i64 u]] w fun e w'=>e= .returned (.int .i64 r)/\Below w.heap.size w w':=by
 have ag:=Tryz.underlying116;have l:=zA (aq w.heap.size w);unfold dG.f at h;have H:=h;clear h;obtain⟨t205,Q,H⟩:=zo H;obtain⟨t206,R,H⟩:=zo H;obtain⟨D,E⟩:∃T:List Int,T=(([t205,t206]:List Int)):=⟨_,rfl⟩;replace H:((dm.f k D).bind fun t210=>(some t210))=some r:=zh E H;have I:=zA E;clear E;obtain⟨t210,U,H⟩:=zo H;obtain rfl:=aH H;go_enter Tryz.func122,Tryz.ntmps122
 try go_wp2_with (first|((with_reducible refine aJ (N:=2) rfl ?_);refine zX 2 #[.int .i64 p,.int .i64 q] 116 ?_;intro x hg w6 y hb;have a:=zA (y);have am:=zG l hg;have an:=zG l hg;replace l:=zS l hb;clear hb y hg)|((with_reducible refine aJ (N:=3) rfl ?_);refine zX 3 #[.int .i64 s,.int .i64 u] 116 ?_;intro B hg V y hb;have b:=zA (y);have ap:=zG l hg;have ar:=zG l hg;replace l:=zS l hb;have av:=zA ((by rw[hg];exact Nat.ne_of_lt (aA (g:=x) (o:=.cells #[.int .i64 p,.int .i64 q] 116 (0,0)) (zK a)):x≠B));have aB:=zA ((by rw[hg];exact Nat.ne_of_gt (aA (g:=x) (o:=.cells #[.int .i64 p,.int .i64 q] 116 (0,0)) (zK a)):B≠x));replace a:=zb a hb;clear hb y hg))
 replace a:=zA (fA a.out);replace b:=zA (fA b.out);replace l:=zA (bZ l.out);refine oh (n:=13) (S:=fun w'=>w'.cell? ⟨x,0,none⟩=some (.int .i64 p)/\w'.cell? ⟨x,1,none⟩=some (.int .i64 q)/\w'.cell? ⟨B,0,none⟩=some (.int .i64 s)/\w'.cell? ⟨B,1,none⟩=some (.int .i64 u)) (ds:=[]) #[false,false,false,false,false,false,false,false,false,false,false,false,false] (by kernel_rfl) rfl rfl ⟨(aj a.out 0).trans rfl,(aj a.out 1).trans rfl,(aj b.out 0).trans rfl,(aj b.out 1).trans rfl⟩ (fun hHeld=>?_);refine oN dG.BH dG.BI (fun j C=>?_);generalize V.drew=w8 at a b l hHeld⊢;refine zs 13 0 0 (by kernel_rfl) ?_;refine zn (v:=?_) (a':=?_) (by simp only[Nat.reduceAdd];rfl) j rfl rfl (by kernel_rfl) (Or.inl ⟨by rfl,?_⟩) ?_ ?_;rotate_left;(focus (intro w';go_simp;with_reducible rfl));rotate_left;(focus (simp only[Act.put,List.setIfInBounds_toArray,List.set_cons_zero,List.set_cons_succ,bG,bL];rfl))
 refine zs 13 1 2 (by kernel_rfl) ?_;refine zn (v:=?_) (a':=?_) (by simp only[Nat.reduceAdd];rfl) j rfl rfl (by kernel_rfl) (Or.inl ⟨by rfl,?_⟩) ?_ ?_;rotate_left;(focus (intro w';go_simp;with_reducible rfl));rotate_left;(focus (simp only[Act.put,List.setIfInBounds_toArray,List.set_cons_zero,List.set_cons_succ,bG,bL];rfl))
 refine zs 13 5 5 (by kernel_rfl) ?_;refine zn (v:=?_) (a':=?_) (by simp only[Nat.reduceAdd];rfl) j rfl rfl (by kernel_rfl) (Or.inl ⟨by rfl,?_⟩) ?_ ?_;rotate_left;(focus (intro w';go_simp;with_reducible rfl));rotate_left;(focus (simp only[Act.put,List.setIfInBounds_toArray,List.set_cons_zero,List.set_cons_succ,bG,bL];rfl))
 refine zs 13 37 7 (by kernel_rfl) ?_;refine zn (v:=?_) (a':=?_) (by simp only[Nat.reduceAdd];rfl) j rfl rfl (by kernel_rfl) (Or.inl ⟨by rfl,?_⟩) ?_ ?_;rotate_left;(focus (intro w';go_simp;with_reducible rfl));rotate_left;(focus (simp only[Act.put,List.setIfInBounds_toArray,List.set_cons_zero,List.set_cons_succ,bG,bL];rfl))
 refine jn (i:=1) (N:=some 6) (v:=?_) (a':=?_) #[true,true,true,false,false,true,false,true,false,false,false,false,false] rfl rfl (ju j.out C.out (by kernel_rfl)) (fun _ _ _ h=>h) (Or.inl ⟨by rfl,?_⟩) hHeld ?_ ?_;rotate_left
 ·rintro w' ⟨s0,s1,s2,F⟩
  go_simp
  with_reducible rfl
 rotate_left
 ·simp only[Act.put,List.setIfInBounds_toArray,List.set_cons_zero,List.set_cons_succ,bG,bL]
  rfl
 refine jn (i:=3) (N:=some 8) (v:=?_) (a':=?_) #[true,true,true,true,false,true,false,true,false,false,false,false,false] rfl rfl (ju j.out C.out (by kernel_rfl)) (fun _ _ _ h=>h) (Or.inl ⟨by rfl,?_⟩) hHeld ?_ ?_;rotate_left
 ·rintro w' ⟨s0,s1,s2,F⟩
  go_simp
  with_reducible rfl
 rotate_left
 ·simp only[Act.put,List.setIfInBounds_toArray,List.set_cons_zero,List.set_cons_succ,bG,bL]
  rfl
 refine jn (i:=6) (N:=some 11) (v:=?_) (a':=?_) #[true,true,true,true,false,true,true,true,false,false,false,false,false] rfl rfl (ju j.out C.out (by kernel_rfl)) (fun _ _ _ h=>h) (Or.inl ⟨by rfl,?_⟩) hHeld ?_ ?_;rotate_left
 ·rintro w' ⟨s0,s1,s2,F⟩
  go_simp
  with_reducible rfl
 rotate_left
 ·simp only[Act.put,List.setIfInBounds_toArray,List.set_cons_zero,List.set_cons_succ,bG,bL]
  rfl
 refine jn (i:=8) (N:=some 13) (v:=?_) (a':=?_) #[true,true,true,true,false,true,true,true,true,false,false,false,false] rfl rfl (ju j.out C.out (by kernel_rfl)) (fun _ _ _ h=>h) (Or.inl ⟨by rfl,?_⟩) hHeld ?_ ?_;rotate_left
 ·rintro w' ⟨s0,s1,s2,F⟩
  go_simp
  with_reducible rfl
 rotate_left
 ·simp only[Act.put,List.setIfInBounds_toArray,List.set_cons_zero,List.set_cons_succ,bG,bL]
  rfl
 refine kj (i:=4) (N:=some 9) #[true,true,true,true,true,true,true,true,true,false,false,false,false] rfl rfl (jL j.out (by kernel_rfl)) (by decide) (fun K m=>?_);refine kQ Tryz.func107 (by kernel_rfl) rfl #[.int .i64 p,.int .i64 s] (by rfl) rfl rfl (by(try simp only[List.map_toArray,List.map_cons,List.map_nil]);first|done|rfl|(simp only[List.length_drop,List.length_take];rfl)) ?_;with_reducible refine(iw.calls p s t205 _ Q.out).mono ?_
 rintro e w' ⟨rfl,⟨J,rfl⟩⟩;refine⟨_,rfl,?_⟩;refine m.out _ _ ⟨(aj a.out 0).trans rfl,(aj a.out 1).trans rfl,(aj b.out 0).trans rfl,(aj b.out 1).trans rfl⟩ (fun hHeld=>?_);clear m K;refine kl (a':=?_) ?_ ?_;rotate_left
 ·show Act.put _ (some 9) _=_
  simp only[Act.put,List.setIfInBounds_toArray,List.set_cons_zero,List.set_cons_succ,bG,bL];rfl
 refine kj (i:=9) (N:=some 14) #[true,true,true,true,true,true,true,true,true,true,false,false,false] rfl rfl (jL j.out (by kernel_rfl)) (by decide) (fun K m=>?_);refine kQ Tryz.func107 (by kernel_rfl) rfl #[.int .i64 q,.int .i64 u] (by rfl) rfl rfl (by(try simp only[List.map_toArray,List.map_cons,List.map_nil]);first|done|rfl|(simp only[List.length_drop,List.length_take];rfl)) ?_;with_reducible refine(iw.calls q u t206 _ R.out).mono ?_
 rintro e w' ⟨rfl,⟨J,rfl⟩⟩;refine⟨_,rfl,?_⟩;refine m.out _ _ ⟨(aj a.out 0).trans rfl,(aj a.out 1).trans rfl,(aj b.out 0).trans rfl,(aj b.out 1).trans rfl⟩ (fun hHeld=>?_);clear m K;refine kl (a':=?_) ?_ ?_;rotate_left
 ·show Act.put _ (some 14) _=_
  simp only[Act.put,List.setIfInBounds_toArray,List.set_cons_zero,List.set_cons_succ,bG,bL];rfl
 refine kj (i:=10) (N:=some 15) #[true,true,true,true,true,true,true,true,true,true,true,false,false] rfl rfl (jL j.out (by kernel_rfl)) (by decide) (fun K m=>?_);refine Kd.zw (Kd.int .i64) _ 3 ?hg (N:=15) ?hd (xs:=([t205,t206]:List Int)) (inner:=[.int .i64 t205,.int .i64 t206]) (ok:=fun _=>True) (okp:=fun _=>True) ?hr ?hp (fun _ hk=>hk) trivial (aq _ _) (aI _) (by simp) ?_;(case hd=>rfl);(case hg=>rfl);(case hr=>first|(go_simp;done)|(go_simp;rfl));(case hp=>exact(aT.one (show Kd.M (Kd.int .i64) _ _ _ t205 [.int .i64 t205] from rfl) (aT.one (show Kd.M (Kd.int .i64) _ _ _ t206 [.int .i64 t206] from rfl) (aT.none _ _))));intro v208 w9 z hb W X;clear W X
 (first|rw[<-I.out] at z|(simp only[Int.reduceToNat] at z;rw[<-I.out] at z))
 have G:=zA (Kd.bj z (bu zB));replace a:=zb a hb;replace b:=zb b hb;replace l:=zS l hb;clear hb z;obtain⟨Y,Z,L⟩:=Kd.bm G.out
 (first|subst L|(injection L with O aa P;have ab:=O.symm;have ad:=P.symm;clear O aa P;subst ab;subst ad))
 refine m.out _ _ ⟨(aj a.out 0).trans rfl,(aj a.out 1).trans rfl,(aj b.out 0).trans rfl,(aj b.out 1).trans rfl⟩ (fun hHeld=>?_);clear m K;refine kl (a':=?_) ?_ ?_;rotate_left
 ·show Act.put _ (some 15) _=_
  simp only[Act.put,List.setIfInBounds_toArray,List.set_cons_zero,List.set_cons_succ,bG,bL];rfl
 refine kj (i:=11) (N:=some 16) #[true,true,true,true,true,true,true,true,true,true,true,true,false] rfl rfl (jL j.out (by kernel_rfl)) (by decide) (fun K m=>?_);refine kQ Tryz.func177 (by kernel_rfl) rfl #[.slice Y D.length Z] (by rfl) rfl rfl (by(try simp only[List.map_toArray,List.map_cons,List.map_nil]);first|done|rfl|(simp only[List.length_drop,List.length_take];rfl)) ?_;with_reducible refine(dm.calls k _ _ D t210 _ ?ah ?ai U.out).mono ?_
 (case ah=>exact zC (Kd.aQ G.out).2.2)
 (case ai=>exact(Kd.aQ G.out).2.1)
 rintro e w' ⟨rfl,⟨J,rfl⟩⟩;refine⟨_,rfl,?_⟩;refine m.out _ _ ⟨(aj a.out 0).trans rfl,(aj a.out 1).trans rfl,(aj b.out 0).trans rfl,(aj b.out 1).trans rfl⟩ (fun hHeld=>?_);clear m K;refine kl (a':=?_) ?_ ?_;rotate_left
 ·show Act.put _ (some 16) _=_
  simp only[Act.put,List.setIfInBounds_toArray,List.set_cons_zero,List.set_cons_succ,bG,bL];rfl
 refine zs 13 4095 12 (by kernel_rfl) ?_;refine zn (v:=?_) (a':=?_) (by simp only[Nat.reduceAdd];rfl) j rfl rfl (by kernel_rfl) (Or.inl ⟨by rfl,?_⟩) ?_ ?_;rotate_left;(focus (intro w';go_simp;with_reducible rfl));rotate_left;(focus (simp only[Act.put,List.setIfInBounds_toArray,List.set_cons_zero,List.set_cons_succ,bG,bL];rfl))
 refine ot (oM j.out (by kernel_rfl)) ?_;try go_wp2
 go_ret;exact⟨zE,zB⟩
mutual
def bh.j0:Nat->Bool->Int->List (S83)->Option (Int)
 |0,_,_,_=>none
 |k+1,b,e,a=>if b=true then(some 2) else(bh.l0 k a (a.length:Int) 0 e a (-1) (-1))
def bh.l0:Nat->List (S83)->Int->Int->Int->List (S83)->Int->Int->Option (Int)
 |0,_,_,_,_,_,_,_=>none
 |k+1,b,g,a,e,h,i,j=>if a<g then(if 0<=a then(if a<(b.length:Int) then((fM.f e ((ae b a).f0)).bind fun t216=>(if t216=true then((fM.f e ((ae b a).f1)).bind fun t217=>(if t217=true then(if((ae b a).f2)<1 then(bh.j2 k b g a true e h i j ((ae b a).f0) ((ae b a).f1) ((ae b a).f2) ((ae b a).f0) ((ae b a).f1)) else(bh.j2 k b g a (decide (((ae b a).f2)>50)) e h i j ((ae b a).f0) ((ae b a).f1) ((ae b a).f2) ((ae b a).f0) ((ae b a).f1))) else(bh.j2 k b g a true e h i j ((ae b a).f0) ((ae b a).f1) ((ae b a).f2) ((ae b a).f0) ((ae b a).f1)))) else(bh.j2 k b g a true e h i j ((ae b a).f0) ((ae b a).f1) ((ae b a).f2) ((ae b a).f0) ((ae b a).f1)))) else(none)) else(none)) else(some 0)
def bh.j2:Nat->List (S83)->Int->Int->Bool->Int->List (S83)->Int->Int->Int->Int->Int->Int->Int->Option (Int)
 |0,_,_,_,_,_,_,_,_,_,_,_,_,_=>none
 |k+1,e,g,h,i,j,l,m,n,o,p,q,a,b=>if i=true then(some 2) else(if o>p then(some 9) else((dG.f k m n a b).bind fun t218=>(if t218>=0 then(some 9) else(bh.l0 k e g (wrap64 (h+1)) j l a b))))
end
def bh.f (k:Nat) (a:Int) (b:List (S83)):Option (Int):=if a<1 then(bh.j0 k true a b) else(bh.j0 k (decide (a>12)) a b)
theorem bh.cy:∀k,(∀a b e,al (bh.j0 k a b e) (bh.j0 (k+1) a b e))/\(∀a b e g i j l,al (bh.l0 k a b e g i j l) (bh.l0 (k+1) a b e g i j l))/\(∀a b e g i j l m n o p q s,al (bh.j2 k a b e g i j l m n o p q s) (bh.j2 (k+1) a b e g i j l m n o p q s))
 |0=>⟨fun _ _ _ r h=>by simp[bh.j0] at h,fun _ _ _ _ _ _ _ r h=>by simp[bh.l0] at h,fun _ _ _ _ _ _ _ _ _ _ _ _ _ r h=>by simp[bh.j2] at h⟩
 |k+1=>by
  obtain⟨u,v,w⟩:=bh.cy k;refine⟨?_,?_,?_⟩
  ·intro a b e
   unfold bh.j0;with_reducible repeat' first|exact u _ _ _|exact v _ _ _ _ _ _ _|exact w _ _ _ _ _ _ _ _ _ _ _ _ _|exact dG.mono _ _ _ _ _|exact al.refl _|exact al.none _|refine al.ite ?_ ?_|refine al.bind ?_ (fun _=>?_)
  ·intro a b e g i j l
   unfold bh.l0;with_reducible repeat' first|exact u _ _ _|exact v _ _ _ _ _ _ _|exact w _ _ _ _ _ _ _ _ _ _ _ _ _|exact dG.mono _ _ _ _ _|exact al.refl _|exact al.none _|refine al.ite ?_ ?_|refine al.bind ?_ (fun _=>?_)
  ·intro a b e g i j l m n o p q s
   unfold bh.j2;with_reducible repeat' first|exact u _ _ _|exact v _ _ _ _ _ _ _|exact w _ _ _ _ _ _ _ _ _ _ _ _ _|exact dG.mono _ _ _ _ _|exact al.refl _|exact al.none _|refine al.ite ?_ ?_|refine al.bind ?_ (fun _=>?_)
theorem bh.mono:∀a0 a k,al (bh.f k a0 a) (bh.f (k+1) a0 a):=by
 intro a0 a k;obtain⟨b,e,g⟩:=bh.cy k;unfold bh.f;with_reducible repeat' first|exact b _ _ _|exact e _ _ _ _ _ _ _|exact g _ _ _ _ _ _ _ _ _ _ _ _ _|exact dG.mono _ _ _ _ _|exact al.refl _|exact al.none _|refine al.ite ?_ ?_|refine al.bind ?_ (fun _=>?_)
theorem bh.calls (k:Nat) (j:Int) (R:Option Addr) (B:Nat) (a:List (S83)) (r:Int) (w:World) (be:Kd.C aN w R a.length a) (bf:a.length<=B) (h:bh.f k j a=some r):
  Calls Tryz.prog 64 #[.agg #[.int .i64 j,.slice R a.length B]] w fun e w'=>e= .returned (.int .i64 r)/\Below w.heap.size w w':=by
 have cr:=Tryz.underlying24;have cv:=Tryz.underlying116;have cx:=Tryz.underlying83;have bo:=zA be;have c0:=zA bf;clear be bf;have m:=zA (aq w.heap.size w);unfold bh.f at h;have H:=h;clear h;have a3:=zA H;clear H;go_enter Tryz.func64,Tryz.ntmps64
 go_upto_region 1 with (first|((with_reducible refine aJ (N:=1) rfl ?_);refine zX 1 #[.int .i64 j,.slice R a.length B] 24 ?_;intro u l w3 I hb;have i:=zA (I);have c1:=zG m l;have c2:=zG m l;replace m:=zS m hb;clear hb I l))
 (try simp only[Act.put,List.setIfInBounds_toArray,List.set_cons_zero,List.set_cons_succ])
 go_cut [14] (fun bv wc=>∃(G:Nat) (am:Bool),bv= .bool am/\Aside0 (bh.j0 G am j a=some r)/\Aside0 (G<=k)/\Aside0 (wc.heap[u]? =some (.cells #[.int .i64 j,(.slice R a.length B)] 24 (0,0)))/\Aside0 (Below w.heap.size w wc))
 case first=>
  have H:=a3.out;clear a3;by_cases c4:j<1
  ·rw[if_pos c4] at H
   have ag:=az c4;clear c4
   (first|rw[ag]|(simp only[bG,bL];rw[ag])|skip)
   have v:=zA H;clear H;obtain⟨c3,c5,c6,c8⟩:=ax i;go_wp2;go_meet
   case rel=>exact⟨_,(true),zT,v,⟨by first|omega|exact aI _⟩,⟨zK i⟩,⟨zB⟩⟩
  ·rw[if_neg c4] at H
   have ag:=a6 c4;clear c4
   (first|rw[ag]|(simp only[bG,bL];rw[ag])|skip)
   have v:=zA H;clear H;obtain⟨c9,c',dd,dk⟩:=ax i;go_wp2;go_meet
   case rel=>exact⟨_,(decide (j>12)),zT,v,⟨by first|omega|exact aI _⟩,⟨zK i⟩,⟨zB⟩⟩
 case rest=>
  clear a3;obtain⟨G,am,rfl,J,V,i,m⟩:=hcut;cases G with
  |zero=>exact absurd J.out (by simp[bh.j0])
  |succ bg=>
   have H:=J.out;clear J;simp only[bh.j0] at H;by_cases c7:am=true
   ·subst c7
    replace H:=zi H;obtain rfl:=aH H;go_wp2;go_ret;exact⟨zE,zB⟩
   ·replace c7:=Bool.eq_false_iff.mpr c7
    subst c7;replace H:=zj H;have v:=zA H;clear H;go_wp2_with (first|((with_reducible refine aJ (N:=3) rfl ?_);refine zX 3 #[.int .i64 0,.int .i64 0] 116 ?_;intro D l w8 I hb;have n:=zA (I);have ds:=zG m l;have dv:=zG m l;replace m:=zS m hb;have K:=zA ((by rw[l];exact Nat.ne_of_lt (aA (g:=u) (o:=.cells #[.int .i64 j,.slice R a.length B] 24 (0,0)) (zK i)):u≠D));have S:=zA ((by rw[l];exact Nat.ne_of_gt (aA (g:=u) (o:=.cells #[.int .i64 j,.slice R a.length B] 24 (0,0)) (zK i)):D≠u));replace i:=zb i hb;clear hb I l;have d0:=S.out;have d1:=K.out;obtain⟨bw,bx,b0,b1⟩:=ax n;obtain⟨b2,b3,b4,b5⟩:=ax i))
    go_loopg [19] bg (fun G b6 w'=>∃(b:Int) (E:Int) (z:Int),b6= .int .i64 b/\Aside0 (bh.l0 G a (a.length:Int) b j a E z=some r)/\Aside0 (G<=bg)/\Aside0 (w'.heap[u]? =some (.cells #[.int .i64 j,(.slice R a.length B)] 24 (0,0)))/\Aside0 (w'.heap[D]? =some (.cells #[.int .i64 E,.int .i64 z] 116 (0,0)))/\Aside0 (Below w.heap.size w w'))
    case atStart=>exact⟨(0),((-1)),((-1)),zT,v,⟨aI _⟩,⟨by refine zk ?_;refine aD ?_ K.out _;refine zk ?_;refine aD ?_ K.out _;exact zK i⟩,⟨by refine zk ?_;refine bB (cs:=#[.int .i64 (-1),.int .i64 0]) ?_ 1 _ rfl;refine zk ?_;refine bB (cs:=#[.int .i64 0,.int .i64 0]) ?_ 0 _ rfl;exact zK n⟩,⟨zB⟩⟩
    case round=>
     clear v;clear bw bx b2 b3 b0 b1 b4 b5;obtain⟨b,E,z,rfl,J,W,i,n,m⟩:=hrel;cases gk with
     |zero=>exact absurd J.out (by simp[bh.l0])
     |succ k2=>
      have H:=J.out;clear J;simp only[bh.l0] at H;by_cases X:b<(a.length:Int)
      ·rw[if_pos X] at H
       have bi:=az X;clear X;by_cases ap:0<=b
       ·rw[if_pos ap] at H
        have b':=az ap;clear ap;by_cases ar:b<(a.length:Int)
        ·rw[if_pos ar] at H
         have ca:=az ar;clear ar;have a4:=zA H;clear H;have av:0<=(b:Int):=ay ‹_›;have aB:b<(a.length:Int):=ay ‹_›;obtain⟨Y,cb,aF,aL,aO⟩:=dE bo.out b av aB;cases cb;replace aF:=(m.out.cell (a8 w _ aF)).trans aF;replace aL:=(m.out.cell (a8 w _ aL)).trans aL;replace aO:=(m.out.cell (a8 w _ aO)).trans aO;replace av:=eq_true av;replace aB:=eq_true aB;go_upto_region 8 with (first|((with_reducible refine aJ (N:=5) rfl ?_);refine zX 5 #[.int .i64 0,.int .i64 0,.int .i64 0] 83 ?_;intro M l d2 I hb;have p:=zA (I);have d3:=zG m l;have d4:=zG m l;replace m:=zS m hb;have q:=zA ((by rw[l];exact Nat.ne_of_lt (aA (g:=u) (o:=.cells #[.int .i64 j,.slice (some Y) a.length B] 24 (0,0)) (zK i)):u≠M));have O:=zA ((by rw[l];exact Nat.ne_of_gt (aA (g:=u) (o:=.cells #[.int .i64 j,.slice (some Y) a.length B] 24 (0,0)) (zK i)):M≠u));replace i:=zb i hb;have s:=zA ((by rw[l];exact Nat.ne_of_lt (aA (g:=D) (o:=.cells #[.int .i64 E,.int .i64 z] 116 (0,0)) (zK n)):D≠M));have P:=zA ((by rw[l];exact Nat.ne_of_gt (aA (g:=D) (o:=.cells #[.int .i64 E,.int .i64 z] 116 (0,0)) (zK n)):M≠D));replace n:=zb n hb;clear hb I l;have d5:=O.out;have d6:=q.out;have d7:=P.out;have d8:=s.out;obtain⟨cc,cd,ce,cf,ch,ci⟩:=cw p)|((with_reducible refine aJ (N:=6) rfl ?_);refine zX 6 #[.int .i64 0,.int .i64 0] 116 ?_;intro T l d9 I hb;have F:=zA (I);have ea:=zG m l;have eb:=zG m l;replace m:=zS m hb;have y:=zA ((by rw[l];exact Nat.ne_of_lt (aA (g:=u) (o:=.cells #[.int .i64 j,.slice (some Y) a.length B] 24 (0,0)) (by refine zk ?_;refine aD ?_ q.out _;refine zk ?_;refine aD ?_ q.out _;refine zk ?_;refine aD ?_ q.out _;exact zK i)):u≠T));have U:=zA ((by rw[l];exact Nat.ne_of_gt (aA (g:=u) (o:=.cells #[.int .i64 j,.slice (some Y) a.length B] 24 (0,0)) (by refine zk ?_;refine aD ?_ q.out _;refine zk ?_;refine aD ?_ q.out _;refine zk ?_;refine aD ?_ q.out _;exact zK i)):T≠u));replace i:=zA (aE (g:=u) (o:=.cells #[.int .i64 j,.slice (some Y) a.length B] 24 (0,0)) (by refine zk ?_;refine aD ?_ q.out _;refine zk ?_;refine aD ?_ q.out _;refine zk ?_;refine aD ?_ q.out _;exact zK i) hb);have L:=zA ((by rw[l];exact Nat.ne_of_lt (aA (g:=D) (o:=.cells #[.int .i64 E,.int .i64 z] 116 (0,0)) (by refine zk ?_;refine aD ?_ s.out _;refine zk ?_;refine aD ?_ s.out _;refine zk ?_;refine aD ?_ s.out _;exact zK n)):D≠T));have a5:=zA ((by rw[l];exact Nat.ne_of_gt (aA (g:=D) (o:=.cells #[.int .i64 E,.int .i64 z] 116 (0,0)) (by refine zk ?_;refine aD ?_ s.out _;refine zk ?_;refine aD ?_ s.out _;refine zk ?_;refine aD ?_ s.out _;exact zK n)):T≠D));replace n:=zA (aE (g:=D) (o:=.cells #[.int .i64 E,.int .i64 z] 116 (0,0)) (by refine zk ?_;refine aD ?_ s.out _;refine zk ?_;refine aD ?_ s.out _;refine zk ?_;refine aD ?_ s.out _;exact zK n) hb);have x:=zA ((by rw[l];exact Nat.ne_of_lt (aA (g:=M) (o:=.cells #[.int .i64 ((ae a b).f0),.int .i64 ((ae a b).f1),.int .i64 ((ae a b).f2)] 83 (0,0)) (by refine zk ?_;refine bB (cs:=#[.int .i64 ((ae a b).f0),.int .i64 ((ae a b).f1),.int .i64 0]) ?_ 2 _ rfl;refine zk ?_;refine bB (cs:=#[.int .i64 ((ae a b).f0),.int .i64 0,.int .i64 0]) ?_ 1 _ rfl;refine zk ?_;refine bB (cs:=#[.int .i64 0,.int .i64 0,.int .i64 0]) ?_ 0 _ rfl;exact zK p)):M≠T));have Q:=zA ((by rw[l];exact Nat.ne_of_gt (aA (g:=M) (o:=.cells #[.int .i64 ((ae a b).f0),.int .i64 ((ae a b).f1),.int .i64 ((ae a b).f2)] 83 (0,0)) (by refine zk ?_;refine bB (cs:=#[.int .i64 ((ae a b).f0),.int .i64 ((ae a b).f1),.int .i64 0]) ?_ 2 _ rfl;refine zk ?_;refine bB (cs:=#[.int .i64 ((ae a b).f0),.int .i64 0,.int .i64 0]) ?_ 1 _ rfl;refine zk ?_;refine bB (cs:=#[.int .i64 0,.int .i64 0,.int .i64 0]) ?_ 0 _ rfl;exact zK p)):T≠M));replace p:=zA (aE (g:=M) (o:=.cells #[.int .i64 ((ae a b).f0),.int .i64 ((ae a b).f1),.int .i64 ((ae a b).f2)] 83 (0,0)) (by refine zk ?_;refine bB (cs:=#[.int .i64 ((ae a b).f0),.int .i64 ((ae a b).f1),.int .i64 0]) ?_ 2 _ rfl;refine zk ?_;refine bB (cs:=#[.int .i64 ((ae a b).f0),.int .i64 0,.int .i64 0]) ?_ 1 _ rfl;refine zk ?_;refine bB (cs:=#[.int .i64 0,.int .i64 0,.int .i64 0]) ?_ 0 _ rfl;exact zK p) hb);clear hb I l;have ed:=U.out;have eg:=y.out;have ek:=a5.out;have el:=L.out;have em:=Q.out;have er:=x.out;obtain⟨cj,ck,cl,cn⟩:=ax F))
         (try simp only[Act.put,List.setIfInBounds_toArray,List.set_cons_zero,List.set_cons_succ])
         go_cut [28] (fun v28 wc=>∃(G:Nat) (aP:Bool),v28= .bool aP/\Aside0 (bh.j2 G a (a.length:Int) b aP j a E z ((ae a b).f0) ((ae a b).f1) ((ae a b).f2) ((ae a b).f0) ((ae a b).f1)=some r)/\Aside0 (G<=k2)/\Aside0 (wc.heap[u]? =some (.cells #[.int .i64 j,(.slice (some Y) a.length B)] 24 (0,0)))/\Aside0 (wc.heap[D]? =some (.cells #[.int .i64 E,.int .i64 z] 116 (0,0)))/\Aside0 (wc.heap[M]? =some (.cells #[.int .i64 ((ae a b).f0),.int .i64 ((ae a b).f1),.int .i64 ((ae a b).f2)] 83 (0,0)))/\Aside0 (wc.heap[T]? =some (.cells #[.int .i64 ((ae a b).f0),.int .i64 ((ae a b).f1)] 116 (0,0)))/\Aside0 (Below w.heap.size w wc))
         case first=>
          have H:=a4.out;clear a4;obtain⟨t216,aS,H⟩:=zo H;by_cases a0:t216=true
          ·subst a0
           replace H:=zi H;obtain⟨t217,a9,H⟩:=zo H;by_cases a1:t217=true
           ·subst a1
            replace H:=zi H;by_cases Z:((ae a b).f2)<1
            ·rw[if_pos Z] at H
             have ak:=az Z;clear Z
             (first|rw[ak]|(simp only[bG,bL];rw[ak])|skip)
             have v:=zA H;clear H;have es:=K.out;have ev:=S.out;have ew:=q.out;have ex:=O.out;have ey:=y.out;have e0:=U.out;obtain⟨e1,e2,e3,e4⟩:=ax i;have e5:=P.out;have e6:=s.out;have e_:=x.out;have e':=Q.out;obtain⟨fb,fd,fn,fo,fq,fr⟩:=cw p;go_wp2_with (first|((with_reducible refine aG (f:=121) rfl ?_);refine zL (some 33) Tryz.func121 #[.int .i64 j,.int .i64 ((ae a b).f0)] ?_;(with_reducible refine(fM.calls j ((ae a b).f0) true _ aS.out).mono ?_);rintro e w' ⟨rfl,⟨nd,rfl⟩⟩;refine⟨_,rfl,?_⟩)|(go_at_call 121;(with_reducible refine(fM.calls j ((ae a b).f1) true _ a9.out).mono ?_);rintro e w' ⟨rfl,⟨nd,rfl⟩⟩))
             go_meet
             case rel=>exact⟨_,(true),zT,v,⟨by have:=V.out;have:=W.out;first|omega|exact aI _⟩,⟨by refine zk ?_;refine aD ?_ y.out _;refine zk ?_;refine aD ?_ y.out _;exact zK i⟩,⟨by refine zk ?_;refine aD ?_ L.out _;refine zk ?_;refine aD ?_ L.out _;exact zK n⟩,⟨by refine zk ?_;refine aD ?_ x.out _;refine zk ?_;refine aD ?_ x.out _;exact zK p⟩,⟨by refine zk ?_;refine bB (cs:=#[.int .i64 ((ae a b).f0),.int .i64 0]) ?_ 1 _ rfl;refine zk ?_;refine bB (cs:=#[.int .i64 0,.int .i64 0]) ?_ 0 _ rfl;exact zK F⟩,⟨zB⟩⟩
            ·rw[if_neg Z] at H
             have ak:=a6 Z;clear Z
             (first|rw[ak]|(simp only[bG,bL];rw[ak])|skip)
             have v:=zA H;clear H;have ft:=K.out;have fv:=S.out;have f3:=q.out;have f4:=O.out;have f5:=y.out;have f6:=U.out;obtain⟨f7,f8,f9,f'⟩:=ax i;have gb:=P.out;have gc:=s.out;have gd:=x.out;have ge:=Q.out;obtain⟨gf,gg,gi,gl,gm,gn⟩:=cw p;go_wp2_with (first|((with_reducible refine aG (f:=121) rfl ?_);refine zL (some 33) Tryz.func121 #[.int .i64 j,.int .i64 ((ae a b).f0)] ?_;(with_reducible refine(fM.calls j ((ae a b).f0) true _ aS.out).mono ?_);rintro e w' ⟨rfl,⟨nd,rfl⟩⟩;refine⟨_,rfl,?_⟩)|(go_at_call 121;(with_reducible refine(fM.calls j ((ae a b).f1) true _ a9.out).mono ?_);rintro e w' ⟨rfl,⟨nd,rfl⟩⟩))
             go_meet
             case rel=>exact⟨_,(decide (((ae a b).f2)>50)),zT,v,⟨by have:=V.out;have:=W.out;first|omega|exact aI _⟩,⟨by refine zk ?_;refine aD ?_ y.out _;refine zk ?_;refine aD ?_ y.out _;exact zK i⟩,⟨by refine zk ?_;refine aD ?_ L.out _;refine zk ?_;refine aD ?_ L.out _;exact zK n⟩,⟨by refine zk ?_;refine aD ?_ x.out _;refine zk ?_;refine aD ?_ x.out _;exact zK p⟩,⟨by refine zk ?_;refine bB (cs:=#[.int .i64 ((ae a b).f0),.int .i64 0]) ?_ 1 _ rfl;refine zk ?_;refine bB (cs:=#[.int .i64 0,.int .i64 0]) ?_ 0 _ rfl;exact zK F⟩,⟨zB⟩⟩
           ·replace a1:=Bool.eq_false_iff.mpr a1
            subst a1;replace H:=zj H;have v:=zA H;clear H;have go:=K.out;have gp:=S.out;have gq:=q.out;have gr:=O.out;have gs:=y.out;have gt:=U.out;obtain⟨gx,g0,g1,g2⟩:=ax i;have g3:=P.out;have g4:=s.out;have g5:=x.out;have g6:=Q.out;obtain⟨g7,g8,g9,g',ha,hc⟩:=cw p;go_wp2_with (first|((with_reducible refine aG (f:=121) rfl ?_);refine zL (some 33) Tryz.func121 #[.int .i64 j,.int .i64 ((ae a b).f0)] ?_;(with_reducible refine(fM.calls j ((ae a b).f0) true _ aS.out).mono ?_);rintro e w' ⟨rfl,⟨nd,rfl⟩⟩;refine⟨_,rfl,?_⟩)|(go_at_call 121;(with_reducible refine(fM.calls j ((ae a b).f1) false _ a9.out).mono ?_);rintro e w' ⟨rfl,⟨nd,rfl⟩⟩))
            go_meet
            case rel=>exact⟨_,(true),zT,v,⟨by have:=V.out;have:=W.out;first|omega|exact aI _⟩,⟨by refine zk ?_;refine aD ?_ y.out _;refine zk ?_;refine aD ?_ y.out _;exact zK i⟩,⟨by refine zk ?_;refine aD ?_ L.out _;refine zk ?_;refine aD ?_ L.out _;exact zK n⟩,⟨by refine zk ?_;refine aD ?_ x.out _;refine zk ?_;refine aD ?_ x.out _;exact zK p⟩,⟨by refine zk ?_;refine bB (cs:=#[.int .i64 ((ae a b).f0),.int .i64 0]) ?_ 1 _ rfl;refine zk ?_;refine bB (cs:=#[.int .i64 0,.int .i64 0]) ?_ 0 _ rfl;exact zK F⟩,⟨zB⟩⟩
          ·replace a0:=Bool.eq_false_iff.mpr a0
           subst a0;replace H:=zj H;have v:=zA H;clear H;have he:=K.out;have hf:=S.out;have hh:=q.out;have hj:=O.out;have hk:=y.out;have hl:=U.out;obtain⟨hm,hn,ho,hp⟩:=ax i;have hq:=P.out;have hr:=s.out;have hs:=x.out;have ht:=Q.out;obtain⟨hv,hw,hx,hy,hz,hA⟩:=cw p;go_wp2_with (first|((with_reducible refine aG (f:=121) rfl ?_);refine zL (some 33) Tryz.func121 #[.int .i64 j,.int .i64 ((ae a b).f0)] ?_;(with_reducible refine(fM.calls j ((ae a b).f0) false _ aS.out).mono ?_);rintro e w' ⟨rfl,⟨nd,rfl⟩⟩;refine⟨_,rfl,?_⟩))
           go_meet
           case rel=>exact⟨_,(true),zT,v,⟨by have:=V.out;have:=W.out;first|omega|exact aI _⟩,⟨by refine zk ?_;refine aD ?_ y.out _;refine zk ?_;refine aD ?_ y.out _;exact zK i⟩,⟨by refine zk ?_;refine aD ?_ L.out _;refine zk ?_;refine aD ?_ L.out _;exact zK n⟩,⟨by refine zk ?_;refine aD ?_ x.out _;refine zk ?_;refine aD ?_ x.out _;exact zK p⟩,⟨by refine zk ?_;refine bB (cs:=#[.int .i64 ((ae a b).f0),.int .i64 0]) ?_ 1 _ rfl;refine zk ?_;refine bB (cs:=#[.int .i64 0,.int .i64 0]) ?_ 0 _ rfl;exact zK F⟩,⟨zB⟩⟩
         case rest=>
          clear a4;clear bi b' ca cc cd ce cj ck cf ch ci cl cn aF aL aO av aB;obtain⟨G,aP,rfl,J,bk,i,n,p,F,m⟩:=hcut;cases G with
          |zero=>exact absurd J.out (by simp[bh.j2])
          |succ bd=>
           have H:=J.out;clear J;simp only[bh.j2] at H;by_cases a2:aP=true
           ·subst a2
            replace H:=zi H;obtain rfl:=aH H;go_wp2;go_ret;exact⟨zE,zB⟩
           ·replace a2:=Bool.eq_false_iff.mpr a2
            subst a2;replace H:=zj H;by_cases ab:((ae a b).f0)>((ae a b).f1)
            ·rw[if_pos ab] at H
             have co:=az ab;clear ab;obtain rfl:=aH H;have hB:=O.out;have hC:=q.out;have hD:=P.out;have hE:=s.out;have hG:=x.out;have hH:=Q.out;obtain⟨hI,hJ,hK,hL,hM,hN⟩:=cw p;go_wp2;go_ret;exact⟨zE,zB⟩
            ·rw[if_neg ab] at H
             have co:=a6 ab;clear ab;obtain⟨t218,bn,H⟩:=zo H;by_cases ad:t218>=0
             ·rw[if_pos ad] at H
              have cq:=az ad;clear ad;obtain rfl:=aH H;have hO:=O.out;have hP:=q.out;have hQ:=P.out;have hR:=s.out;have hT:=x.out;have hV:=Q.out;obtain⟨hW,hX,hY,h0,h1,h2⟩:=cw p;have h3:=S.out;have h4:=K.out;have h5:=L.out;have h6:=a5.out;obtain⟨h7,h8,h9,h_⟩:=ax n;have h':=U.out;have ib:=y.out;obtain⟨id,ih,ii,im⟩:=ax F;go_wp2_with (first|(go_at_call 122;(with_reducible refine(dG.calls bd E z ((ae a b).f0) ((ae a b).f1) t218 _ bn.out).mono ?_);rintro e io ⟨rfl,hb⟩;replace i:=zb i hb;replace n:=zb n hb;replace p:=zb p hb;replace F:=zb F hb;replace m:=zS m hb;(try clear hb)))
              go_ret;exact⟨zE,zB⟩
             ·rw[if_neg ad] at H
              have cq:=a6 ad;clear ad;have v:=zA H;clear H;have ip:=O.out;have it:=q.out;have iv:=P.out;have i0:=s.out;have i1:=x.out;have i2:=Q.out;obtain⟨i3,i4,i5,i6,i7,i8⟩:=cw p;have i9:=S.out;have jj:=K.out;have jp:=L.out;have j1:=a5.out;obtain⟨j3,j_,j',kd⟩:=ax n;have kk:=U.out;have km:=y.out;obtain⟨ks,kt,kv,kw⟩:=ax F;go_wp2_with (first|(go_at_call 122;(with_reducible refine(dG.calls bd E z ((ae a b).f0) ((ae a b).f1) t218 _ bn.out).mono ?_);rintro e kW ⟨rfl,hb⟩;replace i:=zb i hb;replace n:=zb n hb;replace p:=zb p hb;replace F:=zb F hb;replace m:=zS m hb;(try clear hb);obtain⟨k0,k1,k3,k4⟩:=ax F;obtain⟨k5,k6,k7,k8⟩:=ax n))
              go_roundg bd
              case measure=>have:=V.out;have:=W.out;have:=bk.out;omega
              case rel=>exact⟨(wrap64 (b+1)),(((ae a b).f0)),(((ae a b).f1)),zT,v,⟨by have:=V.out;have:=W.out;have:=bk.out;omega⟩,⟨by refine zk ?_;refine aD ?_ K.out _;refine zk ?_;refine aD ?_ K.out _;exact zK i⟩,⟨by refine zk ?_;refine bB (cs:=#[.int .i64 ((ae a b).f0),.int .i64 z]) ?_ 1 _ rfl;refine zk ?_;refine bB (cs:=#[.int .i64 E,.int .i64 z]) ?_ 0 _ rfl;exact zK n⟩,⟨zB⟩⟩
        ·rw[if_neg ar] at H
         exact absurd H (by simp)
       ·rw[if_neg ap] at H
        exact absurd H (by simp)
      ·rw[if_neg X] at H
       have bi:=a6 X;clear X;obtain rfl:=aH H;go_wp2;go_ret;exact⟨zE,zB⟩
def bX (N:Int) (x:S83):Bool:=decide (0<=x.f0/\x.f0<N/\0<=x.f1/\x.f1<N/\1<=x.f2/\x.f2<=50)
def dQ (N:Int) (a b:Int) (x:S83):Int:=if bX N x=false then 2 else if x.f0<a\/x.f0=a/\x.f1<=b\/x.f0>x.f1 then 9 else 0
def gZ (N:Int):Int->Int->List S83->Int
 |_,_,[]=>0
 |a,b,x::E=>if dQ N a b x=0 then gZ N x.f0 x.f1 E else dQ N a b x
def cz (N:Int) (E:List S83):Int:=if N<1\/N>12 then 2 else gZ N (-1) (-1) E
theorem ng {E:List S83} {i:Nat} (h:i<E.length):E.drop i=ae E i::E.drop (i+1):=by
 rw[List.drop_eq_getElem_cons h];simp[ae,a7,bK h]
theorem t_ (N v:Int):fM.f N v=some (decide (0<=v/\v<N)):=by
 unfold fM.f;by_cases h:v>=0
 ·rw[if_pos h];congr 1;simp[show 0<=v from h]
 ·rw[if_neg h];congr 1;simp;omega
theorem BJ (a b:Int):iw.f a b=some (if a<b then -1 else if a>b then 1 else 0):=by
 unfold iw.f cmp_isNaN_int.f;simp only[bne_self_eq_false,Option.bind_some,Bool.false_eq_true,if_false];split
 ·rfl
 ·split<;>rfl
theorem BL (a b:Int):Ev (fun k=>dm.f k [a,b]) (if a=0 then b else a):=by
 unfold dm.f;refine Ev.of_succ ?_;simp only[dm.l0,List.length_cons,List.length_nil,rd];by_cases e:a=0
 ·subst e
  refine Ev.of_succ ?_;simp only[dm.l0,List.length_cons,List.length_nil,rd,wrap64];simp;by_cases hb:b=0
  ·subst hb
   refine Ev.of_succ ?_;simp[dm.l0,wrap64];exact Ev.const _
  ·simp[hb];exact Ev.const _
 ·simp[e];exact Ev.const _
theorem BM (a b c d:Int):Ev (fun k=>dG.f k a b c d) (if a<c then -1 else if a>c then 1 else if b<d then -1 else if b>d then 1 else 0):=by
 unfold dG.f;simp only[BJ,Option.bind_some];refine Ev.bind (BL _ _) ?_;have e:(if(if a<c then(-1:Int) else if a>c then 1 else 0)=0 then(if b<d then(-1:Int) else if b>d then 1 else 0) else(if a<c then(-1:Int) else if a>c then 1 else 0))=(if a<c then -1 else if a>c then 1 else if b<d then -1 else if b>d then 1 else 0):=by
  by_cases h1:a<c
  ·simp[h1]
  ·by_cases g:a>c
   ·simp[h1,g]
   ·simp[h1,g]
 rw[e];exact Ev.const _
theorem t' (N:Int) (E:List S83) (r:E.length<=1000):∀(m i:Nat) (a g:Int),i+m=E.length->Ev (fun k=>bh.l0 k E E.length i N E a g) (gZ N a g (E.drop i))
 |0,i,a,g,hi=>by
  refine Ev.of_succ ?_;simp only[bh.l0,if_neg (show ¬((i:Int)<(E.length:Int)) by omega)];rw[List.drop_eq_nil_of_le (by omega)];exact Ev.const _
 |m+1,i,a,g,hi=>by
  have o:=t' N E r m (i+1) (ae E i).f0 (ae E i).f1 (by omega);refine Ev.of_succ ?_;simp only[bh.l0,if_pos (show (i:Int)<(E.length:Int) by omega),if_pos (show (0:Int)<=(i:Int) by omega),t_,Option.bind_some];rw[ng (by omega),gZ];generalize u:ae E i=x at o⊢;have key:∀b:Bool,b= !bX N x->Ev (fun k=>bh.j2 k E E.length i b N E a g x.f0 x.f1 x.f2 x.f0 x.f1) (if dQ N a g x=0 then gZ N x.f0 x.f1 (E.drop (i+1)) else dQ N a g x):=by
   rintro b rfl;refine Ev.of_succ ?_;simp only[bh.j2];cases l:bX N x with
   |false=>simp[dQ,l];exact Ev.const _
   |true=>
    simp only[Bool.not_true,Bool.false_eq_true,if_false];by_cases n:x.f0>x.f1
    ·have e:dQ N a g x=9:=by simp[dQ,l,n]
     rw[e];simp only[if_pos n];exact Ev.const _
    ·simp only[if_neg n]
     refine Ev.bind (BM _ _ _ _) ?_;by_cases s:x.f0<a\/x.f0=a/\x.f1<=g
     ·have e:dQ N a g x=9:=by
       unfold dQ;rw[l,if_neg (by decide),if_pos (by rcases s with h|h;exact .inl h;exact .inr (.inl h))]
      rw[e];have j:(if a<x.f0 then(-1:Int) else if a>x.f0 then 1 else if g<x.f1 then -1 else if g>x.f1 then 1 else 0)>=0:=by
       rw[if_neg (by omega)];split
       ·decide
       ·rw[if_neg (by omega)];split<;>decide
      simp only[if_pos j];exact Ev.const _
     ·have e:dQ N a g x=0:=by
       unfold dQ;rw[l,if_neg (by decide),if_neg (by omega)]
      rw[e];have j:¬(if a<x.f0 then(-1:Int) else if a>x.f0 then 1 else if g<x.f1 then -1 else if g>x.f1 then 1 else 0)>=0:=by
       split
       ·decide
       ·rw[if_neg (by omega),if_pos (by omega)];decide
      simp only[if_neg j,d_ (show i<=1000000 by omega),if_true];exact o
  by_cases p:0<=x.f0/\x.f0<N
  ·simp only[az p,if_true]
   by_cases h1:0<=x.f1/\x.f1<N
   ·simp only[az h1,if_true]
    by_cases q:x.f2<1
    ·simp only[if_pos q]
     exact key true (by simp[bX];omega)
    ·simp only[if_neg q]
     exact key _ (by unfold bX;by_cases j:x.f2>50<;>simp[j]<;>omega)
   ·simp only[a6 h1,Bool.false_eq_true,if_false]
    exact key true (by simp[bX];omega)
  ·simp only[a6 p,Bool.false_eq_true,if_false]
   exact key true (by simp[bX];omega)
theorem nh (N:Int) (E:List S83) (a:E.length<=1000):Ev (fun k=>bh.f k N E) (cz N E):=by
 unfold bh.f cz;have key:∀b:Bool,b=decide (N<1\/N>12)->Ev (fun k=>bh.j0 k b N E) (if N<1\/N>12 then 2 else gZ N (-1) (-1) E):=by
  rintro b rfl;refine Ev.of_succ ?_;simp only[bh.j0];by_cases h:N<1\/N>12
  ·simp[h];exact Ev.const _
  ·simp only[a6 h,Bool.false_eq_true,if_false,if_neg h]
   have:=t' N E a E.length 0 (-1) (-1) (by omega);simpa using this
 by_cases h:N<1
 ·simp only[if_pos h];exact key true (by simp[h])
 ·simp only[if_neg h];exact key _ (by simp[h])
theorem BN (N:Int) (E:List S83) (v:Int):gY.f N E v=some (decide (0<=v/\v<N)):=by
 unfold gY.f;by_cases h:v>=0
 ·rw[if_pos h];congr 1;simp[show 0<=v from h]
 ·rw[if_neg h];congr 1;simp;omega
def iP (E:List S83) (i:Nat):Int:=if i=0 then -1 else(ae E (i-1:Nat)).f0
def iQ (E:List S83) (i:Nat):Int:=if i=0 then -1 else(ae E (i-1:Nat)).f1
def cV (f:Nat->Nat->Int) (x:S83):Nat->Nat->Int:=if x.f0=x.f1 then f else fun a b=>if a=x.f1.toNat/\b=x.f0.toNat then x.f2 else if a=x.f0.toNat/\b=x.f1.toNat then x.f2 else f a b
def af (E:List S83):Nat->Nat->Int:=E.foldl cV (fun _ _=>0)
theorem ub (E:List S83) (k:Nat) (h:k<E.length):af (E.take (k+1))=cV (af (E.take k)) (ae E k):=by
 unfold af;rw[List.take_succ_eq_append_getElem h,List.foldl_append];simp[ae,a7,bK h]
def ep (n:Nat) (E:List S83):Prop:=∀x∈E,0<=x.f0/\x.f0<n/\0<=x.f1/\x.f1<n/\1<=x.f2/\x.f2<=50
theorem ep.get {n:Nat} {E:List S83} (h:ep n E) (k:Nat) (hk:k<E.length):0<=(ae E k).f0/\(ae E k).f0<n/\0<=(ae E k).f1/\(ae E k).f1<n/\1<=(ae E k).f2/\(ae E k).f2<=50:=by
 have e:ae E k=E[k]:=by simp[ae,a7,bK hk]
 rw[e];exact h _ (List.getElem_mem hk)
theorem ud {n:Nat}:∀(E:List S83) (f:Nat->Nat->Int),(∀x∈E,1<=x.f2/\x.f2<=50)->(∀i j,0<=f i j/\f i j<=50)->∀i j,0<=E.foldl cV f i j/\E.foldl cV f i j<=50
 |[],f,_,hf=>hf
 |x::E,f,h,hf=>by
  refine ud (n:=n) E _ (fun y b=>h y (List.mem_cons_of_mem _ b)) ?_;intro i j;have e:=h x (List.mem_cons_self ..);have a:=hf i j;unfold cV;split
  ·exact a
  ·dsimp only
   split
   ·omega
   ·split
    ·omega
    ·exact a
theorem ep.times {n:Nat} {E:List S83} (h:ep n E) (i j:Nat):0<=af E i j/\af E i j<=50:=ud (n:=n) E _ (fun x a=>⟨(h x a).2.2.2.2.1,(h x a).2.2.2.2.2⟩) (fun _ _=>by simp) i j
def iR (n:Int) (E:List S83):Bool:=E.all fun x=>decide (0<=x.f0/\x.f0<n/\0<=x.f1/\x.f1<n/\1<=x.f2/\x.f2<=50)
theorem jy {n:Nat} {E:List S83} (h:iR n E=true):ep n E:=fun x a=>by simpa using List.all_eq_true.1 h x a
def ix (x y:S83):Prop:=x.f0<y.f0\/x.f0=y.f0/\x.f1<y.f1
structure br (N:Int) (E:List S83):Prop where
 ok:∀x∈E,bX N x=true
 le:∀x∈E,x.f0<=x.f1
 order:E.Pairwise ix
theorem ue {N:Int}:∀{E:List S83} {a e:Int},gZ N a e E=0->(∀x∈E,bX N x=true/\x.f0<=x.f1/\(a<x.f0\/a=x.f0/\e<x.f1))/\E.Pairwise ix
 |[],_,_,_=>⟨fun x b=>absurd b (by simp),List.Pairwise.nil⟩
 |y::E,a,e,h=>by
  rw[gZ] at h;by_cases he:dQ N a e y=0
  ·rw[if_pos he] at h
   obtain⟨h1,i⟩:=ue h;have j:bX N y=true/\y.f0<=y.f1/\(a<y.f0\/a=y.f0/\e<y.f1):=by
    unfold dQ at he;cases g:bX N y with
    |false=>rw[g] at he;simp at he
    |true=>
     rw[g,if_neg (show ¬(true=false) by decide)] at he;by_cases k:y.f0<a\/y.f0=a/\y.f1<=e\/y.f0>y.f1
     ·rw[if_pos k] at he;exact absurd he (by decide)
     ·exact⟨rfl,by omega,by omega⟩
   refine⟨fun x b=>?_,List.Pairwise.cons (fun x b=>(h1 x b).2.2) i⟩;rcases List.mem_cons.1 b with rfl|b
   ·exact j
   ·have:=h1 x b
    exact⟨this.1,this.2.1,by omega⟩
  ·rw[if_neg he] at h;exact absurd h he
theorem gE {N:Int} {E:List S83} (h:cz N E=0):1<=N/\N<=12/\br N E:=by
 unfold cz at h;by_cases b:N<1\/N>12
 ·rw[if_pos b] at h;exact absurd h (by decide)
 ·rw[if_neg b] at h
  obtain⟨h1,e⟩:=ue h;exact⟨by omega,by omega,fun x a=>(h1 x a).1,fun x a=>(h1 x a).2.1,e⟩
theorem br.cI {N:Int} {E:List S83} (h:br N E):iR N E=true:=by
 refine List.all_eq_true.2 fun x a=>?_
 have:=h.ok x a;simpa [bX] using this
def gF (a b:Int) (x:S83):Bool:=decide (x.f0=min a b/\x.f1=max a b)
def db (E:List S83) (a b:Int):Int:=match E.find? (gF a b) with|some x=>x.f2|none=>0
theorem uf (x:S83) (E:List S83) (a b:Int):db (x::E) a b=if x.f0=min a b/\x.f1=max a b then x.f2 else db E a b:=by
 unfold db;rw[List.find?_cons];unfold gF;by_cases h:x.f0=min a b/\x.f1=max a b
 ·simp[h]
 ·rw[a6 h,if_neg h]
theorem oR (E:List S83) (a b:Int):db E a b=db E b a:=by
 unfold db gF;rw[show min a b=min b a by omega,show max a b=max b a by omega]
theorem ug {E:List S83} {a b:Int} (h:∀x∈E,¬(x.f0=min a b/\x.f1=max a b)):E.find? (gF a b)=none:=by
 rw[List.find?_eq_none];intro x e;simp[gF,h x e]
theorem uh (a b:Nat) (j:a≠b):∀(E:List S83) (f:Nat->Nat->Int),(∀x∈E,0<=x.f0/\x.f0<=x.f1)->E.Pairwise ix->E.foldl cV f a b=match E.find? (gF a b) with|some x=>x.f2|none=>f a b
 |[],f,_,_=>rfl
 |x::E,f,h,hp=>by
  have m:=h x (List.mem_cons_self ..);obtain⟨h1,k⟩:=List.pairwise_cons.1 hp;rw[List.foldl_cons,uh a b j E _ (fun y g=>h y (List.mem_cons_of_mem _ g)) k,List.find?_cons];by_cases l:x.f0=min (a:Int) b/\x.f1=max (a:Int) b
  ·rw[show gF a b x=true from by simp[gF,l]]
   rw[ug (fun y g n=>by have:=h1 y g;unfold ix at this;omega)];show cV f x a b=x.f2
   unfold cV;rw[if_neg (by omega)];by_cases i:a=x.f1.toNat/\b=x.f0.toNat
   ·rw[if_pos i]
   ·rw[if_neg i,if_pos (by omega)]
  ·rw[show gF a b x=false from by simp[gF];omega]
   have e:cV f x a b=f a b:=by
    unfold cV;split
    ·rfl
    ·dsimp only
     rw[if_neg (by omega),if_neg (by omega)]
   rw[e]
theorem lh {N:Int} {E:List S83} (h:br N E) (a b:Nat) (g:a≠b):af E a b=db E a b:=by
 unfold af db;exact uh a b g E _ (fun x e=>⟨by have:=h.ok x e;simp[bX] at this;omega,h.le x e⟩) h.order
theorem qB {N:Int} {E:List S83} (h:br N E) (a b:Int):0<=db E a b/\db E a b<=50:=by
 unfold db;split
 ·rename_i x e
  have:=h.ok x (List.mem_of_find?_eq_some e);simp[bX] at this;omega
 ·omega
section
attribute [local go_sem] jq jr js jt l4 l5 l6 l7
def dR.l0:Nat->Int->Int->Int->Int->List (S83)->Option (Int)
 |0,_,_,_,_,_=>none
 |k+1,x1,x2,a,e,b=>if a<(b.length:Int) then(if 0<=a then(if((ae b a).f0)=(mn x1 x2) then(if((ae b a).f1)=(mx x1 x2) then(some ((ae b a).f2)) else(dR.l0 k x1 x2 (wrap64 (a+1)) e b)) else(dR.l0 k x1 x2 (wrap64 (a+1)) e b)) else(none)) else(some 0)
def dR.f (k:Nat) (a:Int) (b:List (S83)) (e:Int) (a2:Int):Option (Int):=dR.l0 k e a2 0 a b
theorem dR.calls (k:Nat) (m:Int) (P:Option Addr) (B:Nat) (a:List (S83)) (n:Int) (a2:Int) (r:Int) (w:World) (Z:Kd.C aN w P a.length a) (aa:a.length<=B) (h:dR.f k m a n a2=some r):
  Calls Tryz.prog 147 #[.agg #[.int .i64 m,.slice P a.length B],.int .i64 n,.int .i64 a2] w fun e w'=>e= .returned (.int .i64 r)/\Below w.heap.size w w':=by
 have aB:=Tryz.underlying24;have aF:=Tryz.underlying83;have U:=zA Z;have aL:=zA aa;clear Z aa;have b:=zA (aq w.heap.size w);have H:(dR.l0 k n a2 0 m a)=some r:=h;clear h;have F:=zA H;clear H;go_enter Tryz.func147,Tryz.ntmps147
 go_wp2_with (first|((with_reducible refine aJ (N:=3) rfl ?_);(try(refine dP (by rfl) ?_;dsimp only));refine zX 3 #[.int .i64 m,.slice P a.length B] 24 ?_;intro p j w4 q hb;have l:=zA (q);have aP:=zG b j;have aS:=zG b j;replace b:=zS b hb;clear hb q j))
 go_loopg [7] k (fun kq v7 w'=>∃(i:Int),v7= .int .i64 i/\Aside0 (dR.l0 kq n a2 i m a=some r)/\Aside0 (kq<=k)/\Aside0 (w'.heap[p]? =some (.cells #[.int .i64 m,(.slice P a.length B)] 24 (0,0)))/\Aside0 (Below w.heap.size w w'))
 case atStart=>exact⟨(0),zT,F,⟨aI _⟩,⟨zK l⟩,⟨zB⟩⟩
 case round=>
  clear F;obtain⟨i,rfl,V,Q,l,b⟩:=hrel;cases gk with
  |zero=>exact absurd V.out (by simp[dR.l0])
  |succ I=>
   have H:=V.out;clear V;simp only[dR.l0] at H;by_cases G:i<(a.length:Int)
   ·rw[if_pos G] at H
    have am:=az G;clear G;by_cases R:0<=i
    ·rw[if_pos R] at H
     have a0:=az R;clear R;obtain⟨W,S⟩:∃X:Int,(mn n a2)=X:=⟨_,rfl⟩;replace H:(if((ae a i).f0)=(W) then(if((ae a i).f1)=(mx n a2) then(some ((ae a i).f2)) else(dR.l0 I n a2 (wrap64 (i+1)) m a)) else(dR.l0 I n a2 (wrap64 (i+1)) m a))=some r:=by first|(rw[S] at H;exact H)|(simp only[S] at H⊢;exact H)
     have a3:(if a2<n then a2 else n)=W:=S;by_cases J:((ae a i).f0)=(W)
     ·rw[if_pos J] at H
      obtain⟨an,ap⟩:=bH J;clear J;obtain⟨Y,T⟩:∃X:Int,(mx n a2)=X:=⟨_,rfl⟩;replace H:(if((ae a i).f1)=(Y) then(some ((ae a i).f2)) else(dR.l0 I n a2 (wrap64 (i+1)) m a))=some r:=by first|(rw[T] at H;exact H)|(simp only[T] at H⊢;exact H)
      have a4:(if n<a2 then a2 else n)=Y:=T;by_cases K:((ae a i).f1)=(Y)
      ·rw[if_pos K] at H
       obtain⟨ar,av⟩:=bH K;clear K;obtain rfl:=aH H;obtain⟨a5,a9,bd,be⟩:=ax l;have s:0<=(i:Int):=ay ‹_›;have u:i<(a.length:Int):=ay ‹_›;obtain⟨D,L,v,x,y⟩:=dE U.out i s u;cases L;replace v:=(b.out.cell (a8 w _ v)).trans v;replace x:=(b.out.cell (a8 w _ x)).trans x;replace y:=(b.out.cell (a8 w _ y)).trans y;replace s:=eq_true s;replace u:=eq_true u;go_wp2_with (first|((with_reducible refine aJ (N:=8) rfl ?_);(try(refine dP (by rfl) ?_;dsimp only));refine zX 8 #[.int .i64 0,.int .i64 0,.int .i64 0] 83 ?_;intro E j bf q hb;have M:=zA (q);have ad:=zG b j;have ag:=zG b j;replace b:=zS b hb;have z:=zA ((by rw[j];exact Nat.ne_of_lt (aA (g:=p) (o:=.cells #[.int .i64 m,.slice (some D) a.length B] 24 (0,0)) (zK l)):p≠E));have O:=zA ((by rw[j];exact Nat.ne_of_gt (aA (g:=p) (o:=.cells #[.int .i64 m,.slice (some D) a.length B] 24 (0,0)) (zK l)):E≠p));replace l:=zb l hb;clear hb q j;have bg:=O.out;have bi:=z.out;obtain⟨bk,bn,bo,bv,bw,bx⟩:=cw M))
       go_ret;exact⟨by first|rfl|(simp[eL,eM]<;>rfl)|(simp only[<-S,<-T];first|rfl|(simp[eL,eM]<;>rfl))|(simp[*,eL,eM]<;>rfl),zB⟩
      ·rw[if_neg K] at H
       obtain⟨ar,av⟩:=bI K;have F:=zA H;clear H;obtain⟨b0,b1,b2,b3⟩:=ax l;have s:0<=(i:Int):=ay ‹_›;have u:i<(a.length:Int):=ay ‹_›;obtain⟨D,L,v,x,y⟩:=dE U.out i s u;cases L;replace v:=(b.out.cell (a8 w _ v)).trans v;replace x:=(b.out.cell (a8 w _ x)).trans x;replace y:=(b.out.cell (a8 w _ y)).trans y;replace s:=eq_true s;replace u:=eq_true u;go_wp2_with (first|((with_reducible refine aJ (N:=8) rfl ?_);(try(refine dP (by rfl) ?_;dsimp only));refine zX 8 #[.int .i64 0,.int .i64 0,.int .i64 0] 83 ?_;intro E j b4 q hb;have M:=zA (q);have ad:=zG b j;have ag:=zG b j;replace b:=zS b hb;have z:=zA ((by rw[j];exact Nat.ne_of_lt (aA (g:=p) (o:=.cells #[.int .i64 m,.slice (some D) a.length B] 24 (0,0)) (zK l)):p≠E));have O:=zA ((by rw[j];exact Nat.ne_of_gt (aA (g:=p) (o:=.cells #[.int .i64 m,.slice (some D) a.length B] 24 (0,0)) (zK l)):E≠p));replace l:=zb l hb;clear hb q j;have b5:=O.out;have b6:=z.out;obtain⟨b_,b',ca,cb,cc,cd⟩:=cw M))
       go_roundg I
       case measure=>have:=Q.out;omega
       case rel=>exact⟨(wrap64 (i+1)),zT,F,⟨by have:=Q.out;omega⟩,⟨by refine zk ?_;refine aD ?_ z.out _;refine zk ?_;refine aD ?_ z.out _;refine zk ?_;refine aD ?_ z.out _;exact zK l⟩,⟨zB⟩⟩
     ·rw[if_neg J] at H
      obtain⟨an,ap⟩:=bI J;have F:=zA H;clear H;obtain⟨ce,cf,ch,ci⟩:=ax l;have s:0<=(i:Int):=ay ‹_›;have u:i<(a.length:Int):=ay ‹_›;obtain⟨D,L,v,x,y⟩:=dE U.out i s u;cases L;replace v:=(b.out.cell (a8 w _ v)).trans v;replace x:=(b.out.cell (a8 w _ x)).trans x;replace y:=(b.out.cell (a8 w _ y)).trans y;replace s:=eq_true s;replace u:=eq_true u;go_wp2_with (first|((with_reducible refine aJ (N:=8) rfl ?_);(try(refine dP (by rfl) ?_;dsimp only));refine zX 8 #[.int .i64 0,.int .i64 0,.int .i64 0] 83 ?_;intro E j cj q hb;have M:=zA (q);have ad:=zG b j;have ag:=zG b j;replace b:=zS b hb;have z:=zA ((by rw[j];exact Nat.ne_of_lt (aA (g:=p) (o:=.cells #[.int .i64 m,.slice (some D) a.length B] 24 (0,0)) (zK l)):p≠E));have O:=zA ((by rw[j];exact Nat.ne_of_gt (aA (g:=p) (o:=.cells #[.int .i64 m,.slice (some D) a.length B] 24 (0,0)) (zK l)):E≠p));replace l:=zb l hb;clear hb q j;have ck:=O.out;have cl:=z.out;obtain⟨cn,co,cq,cr,cs,cv⟩:=cw M))
      go_roundg I
      case measure=>have:=Q.out;omega
      case rel=>exact⟨(wrap64 (i+1)),zT,F,⟨by have:=Q.out;omega⟩,⟨by refine zk ?_;refine aD ?_ z.out _;refine zk ?_;refine aD ?_ z.out _;refine zk ?_;refine aD ?_ z.out _;exact zK l⟩,⟨zB⟩⟩
    ·rw[if_neg R] at H
     exact absurd H (by simp)
   ·rw[if_neg G] at H
    have am:=a6 G;clear G;obtain rfl:=aH H;obtain⟨cx,c0,c1,c2⟩:=ax l;go_wp2;go_ret;exact⟨zE,zB⟩
end
theorem ui (N:Int) (E:List S83) (a b:Int) (j:E.length<=1000):∀(m i:Nat),i+m=E.length->Ev (fun k=>dR.l0 k a b i N E) (db (E.drop i) a b)
 |0,i,hi=>by
  refine Ev.of_succ ?_;simp only[dR.l0,if_neg (show ¬((i:Int)<(E.length:Int)) by omega)];rw[List.drop_eq_nil_of_le (by omega)];exact Ev.const _
 |m+1,i,hi=>by
  have g:=ui N E a b j m (i+1) (by omega);refine Ev.of_succ ?_;simp only[dR.l0,if_pos (show (i:Int)<(E.length:Int) by omega),if_pos (show (0:Int)<=(i:Int) by omega),d_ (show i<=1000000 by omega)];rw[ng (by omega),uf];rw[show mn a b=min a b from by unfold mn;omega,show mx a b=max a b from by unfold mx;omega];by_cases e:(ae E i).f0=min a b
  ·simp only[if_pos e]
   by_cases h1:(ae E i).f1=max a b
   ·simp only[if_pos h1];rw[if_pos ⟨e,h1⟩];exact Ev.const _
   ·simp only[if_neg h1];rw[if_neg (fun h=>h1 h.2)];exact g
  ·simp only[if_neg e];rw[if_neg (fun h=>e h.1)];exact g
theorem uj (N:Int) (E:List S83) (a b:Int) (e:E.length<=1000):Ev (fun k=>dR.f k N E a b) (db E a b):=by
 unfold dR.f;have:=ui N E a b e E.length 0 (by omega);simpa using this
section
theorem ku (w:World) (g j:Nat) (v:Value):w.grownBy (w.setCell ⟨g,j,none⟩ v) (some g):=⟨rfl,rfl,rfl,by simp,fun k _ hk=>Below.heap_setCell w _ v k (fun e=>hk (by rw[e]))⟩
def ec (w:World) (g:Nat) (p:Nat->Nat):Prop:=∃cs:Array Value,w.heap[g]? =some (.cells cs 217 (0,0))/\cs.size=12/\∀i,i<12->cs[i]? =some (.int .i64 (p i:Nat))
namespace ec
variable {w w':World} {g:Nat} {p:Nat->Nat}
theorem lt (h:ec w g p):g<w.heap.size:=by
 obtain⟨cs,hb,_⟩:=h;exact aA hb
theorem cell (h:ec w g p) (i:Nat) (hi:i<12):w.cell? ⟨g,i,none⟩=some (.int .i64 (p i:Nat)):=by
 obtain⟨cs,hb,_,a⟩:=h;exact(aj hb i).trans (a i hi)
theorem frozen (h:ec w g p) (k:Nat):w.frozen? ⟨g,k,none⟩=false:=by
 obtain⟨cs,hb,_⟩:=h;exact bt hb k
theorem below (h:ec w g p) (hb:Below w.heap.size w w'):ec w' g p:=by
 obtain⟨cs,a,b⟩:=h;exact⟨cs,aE a hb,b⟩
theorem alloc (h:ec w g p) (o:Obj):ec (w.alloc o) g p:=h.below (ao (aq _ _) o)
theorem set (h:ec w g p) (i:Nat) (hi:i<12) (x:Nat):ec (w.setCell ⟨g,i,none⟩ (.int .i64 x)) g (fun j=>if j=i then x else p j):=by
 obtain⟨cs,a,b,l⟩:=h;refine⟨cs.setIfInBounds i (.int .i64 x),by simpa using bQ a i (.int .i64 x),by simp[b],?_⟩;intro k hk;by_cases e:k=i
 ·subst e
  rw[Array.getElem?_setIfInBounds_self_of_lt (by omega)];simp
 ·rw[Array.getElem?_setIfInBounds_ne (by omega),l k hk];simp[e]
theorem congr {q:Nat->Nat} (h:ec w g p) (he:∀i,i<12->q i=p i):ec w g q:=by
 obtain⟨cs,a,b,e⟩:=h;exact⟨cs,a,b,fun i hi=>by rw[he i hi];exact e i hi⟩
end ec
def iy (p:Nat->Nat):Prop:=∀i,p i<=i
def rootOf (p:Nat->Nat) (v:Nat):Nat:=if h:p v<v then rootOf p (p v) else v
termination_by v
theorem iS (p:Nat->Nat) (v:Nat):rootOf p v<=v:=by
 induction v using Nat.strongRecOn with
 |ind v a=>
  rw[rootOf];split
  ·rename_i h
   exact Nat.le_trans (a _ h) (Nat.le_of_lt h)
  ·exact aI _
def dH (p:Nat->Nat) (a b:Nat):Nat->Nat:=fun j=>if j=max (rootOf p a) (rootOf p b) then min (rootOf p a) (rootOf p b) else p j
theorem uk {p:Nat->Nat} (h:iy p) (a b:Nat):iy (dH p a b):=fun i=>by
 unfold dH;split
 ·subst_vars;omega
 ·exact h i
def aK (E:List S83):Nat->Nat:=E.foldl (fun p x=>dH p x.f0.toNat x.f1.toNat) id
theorem BO (E:List S83) (k:Nat) (h:k<E.length):aK (E.take (k+1))=dH (aK (E.take k)) (ae E k).f0.toNat (ae E k).f1.toNat:=by
 unfold aK;rw[List.take_succ_eq_append_getElem h,List.foldl_append];simp[ae,a7,bK h]
theorem um (E:List S83):iy (aK E):=by
 suffices h:∀(E:List S83) p,iy p->iy (E.foldl (fun p x=>dH p x.f0.toNat x.f1.toNat) p) from h E id (fun i=>aI _)
 intro E;induction E with
 |nil=>exact fun p h=>h
 |cons x E a=>exact fun p h=>a _ (uk h _ _)
theorem uo {k:IntKind} {a b:Int} (h:a=b):Ending.returned (.int k a)= .returned (.int k b):=by rw[h]
theorem qC (g v:Nat) (p:Nat->Nat) (w:World) (hf:iy p) (m:v<12) (hw:ec w g p):
  Calls Tryz.prog 210 #[.pointer (some ⟨g,0,none⟩),.int .i64 v] w fun e w'=>e= .returned (.int .i64 (rootOf p v:Nat))/\w=w':=by
 go_enter Tryz.func210,Tryz.ntmps210
 go_wp2;go_loop [1] (fun u=>∃k:Nat,k<12/\u= .int .i64 k/\rootOf p k=rootOf p v) (fun u=>(intOf u).toNat)
 case atStart=>exact⟨v,m,rfl,rfl⟩
 case round=>
  obtain⟨k,hk,rfl,h⟩:=hrel;have i:=Lib.hid h;clear h;have n:=hw.cell k hk;have o:(0:Int)<=(k:Int):=by omega
  have q:(k:Int)<12:=by omega
  have hle:=hf k;by_cases j:p k<k
  ·have a:rootOf p k=rootOf p (p k):=by rw[rootOf,dif_pos j]
   have b:=Lib.hid a;clear a;have r:((p k:Nat):Int)≠(k:Int):=by omega
   go_wp2;go_round
   case rel=>exact⟨p k,by omega,rfl,by rw[<-i.out,b.out]⟩
   case measure=>simp[intOf];omega
  ·have a:rootOf p k=k:=by rw[rootOf,dif_neg j]
   have b:=Lib.hid a;clear a;have l:p k=k:=by omega
   rw[l] at n;clear l;go_wp2;go_ret;exact⟨uo (by rw[<-i.out,b.out]),rfl⟩
theorem BP (g a b:Nat) (p:Nat->Nat) (w:World) (hf:iy p) (u:a<12) (hb:b<12) (hw:ec w g p):
  Calls Tryz.prog 209 #[.pointer (some ⟨g,0,none⟩),.int .i64 a,.int .i64 b] w fun e w'=>e= .returned (.tuple #[])/\ec w' g (dH p a b)/\w.grownBy w' (some g):=by
 have h1:=iS p a;have q:=iS p b;generalize k:rootOf p a=h at h1;generalize l:rootOf p b=i at q;have m:=qC g a p w hf u hw;have cb:=qC g b p w hf hb hw;rw[k] at m;rw[l] at cb;have n:=zA m;have o:=zA cb;have j:Aside0 (ec (w.setCell ⟨g,max h i,none⟩ (.int .i64 (min h i:Nat))) g (dH p a b)):=⟨by unfold dH;rw[k,l];exact hw.set _ (by omega) _⟩;have Hg:Aside0 (w.grownBy (w.setCell ⟨g,max h i,none⟩ (.int .i64 (min h i:Nat))) (some g)):=⟨ku ..⟩;clear k l m cb;have r:h<12:=by omega
 have s:i<12:=by omega
 have G:(0:Int)<=(h:Int):=by omega
 have H:(h:Int)<12:=by omega
 have v:(0:Int)<=(i:Int):=by omega
 have x:(i:Int)<12:=by omega
 have I:=hw.cell h r;have J:=hw.frozen h;have y:=hw.cell i s;have z:=hw.frozen i;have K:=zA hw;clear hw h1 q r s;rcases Nat.lt_trichotomy h i with B|heq|B
 ·rw[show max h i=i from by omega,show min h i=h from by omega] at j Hg
  have C:(h:Int)<(i:Int):=by omega
  have D:¬(i:Int)<(h:Int):=by omega
  have E:(h:Int)<=(i:Int):=by omega
  have F:¬(i:Int)<=(h:Int):=by omega
  go_enter Tryz.func209,Tryz.ntmps209
  go_wp2_with (first|(go_at_call 210;(first|(with_reducible refine n.out.mono ?_)|(with_reducible refine o.out.mono ?_));rintro e w1 ⟨rfl,rfl⟩))
  go_end0;exact⟨rfl,j.out,Hg.out⟩
 ·subst heq
  rw[Nat.max_self,Nat.min_self] at j Hg;clear y z v x;go_enter Tryz.func209,Tryz.ntmps209
  go_wp2_with (first|(go_at_call 210;(first|(with_reducible refine n.out.mono ?_)|(with_reducible refine o.out.mono ?_));rintro e w1 ⟨rfl,rfl⟩))
  go_end0;exact⟨rfl,j.out,Hg.out⟩
 ·rw[show max h i=h from by omega,show min h i=i from by omega] at j Hg
  have C:(i:Int)<(h:Int):=by omega
  have D:¬(h:Int)<(i:Int):=by omega
  have E:(i:Int)<=(h:Int):=by omega
  have F:¬(h:Int)<=(i:Int):=by omega
  go_enter Tryz.func209,Tryz.ntmps209
  go_wp2_with (first|(go_at_call 210;(first|(with_reducible refine n.out.mono ?_)|(with_reducible refine o.out.mono ?_));rintro e w1 ⟨rfl,rfl⟩))
  go_end0;exact⟨rfl,j.out,Hg.out⟩
theorem BQ (w:World):Calls Tryz.prog 208 #[] w fun e w'=>e= .returned (.agg #[.int .i64 0,.int .i64 1,.int .i64 2,.int .i64 3,.int .i64 4,.int .i64 5,.int .i64 6,.int .i64 7,.int .i64 8,.int .i64 9,.int .i64 10,.int .i64 11])/\Below w.heap.size w w':=by
 go_enter Tryz.func208,Tryz.ntmps208
 go_wp2;have g:=ao (ao (aq w.heap.size w) (.cells #[.int .i64 0,.int .i64 0,.int .i64 0,.int .i64 0,.int .i64 0,.int .i64 0,.int .i64 0,.int .i64 0,.int .i64 0,.int .i64 0,.int .i64 0,.int .i64 0] 217)) (.cells #[.int .i64 0,.int .i64 0,.int .i64 0,.int .i64 0,.int .i64 0,.int .i64 0,.int .i64 0,.int .i64 0,.int .i64 0,.int .i64 0,.int .i64 0,.int .i64 0] 217);have h:((w.alloc (.cells #[.int .i64 0,.int .i64 0,.int .i64 0,.int .i64 0,.int .i64 0,.int .i64 0,.int .i64 0,.int .i64 0,.int .i64 0,.int .i64 0,.int .i64 0,.int .i64 0] 217)).alloc (.cells #[.int .i64 0,.int .i64 0,.int .i64 0,.int .i64 0,.int .i64 0,.int .i64 0,.int .i64 0,.int .i64 0,.int .i64 0,.int .i64 0,.int .i64 0,.int .i64 0] 217)).heap[w.heap.size]? =some (.cells #[.int .i64 0,.int .i64 0,.int .i64 0,.int .i64 0,.int .i64 0,.int .i64 0,.int .i64 0,.int .i64 0,.int .i64 0,.int .i64 0,.int .i64 0,.int .i64 0] 217 (0,0)):=au (bc w _) _;have h1:ec ((w.alloc (.cells #[.int .i64 0,.int .i64 0,.int .i64 0,.int .i64 0,.int .i64 0,.int .i64 0,.int .i64 0,.int .i64 0,.int .i64 0,.int .i64 0,.int .i64 0,.int .i64 0] 217)).alloc (.cells #[.int .i64 0,.int .i64 0,.int .i64 0,.int .i64 0,.int .i64 0,.int .i64 0,.int .i64 0,.int .i64 0,.int .i64 0,.int .i64 0,.int .i64 0,.int .i64 0] 217)) (w.heap.size+1) (fun i=>if i<0 then i else 0):=by
  refine⟨#[.int .i64 0,.int .i64 0,.int .i64 0,.int .i64 0,.int .i64 0,.int .i64 0,.int .i64 0,.int .i64 0,.int .i64 0,.int .i64 0,.int .i64 0,.int .i64 0],by simpa using bc (w.alloc (.cells #[.int .i64 0,.int .i64 0,.int .i64 0,.int .i64 0,.int .i64 0,.int .i64 0,.int .i64 0,.int .i64 0,.int .i64 0,.int .i64 0,.int .i64 0,.int .i64 0] 217)) (.cells #[.int .i64 0,.int .i64 0,.int .i64 0,.int .i64 0,.int .i64 0,.int .i64 0,.int .i64 0,.int .i64 0,.int .i64 0,.int .i64 0,.int .i64 0,.int .i64 0] 217),rfl,fun i hi=>?_⟩;match i,hi with|0,_=>rfl|1,_=>rfl|2,_=>rfl|3,_=>rfl|4,_=>rfl|5,_=>rfl|6,_=>rfl|7,_=>rfl|8,_=>rfl|9,_=>rfl|10,_=>rfl|11,_=>rfl
 generalize n:w.heap.size=gb at h h1 g⊢;generalize ((w.alloc (.cells #[.int .i64 0,.int .i64 0,.int .i64 0,.int .i64 0,.int .i64 0,.int .i64 0,.int .i64 0,.int .i64 0,.int .i64 0,.int .i64 0,.int .i64 0,.int .i64 0] 217)).alloc (.cells #[.int .i64 0,.int .i64 0,.int .i64 0,.int .i64 0,.int .i64 0,.int .i64 0,.int .i64 0,.int .i64 0,.int .i64 0,.int .i64 0,.int .i64 0,.int .i64 0] 217))=W0 at h h1 g⊢;go_loopw [2,3] (fun _ i wr=>∃k:Nat,k<=12/\i= .int .i64 k/\Aside0 (wr.heap[gb]? =some (.cells #[.int .i64 0,.int .i64 0,.int .i64 0,.int .i64 0,.int .i64 0,.int .i64 0,.int .i64 0,.int .i64 0,.int .i64 0,.int .i64 0,.int .i64 0,.int .i64 0] 217 (0,0)))/\Aside0 (ec wr (gb+1) (fun i=>if i<k then i else 0))/\Aside0 (Below gb w wr)) (fun _ i _=>12- (intOf i).toNat)
 case atStart=>exact⟨0,by omega,rfl,⟨h⟩,⟨h1⟩,⟨g⟩⟩
 case round=>
  obtain⟨k,hk,rfl,a,H1,l⟩:=hrel;by_cases m:k<12
  ·have r:=H1.out.cell k m
   have hf:=H1.out.frozen k;have s:(0:Int)<=(k:Int):=by omega
   have u:(k:Int)<12:=by omega
   have o:=zA (da a.out (ku wr (gb+1) k (.int .i64 k)) (by simp));have n1:=zA ((H1.out.set k m k).congr (q:=fun i=>if i<k+1 then i else 0) (fun i hi=>by(try dsimp only);split<;>split<;>(try split)<;>omega));have p:=zA (l.out.grown (ku wr (gb+1) k (.int .i64 k)) (by have:=H1.out.lt;omega) (fun j e=>by cases e;omega));go_wp2;go_roundw
   case rel=>exact⟨k+1,by omega,by go_num,o,n1,p⟩
   case measure=>(show 12- ((k:Int)+1).toNat<12- ((k:Int)).toNat;omega)
  ·obtain rfl:k=12:=by omega
   have x:wr.cell? ⟨gb+1,0,none⟩=some (.int .i64 0):=H1.out.cell 0 (by omega);have y:wr.cell? ⟨gb,0,none⟩=some (.int .i64 0):=(aj a.out 0).trans rfl;have z:=bt a.out 0;have B:wr.cell? ⟨gb+1,1,none⟩=some (.int .i64 1):=H1.out.cell 1 (by omega);have C:wr.cell? ⟨gb,1,none⟩=some (.int .i64 0):=(aj a.out 1).trans rfl;have D:=bt a.out 1;have E:wr.cell? ⟨gb+1,2,none⟩=some (.int .i64 2):=H1.out.cell 2 (by omega);have F:wr.cell? ⟨gb,2,none⟩=some (.int .i64 0):=(aj a.out 2).trans rfl;have G:=bt a.out 2;have H:wr.cell? ⟨gb+1,3,none⟩=some (.int .i64 3):=H1.out.cell 3 (by omega);have I:wr.cell? ⟨gb,3,none⟩=some (.int .i64 0):=(aj a.out 3).trans rfl;have J:=bt a.out 3;have K:wr.cell? ⟨gb+1,4,none⟩=some (.int .i64 4):=H1.out.cell 4 (by omega);have L:wr.cell? ⟨gb,4,none⟩=some (.int .i64 0):=(aj a.out 4).trans rfl;have M:=bt a.out 4;have N:wr.cell? ⟨gb+1,5,none⟩=some (.int .i64 5):=H1.out.cell 5 (by omega);have O:wr.cell? ⟨gb,5,none⟩=some (.int .i64 0):=(aj a.out 5).trans rfl;have P:=bt a.out 5;have Q:wr.cell? ⟨gb+1,6,none⟩=some (.int .i64 6):=H1.out.cell 6 (by omega);have R:wr.cell? ⟨gb,6,none⟩=some (.int .i64 0):=(aj a.out 6).trans rfl;have S:=bt a.out 6;have T:wr.cell? ⟨gb+1,7,none⟩=some (.int .i64 7):=H1.out.cell 7 (by omega);have U:wr.cell? ⟨gb,7,none⟩=some (.int .i64 0):=(aj a.out 7).trans rfl;have V:=bt a.out 7;have W:wr.cell? ⟨gb+1,8,none⟩=some (.int .i64 8):=H1.out.cell 8 (by omega);have X:wr.cell? ⟨gb,8,none⟩=some (.int .i64 0):=(aj a.out 8).trans rfl;have Y:=bt a.out 8;have Z:wr.cell? ⟨gb+1,9,none⟩=some (.int .i64 9):=H1.out.cell 9 (by omega);have aa:wr.cell? ⟨gb,9,none⟩=some (.int .i64 0):=(aj a.out 9).trans rfl;have ab:=bt a.out 9;have ad:wr.cell? ⟨gb+1,10,none⟩=some (.int .i64 10):=H1.out.cell 10 (by omega);have ag:wr.cell? ⟨gb,10,none⟩=some (.int .i64 0):=(aj a.out 10).trans rfl;have ak:=bt a.out 10;have am:wr.cell? ⟨gb+1,11,none⟩=some (.int .i64 11):=H1.out.cell 11 (by omega);have an:wr.cell? ⟨gb,11,none⟩=some (.int .i64 0):=(aj a.out 11).trans rfl;have ap:=bt a.out 11;go_wp2;have b:=a.out;replace b:=bQ b 0 (.int .i64 0);replace b:=bQ b 1 (.int .i64 1);replace b:=bQ b 2 (.int .i64 2);replace b:=bQ b 3 (.int .i64 3);replace b:=bQ b 4 (.int .i64 4);replace b:=bQ b 5 (.int .i64 5);replace b:=bQ b 6 (.int .i64 6);replace b:=bQ b 7 (.int .i64 7);replace b:=bQ b 8 (.int .i64 8);replace b:=bQ b 9 (.int .i64 9);replace b:=bQ b 10 (.int .i64 10);replace b:=bQ b 11 (.int .i64 11);simp only[List.setIfInBounds_toArray,List.set_cons_zero,List.set_cons_succ] at b;refine bodyPost_ret (v:=.agg #[.int .i64 0,.int .i64 1,.int .i64 2,.int .i64 3,.int .i64 4,.int .i64 5,.int .i64 6,.int .i64 7,.int .i64 8,.int .i64 9,.int .i64 10,.int .i64 11]) (results_cell_row rfl _ _ gb 217 #[.int .i64 0,.int .i64 1,.int .i64 2,.int .i64 3,.int .i64 4,.int .i64 5,.int .i64 6,.int .i64 7,.int .i64 8,.int .i64 9,.int .i64 10,.int .i64 11] (0,0) _ rfl b Tryz.underlying217 rfl rfl) rfl ⟨rfl,?_⟩;iterate 12 (refine dN ?_ (by omega))
   rw[n];exact l.out
end
end Go.Proofs.YtffdiakgjakngaaGreat.P


namespace Go.Proofs.YtffdiakgjakngaaGreat.P
open Go.RowKit Go.Proofs.YtffdiakgjakngaaGreatW.PrintWords Go.Proofs.YtffdiakgjakngaaGreatW.PrintLast Go.Proofs.YtffdiakgjakngaaGreatW.PrintMore
set_option linter.unusedVariables false
set_option linter.unusedSimpArgs false
set_option maxHeartbeats 8000000
set_option maxRecDepth 100000
theorem BR (N:Int) (A0:Option Addr) (c0:Nat) (E:List S83) (w:World) (G:Kd.C aN w A0 E.length E) (H:ep 12 E):
  Calls Tryz.prog 196 #[.agg #[.int .i64 N,.slice A0 E.length c0]] w fun e w'=>e= .returned (.agg #[.int .i64 (aK E 0:Nat),.int .i64 (aK E 1:Nat),.int .i64 (aK E 2:Nat),.int .i64 (aK E 3:Nat),.int .i64 (aK E 4:Nat),.int .i64 (aK E 5:Nat),.int .i64 (aK E 6:Nat),.int .i64 (aK E 7:Nat),.int .i64 (aK E 8:Nat),.int .i64 (aK E 9:Nat),.int .i64 (aK E 10:Nat),.int .i64 (aK E 11:Nat)])/\Below w.heap.size w w':=by
 have hu:=Tryz.underlying24;have W:=Tryz.underlying83;have M:=zA H.get;clear H;go_enter Tryz.func196,Tryz.ntmps196
 go_wp2_with (first|(go_at_call 208;refine(BQ _).mono ?_;rintro e w1 ⟨rfl,hb⟩;have z:w1.heap[w.heap.size]? =some (.cells #[.int .i64 N,.slice A0 E.length c0] 24 (0,0)):=aE (au (bc w _) _) hb;have B:w1.heap[w.heap.size+1]? =some (.cells #[.int .i64 0,.int .i64 0,.int .i64 0,.int .i64 0,.int .i64 0,.int .i64 0,.int .i64 0,.int .i64 0,.int .i64 0,.int .i64 0,.int .i64 0,.int .i64 0] 217 (0,0)):=aE (heap_alloc2_new w _ _) hb;have I:=zA (aZ (ao (ao (aq w.heap.size w) _) _) hb);clear hb;have J:(w1.alloc (.cells #[.int .i64 0,.int .i64 1,.int .i64 2,.int .i64 3,.int .i64 4,.int .i64 5,.int .i64 6,.int .i64 7,.int .i64 8,.int .i64 9,.int .i64 10,.int .i64 11] 217)).cell? ⟨w.heap.size,1,none⟩=some (.slice A0 E.length c0):=(aj (au z _) 1).trans rfl))
 have o:=zA (au z (.cells #[.int .i64 0,.int .i64 1,.int .i64 2,.int .i64 3,.int .i64 4,.int .i64 5,.int .i64 6,.int .i64 7,.int .i64 8,.int .i64 9,.int .i64 10,.int .i64 11] 217));have g:=zA (au B (.cells #[.int .i64 0,.int .i64 1,.int .i64 2,.int .i64 3,.int .i64 4,.int .i64 5,.int .i64 6,.int .i64 7,.int .i64 8,.int .i64 9,.int .i64 10,.int .i64 11] 217));have n:=zA (ao I.out (.cells #[.int .i64 0,.int .i64 1,.int .i64 2,.int .i64 3,.int .i64 4,.int .i64 5,.int .i64 6,.int .i64 7,.int .i64 8,.int .i64 9,.int .i64 10,.int .i64 11] 217));have l:Aside0 (ec (w1.alloc (.cells #[.int .i64 0,.int .i64 1,.int .i64 2,.int .i64 3,.int .i64 4,.int .i64 5,.int .i64 6,.int .i64 7,.int .i64 8,.int .i64 9,.int .i64 10,.int .i64 11] 217)) w1.heap.size (aK (E.take 0))):=⟨⟨#[.int .i64 0,.int .i64 1,.int .i64 2,.int .i64 3,.int .i64 4,.int .i64 5,.int .i64 6,.int .i64 7,.int .i64 8,.int .i64 9,.int .i64 10,.int .i64 11],bc _ _,rfl,fun i hi=>by
  match i,hi with|0,_=>rfl|1,_=>rfl|2,_=>rfl|3,_=>rfl|4,_=>rfl|5,_=>rfl|6,_=>rfl|7,_=>rfl|8,_=>rfl|9,_=>rfl|10,_=>rfl|11,_=>rfl⟩⟩
 have O:w.heap.size+1<w1.heap.size:=aA B;clear z B I J;generalize (w1.alloc (.cells #[.int .i64 0,.int .i64 1,.int .i64 2,.int .i64 3,.int .i64 4,.int .i64 5,.int .i64 6,.int .i64 7,.int .i64 8,.int .i64 9,.int .i64 10,.int .i64 11] 217))=W0 at o g n l⊢;generalize w1.heap.size=gf at l O⊢;clear w1;go_loopw [10] (fun i wr=>∃k:Nat,k<=E.length/\i= .int .i64 k/\Aside0 (wr.heap[w.heap.size]? =some (.cells #[.int .i64 N,.slice A0 E.length c0] 24 (0,0)))/\Aside0 (wr.heap[w.heap.size+1]? =some (.cells #[.int .i64 0,.int .i64 0,.int .i64 0,.int .i64 0,.int .i64 0,.int .i64 0,.int .i64 0,.int .i64 0,.int .i64 0,.int .i64 0,.int .i64 0,.int .i64 0] 217 (0,0)))/\Aside0 (ec wr gf (aK (E.take k)))/\Aside0 (Below w.heap.size w wr)) (fun i _=>E.length- (intOf i).toNat)
 case atStart=>exact⟨0,by omega,rfl,o,g,l,n⟩
 case round=>
  clear o g l n;obtain⟨k,hk,rfl,o,g,l,p⟩:=hrel;by_cases K:k<E.length
  ·obtain⟨h1,D,u,F, -, -⟩:=M.out k K
   have L:=Lib.hid (BO E k K);obtain⟨ad,rfl,q,r,s⟩:=dE G k (by omega) (by omega);rw[aM] at q r s;generalize ae E k=x at h1 D u F q r s L;obtain⟨a,b,m⟩:=x;simp only at h1 D u F q r s;obtain⟨a,rfl⟩:=Int.eq_ofNat_of_zero_le h1;obtain⟨b,rfl⟩:=Int.eq_ofNat_of_zero_le u;have q:=iL p.out q;have r:=iL p.out r;have s:=iL p.out s;have X:(0:Int)<=(k:Int):=by omega
   have Y:(k:Int)<(E.length:Int):=by omega
   have Z:=G.2.1;have aa:wrap64 ((k:Int)+1)=(k:Int)+1:=by unfold wrap64;omega
   have P:=zA (l.out.alloc (.cells #[.int .i64 a,.int .i64 b,.int .i64 m] 83));have Q:=zA (au o.out (.cells #[.int .i64 a,.int .i64 b,.int .i64 m] 83));have R:=zA (au g.out (.cells #[.int .i64 a,.int .i64 b,.int .i64 m] 83));have n:=zA (ao p.out (.cells #[.int .i64 a,.int .i64 b,.int .i64 m] 83));have S:a<12:=by omega
   have hb:b<12:=by omega
   clear h1 D u F;go_wp2_with (first|(go_at_call 209;refine(BP gf a b _ _ (um _) S hb P.out).mono ?_;rintro e w2 ⟨rfl,hf,y⟩;have T:=zA hf;have n1:=zA (da Q.out y (by simp;omega));have U:=zA (da R.out y (by simp;omega));have V:=zA (Below.grown n.out y n.out.size (fun j e=>by cases e;omega));clear hf y))
   go_roundw
   case rel=>exact⟨k+1,by omega,by go_num,n1,U,⟨by rw[L.out];exact T.out⟩,V⟩
   case measure=>(show E.length- ((k:Int)+1).toNat<E.length- ((k:Int)).toNat;omega)
  ·obtain rfl:k=E.length:=by omega
   rw[List.take_length] at l;have ab:=l.out.cell 0 (by omega);have ag:wr.cell? ⟨w.heap.size+1,0,none⟩=some (.int .i64 0):=(aj g.out 0).trans rfl;have ak:=bt g.out 0;have J:=l.out.cell 1 (by omega);have am:wr.cell? ⟨w.heap.size+1,1,none⟩=some (.int .i64 0):=(aj g.out 1).trans rfl;have an:=bt g.out 1;have ap:=l.out.cell 2 (by omega);have ar:wr.cell? ⟨w.heap.size+1,2,none⟩=some (.int .i64 0):=(aj g.out 2).trans rfl;have av:=bt g.out 2;have aB:=l.out.cell 3 (by omega);have aF:wr.cell? ⟨w.heap.size+1,3,none⟩=some (.int .i64 0):=(aj g.out 3).trans rfl;have aL:=bt g.out 3;have aO:=l.out.cell 4 (by omega);have aP:wr.cell? ⟨w.heap.size+1,4,none⟩=some (.int .i64 0):=(aj g.out 4).trans rfl;have aS:=bt g.out 4;have a0:=l.out.cell 5 (by omega);have a1:wr.cell? ⟨w.heap.size+1,5,none⟩=some (.int .i64 0):=(aj g.out 5).trans rfl;have a2:=bt g.out 5;have a3:=l.out.cell 6 (by omega);have a4:wr.cell? ⟨w.heap.size+1,6,none⟩=some (.int .i64 0):=(aj g.out 6).trans rfl;have a5:=bt g.out 6;have a9:=l.out.cell 7 (by omega);have bd:wr.cell? ⟨w.heap.size+1,7,none⟩=some (.int .i64 0):=(aj g.out 7).trans rfl;have be:=bt g.out 7;have bf:=l.out.cell 8 (by omega);have bg:wr.cell? ⟨w.heap.size+1,8,none⟩=some (.int .i64 0):=(aj g.out 8).trans rfl;have bi:=bt g.out 8;have bk:=l.out.cell 9 (by omega);have bn:wr.cell? ⟨w.heap.size+1,9,none⟩=some (.int .i64 0):=(aj g.out 9).trans rfl;have bo:=bt g.out 9;have bv:=l.out.cell 10 (by omega);have bw:wr.cell? ⟨w.heap.size+1,10,none⟩=some (.int .i64 0):=(aj g.out 10).trans rfl;have bx:=bt g.out 10;have b0:=l.out.cell 11 (by omega);have b1:wr.cell? ⟨w.heap.size+1,11,none⟩=some (.int .i64 0):=(aj g.out 11).trans rfl;have b2:=bt g.out 11;go_wp2;have h:=g.out;replace h:=bQ h 0 (.int .i64 (aK E 0:Nat));replace h:=bQ h 1 (.int .i64 (aK E 1:Nat));replace h:=bQ h 2 (.int .i64 (aK E 2:Nat));replace h:=bQ h 3 (.int .i64 (aK E 3:Nat));replace h:=bQ h 4 (.int .i64 (aK E 4:Nat));replace h:=bQ h 5 (.int .i64 (aK E 5:Nat));replace h:=bQ h 6 (.int .i64 (aK E 6:Nat));replace h:=bQ h 7 (.int .i64 (aK E 7:Nat));replace h:=bQ h 8 (.int .i64 (aK E 8:Nat));replace h:=bQ h 9 (.int .i64 (aK E 9:Nat));replace h:=bQ h 10 (.int .i64 (aK E 10:Nat));replace h:=bQ h 11 (.int .i64 (aK E 11:Nat));simp only[List.setIfInBounds_toArray,List.set_cons_zero,List.set_cons_succ] at h;refine bodyPost_ret (v:=.agg #[.int .i64 (aK E 0:Nat),.int .i64 (aK E 1:Nat),.int .i64 (aK E 2:Nat),.int .i64 (aK E 3:Nat),.int .i64 (aK E 4:Nat),.int .i64 (aK E 5:Nat),.int .i64 (aK E 6:Nat),.int .i64 (aK E 7:Nat),.int .i64 (aK E 8:Nat),.int .i64 (aK E 9:Nat),.int .i64 (aK E 10:Nat),.int .i64 (aK E 11:Nat)]) (results_cell_row rfl _ _ (w.heap.size+1) 217 #[.int .i64 (aK E 0:Nat),.int .i64 (aK E 1:Nat),.int .i64 (aK E 2:Nat),.int .i64 (aK E 3:Nat),.int .i64 (aK E 4:Nat),.int .i64 (aK E 5:Nat),.int .i64 (aK E 6:Nat),.int .i64 (aK E 7:Nat),.int .i64 (aK E 8:Nat),.int .i64 (aK E 9:Nat),.int .i64 (aK E 10:Nat),.int .i64 (aK E 11:Nat)] (0,0) _ rfl h Tryz.underlying217 rfl rfl) rfl ⟨rfl,?_⟩;iterate 12 (refine dN ?_ (by simp))
   exact p.out
end Go.Proofs.YtffdiakgjakngaaGreat.P
namespace Go.Proofs.YtffdiakgjakngaaGreat.P
open Go.RowKit Go.Maps Go.Proofs.YtffdiakgjakngaaGreatW.PrintWords Go.Proofs.YtffdiakgjakngaaGreatW.PrintLast Go.Proofs.YtffdiakgjakngaaGreatW.PrintMore
set_option linter.unusedVariables false
set_option linter.unusedSimpArgs false
set_option maxHeartbeats 8000000
set_option maxRecDepth 100000
def b8 (p:Nat->Nat):Nat->Nat
 |0=>0
 |u+1=>b8 p u+(if rootOf p u=u then 1 else 0)
theorem ni (p:Nat->Nat):∀u,b8 p u<=u
 |0=>aI _
 |u+1=>by
  have:=ni p u;simp only[b8];split<;>omega
theorem mg (p:Nat->Nat) (v:Nat):rootOf p (rootOf p v)=rootOf p v:=by
 induction v using Nat.strongRecOn with
 |ind v a=>
  by_cases h:p v<v
  ·rw[show rootOf p v=rootOf p (p v) by rw[rootOf,dif_pos h]]
   exact a _ h
  ·have e:rootOf p v=v:=by rw[rootOf,dif_neg h]
   rw[e,e]
theorem qD (w:World):(zeroValue 3).run Tryz.prog w= .ok (.int .i64 0) w:=by kernel_rfl
theorem qE:Keyed Tryz.prog 3:=int_keyed Tryz.underlying3
theorem qF {a:Nat} (h:a<=1000):keyOf Tryz.prog 3 (.int .i64 a)=some (.int .i64 a):=keyOf_int_mk Tryz.underlying3 (WalkArith.wf_i64 (by omega))
def ll (p:Nat->Nat) (k m:Nat) (D:DataW Unit):Prop:=IsMap D/\∀r,r<k->rootOf p r=r->∃c:Nat,c<m/\D.atKey (.int .i64 r) (.lit (.int .i64 0))= .lit (.int .i64 c)
theorem ll.skip {p:Nat->Nat} {k m:Nat} {D:DataW Unit} (h:ll p k m D) (b:rootOf p k≠k):ll p (k+1) m D:=by
 refine⟨h.1,fun r g a=>?_⟩;by_cases e:r=k
 ·subst e;exact absurd a b
 ·exact h.2 r (by omega) a
theorem ll.put {p:Nat->Nat} {k m:Nat} {D:DataW Unit} (h:ll p k m D) (hk:k<=1000):ll p (k+1) (m+1) (D.put (.int .i64 k) (.lit (.int .i64 m))):=by
 refine⟨h.1.put _ _,fun r g a=>?_⟩;by_cases e:r=k
 ·subst e
  exact⟨m,by omega,atKey_put_same h.1 (by simp[WideAt.IsKeyLit]) _ _⟩
 ·obtain⟨c,i,b⟩:=h.2 r (by omega) a
  refine⟨c,by omega,?_⟩;rw[atKey_put_other (fun e2=>e (by injection e2;omega))];exact b
theorem uq {W a:World} {b g0 cap c:Nat} {X:List (List Int)} {oki:Nat->Prop} {ev s:Value} {e:List Int} (hH:Kd.H (Kd.slice 3 (Kd.int .i64)) 25 W b (fun q=>True/\¬W.heap.size<=q) (.slice (some ⟨g0,0,none⟩) X.length cap) X (c:Int) oki [ev]) (m:c<X.length)
  (i:W.drew.grownBy a ev.ownBlock) (k:∀q,ev.ownBlock=some q->oki q) (l:(Kd.int .i64).R 3 a b (fun q=>oki q\/W.heap.size<=q) s e) (n:g0<W.heap.size):
  Kd.S (Kd.slice 3 (Kd.int .i64)) 25 (a.setCell ⟨g0,c,none⟩ s) b (fun _=>True) (.slice (some ⟨g0,0,none⟩) X.length cap) (X.set c e):=by
 have h:=(Kd.Aw (d:=Kd.slice 3 (Kd.int .i64)) (okg:=fun q=>W.heap.size<=q) (ok:=fun _=>True) (okp:=fun q=>oki q\/W.heap.size<=q) (seg:=[s]) (j:=0) (x':=e) (Kd.tq (Kd.Am hH) i k) (by omega) (by omega) (by simp[Kd.slice]) (Kd.mL l) (fun q g=>g) (fun q g=>⟨trivial,by omega⟩)).1;rw[aM] at h;simpa [Kd.slice,World.setCells] using h
theorem ur {X:List (List Int)} {c k:Nat} {y:List Int} {x:Int} (h:∀z∈X,z.length<=k) (b:y.length<=k):∀z∈X.set c (y++[x]),z.length<=k+1:=fun z a=>by
 rcases List.mem_or_eq_of_mem_set a with h1|h1
 ·exact Nat.le_succ_of_le (h z h1)
 ·subst h1;simp;omega
theorem BS (g n:Nat) (p:Nat->Nat) (w:World) (hn:n<=12) (hf:iy p) (hw:ec w g p):
  Calls Tryz.prog 197 #[.pointer (some ⟨g,0,none⟩),.int .i64 n] w fun e w'=>∃A c,e= .returned (.slice A (b8 p n) c)/\Below w.heap.size w w':=by
 have c4:=@run_makeMap Tryz.prog;have d6:=hw.lt;go_enter Tryz.func197,Tryz.ntmps197
 go_wp2;have hB:=ao (aq w.heap.size w) (.map #[] 0);have hM:=World.ownsMap_made (H:=Unit) w Tryz.prog 3 (plainElem Tryz.prog 3);generalize cj:w.heap.size=b at hM hB⊢;generalize (w.alloc (.map #[] 0))=W0 at hM hB⊢;clear c4;go_loopw [5,11] (fun v i wr=>∃(k:Nat) (xs:List (List Int)) (D:DataW Unit),k<=n/\i= .int .i64 k/\Aside0 (xs.length=b8 p k)/\Aside0 (∀y∈xs,y.length<=k)/\Aside0 (Kd.S (Kd.slice 3 (Kd.int .i64)) 25 wr b (fun _=>True) v xs)/\Aside0 (wr.ownsMap Tryz.prog 3 (plainElem Tryz.prog 3) b k D)/\Aside0 (ll p k (b8 p k) D)/\Aside0 (Below b w wr)) (fun _ i _=>n- (intOf i).toNat)
 case atStart=>exact⟨0,[],_,by omega,rfl,⟨rfl⟩,⟨fun y hy=>absurd hy (by simp)⟩,⟨Kd.gw _ _ _ _ _⟩,⟨hM⟩,⟨isMap_empty,fun r hr=>absurd hr (by omega)⟩,⟨hB⟩⟩
 case round=>
  clear hM hB;obtain⟨k,xs,D,hk,rfl,Y,HY,Z,HM,HP,HB⟩:=hrel;by_cases d7:k<n
  ·have hle:=iS p k
   have d8:=ni p k;have CR:=zA (qC g k p wr hf (by omega) (hw.below (by rw[cj];exact HB.out)));have cl:=Lib.hid (mg p k);have Hs:Hid (b8 p (k+1)=b8 p k+(if rootOf p k=k then 1 else 0)):=Lib.hid rfl;by_cases F:rootOf p k=k
   ·have cq:=Lib.hid F
    rw[F] at CR;clear F hle;obtain⟨Ao,co,rfl⟩:=Kd.lW Z.out;have d9:xs.length<=12:=by have:=Y.out;omega
    obtain⟨es,ck,s, -⟩:=HM.out;have c6:some b≠(Value.slice Ao xs.length co).ownBlock:=fun e=>by
     obtain⟨cs,u⟩:=Kd.ow Z.out b e.symm;rw[s] at u;cases u
    have c7:=zA (Kd.kS (ok':=fun q=>q≠b) (Kd.mQ Z.out) (fun q m e=>by obtain⟨t,_,cs,u⟩:=m.2.2.2;subst e;rw[s] at u;cases u));clear s es ck;have bo:=HP.out.put (by omega);have G:b8 p (k+1)=b8 p k+1:=by rw[Hs.out,if_pos cq.out]
    rw[<-G,<-Y.out] at bo;have bg:b8 p (k+1)=xs.length+1:=by rw[G,Y.out]
    have c8:=zA bg;clear G bg;have c9:=zA bo;clear bo;go_wp2_with (first|(go_at_call 210;refine CR.out.mono ?_;rintro e w1 ⟨rfl,rfl⟩)|(at_mapUpdate;refine wpList_mapUpdate_own _ rfl _ _ _ 229 rfl 3 3 qE Tryz.underlying229 _ b k _ rfl HM.out (by unfold maxLen;omega) _ _ _ rfl rfl (qF (by omega)) _ [] (plainElem_int Tryz.underlying3 (WalkArith.wf_i64 (by omega))) ?_;intro w2 cv bv;have cx:=zA cv;have dd:=zA (Kd.ti c7.out bv (fun q m e=>m (by injection e)));have dk:=zA (HB.out.grown bv (by have:=HM.out.lt;omega) (fun q e=>by injection e with e;omega));clear cv bv)|(at_builtin;refine Kd.Ag (Kd.slice 3 (Kd.int .i64)) (w0:=w) b rfl (.tmp 24) (.tmp 25) 73 25 (.slice none 0 0) 24 rfl Tryz.underlying73 tM rfl (by decide) (by omega) _ xs [] [.slice none 0 0] (fun _=>True) (fun _=>False) rfl rfl (Kd.mL (Kd.dh _ _ _ _ _)) (fun _ hk=>hk.elim) (fun _ _=>trivial) (Kd.kS dd.out (fun q _=>⟨trivial,fun h=>h⟩)) dk.out (by have:=cx.out.lt;omega) (by omega) ?_;intro v3 W c0 c1 c2 dl;have I:=zA c0;have am:=zA c1;have l:=zA (cx.out.kept c2 c6);have J:=c9;clear c0 c1 c2 dl))
    generalize ea:D.put (.int .i64 k) (.lit (.int .i64 xs.length))=K at l J;have aa:Aside0 ((xs++[[]]).length=b8 p (k+1)):=⟨by rw[c8.out];simp⟩;have ab:Aside0 (∀y∈xs++[[]],y.length<=k):=⟨fun y hy=>by
     rcases List.mem_append.1 hy with h|h
     ·exact HY.out y h
     ·simp at h;subst h;simp⟩
    generalize hX:xs++[[]]=X at I aa ab;obtain⟨c,bw,an⟩:=J.out.2 k (by omega) cq.out;have C:∀w':World,w'.ownsMap Tryz.prog 3 (plainElem Tryz.prog 3) b (k+1) K->(Instr.lookup 229 (.map (some b)) (.int .i64 (k:Nat)) false).run Tryz.prog w'= .ok (.int .i64 c) w':=fun w' h=>by
     obtain⟨c',bx,o,_⟩:=h.lookup_int qE Tryz.underlying229 Tryz.underlying3 (qD _) (qF (a:=k) (by omega));rw[an] at o;injection o with o
     injection o with _ o
     rw[bx,o]
    have b0:=aa.out;have b1:=ni p (k+1);obtain⟨g0,cap,hv,dv,L,cells,M⟩:=Kd.p9 I.out (by omega)
    (first|subst hv|(injection hv with b2 _ b3;subst b2;subst b3))
    obtain⟨oki,cc,b4,⟨ev,rfl,j⟩,ar,av,N,hH⟩:=Kd.tr (Kd.kS (ok':=fun q=>True/\¬W.heap.size<=q) (Kd.mQ I.out) (fun q m=>⟨trivial,by have:=m.2.2.1;omega⟩)) [] (c:Int) (by omega) (by omega);have O:(X.getD (c:Int).toNat []).length<=k:=by
     have P:c<X.length:=by omega
     rw[aM,a7,bK P];exact ab.out _ (List.getElem_mem P)
    have aB:W.cell? ⟨g0,c,none⟩=some ev:=by have h1:=ar 0 _ rfl;rw[aM] at h1;simpa [Kd.slice] using h1
    have aF:W.frozen? ⟨g0,c,none⟩=false:=by have h1:=av 0;rw[aM] at h1;simpa [Kd.slice] using h1
    rw[aM] at j O;have b5:=Lib.hid (show (X.getD (c:Int).toNat [])=X.getD c [] by rw[aM]);generalize X.getD c []=y at j O b5;obtain⟨Q,ce,rfl⟩:=Kd.bm j;have aL:some b≠(Value.slice Q y.length ce).ownBlock:=fun e=>by
     obtain⟨cs,u⟩:=Kd.gQ j b e.symm;obtain⟨es,ck,s, -⟩:=l.out;rw[s] at u;cases u
    have d0:g0≠b:=fun e=>by
     subst e;obtain⟨es,ck,s, -⟩:=l.out;rw[s] at M;cases M
    have aO:some g0≠(Value.slice Q y.length ce).ownBlock:=fun e=>(N g0 (j.1 g0 e.symm)).2 rfl
    have HR:=zA (Kd.bq (Kd.bb (ok':=fun q=>oki q\/W.heap.size<=q) j (fun q m=>.inl m)));have aS:=zA hH;have a0:=zA j.1;have b6:=zA N;clear hH ar av j N M cells b4;have b_:=C _ l.out.drew;have b':=C _ ((l.out.alloc (.cells #[.int .i64 k] 3)).drew);have d1:(0:Int)<=(c:Int):=by omega
    have d2:(c:Int)<(X.length:Int):=by omega
    have a1:=zA C;have d3:c<12:=by omega
    have bg:X.length<=12:=by omega
    have P:c<X.length:=by omega
    clear C an bw b0 b1;go_region_law ((refine Kd.pT (Kd.int .i64) (w0:=w) (W:=W.drew) b (by rfl) (.tmp 36) (.tmp 38) 25 3 (.int .i64 0) 8 (by rfl) Tryz.underlying25 gB rfl (by decide) (by omega) _ y (k:Int) [.int .i64 k] (fun q=>oki q\/W.heap.size<=q) (fun _=>False) (by rfl) (by rfl) rfl (fun _ hk=>hk.elim) (fun q m=>.inr m) HR.out (bZ am.out) (by have:=am.out.size;show b<=W.heap.size;omega) (by omega) ?_;intro v4 x R a2 B ca;obtain⟨T,U,a3⟩:=Kd.bm R;rw[show (y++[(k:Int)]).length=y.length+1 by simp] at a3;subst a3;have a4:=zA R;have V:=zA a2;have E:=zA B;have cb:=a1.out _ (l.out.drew.kept B aL);have cd:x.cell? ⟨g0,c,none⟩=some (.slice Q y.length ce):=(B.cell_far ⟨g0,c,none⟩ L aO).trans aB;have cf:x.frozen? ⟨g0,c,none⟩=false:=(B.frozen_far ⟨g0,c,none⟩ L aO).trans aF;clear R a2 B ca))
    all_goals have n0:=zA (uq aS.out (by omega) E.out a0.out a4.out L)
    all_goals have n1:=zA ((l.out.drew.kept E.out aL).kept (ku x g0 c (.slice T (y.length+1) U)) (by simp;omega))
    all_goals have n2:=zA (V.out.grown (ku x g0 c (.slice T (y.length+1) U)) (by have:=V.out.size;have:=l.out.lt;have:W.drew.heap.size=W.heap.size:=rfl;have:=E.out.size;omega) (fun q e=>by injection e with e;omega))
    all_goals have n3:=zA (J.out)
    all_goals have n4:Aside0 (∀z∈X.set c (y++[(k:Int)]),z.length<=k+1):=⟨ur ab.out O⟩
    all_goals have n5:Aside0 ((X.set c (y++[(k:Int)])).length=X.length):=⟨List.length_set⟩
    all_goals clear b_ b' cb aB aF cd cf E V a4 a1 aS a0 b6 HR
    all_goals generalize (x.setCell ⟨g0,c,none⟩ (.slice T (y.length+1) U))=w5 at n0 n1 n2⊢
    all_goals go_wp2
    all_goals exact⟨⟨k+1,_,K,by omega,by go_num,⟨by rw[n5.out];exact aa.out⟩,n4,n0,n1,n3,n2⟩,(show n- ((k:Int)+1).toNat<n- ((k:Int)).toNat by omega)⟩
   ·have d5:rootOf p k<k:=by omega
    have ed:=Lib.hid F;have J:=zA (HP.out.skip F);have G:b8 p (k+1)=b8 p k:=by rw[Hs.out,if_neg F];rfl
    have aa:=zA (Y.out.trans G.symm);rw[<-G] at J;clear G F hle;have ab:=HY;have l:=zA (HM.out.mono (Nat.le_succ k));have I:=Z;have am:=HB;clear HM Z HB HP Y HY;obtain⟨Ao,co,rfl⟩:=Kd.lW I.out;obtain⟨W,rfl⟩:∃W,W=wr:=⟨_,rfl⟩;obtain⟨X,rfl⟩:∃X,X=xs:=⟨_,rfl⟩;obtain⟨K,rfl⟩:∃K,K=D:=⟨_,rfl⟩;generalize c3:rootOf p k=r at d5 CR cl;have eg:=Lib.hid c3;clear c3;have ek:((r:Nat):Int)≠(k:Int):=by omega
    go_wp2_with (first|(go_at_call 210;refine CR.out.mono ?_;rintro e w1 ⟨rfl,rfl⟩))
    obtain⟨c,bw,an⟩:=J.out.2 r (by omega) cl.out;have C:∀w':World,w'.ownsMap Tryz.prog 3 (plainElem Tryz.prog 3) b (k+1) K->(Instr.lookup 229 (.map (some b)) (.int .i64 (r:Nat)) false).run Tryz.prog w'= .ok (.int .i64 c) w':=fun w' h=>by
     obtain⟨c',bx,o,_⟩:=h.lookup_int qE Tryz.underlying229 Tryz.underlying3 (qD _) (qF (a:=r) (by omega));rw[an] at o;injection o with o
     injection o with _ o
     rw[bx,o]
    have b0:=aa.out;have b1:=ni p (k+1);obtain⟨g0,cap,hv,dv,L,cells,M⟩:=Kd.p9 I.out (by omega)
    (first|subst hv|(injection hv with b2 _ b3;subst b2;subst b3))
    obtain⟨oki,cc,b4,⟨ev,rfl,j⟩,ar,av,N,hH⟩:=Kd.tr (Kd.kS (ok':=fun q=>True/\¬W.heap.size<=q) (Kd.mQ I.out) (fun q m=>⟨trivial,by have:=m.2.2.1;omega⟩)) [] (c:Int) (by omega) (by omega);have O:(X.getD (c:Int).toNat []).length<=k:=by
     have P:c<X.length:=by omega
     rw[aM,a7,bK P];exact ab.out _ (List.getElem_mem P)
    have aB:W.cell? ⟨g0,c,none⟩=some ev:=by have h1:=ar 0 _ rfl;rw[aM] at h1;simpa [Kd.slice] using h1
    have aF:W.frozen? ⟨g0,c,none⟩=false:=by have h1:=av 0;rw[aM] at h1;simpa [Kd.slice] using h1
    rw[aM] at j O;have b5:=Lib.hid (show (X.getD (c:Int).toNat [])=X.getD c [] by rw[aM]);generalize X.getD c []=y at j O b5;obtain⟨Q,ce,rfl⟩:=Kd.bm j;have aL:some b≠(Value.slice Q y.length ce).ownBlock:=fun e=>by
     obtain⟨cs,u⟩:=Kd.gQ j b e.symm;obtain⟨es,ck,s, -⟩:=l.out;rw[s] at u;cases u
    have d0:g0≠b:=fun e=>by
     subst e;obtain⟨es,ck,s, -⟩:=l.out;rw[s] at M;cases M
    have aO:some g0≠(Value.slice Q y.length ce).ownBlock:=fun e=>(N g0 (j.1 g0 e.symm)).2 rfl
    have HR:=zA (Kd.bq (Kd.bb (ok':=fun q=>oki q\/W.heap.size<=q) j (fun q m=>.inl m)));have aS:=zA hH;have a0:=zA j.1;have b6:=zA N;clear hH ar av j N M cells b4;have b_:=C _ l.out.drew;have b':=C _ ((l.out.alloc (.cells #[.int .i64 k] 3)).drew);have d1:(0:Int)<=(c:Int):=by omega
    have d2:(c:Int)<(X.length:Int):=by omega
    have a1:=zA C;have d3:c<12:=by omega
    have bg:X.length<=12:=by omega
    have P:c<X.length:=by omega
    clear C an bw b0 b1;go_region_law ((refine Kd.pT (Kd.int .i64) (w0:=w) (W:=W.drew) b (by rfl) (.tmp 36) (.tmp 38) 25 3 (.int .i64 0) 8 (by rfl) Tryz.underlying25 gB rfl (by decide) (by omega) _ y (k:Int) [.int .i64 k] (fun q=>oki q\/W.heap.size<=q) (fun _=>False) (by rfl) (by rfl) rfl (fun _ hk=>hk.elim) (fun q m=>.inr m) HR.out (bZ am.out) (by have:=am.out.size;show b<=W.heap.size;omega) (by omega) ?_;intro v4 x R a2 B ca;obtain⟨T,U,a3⟩:=Kd.bm R;rw[show (y++[(k:Int)]).length=y.length+1 by simp] at a3;subst a3;have a4:=zA R;have V:=zA a2;have E:=zA B;have cb:=a1.out _ (l.out.drew.kept B aL);have cd:x.cell? ⟨g0,c,none⟩=some (.slice Q y.length ce):=(B.cell_far ⟨g0,c,none⟩ L aO).trans aB;have cf:x.frozen? ⟨g0,c,none⟩=false:=(B.frozen_far ⟨g0,c,none⟩ L aO).trans aF;clear R a2 B ca))
    all_goals have n0:=zA (uq aS.out (by omega) E.out a0.out a4.out L)
    all_goals have n1:=zA ((l.out.drew.kept E.out aL).kept (ku x g0 c (.slice T (y.length+1) U)) (by simp;omega))
    all_goals have n2:=zA (V.out.grown (ku x g0 c (.slice T (y.length+1) U)) (by have:=V.out.size;have:=l.out.lt;have:W.drew.heap.size=W.heap.size:=rfl;have:=E.out.size;omega) (fun q e=>by injection e with e;omega))
    all_goals have n3:=zA (J.out)
    all_goals have n4:Aside0 (∀z∈X.set c (y++[(k:Int)]),z.length<=k+1):=⟨ur ab.out O⟩
    all_goals have n5:Aside0 ((X.set c (y++[(k:Int)])).length=X.length):=⟨List.length_set⟩
    all_goals clear b_ b' cb aB aF cd cf E V a4 a1 aS a0 b6 HR
    all_goals generalize (x.setCell ⟨g0,c,none⟩ (.slice T (y.length+1) U))=w5 at n0 n1 n2⊢
    all_goals go_wp2
    all_goals exact⟨⟨k+1,_,K,by omega,by go_num,⟨by rw[n5.out];exact aa.out⟩,n4,n0,n1,n3,n2⟩,(show n- ((k:Int)+1).toNat<n- ((k:Int)).toNat by omega)⟩
  ·obtain rfl:k=n:=by omega
   go_wp2;go_ret;obtain⟨A,c,rfl⟩:=Kd.lW Z.out;exact⟨A,c,by rw[Y.out];rfl,by rw[cj];exact HB.out⟩
end Go.Proofs.YtffdiakgjakngaaGreat.P
namespace Go.Proofs.YtffdiakgjakngaaGreat.P
open Go.RowKit Go.Proofs.YtffdiakgjakngaaGreatW.PrintWords Go.Proofs.YtffdiakgjakngaaGreatW.PrintLast Go.Proofs.YtffdiakgjakngaaGreatW.PrintMore
set_option linter.unusedVariables false
set_option linter.unusedSimpArgs false
set_option maxHeartbeats 8000000
set_option maxRecDepth 100000
def fl (n:Nat) (E:List S83):Prop:=∀S:Nat->Bool,(∃v,v<n/\S v=true)->(∃v,v<n/\S v=false)->∃x,x∈E/\S x.f0.toNat≠S x.f1.toNat
theorem oS {p:Nat->Nat} {v:Nat} (h:p v<v):rootOf p v=rootOf p (p v):=by rw[rootOf,dif_pos h]
theorem mh {p:Nat->Nat} {v:Nat} (h:¬p v<v):rootOf p v=v:=by rw[rootOf,dif_neg h]
theorem BU {p:Nat->Nat} {v:Nat} (h:rootOf p v=v):¬p v<v:=fun a=>by
 have h1:=oS a;have b:=iS p (p v);omega
theorem mi (p:Nat->Nat) (a b v:Nat):rootOf (dH p a b) v=if rootOf p v=max (rootOf p a) (rootOf p b) then min (rootOf p a) (rootOf p b) else rootOf p v:=by
 have l:=mg p a;have hb:=mg p b;have i:rootOf p (max (rootOf p a) (rootOf p b))=max (rootOf p a) (rootOf p b):=by rw[Nat.max_def];split<;>assumption
 have hm:rootOf p (min (rootOf p a) (rootOf p b))=min (rootOf p a) (rootOf p b):=by rw[Nat.min_def];split<;>assumption
 have hle:min (rootOf p a) (rootOf p b)<=max (rootOf p a) (rootOf p b):=by omega
 have h:∀j,dH p a b j=if j=max (rootOf p a) (rootOf p b) then min (rootOf p a) (rootOf p b) else p j:=fun j=>rfl
 generalize max (rootOf p a) (rootOf p b)=M at*;generalize min (rootOf p a) (rootOf p b)=m at*;generalize dH p a b=q at*;induction v using Nat.strongRecOn with
 |ind v k=>
  by_cases e:v=M
  ·subst e
   rw[i,if_pos rfl];by_cases g:m<v
   ·have h1:q v=m:=by rw[h,if_pos rfl]
    rw[oS (by omega),h1];refine mh ?_;rw[h,if_neg (by omega)];exact BU hm
   ·rw[mh (by rw[h,if_pos rfl];exact g)]
    omega
  ·have h1:q v=p v:=by rw[h,if_neg e]
   by_cases g:p v<v
   ·rw[oS (p:=q) (by omega),h1,k _ g,oS (p:=p) g]
   ·rw[mh (p:=q) (by omega),mh (p:=p) g,if_neg e]
theorem BW (S:Nat->Bool):∀(E:List S83) (p:Nat->Nat),(∀x∈E,S x.f0.toNat=S x.f1.toNat)->(∀v,S (rootOf p v)=S v)->∀v,S (rootOf (E.foldl (fun p x=>dH p x.f0.toNat x.f1.toNat) p) v)=S v:=by
 intro E;induction E with
 |nil=>exact fun p _ h=>h
 |cons x E g=>
  intro p a h;refine g _ (fun y i=>a y (List.mem_cons_of_mem _ i)) fun v=>?_
  rw[mi];split
  ·rename_i e
   have j:=a x (List.mem_cons_self ..);have h1:=h x.f0.toNat;have k:=h x.f1.toNat;have b:=h v;rw[e] at b;rw[<-b];rw[Nat.min_def,Nat.max_def];split<;>simp_all
  ·exact h v
theorem BX:∀(E:List S83) (p:Nat->Nat) (u v:Nat),rootOf p u=rootOf p v->rootOf (E.foldl (fun p x=>dH p x.f0.toNat x.f1.toNat) p) u=rootOf (E.foldl (fun p x=>dH p x.f0.toNat x.f1.toNat) p) v:=by
 intro E;induction E with
 |nil=>exact fun p u v h=>h
 |cons x E a=>
  intro p u v h;refine a _ u v ?_;rw[mi,mi,h]
theorem BY:∀(E:List S83) (p:Nat->Nat),∀x∈E,rootOf (E.foldl (fun p x=>dH p x.f0.toNat x.f1.toNat) p) x.f0.toNat=rootOf (E.foldl (fun p x=>dH p x.f0.toNat x.f1.toNat) p) x.f1.toNat:=by
 intro E;induction E with
 |nil=>exact fun p x a=>absurd a (by simp)
 |cons y E e=>
  intro p x a;rcases List.mem_cons.1 a with rfl|a
  ·refine BX E _ _ _ ?_
   rw[mi,mi];by_cases h1:rootOf p x.f0.toNat=max (rootOf p x.f0.toNat) (rootOf p x.f1.toNat)<;>by_cases b:rootOf p x.f1.toNat=max (rootOf p x.f0.toNat) (rootOf p x.f1.toNat)
   ·rw[if_pos h1,if_pos b]
   ·rw[if_pos h1,if_neg b];omega
   ·rw[if_neg h1,if_pos b];omega
   ·omega
  ·exact e _ x a
theorem uu (p:Nat->Nat) (a:rootOf p 0=0):∀u,1<=u->1<=b8 p u
 |0,h=>by omega
 |u+1,_=>by
  by_cases e:u=0
  ·subst e;simp[b8,a]
  ·have:=uu p a u (by omega)
   simp only[b8];omega
theorem uw (p:Nat->Nat) (a:rootOf p 0=0):∀u,b8 p u=1->∀v,v<u->rootOf p v=v->v=0
 |0,h=>by simp[b8] at h
 |u+1,h=>by
  intro v g b;simp only[b8] at h;by_cases e:u=0
  ·omega
  ·have h1:=uu p a u (by omega)
   by_cases hu:rootOf p u=u
   ·rw[if_pos hu] at h;omega
   ·rw[if_neg hu] at h
    by_cases ev:v=u
    ·subst ev;exact absurd b hu
    ·exact uw p a u (by omega) v (by omega) b
theorem ux (p:Nat->Nat):∀u,1<=u->(∀v,v<u->rootOf p v=0)->b8 p u=1
 |0,h,_=>by omega
 |u+1,_,h=>by
  by_cases e:u=0
  ·subst e;simp[b8,h 0 (by omega)]
  ·have:=ux p u (by omega) (fun v a=>h v (by omega))
   simp only[b8];rw[this,h u (by omega),if_neg (fun e2=>e e2.symm)]
theorem qG {n:Nat} {E:List S83} (hn:1<=n) (r:ep n E):b8 (aK E) n=1↔fl n E:=by
 have i:rootOf (aK E) 0=0:=Nat.le_zero.1 (iS _ 0);constructor
 ·rintro h S ⟨u,hu,l⟩ ⟨v,b,m⟩
  refine Classical.byContradiction fun e=>?_
  have hS:∀x∈E,S x.f0.toNat=S x.f1.toNat:=fun x o=>Classical.byContradiction fun g=>e ⟨x,o,g⟩
  have j:=BW S E id hS (fun v=>by rw[mh (by simp)]);have k:∀w,w<n->rootOf (aK E) w=0:=fun w hw=>uw _ i n h _ (Nat.lt_of_le_of_lt (iS _ w) hw) (mg _ w)
  have h1:=j u;have a:=j v;rw[show E.foldl (fun p x=>dH p x.f0.toNat x.f1.toNat) id=aK E from rfl] at h1 a;rw[k u hu] at h1;rw[k v b] at a;rw[h1,l] at a;rw[m] at a;cases a
 ·intro h
  refine ux _ n hn fun v b=>?_
  refine Classical.byContradiction fun g=>?_
  obtain⟨x,e,q⟩:=h (fun u=>decide (rootOf (aK E) u=0)) ⟨0,by omega,by simp[i]⟩ ⟨v,b,by simp[g]⟩;have:=BY E id x e;rw[show E.foldl (fun p x=>dH p x.f0.toNat x.f1.toNat) id=aK E from rfl] at this;simp only[this,ne_eq,not_true_eq_false] at q
mutual
def cm.l0:Nat->List Bool->Int->Int->List (S83)->Option (List Bool)
 |0,_,_,_,_=>none
 |k+1,a,b,e,g=>if b<e then(cm.l1 k a b 0 e g) else(some a)
def cm.l1:Nat->List Bool->Int->Int->Int->List (S83)->Option (List Bool)
 |0,_,_,_,_,_=>none
 |k+1,b,e,g,a,h=>if g<a then(cm.l2 k b e g 0 a h) else(cm.l0 k b (wrap64 (e+1)) a h)
def cm.l2:Nat->List Bool->Int->Int->Int->Int->List (S83)->Option (List Bool)
 |0,_,_,_,_,_,_=>none
 |k+1,e,i,a,b,g,h=>if b<g then(if 0<=a then(if a<(e.length:Int) then(if bW false e a=true then((dR.f k g h a b).bind fun t132=>(if t132>0 then(if 0<=b then(if b<(e.length:Int) then(cm.l2 k (e.set (b:Int).toNat true) i a (wrap64 (b+1)) g h) else(none)) else(none)) else(cm.l2 k e i a (wrap64 (b+1)) g h))) else(cm.l2 k e i a (wrap64 (b+1)) g h)) else(none)) else(none)) else(cm.l1 k e i (wrap64 (a+1)) g h)
end
def cm.f (k:Nat) (a:Int) (g:List (S83)) (b:Int):Option (List Bool):=if 0<=a then(if(a:Int).toNat<=281474976710656 then((some (List.replicate (a:Int).toNat false:List Bool)).bind fun e=>(if 0<=b then(if b<(e.length:Int) then(cm.l0 k (e.set (b:Int).toNat true) 0 a g) else(none)) else(none))) else(none)) else(none)
theorem cm.calls (k:Nat) (g:Int) (P:Option Addr) (Q:Nat) (l:List (S83)) (x:Int) (r:List Bool) (w:World) (bo:Kd.C aN w P l.length l) (bv:l.length<=Q) (h:cm.f k g l x=some r):
  Calls Tryz.prog 131 #[.agg #[.int .i64 g,.slice P l.length Q],.int .i64 x] w fun e w'=>∃bw:Value,e= .returned (bw)/\Kd.R Kd.bool 4 w' w.heap.size (fun _=>True) bw r/\Below w.heap.size w w':=by
 have d7:=Tryz.underlying24;have bx:=zA bo;have b0:=zA bv;clear bo bv;have q:=zA (aq w.heap.size w);unfold cm.f at h;have H:=h;clear h;by_cases c3:0<=g
 ·rw[if_pos c3] at H
  have ch:=eq_true c3;have ci:=az c3;clear c3;by_cases c4:(g:Int).toNat<=281474976710656
  ·rw[if_pos c4] at H
   have cj:=eq_true c4;have ck:=az c4;clear c4;obtain⟨M,aP⟩:∃X:List Bool,X=(List.replicate (g:Int).toNat false):=⟨_,rfl⟩;replace H:(if 0<=x then(if x<(M.length:Int) then(cm.l0 k (M.set (x:Int).toNat true) 0 g l) else(none)) else(none))=some r:=zh aP H;have b1:=zA aP;clear aP;by_cases c5:0<=x
   ·rw[if_pos c5] at H
    have cl:=az c5;clear c5;by_cases c6:x<(M.length:Int)
    ·rw[if_pos c6] at H
     have cn:=az c6;clear c6;obtain⟨aS,a0⟩:∃X:List Bool,X=(M.set (x:Int).toNat true):=⟨_,rfl⟩;replace H:(cm.l0 k aS 0 g l)=some r:=zh a0 H;have co:=zA a0;clear a0;have n:=zA H;clear H;go_enter Tryz.func131,Tryz.ntmps131
     go_wp2_with (first|((with_reducible refine aJ (N:=2) rfl ?_);refine zX 2 #[.int .i64 g,.slice P l.length Q] 24 ?_;intro a2 hg w8 b2 hb;have a:=zA (b2);have d9:=zG q hg;have ea:=zG q hg;replace q:=zS q hb;clear hb b2 hg;obtain⟨cq,cr,cs,cv⟩:=ax a)|((with_reducible refine aJ (N:=11) rfl ?_);refine Kd.kg Kd.bool _ 4 rfl (N:=11) rfl 43 _ _ rfl g rfl rfl Tryz.underlying43 (.bool false) 1 mX rfl (by decide) (by omega) false (ok:=fun _=>True) (okp:=fun _=>True) rfl (fun _ hk=>hk) trivial (ay ‹_›) (Nat.le_trans (Nat.mul_le_mul_right _ (ay ‹_› :g.toNat<=281474976710656)) (by omega)) (aq _ _) (aI _) ?_;intro eb b3 Y hb cx c0;clear cx c0;(first|rw[<-b1.out] at Y|(simp only[Int.reduceToNat] at Y;rw[<-b1.out] at Y));have O:=zA (Kd.bj Y (bu zB));replace a:=zb a hb;replace q:=zS q hb;clear hb Y;have p7:0<=(x:Int):=ay ‹_›;have q7:(x:Int)<((M.length:Int):Int):=ay ‹_›;obtain⟨z,Z,b4,b5,c1,ed,b6⟩:=Kd.fK O.out (by omega);(first|cases b4|(injection b4 with ar c2 c7;(first|subst ar|(injection ar with ar;subst ar));subst c7;clear c2));have b':=zA b5;have eg:=zA b6;clear b5 c1 b6;obtain⟨c8,ek⟩:=Kd.b7 false O.out (x:Int) p7 q7;replace p7:=eq_true p7;replace q7:=eq_true q7;obtain⟨el,em⟩:=Kd.b7 false O.out (x:Int) (ay ‹_›) (ay ‹_›);have a3:=Kd.dt O.out (x:Int) true)|((with_reducible refine ki (t:=4) (p:=14) rfl ?_);refine kh (t:=4) (p:=14) (v:=?IJ) (w1:=(b3.setCell ⟨z,(x:Int).toNat,none⟩ (.bool true))) ?hg ?ho ?hn ?hr ?_;(case ho=>rfl);(case hg=>rfl);(case hn=>rfl);(case hr=>first|(go_simp;done)|(go_simp;rfl));intro a4 hw;have hg:b3.grownBy a4 (some z):=(by rw[hw];exact a3.2);have aa:Kd.R Kd.bool 4 a4 w.heap.size (fun _=>True) (.slice (some ⟨z,0,none⟩) M.length Z) aS:=(by rw[hw,co.out];exact a3.1);clear a3;replace a:=zA (da (zK a) hg (Kd.dj O.out a.out (by decide)));replace O:=zA (aa);replace q:=zA ((by rw[hw];exact dN (q.out) b'.out:Below w.heap.size w a4));clear hg hw aa))
     go_loopg [6] k (fun K v6 w'=>∃(ab:List Bool) (B:Int),v6= .int .i64 B/\Aside0 (cm.l0 K ab B g l=some r)/\Aside0 (K<=k)/\Aside0 (Kd.R Kd.bool 4 w' w.heap.size (fun _=>True) (.slice (some ⟨z,0,none⟩) M.length Z) ab)/\Aside0 (w'.heap[a2]? =some (.cells #[.int .i64 g,(.slice P l.length Q)] 24 (0,0)))/\Aside0 (Below w.heap.size w w'))
     case atStart=>exact⟨(aS),(0),zT,n,⟨aI _⟩,⟨zR O⟩,⟨zK a⟩,⟨zB⟩⟩
     case round=>
      clear n;clear ch ci cj ck cl cn p7 q7 cq cr cs cv c8;obtain⟨ab,B,rfl,D,I,b,a,q⟩:=hrel;have o:=(Kd.aQ b.out).1;rw[o] at b
      (try simp only[o])
      (try simp only[o] at a)
      cases gk with
      |zero=>exact absurd D.out (by simp[cm.l0])
      |succ k1=>
       have H:=D.out;clear D;simp only[cm.l0] at H;by_cases S:B<g
       ·rw[if_pos S] at H
        have cb:=az S;clear S;have n:=zA H;clear H;obtain⟨c9,c',dd,dk⟩:=ax a;go_wp2;go_loopg [7] k1 (fun K v7 w'=>∃(T:List Bool) (j:Int),v7= .int .i64 j/\Aside0 (cm.l1 K T B j g l=some r)/\Aside0 (K<=k1)/\Aside0 (Kd.R Kd.bool 4 w' w.heap.size (fun _=>True) (.slice (some ⟨z,0,none⟩) ab.length Z) T)/\Aside0 (w'.heap[a2]? =some (.cells #[.int .i64 g,(.slice P l.length Q)] 24 (0,0)))/\Aside0 (Below w.heap.size w w'))
        case atStart=>exact⟨(ab),(0),zT,n,⟨aI _⟩,⟨by(try simp only[o]);(with_reducible repeat(first|apply Kd.aR|apply Kd.bD|apply Kd.bq));exact b.out⟩,⟨by(try simp only[o]);exact zK a⟩,⟨zB⟩⟩
        case round=>
         clear n;clear cb c9 c' dd dk;obtain⟨T,j,rfl,D,J,b,a,q⟩:=hrel;have s:=(Kd.aQ b.out).1;rw[s] at b
         (try simp only[s])
         (try simp only[s] at a)
         cases gk with
         |zero=>exact absurd D.out (by simp[cm.l1])
         |succ k2=>
          have H:=D.out;clear D;simp only[cm.l1] at H;by_cases U:j<g
          ·rw[if_pos U] at H
           have cc:=az U;clear U;have n:=zA H;clear H;obtain⟨ds,dv,d0,d1⟩:=ax a;go_wp2;go_loopg [8] k2 (fun K v8 w'=>∃(m:List Bool) (i:Int),v8= .int .i64 i/\Aside0 (cm.l2 K m B j i g l=some r)/\Aside0 (K<=k2)/\Aside0 (Kd.R Kd.bool 4 w' w.heap.size (fun _=>True) (.slice (some ⟨z,0,none⟩) T.length Z) m)/\Aside0 (w'.heap[a2]? =some (.cells #[.int .i64 g,(.slice P l.length Q)] 24 (0,0)))/\Aside0 (Below w.heap.size w w'))
           case atStart=>exact⟨(T),(0),zT,n,⟨aI _⟩,⟨by(try simp only[o]);(try simp only[s]);(with_reducible repeat(first|apply Kd.aR|apply Kd.bD|apply Kd.bq));exact b.out⟩,⟨by(try simp only[o]);(try simp only[s]);exact zK a⟩,⟨zB⟩⟩
           case round=>
            clear n;clear cc ds dv d0 d1;obtain⟨m,i,rfl,D,L,b,a,q⟩:=hrel;have u:=(Kd.aQ b.out).1;rw[u] at b
            (try simp only[u])
            (try simp only[u] at a)
            cases gk with
            |zero=>exact absurd D.out (by simp[cm.l2])
            |succ E=>
             have H:=D.out;clear D;simp only[cm.l2] at H;by_cases V:i<g
             ·rw[if_pos V] at H
              have d3:=az V;clear V;by_cases av:0<=j
              ·rw[if_pos av] at H
               have er:=az av;clear av;by_cases aB:j<(m.length:Int)
               ·rw[if_pos aB] at H
                have es:=az aB;clear aB;obtain⟨cd,a9⟩:∃b_:Bool,b_=(bW false m j):=⟨_,rfl⟩;replace H:(if cd=true then((dR.f E g l j i).bind fun t132=>(if t132>0 then(if 0<=i then(if i<(m.length:Int) then(cm.l2 E (m.set (i:Int).toNat true) B j (wrap64 (i+1)) g l) else(none)) else(none)) else(cm.l2 E m B j (wrap64 (i+1)) g l))) else(cm.l2 E m B j (wrap64 (i+1)) g l))=some r:=by rw[<-a9] at H;exact H
                have bd:=zA a9;clear a9;by_cases aF:cd=true
                ·subst aF
                 replace H:=zi H;obtain⟨t132,ce,H⟩:=zo H;by_cases W:t132>0
                 ·rw[if_pos W] at H
                  have d5:=az W;clear W;by_cases aL:0<=i
                  ·rw[if_pos aL] at H
                   have ev:=az aL;clear aL;by_cases aO:i<(m.length:Int)
                   ·rw[if_pos aO] at H
                    have ew:=az aO;clear aO;obtain⟨be,bf⟩:∃X:List Bool,X=(m.set (i:Int).toNat true):=⟨_,rfl⟩;replace H:(cm.l2 E be B j (wrap64 (i+1)) g l)=some r:=zh bf H;have d6:=zA bf;clear bf;have n:=zA H;clear H;obtain⟨ex,ey,e0,e1⟩:=ax a;have F:0<=(j:Int):=ay ‹_›;have G:j<(m.length:Int):=ay ‹_›;obtain⟨ad,ag,y⟩:=Kd.kf (Kd.aQ b.out).2.2 j F G
                    (try rw[<-bd.out] at y)
                    obtain rfl:(⟨z,0,none⟩:Addr)=ad:=(by injection ag)
                    (first|simp only[add_plain] at y|simp only[iN] at y|simp only[Addr.add,Nat.zero_add] at y|skip)
                    replace F:=eq_true F;replace G:=eq_true G;go_wp2_with (first|(go_at_call 147;(with_reducible refine(dR.calls E g _ _ l j i t132 _ ?ah ?ai ce.out).mono ?_);(case ah=>exact Kd.aw bx.out zB);(case ai=>exact b0.out);rintro e cf ⟨rfl,hb⟩;replace b:=bz b hb;replace a:=zb a hb;replace q:=zS q hb;(try clear hb);have bg:0<=(i:Int):=ay ‹_›;have bi:(i:Int)<((m.length:Int):Int):=ay ‹_›;obtain⟨e2,e3⟩:=Kd.b7 false b.out (i:Int) bg bi;replace bg:=eq_true bg;replace bi:=eq_true bi;obtain⟨e4,e5⟩:=Kd.b7 false b.out (i:Int) (ay ‹_›) (ay ‹_›);have bk:=Kd.dt b.out (i:Int) true)|((with_reducible refine ki (t:=4) (p:=46) rfl ?_);refine kh (t:=4) (p:=46) (v:=?JC) (w1:=(cf.setCell ⟨z,(i:Int).toNat,none⟩ (.bool true))) ?hg ?ho ?hn ?hr ?_;(case ho=>rfl);(case hg=>rfl);(case hn=>rfl);(case hr=>first|(go_simp;done)|(go_simp;rfl));intro bn hw;have hg:cf.grownBy bn (some z):=(by rw[hw];exact bk.2);have aa:Kd.R Kd.bool 4 bn w.heap.size (fun _=>True) (.slice (some ⟨z,0,none⟩) m.length Z) be:=(by rw[hw,d6.out];exact bk.1);clear bk;replace a:=zA (da (zK a) hg (Kd.dj b.out a.out (by decide)));replace b:=zA (aa);replace q:=zA ((by rw[hw];exact dN (q.out) b'.out:Below w.heap.size w bn));clear hg hw aa))
                    (try simp only[<-u])
                    go_roundg E
                    case measure=>have:=I.out;have:=J.out;have:=L.out;omega
                    case rel=>exact⟨(be),(wrap64 (i+1)),zT,n,⟨by have:=I.out;have:=J.out;have:=L.out;omega⟩,⟨by(try simp only[o]);(try simp only[s]);(try simp only[u]);(with_reducible repeat(first|apply Kd.aR|apply Kd.bD|apply Kd.bq));exact b.out⟩,⟨by(try simp only[o]);(try simp only[s]);(try simp only[u]);exact zK a⟩,⟨zB⟩⟩
                   ·rw[if_neg aO] at H
                    exact absurd H (by simp)
                  ·rw[if_neg aL] at H
                   exact absurd H (by simp)
                 ·rw[if_neg W] at H
                  have d5:=a6 W;clear W;have n:=zA H;clear H;obtain⟨e6,e_,e',fb⟩:=ax a;have F:0<=(j:Int):=ay ‹_›;have G:j<(m.length:Int):=ay ‹_›;obtain⟨ad,ag,y⟩:=Kd.kf (Kd.aQ b.out).2.2 j F G
                  (try rw[<-bd.out] at y)
                  obtain rfl:(⟨z,0,none⟩:Addr)=ad:=(by injection ag)
                  (first|simp only[add_plain] at y|simp only[iN] at y|simp only[Addr.add,Nat.zero_add] at y|skip)
                  replace F:=eq_true F;replace G:=eq_true G;go_wp2_with (first|(go_at_call 147;(with_reducible refine(dR.calls E g _ _ l j i t132 _ ?ah ?ai ce.out).mono ?_);(case ah=>exact Kd.aw bx.out zB);(case ai=>exact b0.out);rintro e fd ⟨rfl,hb⟩;replace b:=bz b hb;replace a:=zb a hb;replace q:=zS q hb;(try clear hb)))
                  (try simp only[<-u])
                  go_roundg E
                  case measure=>have:=I.out;have:=J.out;have:=L.out;omega
                  case rel=>exact⟨(m),(wrap64 (i+1)),zT,n,⟨by have:=I.out;have:=J.out;have:=L.out;omega⟩,⟨by(try simp only[o]);(try simp only[s]);(try simp only[u]);(with_reducible repeat(first|apply Kd.aR|apply Kd.bD|apply Kd.bq));exact b.out⟩,⟨by(try simp only[o]);(try simp only[s]);(try simp only[u]);exact zK a⟩,⟨zB⟩⟩
                ·replace aF:=Bool.eq_false_iff.mpr aF
                 subst aF;replace H:=zj H;have n:=zA H;clear H;obtain⟨fn,fo,fq,fr⟩:=ax a;have F:0<=(j:Int):=ay ‹_›;have G:j<(m.length:Int):=ay ‹_›;obtain⟨ad,ag,y⟩:=Kd.kf (Kd.aQ b.out).2.2 j F G
                 (try rw[<-bd.out] at y)
                 obtain rfl:(⟨z,0,none⟩:Addr)=ad:=(by injection ag)
                 (first|simp only[add_plain] at y|simp only[iN] at y|simp only[Addr.add,Nat.zero_add] at y|skip)
                 replace F:=eq_true F;replace G:=eq_true G;go_wp2
                 (try simp only[<-u])
                 go_roundg E
                 case measure=>have:=I.out;have:=J.out;have:=L.out;omega
                 case rel=>exact⟨(m),(wrap64 (i+1)),zT,n,⟨by have:=I.out;have:=J.out;have:=L.out;omega⟩,⟨by(try simp only[o]);(try simp only[s]);(try simp only[u]);(with_reducible repeat(first|apply Kd.aR|apply Kd.bD|apply Kd.bq));exact b.out⟩,⟨by(try simp only[o]);(try simp only[s]);(try simp only[u]);exact zK a⟩,⟨zB⟩⟩
               ·rw[if_neg aB] at H
                exact absurd H (by simp)
              ·rw[if_neg av] at H
               exact absurd H (by simp)
             ·rw[if_neg V] at H
              have d3:=a6 V;clear V;have n:=zA H;clear H;obtain⟨ft,fv,f0,f1⟩:=ax a;go_wp2
              (try simp only[<-s,<-u])
              go_roundg E
              case measure=>have:=I.out;have:=J.out;have:=L.out;omega
              case rel=>exact⟨(m),(wrap64 (j+1)),zT,n,⟨by have:=I.out;have:=J.out;have:=L.out;omega⟩,⟨by(try simp only[o]);(try simp only[s]);(try simp only[u]);(with_reducible repeat(first|apply Kd.aR|apply Kd.bD|apply Kd.bq));exact b.out⟩,⟨by(try simp only[o]);(try simp only[s]);(try simp only[u]);exact zK a⟩,⟨zB⟩⟩
          ·rw[if_neg U] at H
           have cc:=a6 U;clear U;have n:=zA H;clear H;obtain⟨f2,f3,f4,f5⟩:=ax a;go_wp2
           (try simp only[<-o,<-s])
           go_roundg k2
           case measure=>have:=I.out;have:=J.out;omega
           case rel=>exact⟨(T),(wrap64 (B+1)),zT,n,⟨by have:=I.out;have:=J.out;omega⟩,⟨by(try simp only[o]);(try simp only[s]);(with_reducible repeat(first|apply Kd.aR|apply Kd.bD|apply Kd.bq));exact b.out⟩,⟨by(try simp only[o]);(try simp only[s]);exact zK a⟩,⟨zB⟩⟩
       ·rw[if_neg S] at H
        have cb:=a6 S;clear S;obtain rfl:=aH H;obtain⟨f6,f7,f8,f9⟩:=ax a;go_wp2;go_ret;exact⟨_,zE,by(with_reducible repeat(first|apply Kd.aR|apply Kd.bD|apply Kd.bq));exact b.out,zB⟩
    ·rw[if_neg c6] at H
     exact absurd H (by simp)
   ·rw[if_neg c5] at H
    exact absurd H (by simp)
  ·rw[if_neg c4] at H
   exact absurd H (by simp)
 ·rw[if_neg c3] at H
  exact absurd H (by simp)
mutual
def cO.l0:Nat->Int->List Bool->Int->Int->List (S83)->Option (Int)
 |0,_,_,_,_,_=>none
 |k+1,x3,x4,a,b,e=>if a<b then(if 0<=a then(if a<(x4.length:Int) then(if bW false x4 a=true then(cO.l0 k x3 x4 (wrap64 (a+1)) b e) else((cm.f k b e a).bind fun t139=>(cO.l1 k (wrap64 (x3+1)) x4 a t139 0 b e))) else(none)) else(none)) else(some x3)
def cO.l1:Nat->Int->List Bool->Int->List Bool->Int->Int->List (S83)->Option (Int)
 |0,_,_,_,_,_,_,_=>none
 |k+1,x3,x4,g,b,a,e,h=>if a<e then(if 0<=a then(if a<(x4.length:Int) then(if bW false x4 a=true then(cO.l1 k x3 (x4.set (a:Int).toNat true) g b (wrap64 (a+1)) e h) else(if a<(b.length:Int) then(cO.l1 k x3 (x4.set (a:Int).toNat (bW false b a)) g b (wrap64 (a+1)) e h) else(none))) else(none)) else(none)) else(cO.l0 k x3 x4 (wrap64 (g+1)) e h)
end
def cO.f (k:Nat) (a:Int) (b:List (S83)):Option (Int):=if 0<=a then(if(a:Int).toNat<=281474976710656 then(cO.l0 k 0 (List.replicate (a:Int).toNat false) 0 a b) else(none)) else(none)
theorem cO.calls (k:Nat) (j:Int) (O:Option Addr) (P:Nat) (l:List (S83)) (r:Int) (w:World) (b2:Kd.C aN w O l.length l) (b3:l.length<=P) (h:cO.f k j l=some r):
  Calls Tryz.prog 74 #[.agg #[.int .i64 j,.slice O l.length P]] w fun e w'=>e= .returned (.int .i64 r)/\Below w.heap.size w w':=by
 have es:=Tryz.underlying24;have cj:=zA b2;have ck:=zA b3;clear b2 b3;have q:=zA (aq w.heap.size w);unfold cO.f at h;have H:=h;clear h;by_cases c2:0<=j
 ·rw[if_pos c2] at H
  have cl:=eq_true c2;have cn:=az c2;clear c2;by_cases c3:(j:Int).toNat<=281474976710656
  ·rw[if_pos c3] at H
   have co:=eq_true c3;have cq:=az c3;clear c3;obtain⟨b4,aB⟩:∃V:List Bool,V=(List.replicate (j:Int).toNat false):=⟨_,rfl⟩;replace H:(cO.l0 k 0 b4 0 j l)=some r:=zh aB H;have b5:=zA aB;clear aB;have s:=zA H;clear H;go_enter Tryz.func74,Tryz.ntmps74
   go_wp2_with (first|((with_reducible refine aJ (N:=1) rfl ?_);refine zX 1 #[.int .i64 j,.slice O l.length P] 24 ?_;intro b6 hg w4 b' hb;have g:=zA (b');have ew:=zG q hg;have ex:=zG q hg;replace q:=zS q hb;clear hb b' hg;obtain⟨cr,cs,cv,cx⟩:=ax g)|((with_reducible refine aJ (N:=10) rfl ?_);refine Kd.kg Kd.bool _ 4 rfl (N:=10) rfl 43 _ _ rfl j rfl rfl Tryz.underlying43 (.bool false) 1 mX rfl (by decide) (by omega) false (ok:=fun _=>True) (okp:=fun _=>True) rfl (fun _ hk=>hk) trivial (ay ‹_›) (Nat.le_trans (Nat.mul_le_mul_right _ (ay ‹_› :j.toNat<=281474976710656)) (by omega)) (aq _ _) (aI _) ?_;intro c0 w6 W hb c1 c4;clear c1 c4;(first|rw[<-b5.out] at W|(simp only[Int.reduceToNat] at W;rw[<-b5.out] at W));have c5:=zA (Kd.bj W (bu zB));replace g:=zb g hb;replace q:=zS q hb;clear hb W))
   go_loopg [3,5] k (fun X v3 v5 w'=>∃(x:Int) (u:List Bool) (i:Int),v3= .int .i64 x/\v5= .int .i64 i/\Aside0 (cO.l0 X x u i j l=some r)/\Aside0 (X<=k)/\Aside0 (Kd.R Kd.bool 4 w' w.heap.size (fun _=>True) c0 u)/\Aside0 (w'.heap[b6]? =some (.cells #[.int .i64 j,(.slice O l.length P)] 24 (0,0)))/\Aside0 (Below w.heap.size w w'))
   case atStart=>exact⟨(0),(b4),(0),zT,zT,s,⟨aI _⟩,⟨zR c5⟩,⟨zK g⟩,⟨zB⟩⟩
   case round=>
    clear s;clear cl cn co cq cr cs cv cx;obtain⟨x,u,i,rfl,rfl,F,z,b,g,q⟩:=hrel;cases gk with
    |zero=>exact absurd F.out (by simp[cO.l0])
    |succ G=>
     have H:=F.out;clear F;simp only[cO.l0] at H;by_cases Q:i<j
     ·rw[if_pos Q] at H
      have ca:=az Q;clear Q;by_cases c9:0<=i
      ·rw[if_pos c9] at H
       have c6:=az c9;clear c9;by_cases ag:i<(u.length:Int)
       ·rw[if_pos ag] at H
        have c7:=az ag;clear ag;obtain⟨cb,aF⟩:∃b_:Bool,b_=(bW false u i):=⟨_,rfl⟩;replace H:(if cb=true then(cO.l0 G x u (wrap64 (i+1)) j l) else((cm.f G j l i).bind fun t139=>(cO.l1 G (wrap64 (x+1)) u i t139 0 j l)))=some r:=by rw[<-aF] at H;exact H
        have Y:=zA aF;clear aF;by_cases ak:cb=true
        ·subst ak
         replace H:=zi H;have s:=zA H;clear H;obtain⟨e0,e1,e2,e3⟩:=ax g;obtain⟨e4,e5,c'⟩:=Kd.bm b.out;subst c';have B:0<=(i:Int):=ay ‹_›;have D:i<(u.length:Int):=ay ‹_›;obtain⟨dd,aO,S⟩:=Kd.kf (Kd.aQ b.out).2.2 i B D
         (try rw[<-Y.out] at S)
         cases aO;replace B:=eq_true B;replace D:=eq_true D;go_wp2;go_roundg G
         case measure=>have:=z.out;omega
         case rel=>exact⟨(x),(u),(wrap64 (i+1)),zT,zT,s,⟨by have:=z.out;omega⟩,⟨zR b⟩,⟨zK g⟩,⟨zB⟩⟩
        ·replace ak:=Bool.eq_false_iff.mpr ak
         subst ak;replace H:=zj H;obtain⟨t139,dk,H⟩:=zo H;have s:=zA H;clear H;obtain⟨dl,ds,dv,d0⟩:=ax g;obtain⟨e6,E,d1⟩:=Kd.bm b.out;subst d1;have B:0<=(i:Int):=ay ‹_›;have D:i<(u.length:Int):=ay ‹_›;obtain⟨dd,aO,S⟩:=Kd.kf (Kd.aQ b.out).2.2 i B D
         (try rw[<-Y.out] at S)
         cases aO;obtain⟨am,d2⟩:=Kd.lV b.out;subst d2;simp only[add_plain] at S;replace B:=eq_true B;replace D:=eq_true D;go_wp2_with (first|((with_reducible refine aG (f:=131) rfl ?_);refine zL (some 25) Tryz.func131 #[.agg #[.int .i64 j,.slice O l.length P],.int .i64 i] ?_;(with_reducible refine(cm.calls G j _ _ l i t139 _ ?ah ?ai dk.out).mono ?_);(case ah=>exact Kd.aw cj.out zB);(case ai=>exact ck.out);rintro e e_ ⟨aP,rfl,aS,hb⟩;refine⟨_,rfl,?_⟩;have d3:=zA (Kd.bj (Kd.bR aS (Kd.a_ (zR b))) (bu zB));replace b:=bS b aS hb;replace g:=zb g hb;replace q:=zS q hb;(try clear hb);(try clear aS)))
         go_loopg [7] G (fun X v7 w'=>∃(m:List Bool) (a:Int),v7= .int .i64 a/\Aside0 (cO.l1 X (wrap64 (x+1)) m i t139 a j l=some r)/\Aside0 (X<=G)/\Aside0 (Kd.R Kd.bool 4 w' w.heap.size (fun I=>some I≠(aP:Value).ownBlock) (.slice (some ⟨am,0,none⟩) u.length E) m)/\Aside0 (Kd.R Kd.bool 4 w' w.heap.size (fun I=>some I≠((.slice (some ⟨am,0,none⟩) u.length E):Value).ownBlock) aP t139)/\Aside0 (w'.heap[b6]? =some (.cells #[.int .i64 j,(.slice O l.length P)] 24 (0,0)))/\Aside0 (Below w.heap.size w w'))
         case atStart=>exact⟨(u),(0),zT,s,⟨aI _⟩,⟨by(with_reducible repeat(first|apply Kd.aR|apply Kd.bD|apply Kd.bq));exact Kd.bb b.out (fun _ hk=>hk.2)⟩,⟨by(with_reducible repeat(first|apply Kd.aR|apply Kd.bD|apply Kd.bq));exact Kd.bb d3.out (fun _ hk=>hk.2)⟩,⟨zK g⟩,⟨zB⟩⟩
         case round=>
          clear s;clear ca c6 c7 dl ds dv d0 S B D;obtain⟨m,a,rfl,F,T,b,y,g,q⟩:=hrel;have o:=(Kd.aQ b.out).1;rw[o] at b
          (try simp only[o])
          (try simp only[o] at g)
          (try simp only[o] at y)
          cases gk with
          |zero=>exact absurd F.out (by simp[cO.l1])
          |succ J=>
           have H:=F.out;clear F;simp only[cO.l1] at H;by_cases U:a<j
           ·rw[if_pos U] at H
            have d5:=az U;clear U;by_cases an:0<=a
            ·rw[if_pos an] at H
             have e':=az an;clear an;by_cases ap:a<(m.length:Int)
             ·rw[if_pos ap] at H
              have fb:=az ap;clear ap;obtain⟨cc,a0⟩:∃b_:Bool,b_=(bW false m a):=⟨_,rfl⟩;replace H:(if cc=true then(cO.l1 J (wrap64 (x+1)) (m.set (a:Int).toNat true) i t139 (wrap64 (a+1)) j l) else(if a<(t139.length:Int) then(cO.l1 J (wrap64 (x+1)) (m.set (a:Int).toNat (bW false t139 a)) i t139 (wrap64 (a+1)) j l) else(none)))=some r:=by rw[<-a0] at H;exact H
              have a1:=zA a0;clear a0;by_cases ar:cc=true
              ·subst ar
               replace H:=zi H;obtain⟨a2,a3⟩:∃V:List Bool,V=(m.set (a:Int).toNat true):=⟨_,rfl⟩;replace H:(cO.l1 J (wrap64 (x+1)) a2 i t139 (wrap64 (a+1)) j l)=some r:=zh a3 H;have d6:=zA a3;clear a3;have s:=zA H;clear H;obtain⟨fd,fn,fo,fq⟩:=ax g;have K:0<=(a:Int):=ay ‹_›;have L:a<(m.length:Int):=ay ‹_›;obtain⟨a4,a5,M⟩:=Kd.kf (Kd.aQ b.out).2.2 a K L
               (try rw[<-Y.out] at M)
               (try rw[<-a1.out] at M)
               obtain rfl:(⟨am,0,none⟩:Addr)=a4:=(by injection a5);replace K:=eq_true K;replace L:=eq_true L;have a9:0<=(a:Int):=ay ‹_›;have bd:(a:Int)<((m.length:Int):Int):=ay ‹_›;obtain⟨Z,fr,d7,cd,d8,ft,ce⟩:=Kd.fK b.out (by omega)
               (first|(injection d7 with n be bf;(first|subst n|(injection n with n;first|subst n|(injection n with n;have n:=n.symm;subst n)));subst bf;clear be))
               have d9:=zA cd;have fv:=zA ce;clear cd d8 ce
               (first|simp only[add_plain] at S|skip)
               (first|simp only[add_plain] at M|skip)
               obtain⟨f0,f1⟩:=Kd.b7 false b.out (a:Int) a9 bd;replace a9:=eq_true a9;replace bd:=eq_true bd;have bg:=Kd.dt b.out (a:Int) true;go_wp2_with (first|((with_reducible refine ki (t:=4) (p:=44) rfl ?_);refine kh (t:=4) (p:=44) (v:=?IK) (w1:=(wr.setCell ⟨Z,(a:Int).toNat,none⟩ (.bool true))) ?hg ?ho ?hn ?hr ?_;(case ho=>rfl);(case hg=>rfl);(case hn=>rfl);(case hr=>first|(go_simp;done)|(go_simp;rfl));intro bi hw;have hg:wr.grownBy bi (some Z):=(by rw[hw];exact bg.2);have aa:Kd.R Kd.bool 4 bi w.heap.size (fun I=>some I≠(aP:Value).ownBlock) (.slice (some ⟨Z,0,none⟩) m.length E) a2:=(by rw[hw,d6.out];exact bg.1);clear bg;replace y:=zA (Kd.sL (v:=(.slice (some ⟨Z,0,none⟩) m.length E)) (v1:=(.slice (some ⟨Z,0,none⟩) m.length E)) (ok:=(fun _=>True)) (by(with_reducible repeat(first|apply Kd.aR|apply Kd.bD|apply Kd.bq));exact Kd.bb y.out (fun _ hk=>⟨trivial,hk⟩)) hg (.inl rfl));replace g:=zA (da (zK g) hg (Kd.dj b.out g.out (by decide)));replace b:=zA (aa);replace q:=zA ((by rw[hw];exact dN (q.out) d9.out:Below w.heap.size w bi));clear hg hw aa))
               (try simp only[<-o])
               go_roundg J
               case measure=>have:=z.out;have:=T.out;omega
               case rel=>exact⟨(a2),(wrap64 (a+1)),zT,s,⟨by have:=z.out;have:=T.out;omega⟩,⟨by(try simp only[o]);(with_reducible repeat(first|apply Kd.aR|apply Kd.bD|apply Kd.bq));exact b.out⟩,⟨by(try simp only[o]);(with_reducible repeat(first|apply Kd.aR|apply Kd.bD|apply Kd.bq));exact Kd.bb y.out (fun _ hk=>hk.2)⟩,⟨by(try simp only[o]);exact zK g⟩,⟨zB⟩⟩
              ·replace ar:=Bool.eq_false_iff.mpr ar
               subst ar;replace H:=zj H;by_cases av:a<(t139.length:Int)
               ·rw[if_pos av] at H
                have f2:=az av;clear av;obtain⟨bk,bn⟩:∃V:List Bool,V=(m.set (a:Int).toNat (bW false t139 a)):=⟨_,rfl⟩;replace H:(cO.l1 J (wrap64 (x+1)) bk i t139 (wrap64 (a+1)) j l)=some r:=zh bn H;have ea:=zA bn;clear bn;have s:=zA H;clear H;obtain⟨f3,f4,f5,f6⟩:=ax g;have K:0<=(a:Int):=ay ‹_›;have L:a<(m.length:Int):=ay ‹_›;obtain⟨a4,a5,M⟩:=Kd.kf (Kd.aQ b.out).2.2 a K L
                (try rw[<-Y.out] at M)
                (try rw[<-a1.out] at M)
                obtain rfl:(⟨am,0,none⟩:Addr)=a4:=(by injection a5);replace K:=eq_true K;replace L:=eq_true L;obtain⟨f7,eb,ed⟩:=Kd.bm y.out;subst ed;have bo:0<=(a:Int):=ay ‹_›;have bv:a<(t139.length:Int):=ay ‹_›;obtain⟨eg,ek,cf⟩:=Kd.kf (Kd.aQ y.out).2.2 a bo bv
                (try rw[<-Y.out] at cf)
                (try rw[<-a1.out] at cf)
                cases ek;replace bo:=eq_true bo;replace bv:=eq_true bv;have bw:0<=(a:Int):=ay ‹_›;have bx:(a:Int)<((m.length:Int):Int):=ay ‹_›;obtain⟨ab,f8,el,ch,em,f9,ci⟩:=Kd.fK b.out (by omega)
                (first|(injection el with n be bf;(first|subst n|(injection n with n;first|subst n|(injection n with n;have n:=n.symm;subst n)));subst bf;clear be))
                have er:=zA ch;have f':=zA ci;clear ch em ci
                (first|simp only[add_plain] at M|skip)
                obtain⟨gb,gc⟩:=Kd.b7 false b.out (a:Int) bw bx;replace bw:=eq_true bw;replace bx:=eq_true bx;have b0:=Kd.dt b.out (a:Int) (bW false t139 a);go_wp2_with (first|((with_reducible refine ki (t:=4) (p:=44) rfl ?_);refine kh (t:=4) (p:=44) (v:=?JD) (w1:=(wr.setCell ⟨ab,(a:Int).toNat,none⟩ (.bool (bW false t139 a)))) ?hg ?ho ?hn ?hr ?_;(case ho=>rfl);(case hg=>rfl);(case hn=>rfl);(case hr=>first|(go_simp;done)|(go_simp;rfl));intro b1 hw;have hg:wr.grownBy b1 (some ab):=(by rw[hw];exact b0.2);have aa:Kd.R Kd.bool 4 b1 w.heap.size (fun I=>some I≠(.slice (some eg) t139.length eb:Value).ownBlock) (.slice (some ⟨ab,0,none⟩) m.length E) bk:=(by rw[hw,ea.out];exact b0.1);clear b0;replace y:=zA (Kd.sL (v:=(.slice (some ⟨ab,0,none⟩) m.length E)) (v1:=(.slice (some ⟨ab,0,none⟩) m.length E)) (ok:=(fun _=>True)) (by(with_reducible repeat(first|apply Kd.aR|apply Kd.bD|apply Kd.bq));exact Kd.bb y.out (fun _ hk=>⟨trivial,hk⟩)) hg (.inl rfl));replace g:=zA (da (zK g) hg (Kd.dj b.out g.out (by decide)));replace b:=zA (aa);replace q:=zA ((by rw[hw];exact dN (q.out) er.out:Below w.heap.size w b1));clear hg hw aa))
                (try simp only[<-o])
                go_roundg J
                case measure=>have:=z.out;have:=T.out;omega
                case rel=>exact⟨(bk),(wrap64 (a+1)),zT,s,⟨by have:=z.out;have:=T.out;omega⟩,⟨by(try simp only[o]);(with_reducible repeat(first|apply Kd.aR|apply Kd.bD|apply Kd.bq));exact b.out⟩,⟨by(try simp only[o]);(with_reducible repeat(first|apply Kd.aR|apply Kd.bD|apply Kd.bq));exact Kd.bb y.out (fun _ hk=>hk.2)⟩,⟨by(try simp only[o]);exact zK g⟩,⟨zB⟩⟩
               ·rw[if_neg av] at H
                exact absurd H (by simp)
             ·rw[if_neg ap] at H
              exact absurd H (by simp)
            ·rw[if_neg an] at H
             exact absurd H (by simp)
           ·rw[if_neg U] at H
            have d5:=a6 U;clear U;have s:=zA H;clear H;obtain⟨gd,ge,gf,gg⟩:=ax g;go_wp2
            (try simp only[<-o])
            go_roundg J
            case measure=>have:=z.out;have:=T.out;omega
            case rel=>exact⟨((wrap64 (x+1))),(m),(wrap64 (i+1)),zT,zT,s,⟨by have:=z.out;have:=T.out;omega⟩,⟨by(try simp only[o]);(with_reducible repeat(first|apply Kd.aR|apply Kd.bD|apply Kd.bq));exact Kd.bb b.out (fun _ hk=>trivial)⟩,⟨by(try simp only[o]);exact zK g⟩,⟨zB⟩⟩
       ·rw[if_neg ag] at H
        exact absurd H (by simp)
      ·rw[if_neg c9] at H
       exact absurd H (by simp)
     ·rw[if_neg Q] at H
      have ca:=a6 Q;clear Q;obtain rfl:=aH H;obtain⟨gi,gl,gm,gn⟩:=ax g;go_wp2;go_ret;exact⟨zE,zB⟩
  ·rw[if_neg c3] at H
   exact absurd H (by simp)
 ·rw[if_neg c2] at H
  exact absurd H (by simp)
def mj.f (k:Nat) (a:Int) (b:List (S83)):Option (Bool):=(cO.f k a b).bind fun t147=>(some (t147==1))
theorem mj.calls (k:Nat) (b:Int) (i:Option Addr) (j:Nat) (a:List (S83)) (r:Bool) (w:World) (n:Kd.C aN w i a.length a) (o:a.length<=j) (h:mj.f k b a=some r):
  Calls Tryz.prog 104 #[.agg #[.int .i64 b,.slice i a.length j]] w fun e w'=>e= .returned (.bool r)/\Below w.heap.size w w':=by
 have v:=Tryz.underlying24;have q:=zA n;have s:=zA o;clear n o;have g:=zA (aq w.heap.size w);have H:((cO.f k b a).bind fun t147=>(some (t147==1)))=some r:=h;clear h;obtain⟨t147,u,H⟩:=zo H;obtain rfl:=aH H;go_enter Tryz.func104,Tryz.ntmps104
 go_wp2_with (first|((with_reducible refine aJ (N:=1) rfl ?_);refine zX 1 #[.int .i64 b,.slice i a.length j] 24 ?_;intro x l w3 p hb;have m:=zA (p);have y:=zG g l;have z:=zG g l;replace g:=zS g hb;clear hb p l;obtain⟨B,D,E,F⟩:=ax m)|((with_reducible refine aG (f:=74) rfl ?_);refine zL (some 4) Tryz.func74 #[.agg #[.int .i64 b,.slice i a.length j]] ?_;(with_reducible refine(cO.calls k b _ _ a t147 _ ?ah ?ai u.out).mono ?_);(case ah=>exact Kd.aw q.out zB);(case ai=>exact s.out);rintro e G ⟨rfl,hb⟩;refine⟨_,rfl,?_⟩;replace m:=zb m hb;replace g:=zS g hb;(try clear hb)))
 go_ret;exact⟨zE,zB⟩
def bl (o:List Bool) (i:Nat):Bool:=o.getD i false
theorem qH (o:List Bool) (i:Nat):bW false o (i:Int)=bl o i:=by simp[bW,bl]
theorem mo (o:List Bool) (i j:Nat) (b:Bool):bl (o.set i b) j=if i=j/\j<o.length then b else bl o j:=by
 unfold bl;rw[a7,a7,List.getElem?_set];by_cases h:i=j
 ·subst h
  by_cases a:i<o.length
  ·simp[a]
  ·simp[a]
 ·simp[h]
def gG (E:List S83) (a:Nat) (o:List Bool) (b:Nat):List Bool:=if bl o a=true/\db E a b>0 then o.set b true else o
def jP (E:List S83) (n:Nat) (o:List Bool) (a:Nat):List Bool:=(List.range' 0 n).foldl (gG E a) o
def jQ (E:List S83) (n:Nat) (o:List Bool):List Bool:=(List.range' 0 n).foldl (jP E n) o
def iT (E:List S83) (n:Nat):Nat->List Bool->List Bool
 |0,o=>o
 |m+1,o=>iT E n m (jQ E n o)
def fE (E:List S83) (n v:Nat):List Bool:=iT E n n ((List.replicate n false).set v true)
theorem qI (E:List S83) (a b:Nat) (o:List Bool):(gG E a o b).length=o.length:=by unfold gG;split<;>simp
theorem mq {f:List Bool->Nat->List Bool} (h:∀o b,(f o b).length=o.length):∀(l:List Nat) (o:List Bool),(l.foldl f o).length=o.length
 |[],_=>rfl
 |x::l,o=>by rw[List.foldl_cons,mq h l,h]
theorem qJ (E:List S83) (n a:Nat) (o:List Bool):(jP E n o a).length=o.length:=mq (fun o b=>qI E a b o) _ _
theorem qK (E:List S83) (n:Nat) (o:List Bool):(jQ E n o).length=o.length:=mq (fun o a=>qJ E n a o) _ _
theorem uy (E:List S83) (n:Nat):∀m o,(iT E n m o).length=o.length
 |0,_=>rfl
 |m+1,o=>by rw[iT,uy E n m,qK]
theorem uz (E:List S83) (i:E.length<=1000) (n a g:Nat) (hn:n<=1000) (p:a<n) (r:List Bool):∀(m j:Nat) (o:List Bool),j+m=n->o.length=n->Ev (fun k=>cm.l1 k ((List.range' j m).foldl (gG E a) o) g ((a+1:Nat):Int) n E) r->Ev (fun k=>cm.l2 k o g a j n E) r
 |0,j,o,q,l,h=>by
  refine Ev.of_succ ?_;simp only[cm.l2,if_neg (show ¬((j:Int)<(n:Int)) by omega),d_ (show a<=1000000 by omega)];exact h
 |m+1,j,o,q,l,h=>by
  rw[List.range'_succ,List.foldl_cons] at h;have b:=uz E i n a g hn p r m (j+1) (gG E a o j) (by omega) (by rw[qI];exact l) h;refine Ev.of_succ ?_;simp only[cm.l2,if_pos (show (j:Int)<(n:Int) by omega),if_pos (show (0:Int)<=(a:Int) by omega),if_pos (show (a:Int)<(o.length:Int) by omega),if_pos (show (0:Int)<=(j:Int) by omega),if_pos (show (j:Int)<(o.length:Int) by omega),d_ (show j<=1000000 by omega),qH,aM];unfold gG at b;by_cases h1:bl o a=true
  ·simp only[if_pos h1]
   refine Ev.bind (uj n E a j i) ?_;by_cases e:db E a j>0
   ·simp only[if_pos e];rw[if_pos ⟨h1,e⟩] at b;exact b
   ·simp only[if_neg e];rw[if_neg (fun h=>e h.2)] at b;exact b
  ·simp only[if_neg h1];rw[if_neg (fun h=>h1 h.1)] at b;exact b
theorem uA (E:List S83) (g:E.length<=1000) (n b:Nat) (hn:n<=1000) (i:b<=1000) (r:List Bool):∀(m a:Nat) (o:List Bool),a+m=n->o.length=n->Ev (fun k=>cm.l0 k ((List.range' a m).foldl (jP E n) o) ((b+1:Nat):Int) n E) r->Ev (fun k=>cm.l1 k o b a n E) r
 |0,a,o,j,e,h=>by
  refine Ev.of_succ ?_;simp only[cm.l1,if_neg (show ¬((a:Int)<(n:Int)) by omega),d_ (show b<=1000000 by omega)];exact h
 |m+1,a,o,j,e,h=>by
  rw[List.range'_succ,List.foldl_cons] at h;have l:=uA E g n b hn i r m (a+1) (jP E n o a) (by omega) (by rw[qJ];exact e) h;refine Ev.of_succ ?_;simp only[cm.l1,if_pos (show (a:Int)<(n:Int) by omega)];exact uz E g n a b hn (by omega) r n 0 o (by omega) e l
theorem uB (E:List S83) (b:E.length<=1000) (n:Nat) (hn:n<=1000):∀(m i:Nat) (o:List Bool),i+m=n->o.length=n->Ev (fun k=>cm.l0 k o i n E) (iT E n m o)
 |0,i,o,hi,a=>by
  refine Ev.of_succ ?_;simp only[cm.l0,if_neg (show ¬((i:Int)<(n:Int)) by omega)];exact Ev.const _
 |m+1,i,o,hi,a=>by
  have e:=uB E b n hn m (i+1) (jQ E n o) (by omega) (by rw[qK];exact a);refine Ev.of_succ ?_;simp only[cm.l0,if_pos (show (i:Int)<(n:Int) by omega)];exact uA E b n i hn (by omega) _ n 0 o (by omega) a e
theorem BZ (E:List S83) (a:E.length<=1000) (n v:Nat) (hn:n<=1000) (b:v<n):Ev (fun k=>cm.f k n E v) (fE E n v):=by
 unfold cm.f;simp only[if_pos (show (0:Int)<=(n:Int) by omega),aM,if_pos (show n<=281474976710656 by omega),Option.bind_some,if_pos (show (0:Int)<=(v:Int) by omega),List.length_replicate,if_pos (show (v:Int)<(n:Int) by omega)];exact uB E a n hn n 0 _ (by omega) (by simp)
def jR (s r:List Bool):List Bool:=(List.range' 0 s.length).foldl (fun s u=>s.set u (bl s u||bl r u)) s
def g_ (E:List S83) (n:Nat):Nat->Nat->Nat->List Bool->Nat
 |0,_,c,_=>c
 |m+1,v,c,s=>if bl s v=true then g_ E n m (v+1) c s else g_ E n m (v+1) (c+1) (jR s (fE E n v))
theorem B4 (r:List Bool) (o:List Bool) (u:Nat):(o.set u (bl o u||bl r u)).length=o.length:=by simp
theorem uC (E:List S83) (n:Nat) (hn:n<=1000) (c v:Nat) (e:v<=1000) (q:List Bool) (g:q.length=n) (r:Int):∀(m j:Nat) (s:List Bool),j+m=n->s.length=n->Ev (fun k=>cO.l0 k c ((List.range' j m).foldl (fun s u=>s.set u (bl s u||bl q u)) s) ((v+1:Nat):Int) n E) r->Ev (fun k=>cO.l1 k c s v q j n E) r
 |0,j,s,i,b,h=>by
  refine Ev.of_succ ?_;simp only[cO.l1,if_neg (show ¬((j:Int)<(n:Int)) by omega),d_ (show v<=1000000 by omega)];exact h
 |m+1,j,s,i,b,h=>by
  rw[List.range'_succ,List.foldl_cons] at h;have a:=uC E n hn c v e q g r m (j+1) _ (by omega) (by rw[List.length_set];exact b) h;refine Ev.of_succ ?_;simp only[cO.l1,if_pos (show (j:Int)<(n:Int) by omega),if_pos (show (0:Int)<=(j:Int) by omega),if_pos (show (j:Int)<(s.length:Int) by omega),if_pos (show (j:Int)<(q.length:Int) by omega),d_ (show j<=1000000 by omega),qH,aM];by_cases h1:bl s j=true
  ·simp only[if_pos h1];rw[h1,Bool.true_or] at a;exact a
  ·simp only[if_neg h1];rw[Bool.eq_false_iff.2 h1,Bool.false_or] at a;exact a
theorem qL (E:List S83) (e:E.length<=1000) (n:Nat) (hn:n<=1000):∀(m v c:Nat) (s:List Bool),v+m=n->c<=v->s.length=n->Ev (fun k=>cO.l0 k c s v n E) ((g_ E n m v c s:Nat):Int)
 |0,v,c,s,g,h,a=>by
  refine Ev.of_succ ?_;simp only[cO.l0,if_neg (show ¬((v:Int)<(n:Int)) by omega)];exact Ev.const _
 |m+1,v,c,s,g,h,a=>by
  refine Ev.of_succ ?_;simp only[cO.l0,if_pos (show (v:Int)<(n:Int) by omega),if_pos (show (0:Int)<=(v:Int) by omega),if_pos (show (v:Int)<(s.length:Int) by omega),d_ (show v<=1000000 by omega),qH,g_];by_cases h1:bl s v=true
  ·simp only[if_pos h1]
   exact qL E e n hn m (v+1) c s (by omega) (by omega) a
  ·simp only[if_neg h1]
   refine Ev.bind (BZ E e n v hn (by omega)) ?_;have i:(fE E n v).length=n:=by unfold fE;rw[uy];simp
   have j:=qL E e n hn m (v+1) (c+1) (jR s (fE E n v)) (by omega) (by omega) (by unfold jR;rw[mq (fun o b=>B4 _ o b)];exact a);rw[d_ (show c<=1000000 by omega)];refine uC E n hn (c+1) v (by omega) _ i _ n 0 s (by omega) a ?_;rw[show (List.range' 0 n).foldl (fun s u=>s.set u (bl s u||bl (fE E n v) u)) s=jR s (fE E n v) from by unfold jR;rw[a]];exact j
def partsOf (E:List S83) (n:Nat):Nat:=g_ E n n 0 0 (List.replicate n false)
theorem B6 (E:List S83) (a:E.length<=1000) (n:Nat) (hn:n<=1000):Ev (fun k=>cO.f k n E) ((partsOf E n:Nat):Int):=by
 unfold cO.f;simp only[if_pos (show (0:Int)<=(n:Int) by omega),aM,if_pos (show n<=281474976710656 by omega)];exact qL E a n hn n 0 0 _ (by omega) (by omega) (by simp)
theorem qM {E:List S83} {a b:Nat} {o:List Bool} {i:Nat} (h:bl o i=true):bl (gG E a o b) i=true:=by
 unfold gG;split
 ·rw[mo];split<;>simp_all
 ·exact h
theorem ln {f:List Bool->Nat->List Bool} (hf:∀o b i,bl o i=true->bl (f o b) i=true):∀(l:List Nat) (o:List Bool) (i:Nat),bl o i=true->bl (l.foldl f o) i=true
 |[],_,_,h=>h
 |x::l,o,i,h=>by rw[List.foldl_cons];exact ln hf l _ i (hf _ _ _ h)
theorem qN {E:List S83} {n a:Nat} {o:List Bool} {i:Nat} (h:bl o i=true):bl (jP E n o a) i=true:=ln (fun o b i h=>qM h) _ _ _ h
theorem uD {E:List S83} {n:Nat} {o:List Bool} {i:Nat} (h:bl o i=true):bl (jQ E n o) i=true:=ln (fun o b i h=>qN h) _ _ _ h
theorem uE {E:List S83} {n:Nat}:∀{m:Nat} {o:List Bool} {i:Nat},bl o i=true->bl (iT E n m o) i=true
 |0,_,_,h=>h
 |m+1,o,i,h=>uE (m:=m) (uD h)
def iU (E:List S83) (n:Nat) (S:Nat->Bool):Prop:=∀a b:Nat,a<n->b<n->S a=true->db E a b>0->S b=true
theorem nj {P:List Bool->Prop} {f:List Bool->Nat->List Bool} {n:Nat} (hf:∀o b,b<n->P o->P (f o b)):∀(m j:Nat) (o:List Bool),j+m<=n->P o->P ((List.range' j m).foldl f o)
 |0,_,_,_,h=>h
 |m+1,j,o,a,h=>by rw[List.range'_succ,List.foldl_cons];exact nj hf m (j+1) _ (by omega) (hf _ _ (by omega) h)
theorem B7 {E:List S83} {n:Nat} {S:Nat->Bool} (hS:iU E n S) {o:List Bool} (h:∀i,bl o i=true->S i=true):∀i,bl (jQ E n o) i=true->S i=true:=by
 refine nj (P:=fun o=>∀i,bl o i=true->S i=true) (n:=n) (fun o a g h=>?_) n 0 o (by omega) h;refine nj (P:=fun o=>∀i,bl o i=true->S i=true) (n:=n) (fun o b hb h=>?_) n 0 o (by omega) h;intro i hi;unfold gG at hi;split at hi
 ·rename_i e
  rw[mo] at hi;split at hi
  ·rename_i j
   obtain⟨rfl,_⟩:=j;exact hS a b g hb (h a e.1) e.2
  ·exact h i hi
 ·exact h i hi
theorem uF {E:List S83} {n:Nat} {S:Nat->Bool} (hS:iU E n S):∀(m:Nat) {o:List Bool},(∀i,bl o i=true->S i=true)->∀i,bl (iT E n m o) i=true->S i=true
 |0,_,h=>h
 |m+1,o,h=>uF hS m (B7 hS h)
theorem B8 {o:List Bool} {b:Nat} (h:bl o b=true):o.set b true=o:=by
 refine List.ext_getElem (by simp) fun i h1 a=>?_
 rw[List.getElem_set];by_cases e:b=i
 ·subst e
  rw[if_pos rfl];simp only[bl,a7,bK a,Option.getD_some] at h;exact h.symm
 ·rw[if_neg e]
theorem B9 {E:List S83} {n:Nat} {o:List Bool} (h:iU E n (bl o)):jQ E n o=o:=by
 refine nj (P:=fun x=>x=o) (n:=n) (fun x a g i=>?_) n 0 o (by omega) rfl;subst i;refine nj (P:=fun y=>y=x) (n:=n) (fun y b hb j=>?_) n 0 x (by omega) rfl;subst j;unfold gG;split
 ·rename_i e
  exact B8 (h a b g hb e.1 e.2)
 ·rfl
theorem uG {E:List S83} {n:Nat}:∀(m:Nat) {o:List Bool},iU E n (bl o)->iT E n m o=o
 |0,_,_=>rfl
 |m+1,o,h=>by rw[iT,B9 h,uG m h]
def jS (o:List Bool) (n:Nat):Nat:=(List.range n).countP (bl o)
theorem B_ (o:List Bool) (n:Nat):jS o n<=n:=by
 unfold jS;exact Nat.le_trans List.countP_le_length (by simp)
theorem qO {o p:List Bool} {b:Nat}:∀{n:Nat},(∀i,bl o i=true->bl p i=true)->b<n->bl o b=false->bl p b=true->jS o n<jS p n
 |0,_,hb,_,_=>by omega
 |n+1,h,hb,h1,g=>by
  have mono:∀m,jS o m<=jS p m:=fun m=>List.countP_mono_left (fun x _ j=>h x j)
  unfold jS at*;rw[List.range_succ,List.countP_append,List.countP_append];by_cases e:b=n
  ·subst e
   have:=mono b;simp[h1,g];omega
  ·have:=qO (n:=n) h (by omega) h1 g
   unfold jS at this;have k:(if bl o n=true then 1 else 0)<=(if bl p n=true then 1 else 0):=by
    by_cases a:bl o n=true
    ·rw[if_pos a,if_pos (h n a)];exact aI _
    ·rw[if_neg a];exact Nat.zero_le _
   simp only[List.countP_cons,List.countP_nil,Nat.zero_add];omega
theorem Ca {E:List S83} {n:Nat} {o:List Bool} (r:o.length=n) {a b:Nat} (s:a<n) (hb:b<n) (h1:bl o a=true) (k:db E a b>0):bl (jQ E n o) b=true:=by
 unfold jQ;have l:List.range' 0 n=List.range' 0 a++a::List.range' (a+1) (n-a-1):=by
  rw[<-List.range'_succ,show n-a-1+1=n-a by omega];rw[show List.range' 0 a++List.range' a (n-a)=List.range' 0 a++List.range' (0+a) (n-a) by rw[Nat.zero_add],List.range'_append_1];rw[show a+(n-a)=n by omega]
 have m:List.range' 0 n=List.range' 0 b++b::List.range' (b+1) (n-b-1):=by
  rw[<-List.range'_succ,show n-b-1+1=n-b by omega];rw[show List.range' 0 b++List.range' b (n-b)=List.range' 0 b++List.range' (0+b) (n-b) by rw[Nat.zero_add],List.range'_append_1];rw[show b+(n-b)=n by omega]
 rw[l,List.foldl_append,List.foldl_cons];refine ln (fun o b i h=>qN h) _ _ _ ?_;have g:=ln (f:=jP E n) (fun o b i h=>qN h) (List.range' 0 a) o a h1;have p:=mq (f:=jP E n) (fun o a=>qJ E n a o) (List.range' 0 a) o;generalize (List.range' 0 a).foldl (jP E n) o=e at g p⊢;unfold jP;rw[m,List.foldl_append,List.foldl_cons];refine ln (fun o b i h=>qM h) _ _ _ ?_;have j:=ln (f:=gG E a) (fun o b i h=>qM h) (List.range' 0 b) e a g;have q:=mq (f:=gG E a) (fun o b=>qI E a b o) (List.range' 0 b) e;generalize (List.range' 0 b).foldl (gG E a) e=u at j q⊢;unfold gG;rw[if_pos ⟨j,k⟩,mo,if_pos ⟨rfl,by omega⟩]
theorem uH {E:List S83} {n:Nat}:∀(m:Nat) (o:List Bool),o.length=n->n<jS o n+m->iU E n (bl (iT E n m o))
 |0,o,g,h=>by have:=B_ o n;omega
 |m+1,o,g,h=>by
  by_cases e:iU E n (bl o)
  ·rw[uG (m+1) e];exact e
  ·rw[iT]
   refine uH m _ (by rw[qK];exact g) ?_;unfold iU at e;simp only[Classical.not_forall] at e;obtain⟨a,b,j,hb,h1,k,l⟩:=e;have:=qO (o:=o) (p:=jQ E n o) (b:=b) (n:=n) (fun i hi=>uD hi) hb (Bool.eq_false_iff.2 l) (Ca g j hb h1 k);omega
theorem Cb {E:List S83} {n v:Nat} (e:v<n):bl (fE E n v) v=true/\iU E n (bl (fE E n v))/\∀S:Nat->Bool,iU E n S->S v=true->∀i,bl (fE E n v) i=true->S i=true:=by
 have g:bl ((List.replicate n false).set v true) v=true:=by rw[mo,if_pos ⟨rfl,by simpa using e⟩]
 have a:∀i,bl (List.replicate n false) i=false:=fun i=>by simp[bl,a7,List.getElem?_replicate];split<;>rfl
 refine⟨uE g,uH n _ (by simp) ?_,fun S hS j=>uF hS n (fun i hi=>?_)⟩
 ·have:=qO (o:=List.replicate n false) (p:=(List.replicate n false).set v true) (b:=v) (n:=n) (fun i hi=>by rw[a] at hi;cases hi) e (a v) g
  omega
 ·rw[mo] at hi
  split at hi
  ·rename_i h;rw[<-h.1];exact j
  ·rw[a] at hi;cases hi
end Go.Proofs.YtffdiakgjakngaaGreat.P


namespace Go.Proofs.YtffdiakgjakngaaGreat.P
open Go.RowKit Go.Proofs.YtffdiakgjakngaaGreatW.PrintWords Go.Proofs.YtffdiakgjakngaaGreatW.PrintLast Go.Proofs.YtffdiakgjakngaaGreatW.PrintMore
set_option linter.unusedVariables false
set_option linter.unusedSimpArgs false
set_option maxHeartbeats 8000000
set_option maxRecDepth 100000
def kx (N:Int) (E:List S83):Bool:=decide (0<=N/\N<=12)&&iR 12 E
def cB.f (k:Nat) (N:Int) (E:List S83):Option (Bool×Int):=
 (bh.f k N E).bind fun t=>if t=0 then(if kx N E=true then some (decide (b8 (aK E) N.toNat=1),0) else none) else some (false,t)
theorem cB.mono:∀a b k,al (cB.f k a b) (cB.f (k+1) a b):=by
 intro a b k;unfold cB.f;exact al.bind (bh.mono _ _ _) (fun _=>al.refl _)
theorem Cc (k:Nat) (N:Int) (A0:Option Addr) (c0:Nat) (E:List S83) (t:Int) (w:World) (b:Kd.C aN w A0 E.length E) (g:E.length<=c0) (a:bh.f k N E=some t) (j:t≠0):
  Calls Tryz.prog 172 #[.agg #[.int .i64 N,.slice A0 E.length c0]] w fun e w'=>e= .returned (.tuple #[.slice none 0 0,.int .i64 t])/\Below w.heap.size w w':=by
 have hu:=Tryz.underlying24;have h:=zA a;clear a;go_enter Tryz.func172,Tryz.ntmps172
 go_wp2_with (first|(go_at_call 64;refine(bh.calls k N A0 c0 E t _ (Kd.bp b _) g h.out).mono ?_;rintro e w1 ⟨rfl,hb⟩;have i:=zA (aZ (ao (aq w.heap.size w) _) hb);clear hb))
 go_ret2;exact⟨rfl,i.out⟩
theorem Cd (E:List S83):∀i,i<12->(#[.int .i64 (aK E 0:Nat),.int .i64 (aK E 1:Nat),.int .i64 (aK E 2:Nat),.int .i64 (aK E 3:Nat),.int .i64 (aK E 4:Nat),.int .i64 (aK E 5:Nat),.int .i64 (aK E 6:Nat),.int .i64 (aK E 7:Nat),.int .i64 (aK E 8:Nat),.int .i64 (aK E 9:Nat),.int .i64 (aK E 10:Nat),.int .i64 (aK E 11:Nat)]:Array Value)[i]? =some (.int .i64 (aK E i:Nat)):=fun i hi=>by
 match i,hi with|0,_=>rfl|1,_=>rfl|2,_=>rfl|3,_=>rfl|4,_=>rfl|5,_=>rfl|6,_=>rfl|7,_=>rfl|8,_=>rfl|9,_=>rfl|10,_=>rfl|11,_=>rfl
theorem Ce (k:Nat) (n:Nat) (A0:Option Addr) (c0:Nat) (E:List S83) (w:World) (b:Kd.C aN w A0 E.length E) (j:E.length<=c0) (g:bh.f k n E=some 0) (hn:n<=12) (h:ep 12 E):
  Calls Tryz.prog 172 #[.agg #[.int .i64 n,.slice A0 E.length c0]] w fun e w'=>∃A c,e= .returned (.tuple #[.slice A (b8 (aK E) n) c,.int .i64 0])/\Below w.heap.size w w':=by
 have hu:=Tryz.underlying24;have l:=zA g;clear g;have m:=zA h;clear h;go_enter Tryz.func172,Tryz.ntmps172
 go_wp2_with (first|(go_at_call 64;refine(bh.calls k n A0 c0 E 0 _ (Kd.bp b _) j l.out).mono ?_;rintro e w1 ⟨rfl,hb⟩;have a:w1.heap[w.heap.size]? =some (.cells #[.int .i64 n,.slice A0 E.length c0] 24 (0,0)):=aE (bc w _) hb;have o:=zA (Kd.aw b (aZ (ao (aq w.heap.size w) _) hb));have p:=zA (aZ (ao (aq w.heap.size w) _) hb);clear hb;have v:w1.cell? ⟨w.heap.size,0,none⟩=some (.int .i64 n):=(aj a 0).trans rfl;have x:w1.cell? ⟨w.heap.size,1,none⟩=some (.slice A0 E.length c0):=(aj a 1).trans rfl)|(go_at_call 196;(with_reducible refine(BR _ _ _ E _ o.out m.out).mono ?_);rintro e w2 ⟨rfl,hb⟩;have i:=au (aE a hb) (.cells #[.int .i64 (aK E 0:Nat),.int .i64 (aK E 1:Nat),.int .i64 (aK E 2:Nat),.int .i64 (aK E 3:Nat),.int .i64 (aK E 4:Nat),.int .i64 (aK E 5:Nat),.int .i64 (aK E 6:Nat),.int .i64 (aK E 7:Nat),.int .i64 (aK E 8:Nat),.int .i64 (aK E 9:Nat),.int .i64 (aK E 10:Nat),.int .i64 (aK E 11:Nat)] 217);have y:(w2.alloc (.cells #[.int .i64 (aK E 0:Nat),.int .i64 (aK E 1:Nat),.int .i64 (aK E 2:Nat),.int .i64 (aK E 3:Nat),.int .i64 (aK E 4:Nat),.int .i64 (aK E 5:Nat),.int .i64 (aK E 6:Nat),.int .i64 (aK E 7:Nat),.int .i64 (aK E 8:Nat),.int .i64 (aK E 9:Nat),.int .i64 (aK E 10:Nat),.int .i64 (aK E 11:Nat)] 217)).cell? ⟨w.heap.size,0,none⟩=some (.int .i64 n):=(aj i 0).trans rfl;have q:=zA (ao (aZ p.out hb) (.cells #[.int .i64 (aK E 0:Nat),.int .i64 (aK E 1:Nat),.int .i64 (aK E 2:Nat),.int .i64 (aK E 3:Nat),.int .i64 (aK E 4:Nat),.int .i64 (aK E 5:Nat),.int .i64 (aK E 6:Nat),.int .i64 (aK E 7:Nat),.int .i64 (aK E 8:Nat),.int .i64 (aK E 9:Nat),.int .i64 (aK E 10:Nat),.int .i64 (aK E 11:Nat)] 217));have r:=zA (show ec (w2.alloc (.cells #[.int .i64 (aK E 0:Nat),.int .i64 (aK E 1:Nat),.int .i64 (aK E 2:Nat),.int .i64 (aK E 3:Nat),.int .i64 (aK E 4:Nat),.int .i64 (aK E 5:Nat),.int .i64 (aK E 6:Nat),.int .i64 (aK E 7:Nat),.int .i64 (aK E 8:Nat),.int .i64 (aK E 9:Nat),.int .i64 (aK E 10:Nat),.int .i64 (aK E 11:Nat)] 217)) w2.heap.size (aK E) from⟨_,bc _ _,rfl,Cd E⟩);clear hb i)|(go_at_call 197;(with_reducible refine(BS _ n (aK E) _ hn (um E) r.out).mono ?_);rintro e w3 ⟨s,c3,rfl,hb⟩;have u:=zA (aZ q.out hb);clear hb))
 go_ret2;exact⟨s,c3,rfl,u.out⟩
theorem cB.calls (k:Nat) (p:Int) (j:Option Addr) (l:Nat) (a:List (S83)) (v:Bool) (x:Int) (w:World) (q:Kd.C aN w j a.length a) (y:a.length<=l) (h:cB.f k p a=some (v,x)):
  Calls Tryz.prog 113 #[.agg #[.int .i64 p,.slice j a.length l]] w fun e w'=>e= .returned (.tuple #[.bool v,.int .i64 x])/\Below w.heap.size w w':=by
 unfold cB.f at h;obtain⟨t,o,h⟩:=Option.bind_eq_some_iff.1 h;split at h
 ·rename_i r
  subst r;split at h
  case isFalse=>cases h
  rename_i z;simp only[kx,Bool.and_eq_true,decide_eq_true_eq] at z;obtain⟨⟨D,H⟩,B⟩:=z;obtain⟨n,rfl⟩:=Int.eq_ofNat_of_zero_le D;injection h with h
  injection h with h1 s
  subst s;rw[aM] at h1;have b:=fun W u=>Ce k n j l a W u y o (by omega) (jy (n:=12) B)
  have g:=zA b;have H1:=zA h1;clear b o B h1;have E:=ni (aK a) n;generalize b8 (aK a) n=m at g H1 E;by_cases hm:m=1
  ·subst hm
   go_enter Tryz.func113,Tryz.ntmps113
   go_wp2_with (first|(go_at_call 172;refine(g.out _ (Kd.bp q _)).mono ?_;rintro e w1 ⟨F,c1,rfl,hb⟩;have i:=zA (aZ (ao (aq w.heap.size w) _) hb);clear hb))
   go_ret2;exact⟨by rw[<-H1.out];rfl,i.out⟩
  ·have G:((m:Nat):Int)≠1:=by omega
   go_enter Tryz.func113,Tryz.ntmps113
   go_wp2_with (first|(go_at_call 172;refine(g.out _ (Kd.bp q _)).mono ?_;rintro e w1 ⟨F,c1,rfl,hb⟩;have i:=zA (aZ (ao (aq w.heap.size w) _) hb);clear hb))
   go_ret2;exact⟨by rw[<-H1.out,a6 hm,<-(beq_eq_false_iff_ne.2 G:((m:Int)==1)=false)];rfl,i.out⟩
 ·rename_i r
  injection h with h
  injection h with h1 s
  subst h1;subst s;have b:=fun W u=>Cc k p j l a t W u y o r
  have g:=zA b;clear b o;go_enter Tryz.func113,Tryz.ntmps113
  go_wp2_with (first|(go_at_call 172;refine(g.out _ (Kd.bp q _)).mono ?_;rintro e w1 ⟨rfl,hb⟩;have i:=zA (aZ (ao (aq w.heap.size w) _) hb);clear hb))
  go_ret2;exact⟨rfl,i.out⟩
def dn.f (k:Nat) (b:Int) (g:List (S83)) (e:Int):Option (Int):=(cB.f k b g).bind fun a=>(if a.2=0 then(if a.1=true then(if e<0 then(some 2) else(if e>=b then(some 2) else(some 0))) else(some 13)) else(some a.2))
theorem dn.mono:∀a0 a a2 k,al (dn.f k a0 a a2) (dn.f (k+1) a0 a a2):=by
 intro a0 a a2 k;unfold dn.f;with_reducible repeat' first|exact cB.mono _ _ _|exact al.refl _|exact al.none _|refine al.ite ?_ ?_|refine al.bind ?_ (fun _=>?_)
theorem dn.calls (k:Nat) (j:Int) (m:Option Addr) (n:Nat) (g:List (S83)) (x:Int) (r:Int) (w:World) (E:Kd.C aN w m g.length g) (F:g.length<=n) (h:dn.f k j g x=some r):
  Calls Tryz.prog 211 #[.agg #[.int .i64 j,.slice m g.length n],.int .i64 x] w fun e w'=>e= .returned (.int .i64 r)/\Below w.heap.size w w':=by
 have M:=Tryz.underlying24;have s:=zA E;have u:=zA F;clear E F;have a:=zA (aq w.heap.size w);unfold dn.f at h;have H:=h;clear h;obtain⟨⟨G,o⟩,v,H⟩:=zo H;dsimp only at H;by_cases c4:o=0
 ·rw[if_pos c4] at H
  obtain⟨I,J⟩:=bH c4;clear c4;by_cases y:G=true
  ·subst y
   replace H:=zi H;by_cases p:x<0
   ·rw[if_pos p] at H
    have K:=az p;clear p;obtain rfl:=aH H;go_enter Tryz.func211,Tryz.ntmps211
    go_wp2_with (first|((with_reducible refine aJ (N:=2) rfl ?_);refine zX 2 #[.int .i64 j,.slice m g.length n] 24 ?_;intro z i O l hb;have b:=zA (l);have B:=zG a i;have D:=zG a i;replace a:=zS a hb;clear hb l i;obtain⟨P,Q,R,S⟩:=ax b)|((with_reducible refine aG (f:=113) rfl ?_);refine zL (some 9) Tryz.func113 #[.agg #[.int .i64 j,.slice m g.length n]] ?_;(with_reducible refine(cB.calls k j _ _ g true o _ ?ah ?ai v.out).mono ?_);(case ah=>exact Kd.aw s.out zB);(case ai=>exact u.out);rintro e T ⟨rfl,hb⟩;refine⟨_,rfl,?_⟩;replace b:=zb b hb;replace a:=zS a hb;(try clear hb)))
    go_ret;exact⟨zE,zB⟩
   ·rw[if_neg p] at H
    have K:=a6 p;clear p;by_cases q:x>=j
    ·rw[if_pos q] at H
     have L:=az q;clear q;obtain rfl:=aH H;go_enter Tryz.func211,Tryz.ntmps211
     go_wp2_with (first|((with_reducible refine aJ (N:=2) rfl ?_);refine zX 2 #[.int .i64 j,.slice m g.length n] 24 ?_;intro z i iE l hb;have b:=zA (l);have B:=zG a i;have D:=zG a i;replace a:=zS a hb;clear hb l i;obtain⟨U,V,W,X⟩:=ax b)|((with_reducible refine aG (f:=113) rfl ?_);refine zL (some 9) Tryz.func113 #[.agg #[.int .i64 j,.slice m g.length n]] ?_;(with_reducible refine(cB.calls k j _ _ g true o _ ?ah ?ai v.out).mono ?_);(case ah=>exact Kd.aw s.out zB);(case ai=>exact u.out);rintro e Y ⟨rfl,hb⟩;refine⟨_,rfl,?_⟩;replace b:=zb b hb;replace a:=zS a hb;(try clear hb);obtain⟨Z,aa,ab,ad⟩:=ax b))
     go_ret;exact⟨zE,zB⟩
    ·rw[if_neg q] at H
     have L:=a6 q;clear q;obtain rfl:=aH H;go_enter Tryz.func211,Tryz.ntmps211
     go_wp2_with (first|((with_reducible refine aJ (N:=2) rfl ?_);refine zX 2 #[.int .i64 j,.slice m g.length n] 24 ?_;intro z i ag l hb;have b:=zA (l);have B:=zG a i;have D:=zG a i;replace a:=zS a hb;clear hb l i;obtain⟨ak,am,an,ap⟩:=ax b)|((with_reducible refine aG (f:=113) rfl ?_);refine zL (some 9) Tryz.func113 #[.agg #[.int .i64 j,.slice m g.length n]] ?_;(with_reducible refine(cB.calls k j _ _ g true o _ ?ah ?ai v.out).mono ?_);(case ah=>exact Kd.aw s.out zB);(case ai=>exact u.out);rintro e ar ⟨rfl,hb⟩;refine⟨_,rfl,?_⟩;replace b:=zb b hb;replace a:=zS a hb;(try clear hb);obtain⟨av,aB,aF,aL⟩:=ax b))
     go_ret;exact⟨zE,zB⟩
  ·replace y:=Bool.eq_false_iff.mpr y
   subst y;replace H:=zj H;obtain rfl:=aH H;go_enter Tryz.func211,Tryz.ntmps211
   go_wp2_with (first|((with_reducible refine aJ (N:=2) rfl ?_);refine zX 2 #[.int .i64 j,.slice m g.length n] 24 ?_;intro z i aO l hb;have b:=zA (l);have B:=zG a i;have D:=zG a i;replace a:=zS a hb;clear hb l i;obtain⟨aP,aS,a0,a2⟩:=ax b)|((with_reducible refine aG (f:=113) rfl ?_);refine zL (some 9) Tryz.func113 #[.agg #[.int .i64 j,.slice m g.length n]] ?_;(with_reducible refine(cB.calls k j _ _ g false o _ ?ah ?ai v.out).mono ?_);(case ah=>exact Kd.aw s.out zB);(case ai=>exact u.out);rintro e a3 ⟨rfl,hb⟩;refine⟨_,rfl,?_⟩;replace b:=zb b hb;replace a:=zS a hb;(try clear hb)))
   go_ret;exact⟨zE,zB⟩
 ·rw[if_neg c4] at H
  obtain⟨I,J⟩:=bI c4;obtain rfl:=aH H;go_enter Tryz.func211,Tryz.ntmps211
  go_wp2_with (first|((with_reducible refine aJ (N:=2) rfl ?_);refine zX 2 #[.int .i64 j,.slice m g.length n] 24 ?_;intro z i a4 l hb;have b:=zA (l);have B:=zG a i;have D:=zG a i;replace a:=zS a hb;clear hb l i;obtain⟨a5,a9,bd,be⟩:=ax b)|((with_reducible refine aG (f:=113) rfl ?_);refine zL (some 9) Tryz.func113 #[.agg #[.int .i64 j,.slice m g.length n]] ?_;(with_reducible refine(cB.calls k j _ _ g G o _ ?ah ?ai v.out).mono ?_);(case ah=>exact Kd.aw s.out zB);(case ai=>exact u.out);rintro e bf ⟨rfl,hb⟩;refine⟨_,rfl,?_⟩;replace b:=zb b hb;replace a:=zS a hb;(try clear hb)))
  go_ret;exact⟨zE,zB⟩
theorem Cf {E:List S83} {a b:Int} (h:db E a b>0):∃x∈E,x.f0=min a b/\x.f1=max a b:=by
 unfold db at h;split at h
 ·rename_i x e
  refine⟨x,List.mem_of_find?_eq_some e,?_⟩;have:=List.find?_some e;simpa [gF] using this
 ·omega
theorem uI {N:Int} {E:List S83} (h:br N E) {x:S83} (a:x∈E):db E x.f0 x.f1>0:=by
 unfold db;split
 ·rename_i y b
  have:=h.ok y (List.mem_of_find?_eq_some b);simp[bX] at this;omega
 ·rename_i hn
  rw[List.find?_eq_none] at hn;have:=hn x a;have hle:=h.le x a;simp[gF] at this;omega
theorem Cg {E:List S83} {n:Nat} {S:Nat->Bool} (h:∀x∈E,S x.f0.toNat=S x.f1.toNat):iU E n S:=by
 intro a b k hb e g;obtain⟨x,i,l,h1⟩:=Cf g;have:=h x i;rcases Nat.le_total a b with j|j
 ·rw[show x.f0.toNat=a by omega,show x.f1.toNat=b by omega] at this
  rw[<-this];exact e
 ·rw[show x.f0.toNat=b by omega,show x.f1.toNat=a by omega] at this
  rw[this];exact e
theorem Ch {n:Nat} {E:List S83} (b:br n E) {S:Nat->Bool} (h:iU E n S):∀x∈E,S x.f0.toNat=S x.f1.toNat:=by
 intro x e;have hb:=uI b e;have k:=b.ok x e;simp[bX] at k;have g:((x.f0.toNat:Nat):Int)=x.f0:=by omega
 have i:((x.f1.toNat:Nat):Int)=x.f1:=by omega
 have h1:=h x.f0.toNat x.f1.toNat (by omega) (by omega);have j:=h x.f1.toNat x.f0.toNat (by omega) (by omega);rw[g,i] at h1;rw[g,i,oR] at j;cases a:S x.f0.toNat with
 |true=>exact(h1 a hb).symm
 |false=>
  cases l:S x.f1.toNat with
  |false=>rfl
  |true=>rw[j l hb] at a;cases a
theorem Ci (s r:List Bool) (i:Nat) (hi:i<s.length):bl (jR s r) i=(bl s i||bl r i):=by
 unfold jR;have key:∀(m j:Nat) (o:List Bool),o.length=s.length->bl ((List.range' j m).foldl (fun s u=>s.set u (bl s u||bl r u)) o) i=if j<=i/\i<j+m then(bl o i||bl r i) else bl o i:=by
  intro m;induction m with
  |zero=>intro j o _;rw[if_neg (by omega)];rfl
  |succ m b=>
   intro j o e;rw[List.range'_succ,List.foldl_cons,b _ _ (by rw[List.length_set];exact e),mo];by_cases h1:j=i
   ·subst h1
    rw[if_neg (by omega),if_pos ⟨rfl,by omega⟩,if_pos (by omega)]
   ·rw[if_neg (show ¬(j=i/\i<o.length) from fun h=>h1 h.1)]
    by_cases a:j+1<=i/\i<j+1+m
    ·rw[if_pos a,if_pos (by omega)]
    ·rw[if_neg a,if_neg (by omega)]
 rw[key s.length 0 s rfl,if_pos (by omega)]
theorem uJ (E:List S83) (n:Nat):∀(m v c:Nat) (s:List Bool),(∀i,v<=i->i<v+m->bl s i=true)->g_ E n m v c s=c
 |0,_,_,_,_=>rfl
 |m+1,v,c,s,h=>by
  rw[g_,if_pos (h v (aI _) (by omega))];exact uJ E n m (v+1) c s (fun i h1 a=>h i (by omega) (by omega))
theorem qP (E:List S83) (n:Nat):∀(m v c:Nat) (s:List Bool),c<=g_ E n m v c s
 |0,_,_,_=>aI _
 |m+1,v,c,s=>by
  rw[g_];split
  ·exact qP E n m _ _ _
  ·exact Nat.le_trans (Nat.le_succ c) (qP E n m _ _ _)
theorem uK (E:List S83) (n:Nat):∀(m v c:Nat) (s:List Bool) (u:Nat),v<=u->u<v+m->bl s u=false->c+1<=g_ E n m v c s
 |0,_,_,_,_,_,h,_=>by omega
 |m+1,v,c,s,u,h1,e,a=>by
  rw[g_];split
  ·rename_i b
   exact uK E n m (v+1) c s u (by rcases Nat.lt_or_ge v u with h|h;exact h;exfalso;have:v=u:=(by omega);subst this;rw[a] at b;cases b) (by omega) a
  ·exact qP E n m _ _ _
theorem jz {n:Nat} {E:List S83} (hn:1<=n) (q:br n E):partsOf E n=1↔fl n E:=by
 obtain⟨m,rfl⟩:∃m,n=m+1:=⟨n-1,by omega⟩;obtain⟨r,s,w⟩:=Cb (E:=E) (n:=m+1) (v:=0) (by omega);have j:∀i,bl (List.replicate (m+1) false) i=false:=fun i=>by simp[bl,a7,List.getElem?_replicate];split<;>rfl
 have e:partsOf E (m+1)=g_ E (m+1) m 1 1 (jR (List.replicate (m+1) false) (fE E (m+1) 0)):=by
  unfold partsOf;rw[g_,if_neg (by rw[j];decide)]
 have k:∀i,i<m+1->bl (jR (List.replicate (m+1) false) (fE E (m+1) 0)) i=bl (fE E (m+1) 0) i:=fun i hi=>by
  rw[Ci _ _ _ (by simpa using hi),j,Bool.false_or]
 rw[e];constructor
 ·intro h S y z
  refine Classical.byContradiction fun a=>?_
  have hS:∀x∈E,S x.f0.toNat=S x.f1.toNat:=fun x B=>Classical.byContradiction fun b=>a ⟨x,B,b⟩
  have main:∀T:Nat->Bool,(∀x∈E,T x.f0.toNat=T x.f1.toNat)->T 0=true->(∃u,u<m+1/\T u=false)->False:=by
   rintro T C l ⟨u,hu,g⟩;have h1:bl (fE E (m+1) 0) u=false:=by
    cases o:bl (fE E (m+1) 0) u with
    |false=>rfl
    |true=>have:=w T (Cg C) l u o;rw[g] at this;cases this
   have F:u≠0:=fun e=>by subst e;rw[l] at g;cases g
   have:=uK E (m+1) m 1 1 _ u (by omega) (by omega) (by rw[k u hu];exact h1);omega
  cases p:S 0 with
  |true=>exact main S hS p z
  |false=>
   refine main (fun u=> !S u) (fun x a=>by simp[hS x a]) (by simp[p]) ?_;obtain⟨u,hu,D⟩:=y;exact⟨u,hu,by simp[D]⟩
 ·intro h
  refine uJ E _ m 1 1 _ fun i h1 o=>?_
  rw[k i (by omega)];cases hi:bl (fE E (m+1) 0) i with
  |true=>rfl
  |false=>
   obtain⟨x,a,b⟩:=h (bl (fE E (m+1) 0)) ⟨0,by omega,r⟩ ⟨i,by omega,hi⟩;exact absurd (Ch q s x a) b
def fm (N:Int) (E:List S83) (q:Int):Int:=if cz N E=0 then(if partsOf E N.toNat=1 then(if 0<=q/\q<N then 0 else 2) else 13) else cz N E
theorem uL (N:Int) (E:List S83) (q:Int) (g:E.length<=1000):Ev (fun k=>dn.f k N E q) (fm N E q):=by
 unfold dn.f fm;by_cases b:cz N E=0
 ·obtain⟨h1,m,e⟩:=gE b
  obtain⟨n,rfl⟩:=Int.eq_ofNat_of_zero_le (show 0<=N by omega);refine Ev.bind (a:=(decide (partsOf E n=1),(0:Int))) ?_ ?_
  ·unfold cB.f
   have h:=nh (n:Int) E g;rw[b] at h;refine Ev.bind h ?_;have j:kx (n:Int) E=true:=by
    unfold kx;rw[az (by omega),Bool.true_and];refine List.all_eq_true.2 fun x l=>?_
    have:=e.ok x l;simp[bX] at this⊢;omega
   simp only[if_true,if_pos j,aM];rw[show decide (b8 (aK E) n=1)=decide (partsOf E n=1) by
    congr 1;exact propext ((qG (by omega) (jy e.cI)).trans (jz (by omega) e).symm)]
   exact Ev.const _
  ·simp only[if_pos b,if_true,aM]
   by_cases hp:partsOf E n=1
   ·simp only[az hp,if_true,if_pos hp]
    by_cases i:0<=q/\q<(n:Int)
    ·simp only[if_neg (show ¬q<0 by omega),if_neg (show ¬q>=(n:Int) by omega),if_pos i];exact Ev.const _
    ·simp only[if_neg i]
     by_cases h1:q<0
     ·simp only[if_pos h1];exact Ev.const _
     ·simp only[if_neg h1,if_pos (show q>=(n:Int) by omega)];exact Ev.const _
   ·simp only[a6 hp,Bool.false_eq_true,if_false,if_neg hp];exact Ev.const _
 ·refine Ev.bind (a:=(false,cz N E)) ?_ ?_
  ·unfold cB.f
   refine Ev.bind (nh N E g) ?_;simp only[if_neg b];exact Ev.const _
  ·simp only[if_neg b];exact Ev.const _
section
structure oT (cs:Array Value) (n:Int) (times:Nat->Nat->Int) (chips:Value) (burnt:Nat->Bool):Prop where
 size:cs.size=158
 n:cs[0]? =some (.int .i64 n)
 times:∀i j,i<12->j<12->cs[1+i*12+j]? =some (.int .i64 (times i j))
 chips:cs[145]? =some chips
 burnt:∀i,i<12->cs[146+i]? =some (.bool (burnt i))
def cL (w:World) (g:Nat) (n:Int) (times:Nat->Nat->Int) (chips:Value) (burnt:Nat->Bool):Prop:=
 ∃cs:Array Value,w.heap[g]? =some (.cells cs 252 (0,0))/\oT cs n times chips burnt
namespace cL
variable {w w':World} {g:Nat} {n:Int} {times:Nat->Nat->Int} {chips:Value} {burnt:Nat->Bool}
theorem lt (h:cL w g n times chips burnt):g<w.heap.size:=by
 obtain⟨cs,hb,_⟩:=h;exact(Array.getElem?_eq_some_iff.1 hb).1
theorem cellAt {cs:Array Value} {k:Nat} {v:Value} (hb:w.heap[g]? =some (.cells cs 252 (0,0))) (a:cs[k]? =some v):w.cell? ⟨g,k,none⟩=some v:=(aj hb k).trans a
theorem oU (h:cL w g n times chips burnt):w.cell? ⟨g,0,none⟩=some (.int .i64 n):=by
 obtain⟨cs,hb,a⟩:=h;exact cellAt hb a.n
theorem nk (h:cL w g n times chips burnt) (i j:Nat) (hi:i<12) (a:j<12):w.cell? ⟨g,1+i*12+j,none⟩=some (.int .i64 (times i j)):=by
 obtain⟨cs,hb,b⟩:=h;exact cellAt hb (b.times i j hi a)
theorem Cj (h:cL w g n times chips burnt):w.cell? ⟨g,145,none⟩=some chips:=by
 obtain⟨cs,hb,a⟩:=h;exact cellAt hb a.chips
theorem mr (h:cL w g n times chips burnt) (i:Nat) (hi:i<12):w.cell? ⟨g,146+i,none⟩=some (.bool (burnt i)):=by
 obtain⟨cs,hb,a⟩:=h;exact cellAt hb (a.burnt i hi)
theorem frozen (h:cL w g n times chips burnt) (k:Nat):w.frozen? ⟨g,k,none⟩=false:=by
 obtain⟨cs,hb,_⟩:=h;exact bt hb k
theorem below (h:cL w g n times chips burnt) (hb:Below w.heap.size w w'):cL w' g n times chips burnt:=by
 obtain⟨cs,a,b⟩:=h;exact⟨cs,aE a hb,b⟩
theorem drew (h:cL w g n times chips burnt):cL w.drew g n times chips burnt:=h
theorem fg (h:cL w g n times chips burnt) {α:Type} {d:Kd α} {e base:Nat} {ok:Nat->Prop} {v:Value} {xs:List α} (a:d.R e w base ok v xs) (b:∀q,q∈e::d.E->q≠252) (j:Nat) (u:Value):d.R e (w.setCell ⟨g,j,none⟩ u) base ok v xs:=by
 obtain⟨cs,hb,_⟩:=h;exact Kd.fg a hb b j u
theorem drewN (h:cL w g n times chips burnt) (m:Nat):cL (w.drewN m) g n times chips burnt:=h
theorem uM (h:cL w g n times chips burnt) (i:Nat) (hi:i<12) (b:Bool):cL (w.setCell ⟨g,146+i,none⟩ (.bool b)) g n times chips (fun j=>if j=i then b else burnt j):=by
 obtain⟨cs,l,a⟩:=h;refine⟨cs.setIfInBounds (146+i) (.bool b),by simpa using bQ l (146+i) (.bool b),?_,?_,?_,?_,?_⟩
 ·simp[a.size]
 ·rw[Array.getElem?_setIfInBounds_ne (by omega)];exact a.n
 ·intro k j hk m
  rw[Array.getElem?_setIfInBounds_ne (by omega)];exact a.times k j hk m
 ·rw[Array.getElem?_setIfInBounds_ne (by omega)];exact a.chips
 ·intro k hk
  have o:=a.size;by_cases e:k=i
  ·subst e
   rw[Array.getElem?_setIfInBounds_self_of_lt (by omega)];simp
  ·rw[Array.getElem?_setIfInBounds_ne (by omega),if_neg e];exact a.burnt k hk
theorem nm (h:cL w g n times chips burnt) (i j:Nat) (hi:i<12) (q:j<12) (x:Int):cL (w.setCell ⟨g,1+i*12+j,none⟩ (.int .i64 x)) g n (fun a b=>if a=i/\b=j then x else times a b) chips burnt:=by
 obtain⟨cs,o,m⟩:=h;refine⟨cs.setIfInBounds (1+i*12+j) (.int .i64 x),by simpa using bQ o (1+i*12+j) (.int .i64 x),?_,?_,?_,?_,?_⟩
 ·simp[m.size]
 ·rw[Array.getElem?_setIfInBounds_ne (by omega)];exact m.n
 ·intro k l hk p
  have r:=m.size;by_cases e:k=i/\l=j
  ·obtain⟨rfl,rfl⟩:=e
   rw[Array.getElem?_setIfInBounds_self_of_lt (by omega)];simp
  ·rw[Array.getElem?_setIfInBounds_ne (by omega),if_neg e];exact m.times k l hk p
 ·rw[Array.getElem?_setIfInBounds_ne (by omega)];exact m.chips
 ·intro k hk
  rw[Array.getElem?_setIfInBounds_ne (by omega)];exact m.burnt k hk
end cL
theorem Ck {k:IntKind} {a b:Int} (h:a=b):Ending.returned (.int k a)= .returned (.int k b):=by rw[h]
def cW (times:Nat->Nat->Int) (burnt:Nat->Bool) (v:Nat):Nat->Int
 |0=>0
 |u+1=>cW times burnt v u+(if burnt u then times v u else 0)
theorem qQ {times:Nat->Nat->Int} {burnt:Nat->Bool} (h:∀i j,0<=times i j/\times i j<=50) (v:Nat):∀u:Nat,0<=cW times burnt v u/\cW times burnt v u<=50*u
 |0=>by simp[cW]
 |u+1=>by
  have h1:=qQ h v u (burnt:=burnt);have a:=h v u;simp only[cW];split<;>omega
theorem Cl (g:Nat) (n v:Nat) (times:Nat->Nat->Int) (chips:Value) (burnt:Nat->Bool) (w:World) (hn:n<=12) (p:v<12) (h:∀i j,0<=times i j/\times i j<=50) (hw:cL w g n times chips burnt):
  Calls Tryz.prog 227 #[.pointer (some ⟨g,0,none⟩),.int .i64 v] w fun e w'=>e= .returned (.int .i64 (cW times burnt v n))/\w=w':=by
 have q:=hw.oU;go_enter Tryz.func227,Tryz.ntmps227
 go_wp2;go_loop [5,6,11] (fun s _ u=>∃k:Nat,k<=n/\u= .int .i64 k/\s= .int .i64 (cW times burnt v k)) (fun _ _ u=>n- (intOf u).toNat)
 case atStart=>exact⟨0,Nat.zero_le _,rfl,rfl⟩
 case round=>
  obtain⟨k,hk,rfl,rfl⟩:=hrel;have hb:=qQ (burnt:=burnt) h v k;by_cases r:k<n
  ·have l:=hw.mr k (by omega)
   have x:=hw.nk v k p (by omega);have y:=h v k;have m:cW times burnt v (k+1)=cW times burnt v k+(if burnt k then times v k else 0):=rfl;have o:=Lib.hid m;clear m;cases a:burnt k with
   |true=>
    rw[a] at l;have b:=Lib.hid a;clear a;go_wp2;go_round
    case rel=>exact⟨k+1,by omega,by go_num,by rw[o.out,b.out];rfl⟩
    case measure=>simp[intOf];omega
   |false=>
    rw[a] at l;have b:=Lib.hid a;clear a;go_wp2;go_round
    case rel=>exact⟨k+1,by omega,by go_num,by rw[o.out,b.out];simp⟩
    case measure=>simp[intOf];omega
  ·go_wp2
   go_ret;exact⟨Ck (by rw[show k=n from by omega]),rfl⟩
theorem Cm (g:Nat) (n v:Nat) (times:Nat->Nat->Int) (chips:Value) (burnt:Nat->Bool) (w:World) (a:v<12) (hw:cL w g n times chips burnt) (hb:burnt v=true):
  Calls Tryz.prog 226 #[.pointer (some ⟨g,0,none⟩),.int .i64 v] w fun e w'=>e= .returned (.bool false)/\aC w w':=by
 have b:=hw.mr v a;rw[hb] at b;clear hb;have h:(0:Int)<=(v:Int):=by omega
 have i:(v:Int)<12:=by omega
 go_enter Tryz.func226,Tryz.ntmps226
 go_wp2_with fail
 go_quiet (fail)
 go_wp2;go_ret;exact⟨rfl,by repeat(first|exact aC.refl _|apply aC.step)⟩
theorem Cn (g:Nat) (n v:Nat) (times:Nat->Nat->Int) (A:Option Addr) (c:Nat) (l:List Int) (burnt:Nat->Bool) (w:World) (hn:n<=12) (a:v<12) (p:v<l.length) (k:∀i j,0<=times i j/\times i j<=50) (hw:cL w g n times (.slice A l.length c) burnt) (b:Kd.C (Kd.int .i64) w A l.length l) (hb:burnt v=false):
  Calls Tryz.prog 226 #[.pointer (some ⟨g,0,none⟩),.int .i64 v] w fun e w'=>e= .returned (.bool (decide (rd l v<cW times burnt v n)))/\aC w w':=by
 have m:=hw.mr v a;have q:=hw.Cj;rw[hb] at m;clear hb;have r:=b.2.1;obtain⟨ad,rfl,o⟩:=Kd.bU b v (by omega) (by omega);rw[aM] at o;have s:(0:Int)<=(v:Int):=by omega
 have u:(v:Int)<(l.length:Int):=by omega
 have x:(v:Int)<12:=by omega
 go_enter Tryz.func226,Tryz.ntmps226
 go_wp2_with fail
 go_quiet ((go_at_call 227;refine Calls.quiet_of_same ((Cl g n v times _ burnt (w.drewN _) hn a k (hw.drewN _)).mono (fun e w' h=>⟨h.1,h.2.symm⟩))))
 go_wp2;go_ret;exact⟨rfl,by repeat(first|exact aC.refl _|apply aC.step)⟩
def fW (burnt:Nat->Bool):Nat->List Int
 |0=>[]
 |u+1=>fW burnt u++(if burnt u then[] else[(u:Int)])
theorem uN (burnt:Nat->Bool):∀u,(fW burnt u).length<=u
 |0=>by simp[fW]
 |u+1=>by
  have:=uN burnt u;simp only[fW,List.length_append];split<;>simp<;>omega
theorem Co (g:Nat) (n:Nat) (times:Nat->Nat->Int) (chips:Value) (burnt:Nat->Bool) (w:World) (hn:n<=12) (hw:cL w g n times chips burnt):
  Calls Tryz.prog 222 #[.pointer (some ⟨g,0,none⟩)] w fun e w'=>∃l:Value,e= .returned l/\Kd.R (Kd.int .i64) 3 w' w.heap.size (fun _=>True) l (fW burnt n)/\Below w.heap.size w w':=by
 have r:=hw.oU;go_enter Tryz.func222,Tryz.ntmps222
 go_wp2;go_loopw [3,4,9] (fun s _ u wr=>∃k:Nat,k<=n/\u= .int .i64 k/\Aside0 (Kd.R (Kd.int .i64) 3 wr w.heap.size (fun _=>True) s (fW burnt k))/\Aside0 (Below w.heap.size w wr)) (fun _ _ u _=>n- (intOf u).toNat)
 case atStart=>exact⟨0,Nat.zero_le _,rfl,⟨Kd.dh _ _ _ _ _⟩,⟨aq _ _⟩⟩
 case round=>
  obtain⟨k,hk,rfl,h,b⟩:=hrel;have hlen:=uN burnt k;by_cases y:k<n
  ·have i:=hw.below b.out
   have m:=i.mr k (by omega);have r:=i.oU;clear i;have o:fW burnt (k+1)=fW burnt k++(if burnt k then[] else[(k:Int)]):=rfl;have p:=Lib.hid o;clear o;cases a:burnt k with
   |true=>
    rw[a] at m;have j:=Lib.hid a;clear a;go_wp2;go_roundw
    case rel=>exact⟨k+1,by omega,by go_num,⟨by rw[p.out,j.out];simpa using h.out⟩,b⟩
    case measure=>simp[intOf];omega
   |false=>
    rw[a] at m;have j:=Lib.hid a;clear a;go_wp2_with (at_builtin;refine Kd.mJ (Kd.int .i64) (w0:=w) w.heap.size rfl (.tmp 19) (.tmp 21) 25 3 (.int .i64 0) 8 rfl Tryz.underlying25 gB rfl (by decide) (by omega) _ (fW burnt k) (k:Int) [.int .i64 k] (fun _=>True) (fun _=>False) rfl rfl rfl (fun _ hk=>hk.elim) (fun _ _=>trivial) h.out b.out b.out.size (by omega) ?_;intro v1 w1 q hb _ _;have v:=zA q;have x:=zA hb;clear q hb)
    go_roundw
    case rel=>exact⟨k+1,by omega,by go_num,⟨by rw[p.out,j.out];exact v.out⟩,x⟩
    case measure=>simp[intOf];omega
  ·go_wp2
   go_ret;obtain rfl:k=n:=by omega
   exact⟨_,rfl,h.out,b.out⟩
end
end Go.Proofs.YtffdiakgjakngaaGreat.P
namespace Go.Proofs.YtffdiakgjakngaaGreat.P
open Go Go.RowKit
set_option linter.unusedVariables false
set_option linter.unusedSimpArgs false
set_option maxHeartbeats 8000000
set_option maxRecDepth 100000
section
def Bk (l:Nat) (A B:World):Prop:=∃o a,A.heap[l]? =some o/\o.isCells=false/\B=A.putObj l a
theorem Bk.cells {l:Nat} {A B:World} (h:Bk l A B) {k:Nat} {cs:Array Value} {t:TypeId} {fr:Nat×Nat} (hk:A.heap[k]? =some (.cells cs t fr)):B.heap[k]? =some (.cells cs t fr):=by
 obtain⟨o,e,a,b,rfl⟩:=h;rw[World.putObj_heap_other]; · exact hk
 rintro rfl;rw[a] at hk;injection hk with hk;subst hk;simp[Obj.isCells] at b
theorem Bk.size {l:Nat} {A B:World} (h:Bk l A B):B.heap.size=A.heap.size:=by
 obtain⟨o,a,b,e,rfl⟩:=h;simp[World.putObj]
theorem Bk.heap {l:Nat} {A B:World} (h:Bk l A B) (k:Nat) (hk:k≠l):B.heap[k]? =A.heap[k]? :=by
 obtain⟨o,a,b,e,rfl⟩:=h;exact World.putObj_heap_other hk
theorem Bk.below {l:Nat} {A B:World} (h:Bk l A B) (n:Nat) (hn:n<=l):Below n A B:=by
 obtain⟨o,a,b,g,rfl⟩:=h;exact(aq n A).grown (grownBy_putObj' A l a) (by have:=(Array.getElem?_eq_some_iff.1 b).1;omega) (fun k e=>by cases e;omega)
def ct (n:Nat) (A B:World):Prop:=∀k o,n<=k->k<n+2->A.heap[k]? =some o->o.isCells=false->B.heap[k]? =some o
theorem ct.refl (n:Nat) (A:World):ct n A A:=fun _ _ _ _ h _=>h
theorem ct.trans {n:Nat} {A B C:World} (h:ct n A B) (k:ct n B C):ct n A C:=fun j o h1 a e b=>k j o h1 a (h j o h1 a e b) b
def qR {σ α:Type} (nw:Nat) (a:World->World->Prop) (I:List α->World->Prop) (b:Code->List α->World->Prop) (xs:List α) (W:World):Exit->Act->World->Prop
 | .normal,_,W'=>ct nw W W'/\a W W'/\I xs W'
 | .ret,_,W'=>ct nw W W'/\b .ret xs W'
 |_,_,_=>False
variable {F:Fence} {n:Nat} {P:Program}
def iV {σ α:Type} (F:Fence) (n:Nat) (P:Program) (gf:Nat) (lb:Array Value) (bV:α->Array Value) (Start:σ->World->World->Prop) (a:σ->World->World->Prop) (g:σ->α->World->World->Prop) (h:σ->World->World->Prop) (S:σ->List α->World->Prop) (i:σ->List α->World->Prop) (j:List α->Prop) (W:World):Prop:=
 ∀(l:Nat) (J Jx:σ->List α->World->Prop),(∀s pre A B,J s pre A->a s A B->J s pre B)->(∀s pre A B,Jx s pre A->a s A B->Jx s pre B)->
  (∀s W1,Start s W W1->J s [] W1)->
  (∀s pre x b W1,J s pre b->g s x b W1->j pre->YieldAt F (n-1) P l (bV x) W1 fun e W'=>
   (e= .returned (.bool true)/\J s (pre++[x]) W'/\h s W1 W')\/(e= .returned (.bool false)/\Jx s (pre++[x]) W'))->
  CallsIn F n P gf (#[.func (.yield l) #[] #[]]++lb) W fun e W'=>(∃v,e= .returned v)/\((∃s xs,S s xs W'/\J s xs W')\/(∃s pre,i s pre W'/\Jx s pre W'))
theorem iz {σ α:Type} {g:Operand} {ps:Array Tmp} {assign body:Code} {Q:Exit->Act->World->Prop} {a:Act} {w:World}
  (ap:F.round=none) (h1:1<=n) {gf:Nat} {lb:Array Value} (hg:a.eval g= .func (.func gf) #[] lb) (av:F.fn gf) (eg:∀args w,(callFunc gf args).run P w= .ok (.enter gf args) w)
  {bV:α->Array Value} {Start:σ->World->World->Prop} {J:σ->World->World->Prop} {O:σ->α->World->World->Prop} {L:σ->World->World->Prop} {S Z:σ->List α->World->Prop} {Bd:List α->Prop}
  (aF:∀o,iV F (n-1) P gf lb bV Start J O L S Z Bd ((w.alloc (.deferred (some []))).alloc (.loop o))) (aL:∀x,(bV x).size=ps.size)
  (m:σ->Prop) (aO:∀o s W1,Start s ((w.alloc (.deferred (some []))).alloc (.loop o)) W1->m s/\ct w.heap.size ((w.alloc (.deferred (some []))).alloc (.loop o)) W1)
  (M:∀s A B,m s->J s A B->ct w.heap.size A B) (aP:∀s x A B,m s->O s x A B->ct w.heap.size A B)
  (I:σ->List α->World->Prop) (u:Code->σ->List α->World->Prop)
  (aS:∀s pre A B,m s->I s pre A->J s A B->I s pre B) (a0:∀c s pre A B,m s->u c s pre A->J s A B->u c s pre B)
  (a1:∀s pre A B,I s pre A->Bk (w.heap.size+1) A B->I s pre B) (a2:∀c s pre A B,u c s pre A->Bk (w.heap.size+1) A B->u c s pre B)
  (a4:∀s A B C D,Bk (w.heap.size+1) A B->L s B C->Bk (w.heap.size+1) C D->L s A D)
  (h0:∀o s W1,Start s ((w.alloc (.deferred (some []))).alloc (.loop o)) W1->I s [] W1) (a₁:α->Act)
  (a9:∀(l:Nat) (x:α) (W:World) (K:Act->World->Prop),K (a₁ x) W->
   assign.wpIn (F.inRound l) (n-1-1) P (Exit.then K (fun _ _ _=>False)) {tmps:=(ps.zip (bV x)).foldl (fun t (p,v)=>t.setIfInBounds p v) a.tmps,defers:=[]} W)
  (bd:∀(l:Nat) (s:σ) (pre:List α) (x:α) (G W1 W:World),m s->I s pre G->O s x G W1->Bd pre->Bk (w.heap.size+1) W1 W->body.wpIn (F.inRound l) (n-1-1) P (qR (σ:=σ) w.heap.size (L s) (I s) (fun c=>u c s) (pre++[x]) W) (a₁ x) W)
  (be:∀(s:σ) (xs:List α) (W W':World),m s->S s xs W->I s xs W->Bk (w.heap.size+1) W W'->W'.heap[w.heap.size]? =some (.deferred (some []))->Q .normal {a with defers:={target:=.collected w.heap.size,args:=#[]}::a.defers} W')
  (bf:∀(c:Code) (s:σ) (pre:List α) (W W':World),m s->Z s pre W->u c s pre W->Bk (w.heap.size+1) W W'->W'.heap[w.heap.size]? =some (.deferred (some []))->c.wpIn F n P Q {a with defers:={target:=.collected w.heap.size,args:=#[]}::a.defers} W'):
  (Code.rangeFunc g ps assign body).wpIn F n P Q a w:=by
 refine wpIn_rangeFunc ?_;intro fn bg;rw[ap];obtain⟨rec,q⟩:∃rec:LoopState->Option Code->Loop,rec=fun st pe=>{state:=st,pending:=pe,fn,tmps:=a.tmps,params:=ps,assign,body,defers:=w.heap.size}:=⟨_,rfl⟩
 obtain⟨W1,y⟩:∃W1,(w.alloc (.deferred (some []))).alloc (.loop (rec .ready none))=W1:=⟨_,rfl⟩;have bk:W1.heap[w.heap.size+1]? =some (.loop (rec .ready none)):=by
  rw[<-y];have:=World.alloc_heap_new (w.alloc (.deferred (some []))) (.loop (rec .ready none));rwa [World.size_alloc] at this
 have bn:W1.heap[w.heap.size]? =some (.deferred (some [])):=by
  rw[<-y];exact(Below.heap_alloc _ _ _ (by simp)).trans (World.alloc_heap_new w _)
 refine⟨w.heap.size+1,[{target:=.collected w.heap.size,args:=#[]}],W1,{target:=.fn (.func gf) lb,args:=#[.func (.yield (w.heap.size+1)) #[] #[]]},W1,gf,
  #[.func (.yield (w.heap.size+1)) #[] #[]]++lb,W1,?_,?_,?_,?_,fun _=>h1,?_⟩
 ·rw[<-y,q];exact run_enterLoop_outer _ _ _ _ _
 ·simp only[resolve,hg]
  simp[go_sem]
 ·intro f' ad;simp[Target.leads] at ad;subst ad;exact av
 ·simp[invoke,go_sem,eg]
 ·have hs:=aF (rec .ready none)
  rw[y] at hs;have ld:∀{A B:World} {r:Loop},ct w.heap.size A B->A.heap[w.heap.size+1]? =some (.loop r)->B.heap[w.heap.size+1]? =some (.loop r):=fun h R=>h _ _ (by omega) (by omega) R rfl
  have H:∀{A B:World},ct w.heap.size A B->A.heap[w.heap.size]? =some (.deferred (some []))->B.heap[w.heap.size]? =some (.deferred (some [])):=fun h R=>h _ _ (by omega) (by omega) R rfl
  refine(hs (w.heap.size+1)
   (fun s pre W=>m s/\I s pre W/\W.heap[w.heap.size+1]? =some (.loop (rec .ready none))/\W.heap[w.heap.size]? =some (.deferred (some [])))
   (fun s pre W=>m s/\∃c,u c s pre W/\W.heap[w.heap.size+1]? =some (.loop (rec .done (some c)))/\W.heap[w.heap.size]? =some (.deferred (some [])))
   (fun s pre A B h j=>⟨h.1,aS s pre A B h.1 h.2.1 j,ld (M s A B h.1 j) h.2.2.1,H (M s A B h.1 j) h.2.2.2⟩)
   (fun s pre A B h j=>by
    obtain⟨b,c,hc,i,hk⟩:=h;exact⟨b,c,a0 c s pre A B b hc j,ld (M s A B b j) i,H (M s A B b j) hk⟩)
   (fun s W2 j=>by
    rw[<-y] at j;have hk:=aO (rec .ready none) s W2 j;have z:=hk.2;rw[y] at z;exact⟨hk.1,h0 _ s W2 j,ld z bk,H z bn⟩)
   ?_).mono ?_
  ·rintro s pre x G W ⟨b,hi,bv,bw⟩ ak bx
   have z:=aP s x G W b ak;have i:=ld z bv;have hk:=H z bw;have b0:w.heap.size+1<W.heap.size:=(Array.getElem?_eq_some_iff.1 i).1;have hy:=run_yield (P:=P) (args:=bV x) i (by rw[q];exact aL x);rw[q] at hy;have an:Bk (w.heap.size+1) W (W.putObj (w.heap.size+1) (.loop {rec .ready none with state:=.busy})):=⟨_,_,i,rfl,rfl⟩;refine⟨fn,_,assign,body,hy,roundIn_of_wpIn bg (a9 _ x W _ ⟨_,run_beginRound i (by rw[q]),?_⟩)⟩;have b1:(W.putObj (w.heap.size+1) (.loop {rec .ready none with state:=.busy})).heap[w.heap.size+1]? =some (.loop {rec .ready none with state:=.busy}):=World.putObj_heap_same b0;have b2:(W.putObj (w.heap.size+1) (.loop {rec .ready none with state:=.busy})).heap[w.heap.size]? =some (.deferred (some [])):=(World.putObj_heap_other (by omega)).trans hk;refine wpIn_mono (bd _ s pre x G W _ b hi ak bx an) ?_;have fin:∀(jump:Option Code) (k:World),ct w.heap.size (W.putObj (w.heap.size+1) (.loop {rec .ready none with state:=.busy})) k->
     (Instr.endRound (w.heap.size+1) jump).run P k= .ok (.bool jump.isNone) (k.putObj (w.heap.size+1) (.loop (rec (if jump.isNone then .ready else .done) jump)))/\
     Bk (w.heap.size+1) k (k.putObj (w.heap.size+1) (.loop (rec (if jump.isNone then .ready else .done) jump)))/\
     (k.putObj (w.heap.size+1) (.loop (rec (if jump.isNone then .ready else .done) jump))).heap[w.heap.size+1]? =some (.loop (rec (if jump.isNone then .ready else .done) jump))/\
     (k.putObj (w.heap.size+1) (.loop (rec (if jump.isNone then .ready else .done) jump))).heap[w.heap.size]? =some (.deferred (some [])):=fun jump k E=>by
    have T:=ld E b1;have:=run_endRound (P:=P) jump T;rw[q] at this⊢;exact⟨this,⟨_,_,T,rfl,rfl⟩,World.putObj_heap_same (Array.getElem?_eq_some_iff.1 T).1,(World.putObj_heap_other (by omega)).trans (H E b2)⟩
   rintro e a3 k hp;cases e with
   |normal=>
    obtain⟨E,b3,U⟩:=hp;obtain⟨V,N,X,Y⟩:=fin none k E;exact⟨_,_,V,.inl ⟨rfl,⟨b,a1 s _ _ _ U N,X,Y⟩,a4 s _ _ _ _ an b3 N⟩⟩
   |ret=>
    obtain⟨E,U⟩:=hp;obtain⟨V,N,X,Y⟩:=fin (some .ret) k E;exact⟨_,_,V,.inr ⟨rfl,b,.ret,a2 _ s _ _ _ U N,X,Y⟩⟩
   |exit id=>exact hp.elim
   |goto t=>exact hp.elim
   |panic ch=>exact hp.elim
   |outgrown=>exact hp.elim
  ·rintro e W2 ⟨⟨v,rfl⟩,(⟨s,xs,hS,b,hi,i,hk⟩|⟨s,pre,b4,b,c,hi,i,hk⟩)⟩
   ·exact⟨none,_,by have:=run_endLoop (P:=P) i (by rw[q];simp);rw[q] at this;exact this,be s xs W2 _ b hS hi ⟨_,_,i,rfl,rfl⟩ ((World.putObj_heap_other (by omega)).trans hk)⟩
   ·exact⟨some c,_,by have:=run_endLoop (P:=P) i (by rw[q];simp);rw[q] at this;exact this,bf c s pre W2 _ b b4 hi ⟨_,_,i,rfl,rfl⟩ ((World.putObj_heap_other (by omega)).trans hk)⟩
end
end Go.Proofs.YtffdiakgjakngaaGreat.P
namespace Go.Proofs.YtffdiakgjakngaaGreat.P
open Go.RowKit Go.Proofs.YtffdiakgjakngaaGreatW.PrintWords Go.Proofs.YtffdiakgjakngaaGreatW.PrintLast Go.Proofs.YtffdiakgjakngaaGreatW.PrintMore
set_option linter.unusedVariables false
set_option linter.unusedSimpArgs false
set_option maxHeartbeats 8000000
set_option maxRecDepth 100000
section
def jT (n:Nat) (c:(Nat->Bool)->Nat->Bool) (b:Nat->Bool):Option Nat:=(List.range n).find? (fun v=>c b v)
def ee (b:Nat->Bool) (v:Nat):Nat->Bool:=fun u=>if u=v then true else b u
def dS (n:Nat) (b:Nat->Bool):Nat:=(List.range n).countP (fun v=> !b v)
def fN (n:Nat) (c:(Nat->Bool)->Nat->Bool):Nat->(Nat->Bool)->List Nat
 |0,_=>[]
 |f+1,b=>match jT n c b with
  |none=>[]
  |some v=>v::fN n c f (ee b v)
def eF (n:Nat) (c:(Nat->Bool)->Nat->Bool) (b:Nat->Bool):List Nat:=fN n c (dS n b) b
def cJ (b:Nat->Bool) (l:List Nat):Nat->Bool:=l.foldl ee b
theorem oV (b:Nat->Bool) (l:List Nat) (v:Nat):cJ b (l++[v])=ee (cJ b l) v:=by simp[cJ]
theorem nn {n:Nat} {b:Nat->Bool} {v:Nat} (g:v<n) (hb:b v=false):dS n b=dS n (ee b v)+1:=by
 unfold dS;induction n with
 |zero=>omega
 |succ n a=>
  rw[List.range_succ,List.countP_append,List.countP_append];by_cases e:v=n
  ·subst e
   have h1:(List.range v).countP (fun u=> !b u)=(List.range v).countP (fun u=> !ee b v u):=List.countP_congr (fun u hu=>by have:=List.mem_range.1 hu;simp[ee,show u≠v from by omega]);rw[h1];simp[ee,hb]
  ·have:=a (by omega)
   rw[this];simp[ee,show n≠v from by omega];omega
theorem uO (n:Nat) (b:Nat->Bool):dS n b<=n:=by
 unfold dS;exact Nat.le_trans List.countP_le_length (by simp)
theorem Cp {n:Nat} {c:(Nat->Bool)->Nat->Bool} {b:Nat->Bool} (h:∀v,v<n->c b v=false):eF n c b=[]:=by
 have:jT n c b=none:=by
  unfold jT;rw[List.find?_eq_none];intro v a;simp[h v (List.mem_range.1 a)]
 unfold eF;cases dS n b<;>simp[fN,this]
theorem Cq {n:Nat} {c:(Nat->Bool)->Nat->Bool} (g:∀b v,c b v=true->b v=false) {b:Nat->Bool} {v:Nat} (a:v<n) (e:c b v=true) (h:∀u,u<v->c b u=false):eF n c b=v::eF n c (ee b v):=by
 have i:jT n c b=some v:=by
  unfold jT;rw[List.find?_eq_some_iff_append];refine⟨e,(List.range n).take v,(List.range n).drop (v+1),?_,?_⟩
  ·have h1:(List.range n)[v]'(by simpa using a)=v:=by simp
   conv=>lhs;rw[<-List.take_append_drop v (List.range n)]
   rw[List.drop_eq_getElem_cons (by simpa using a),h1]
  ·intro u hu
   have k:u<v:=by
    rw[List.mem_take_iff_getElem] at hu;obtain⟨j,l,rfl⟩:=hu;simp at l⊢;omega
   simp[h u k]
 have m:=nn a (g b v e);unfold eF;rw[m];simp only[fN,i]
def cA (n:Nat) (times:Nat->Nat->Int) (l:List Int) (b:Nat->Bool) (v:Nat):Bool:= !b v&&decide (rd l v<cW times b v n)
theorem np {n:Nat} {times:Nat->Nat->Int} {l:List Int} (b:Nat->Bool) (v:Nat) (h:cA n times l b v=true):b v=false:=by
 unfold cA at h;cases hb:b v<;>simp_all
theorem Cr (g:Nat) (n v:Nat) (times:Nat->Nat->Int) (A:Option Addr) (c:Nat) (l:List Int) (burnt:Nat->Bool) (w:World) (hn:n<=12) (a:v<12) (b:v<l.length) (h:∀i j,0<=times i j/\times i j<=50) (hw:cL w g n times (.slice A l.length c) burnt) (k:Kd.C (Kd.int .i64) w A l.length l):
  Calls Tryz.prog 226 #[.pointer (some ⟨g,0,none⟩),.int .i64 v] w fun e w'=>e= .returned (.bool (cA n times l burnt v))/\aC w w':=by
 unfold cA;cases hb:burnt v with
 |true=>simpa using Cm g n v times _ burnt w a hw hb
 |false=>simpa using Cn g n v times A c l burnt w hn a b h hw k hb
attribute [local go_sem] Oper.semAt_some
theorem uP {w w1:World} (h:aC w w1) (r:Option Nat):w.grownBy w1 r:=jI h.below r
theorem Cs {w w1:World} {g j:Nat} {v:Value} (h:w.grownBy w1 (some g)):w.grownBy (w1.setCell ⟨g,j,none⟩ v) (some g):=
 have hb:=(aq 0 w1).setCell (p:=⟨g,j,none⟩) (Nat.zero_le _) v;h.trans ⟨hb.os,hb.tape,hb.output,hb.size,fun k _ hk=>Below.heap_setCell _ _ _ _ (fun e=>hk (by rw[e]))⟩
theorem cL.of_heap {w w':World} {g:Nat} {n:Int} {times:Nat->Nat->Int} {chips:Value} {burnt:Nat->Bool} (h:cL w g n times chips burnt) (e:w'.heap[g]? =w.heap[g]?):cL w' g n times chips burnt:=by
 obtain⟨cs,hb,a⟩:=h;exact⟨cs,e.trans hb,a⟩
theorem cY {w:World} {b:Nat} {v:Value} {t:TypeId} (h:w.heap[b]? =some (.cells #[v] t (0,0))):w.cell? ⟨b,0,none⟩=some v:=(aj h 0).trans rfl
theorem Ct (g a n:Nat) (times:Nat->Nat->Int) (A:Option Addr) (c:Nat) (l:List Int) (b0:Nat->Bool) (W:World) (base:Nat) (hn:n<=12) (hl:n<=l.length) (ht:∀i j,0<=times i j/\times i j<=50) (aB:a≠g)
  (hW:cL W g n times (.slice A l.length c) b0) (aL:W.heap[a]? =some (.cells #[.pointer (some ⟨g,0,none⟩)] 245 (0,0))) (hr:Kd.R (Kd.int .i64) 3 W base (fun k=>some k=(Value.slice A l.length c).ownBlock) (.slice A l.length c) l):
  iV (σ:=Unit) Fence.wide 9 Tryz.prog 225 #[.pointer (some ⟨a,0,none⟩)] (fun v:Nat=>#[.int .i64 v]) (fun _ W W1=>W1=W) (fun _ A B=>A.grownBy B (some g)) (fun _ _ A B=>A.grownBy B (some g))
   (fun _ X Y=>∀k,(k=g\/k=a\/some k=(Value.slice A l.length c).ownBlock)->Y.heap[k]? =X.heap[k]?)
   (fun _ xs W'=>xs=eF n (cA n times l) b0/\cL W' g n times (.slice A l.length c) (cJ b0 xs)) (fun _ _ _=>True) (fun pre=>pre.length<n) W:=by
 intro lp J Jx I K L M;have aP:=zA I;have b1:=zA K;have hY:=zA M;have a0:=L () W rfl;clear I K L M;refine callsIn_of_wp Tryz.func225 rfl trivial ?_ rfl;simp only[Tryz.ntmps225,List.size_toArray,List.length_cons,List.length_nil,Nat.reduceAdd,Nat.reduceSub,Array.replicate_succ,Array.replicate_zero,List.push_toArray,List.append_toArray,List.nil_append,List.cons_append];gi_wp2;gi_loopg [3] (13*dS n b0+n) (fun kq v wr=>∃(pre:List Nat) (u:Nat),v= .int .i64 u/\u<=n/\Aside0 (J () pre wr)/\Aside0 (cL wr g n times (.slice A l.length c) (cJ b0 pre))/\Aside0 (wr.heap[a]? =some (.cells #[.pointer (some ⟨g,0,none⟩)] 245 (0,0)))/\Aside0 (Kd.R (Kd.int .i64) 3 wr base (fun k=>some k=(Value.slice A l.length c).ownBlock) (.slice A l.length c) l)/\Aside0 (∀x,x<u->cA n times l (cJ b0 pre) x=false)/\Aside0 (eF n (cA n times l) b0=pre++eF n (cA n times l) (cJ b0 pre))/\Aside0 (kq=13*dS n (cJ b0 pre)+(n-u))/\Aside0 (pre.length+dS n (cJ b0 pre)=dS n b0))
 case atStart=>exact⟨[],0,rfl,Nat.zero_le _,⟨a0⟩,⟨hW⟩,⟨aL⟩,⟨hr⟩,⟨fun x N=>by omega⟩,⟨by simp[cJ]⟩,⟨by simp[cJ]⟩,⟨by simp[cJ]⟩⟩
 case round=>
  obtain⟨pre,u,rfl,hu,s,b,y,z,D,E,O,F⟩:=hrel;have a2:=cY y.out;have b2:=b.out.oU;by_cases P:u<n
  ·have Q:Kd.C (Kd.int .i64) wr A l.length l:=by
    obtain⟨A',c',e,_,hC⟩:=Kd.nW z.out;injection e with e1 e2 e3
    rw[e1];exact hC
   have p:=zA (Cr g n u times A c l (cJ b0 pre) wr hn (by omega) (by omega) ht b.out Q);clear Q;cases h:cA n times l (cJ b0 pre) u with
   |false=>
    rw[h] at p;have S:=Lib.hid h;clear h;gi_wp2_with (refine⟨trivial,?_⟩;gi_at_call 226;refine(callsIn_wide.2 p.out).mono ?_;rintro e w1 ⟨rfl,o⟩;have T:=zA o;clear o)
    gi_roundg (13*dS n (cJ b0 pre)+(n- (u+1)))
    case measure=>rw[O.out];omega
    case rel=>
     obtain⟨m,rfl⟩:=T.out.out;refine⟨pre,u+1,by go_num,by omega,⟨aP.out () pre wr _ s.out (uP T.out _)⟩,b,y,z,⟨fun x N=>?_⟩,E,⟨rfl⟩,F⟩;by_cases e:x=u
     ·rw[e];exact S.out
     ·exact D.out x (by omega)
   |true=>
    rw[h] at p;have U:=np _ _ h;have q:=nn P U;have V:=Cq np P h D.out;have G:=Lib.hid q;have a4:=Lib.hid V;have S:=Lib.hid h;clear h U q V;have HG:Aside0 (∀w1,aC wr w1->w1.cell? ⟨a,0,none⟩=some (.pointer (some ⟨g,0,none⟩))/\w1.cell? ⟨g,146+u,none⟩=some (.bool (cJ b0 pre u))/\w1.frozen? ⟨g,146+u,none⟩=false/\
      cL (w1.setCell ⟨g,146+u,none⟩ (.bool true)) g n times (.slice A l.length c) (cJ b0 (pre++[u]))/\(w1.setCell ⟨g,146+u,none⟩ (.bool true)).heap[a]? =some (.cells #[.pointer (some ⟨g,0,none⟩)] 245 (0,0))/\
      Kd.R (Kd.int .i64) 3 (w1.setCell ⟨g,146+u,none⟩ (.bool true)) base (fun k=>some k=(Value.slice A l.length c).ownBlock) (.slice A l.length c) l/\wr.grownBy (w1.setCell ⟨g,146+u,none⟩ (.bool true)) (some g)):=by
     refine⟨fun w1 o=>?_⟩;obtain⟨m,rfl⟩:=o.out;refine⟨a2,b.out.mr u (by omega),b.out.frozen _,?_,?_,?_,Cs (uP o _)⟩
     ·rw[oV];exact(b.out.drewN m).uM u (by omega) true
     ·exact aD (w:=wr.drewN m) y.out aB _
     ·exact(b.out.drewN m).fg (Kd.bD z.out m) (by decide) (146+u) (.bool true)
    gi_wp2_with (refine⟨trivial,?_⟩;gi_at_call 226;refine(callsIn_wide.2 p.out).mono ?_;rintro e w1 ⟨rfl,o⟩;obtain⟨Z,q2,q3,ad,ag,ak,H⟩:=HG.out w1 o;have a9:=zA ad;have bd:=zA ag;have be:=zA ak;have b5:=zA H;obtain⟨fn,tmps,b6,b_,hy,an⟩:=hY.out () pre u wr _ s.out H (by have:=F.out;have:=G.out;have:=uO n b0;omega);have bf:=zA an;clear o ad ag ak H an)
    refine bf.out.mono ?_;rintro e W3 (⟨rfl,ap,r⟩|⟨rfl,ar⟩)
    ·have bg:=zA (a9.out.of_heap (r g (.inl rfl)))
     have bi:=zA ((r a (.inr (.inl rfl))).trans bd.out);have bk:=zA (Kd.fB be.out (fun k hk=>r k (.inr (.inr hk))));have bn:=zA ap;clear ap r hy Z q2 q3;gi_wp2;gi_roundg (13*dS n (cJ b0 (pre++[u]))+n)
     case measure=>rw[O.out,G.out,oV];omega
     case rel=>
      refine⟨pre++[u],0,rfl,by omega,bn,bg,bi,bk,⟨fun x N=>by omega⟩,⟨?_⟩,⟨rfl⟩,⟨by have:=F.out;have:=G.out;rw[oV];simp;omega⟩⟩;rw[E.out,a4.out,oV];simp
    ·clear hy Z q2 q3
     have bo:=zA ar;clear ar;gi_wp2;refine bodyPost_ret (results_none rfl _ _ _) rfl ?_;exact⟨⟨_,rfl⟩,.inr ⟨(),pre++[u],trivial,bo.out⟩⟩
  ·have q:u=n:=by omega
   subst q;gi_wp2;go_end0;exact⟨⟨_,rfl⟩,.inl ⟨(),pre,⟨by rw[E.out,Cp D.out];simp,b.out⟩,s.out⟩⟩
end
theorem uQ (w:World) (ok:Nat->Prop) (a:ok w.heap.size) (e:Nat):(Kd.int .i64).R e (w.alloc (.cells #[] e)) w.heap.size ok (.slice (some ⟨w.heap.size,0,none⟩) 0 0) []:=
 ⟨fun k hk=>by
  have:w.heap.size=k:=by simpa [Value.ownBlock] using hk
  subst this;exact a,[],by
  show World.ownsRow _ _ _ 1 _ _ _
  simpa using World.ownsRow_lit (base:=w.heap.size) (e:=e) (size:=1) w #[] 0 (aI _) (by decide) rfl,aT.none _ _⟩
theorem uR {l:List Int} {w:World} (h:Kd.C (Kd.int .i64) w none l.length l):l=[]:=by
 cases l with
 |nil=>rfl
 |cons x xs=>obtain⟨ad,e,_⟩:=h.2.2 (by simp);cases e
def clone.f (l0:List Int):Option (List Int):=if l0.length<17592186044416 then some l0 else none
abbrev fF.f (l0:List Int):Option (List Int):=clone.f l0
abbrev nt.f (l0:List Int):Option (List Int):=clone.f l0
theorem fF.calls (A0:Option Addr) (c0:Nat) (l0:List Int) (r:List Int) (w:World) (b:Kd.C (Kd.int .i64) w A0 l0.length l0) (j:l0.length<=c0) (h:fF.f l0=some r):
  Calls Tryz.prog 57 #[.slice A0 l0.length c0] w fun e w'=>∃g:Value,e= .returned (g)/\Kd.R (Kd.int .i64) 3 w' w.heap.size (fun _=>True) g r/\Below w.heap.size w w':=by
 have hu:=Tryz.underlying26;have k:=fun (w:World) (a:Option Addr) (n c:Nat)=>Lib.run_eql_slice_nil (P:=Tryz.prog) w 26 3 a n c 0 0 hu
 unfold fF.f clone.f at h;split at h
 ·rename_i l
  obtain rfl:=aH h;cases A0 with
  |none=>
   go_enter Tryz.func57,Tryz.ntmps57
   go_wp2;go_ret;obtain rfl:=uR b;exact⟨_,rfl,Kd.dh _ _ _ _ _,aq _ _⟩
  |some ad=>
   go_enter Tryz.func57,Tryz.ntmps57
   go_wp2_with (at_builtin;refine Kd.ta (w0:=w) (Value.int .i64) (0:Int) (h1:=fun _=>rfl) w.heap.size rfl (.tmp 5) (.tmp 6) 26 3 (.int .i64 0) 8 rfl Tryz.underlying26 gB rfl (by decide) (.slice (some ⟨w.heap.size,0,none⟩) 0 0) [] l0 (some ad) l0.length c0 (fun _=>True) rfl rfl (fun _ _=>trivial) (uQ w _ trivial 3) (Kd.aw b (ao (aq _ _) _)) (ao (aq _ _) _) (by simp) (by simp;omega) ?_;intro v1 w1 i hb m _)
   go_ret;exact⟨_,rfl,i,hb⟩
 ·cases h
theorem nt.calls (A0:Option Addr) (c0:Nat) (l0:List Int) (r:List Int) (w:World) (b:Kd.C (Kd.int .i64) w A0 l0.length l0) (j:l0.length<=c0) (h:nt.f l0=some r):
  Calls Tryz.prog 217 #[.slice A0 l0.length c0] w fun e w'=>∃g:Value,e= .returned (g)/\Kd.R (Kd.int .i64) 3 w' w.heap.size (fun _=>True) g r/\Below w.heap.size w w':=by
 have hu:=Tryz.underlying25;have k:=fun (w:World) (a:Option Addr) (n c:Nat)=>Lib.run_eql_slice_nil (P:=Tryz.prog) w 25 3 a n c 0 0 hu
 unfold nt.f clone.f at h;split at h
 ·rename_i l
  obtain rfl:=aH h;cases A0 with
  |none=>
   go_enter Tryz.func217,Tryz.ntmps217
   go_wp2;go_ret;obtain rfl:=uR b;exact⟨_,rfl,Kd.dh _ _ _ _ _,aq _ _⟩
  |some ad=>
   go_enter Tryz.func217,Tryz.ntmps217
   go_wp2_with (at_builtin;refine Kd.ta (w0:=w) (Value.int .i64) (0:Int) (h1:=fun _=>rfl) w.heap.size rfl (.tmp 5) (.tmp 6) 25 3 (.int .i64 0) 8 rfl Tryz.underlying25 gB rfl (by decide) (.slice (some ⟨w.heap.size,0,none⟩) 0 0) [] l0 (some ad) l0.length c0 (fun _=>True) rfl rfl (fun _ _=>trivial) (uQ w _ trivial 3) (Kd.aw b (ao (aq _ _) _)) (ao (aq _ _) _) (by simp) (by simp;omega) ?_;intro v1 w1 i hb m _)
   go_ret;exact⟨_,rfl,i,hb⟩
 ·cases h
theorem qS:Tryz.zeroCells252=((List.replicate 145 (Value.int .i64 0))++[Value.slice none 0 0]++List.replicate 12 (Value.bool false)).toArray:=by kernel_rfl
theorem oT.new (n:Int) (chips:Value):oT ((Tryz.zeroCells252.setIfInBounds 0 (.int .i64 n)).setIfInBounds 145 chips) n (fun _ _=>0) chips (fun _=>false):=by
 have a:Tryz.zeroCells252.size=158:=by rw[qS];simp
 refine⟨by simp[a],?_,?_,?_,?_⟩
 ·rw[Array.getElem?_setIfInBounds_ne (by omega),Array.getElem?_setIfInBounds_self_of_lt (by omega)]
 ·intro i j hi b
  rw[Array.getElem?_setIfInBounds_ne (by omega),Array.getElem?_setIfInBounds_ne (by omega),qS];rw[List.getElem?_toArray,List.getElem?_append_left (by simp;omega),List.getElem?_append_left (by simp;omega),List.getElem?_replicate,if_pos (by omega)]
 ·rw[Array.getElem?_setIfInBounds_self_of_lt (by simp[a])]
 ·intro i hi
  rw[Array.getElem?_setIfInBounds_ne (by omega),Array.getElem?_setIfInBounds_ne (by omega),qS];rw[List.getElem?_toArray,List.getElem?_append_right (by simp),List.getElem?_replicate,if_pos (by simp;omega)]
theorem Cu (n q:Nat) (A0:Option Addr) (c0:Nat) (E:List S83) (L:Option Addr) (c2:Nat) (l:List Int) (w:World) (T:Kd.C aN w A0 E.length E) (a0:E.length<=c0) (am:Kd.C (Kd.int .i64) w L l.length l) (an:l.length<=c2) (hn:n<=12) (hq:q<n) (hE:ep n E) (a2:l.length<=n) (a3:n<=l.length):
  Calls Tryz.prog 220 #[.agg #[.int .i64 n,.slice A0 E.length c0],.int .i64 q,.slice L l.length c2] w (fun e w'=>∃g h o,e= .returned (.pointer (some ⟨g,0,none⟩))/\cL w' g n (af E) (.slice h l.length o) (fun i=>if i=q then true else false)/\Kd.R (Kd.int .i64) 3 w' w.heap.size (fun _=>True) (.slice h l.length o) l/\Below w.heap.size w w'/\w.heap.size<=g):=by
 have hu:=Tryz.underlying24;go_enter Tryz.func220,Tryz.ntmps220
 go_wp2_with fail
 go_region_held3 (fun w'=>w'.cell? ⟨w.heap.size,0,none⟩=some (.int .i64 n)/\w'.cell? ⟨w.heap.size,1,none⟩=some (.slice A0 E.length c0)) (first|go_keep|(go_split_ands;exact⟨(G.cell (p:=⟨w.heap.size,0,none⟩) (by simp)).trans (by go_simp),(G.cell (p:=⟨w.heap.size,1,none⟩) (by simp)).trans (by go_simp)⟩))
  (first|(go_at_call 57;refine(fF.calls L c2 l l _ (Kd.aw am (ig (ao (aq _ _) _))) an (by unfold fF.f clone.f;rw[if_pos (by omega)])).mono ?_;rintro e w1 ⟨v0,rfl,M,G⟩;obtain⟨h,o,rfl⟩:=Kd.bm M))
 rename_i hHeld;have N:cL (w1.alloc (.cells ((Tryz.zeroCells252.setIfInBounds 0 (.int .i64 n)).setIfInBounds 145 (.slice h l.length o)) 252)) w1.heap.size n (fun _ _=>0) (.slice h l.length o) (fun _=>false):=⟨_,by simpa using bc w1 _,oT.new _ _⟩;have U:Below w.heap.size w (w1.alloc (.cells ((Tryz.zeroCells252.setIfInBounds 0 (.int .i64 n)).setIfInBounds 145 (.slice h l.length o)) 252)):=ao (lN (ig (ao (aq _ _) _)) (by simp) G) _;have V:Kd.R (Kd.int .i64) 3 (w1.alloc (.cells ((Tryz.zeroCells252.setIfInBounds 0 (.int .i64 n)).setIfInBounds 145 (.slice h l.length o)) 252)) w.heap.size (fun _=>True) (.slice h l.length o) l:=Kd.bj (Kd.aR M _) (by simp);have hg:w.heap.size<w1.heap.size:=by have:=G.size;simp at this;omega
 clear G M;generalize av:w1.heap.size=g at N hg⊢;generalize (w1.alloc (.cells ((Tryz.zeroCells252.setIfInBounds 0 (.int .i64 n)).setIfInBounds 145 (.slice h l.length o)) 252))=W0 at N hHeld U V⊢;clear av;obtain⟨a4,a5⟩:=hHeld;go_wp2;go_loopw [19] (fun u wr=>∃k:Nat,k<=E.length/\u= .int .i64 k/\Aside0 (cL wr g n (af (E.take k)) (.slice h l.length o) (fun _=>false))/\Aside0 (Kd.R (Kd.int .i64) 3 wr w.heap.size (fun _=>True) (.slice h l.length o) l)/\Aside0 (Below w.heap.size w wr)) (fun u _=>E.length- (intOf u).toNat)
 case atStart=>exact⟨0,Nat.zero_le _,rfl,⟨by simpa [af] using N⟩,⟨V⟩,⟨U⟩⟩
 case round=>
  obtain⟨k,hk,rfl,y,O,z⟩:=hrel;have a9:=T.2.1;by_cases W:k<E.length
  ·obtain⟨P,X,e2,Y,Z,e5⟩:=hE.get k W
   have ab:=ub E k W;have Q:=Lib.hid ab;clear ab;obtain⟨ad,rfl,B,D,F⟩:=dE T k (by omega) (by omega);rw[aM] at B D F;replace B:=(z.out.cell (a8 w _ B)).trans B;replace D:=(z.out.cell (a8 w _ D)).trans D;replace F:=(z.out.cell (a8 w _ F)).trans F;generalize ae E k=x at P X e2 Y Z e5 B D F Q;obtain⟨a,b,m⟩:=x;simp only at P X e2 Y Z e5 B D F;obtain⟨a,rfl⟩:=Int.eq_ofNat_of_zero_le P;obtain⟨b,rfl⟩:=Int.eq_ofNat_of_zero_le e2;have a12:a<12:=by omega
   have s:b<12:=by omega
   by_cases H:a=b
   ·have aB:((a:Int) != (b:Int))=false:=by rw[H];simp
    have S:=Lib.hid H;clear H;go_wp2;go_roundw
    case rel=>exact⟨k+1,by omega,by go_num,⟨by rw[Q.out];simp only[cV];rw[if_pos (by rw[S.out])];exact y.out.below (ao (aq _ _) _)⟩,⟨Kd.aR O.out _⟩,⟨ao z.out _⟩⟩
    case measure=>simp[intOf];omega
   ·have aB:((a:Int) != (b:Int))=true:=by rw[bne_iff_ne];omega
    have bd:1+a*12+b≠1+b*12+a:=by omega
    have be:1+b*12+a≠1+a*12+b:=by omega
    have S:=Lib.hid H;clear H;have bf:=y.out.lt;have r:=zA (y.out.below (ao (aq _ _) (.cells #[.int .i64 a,.int .i64 b,.int .i64 m] 83)));have f1:=r.out.frozen (1+a*12+b);have f2:=r.out.frozen (1+b*12+a);have c1:=r.out.nk a b a12 s;have c2:=r.out.nk b a s a12;go_wp2;have s0:(wr.alloc (.cells #[.int .i64 a,.int .i64 b,.int .i64 m] 83)).cell? ⟨wr.heap.size,0,none⟩=some (.int .i64 a):=by go_simp
    have s1:(wr.alloc (.cells #[.int .i64 a,.int .i64 b,.int .i64 m] 83)).cell? ⟨wr.heap.size,1,none⟩=some (.int .i64 b):=by go_simp
    have s2:(wr.alloc (.cells #[.int .i64 a,.int .i64 b,.int .i64 m] 83)).cell? ⟨wr.heap.size,2,none⟩=some (.int .i64 m):=by go_simp
    have ag:=zA (Kd.aR O.out (.cells #[.int .i64 a,.int .i64 b,.int .i64 m] 83));have ak:=zA (ao z.out (.cells #[.int .i64 a,.int .i64 b,.int .i64 m] 83));have aF:g≠wr.heap.size:=by omega
    have aL:wr.heap.size≠g:=by omega
    generalize (wr.alloc (.cells #[.int .i64 a,.int .i64 b,.int .i64 m] 83))=W2 at s0 s1 s2 r ag ak f1 f2 c1 c2⊢;generalize wr.heap.size=eb at aF aL s0 s1 s2⊢;have d1:=(r.out.nm b a s a12 m).nk a b a12 s;have d2:=(r.out.nm a b a12 s m).nk b a s a12;go_region
    have I:=(r.out.nm a b a12 s m).nm b a s a12 m;have J:=(r.out.nm a b a12 s m).fg (r.out.fg ag.out (by decide) (1+a*12+b) (.int .i64 m)) (by decide) (1+b*12+a) (.int .i64 m);have K:=dN (dN ak.out (g:=g) (j:=1+a*12+b) (v:=.int .i64 m) (by omega)) (g:=g) (j:=1+b*12+a) (v:=.int .i64 m) (by omega);generalize ((W2.setCell ⟨g,1+a*12+b,none⟩ (.int .i64 m)).setCell ⟨g,1+b*12+a,none⟩ (.int .i64 m))=W3 at I J K⊢;replace I:=zA I;replace J:=zA J;replace K:=zA K;go_wp2;go_roundw
    case rel=>exact⟨k+1,by omega,by go_num,⟨by rw[Q.out];simp only[cV];rw[if_neg (by have:=S.out;omega)];exact I.out.drew⟩,⟨Kd.bq J.out⟩,⟨ig K.out⟩⟩
    case measure=>simp[intOf];omega
  ·obtain rfl:k=E.length:=by omega
   have fq:=y.out.frozen (146+q);have cq:=y.out.mr q (by omega);have aO:=zA (y.out.uM q (by omega) true);have aP:=zA (y.out.fg O.out (by decide) (146+q) (.bool true));have aS:=zA (dN z.out (g:=g) (j:=146+q) (v:=.bool true) (by omega));go_wp2;go_ret;exact⟨g,h,o,rfl,by simpa using aO.out,aP.out,aS.out,by omega⟩
section
section
variable {F:Fence} {n:Nat} {P:Program} {ops:Array Oper} {rest:List Oper} {o:Oper} {a:Act} {Q:Exit->Act->World->Prop} {α:Type}
theorem ny (d:Kd α) {w0 W:World} (base:Nat) (y:o.guard=none) (s x:Operand) (t e:TypeId) (z:Value) (bytes:Nat)
  (j:o.op= .call {callee:=.builtin .append,args:=#[s,x],argTypes:=#[t,t]})
  (B:P.underlying t=some (.slice e)) (C:(P.info? e).map (fun i=>(i.zero,i.size,i.bytes))=some (some z,d.sz,bytes)) (D:z.cells.size=d.sz) (E:0<d.sz) (G:0<bytes)
  (v:Value) (xs:List α) (p:α) (cs:List Value) (ok okp:Nat->Prop) (H:a.eval s=v) (I:a.eval x= .slice (some ⟨W.heap.size,0,none⟩) 1 1) (hp:d.M W base okp p cs) (J:∀k,okp k->ok k/\some k≠v.ownBlock) (L:∀k,W.heap.size<=k->ok k)
  (N:d.R e W base ok v xs) (O:Below base w0 W) (S:base<=W.heap.size) (l:(xs.length+1)*bytes<=140737488355328)
  (h:∀v1 w1,d.R e w1 base ok v1 (xs++[p])->Below base w0 w1->W.grownBy w1 v.ownBlock->(v1.ownBlock=v.ownBlock\/∃b,v1.ownBlock=some b/\W.heap.size<=b)->wpListIn F n P ops Q rest (a.put o.dst v1) w1):
  wpListIn F n P ops Q (o::rest) a (W.alloc (.cells cs.toArray e)):=by
 obtain⟨T,inner,m,U⟩:=N;have V:cs.length=d.sz:=d.dX (d.dc hp);have h1:=d.eo (d.dc hp);obtain⟨i0,hi,q⟩:=Option.map_eq_some_iff.1 C;simp only[Prod.mk.injEq] at q;obtain⟨X,Y,Z⟩:=q;have hlen:xs.length+1<=140737488355328:=Nat.le_trans (Nat.le_mul_of_pos_right _ G) l;refine wpListIn_plain y fun K aa=>?_
 obtain⟨v1,w1,ab,ad,r,_,g⟩:=run_append_own_at (P:=P) (W.alloc (.cells cs.toArray e)) base t o.type e i0 z d.sz bytes B hi X Y Z D E v xs.length inner (m.alloc _) ⟨W.heap.size,0,none⟩ 1 1 cs (by rw[V];simp)
  (by simpa using World.news_of_block (cs:=cs.toArray) (t:=e) (fr:=(0,0)) (bc W (.cells cs.toArray e))) h1 (by simp only[maxLen];omega) l (by simp;omega)
 have u:W.grownBy w1 v.ownBlock:=World.grownBy.trans (World.grownBy_alloc W _ _) r;have w:v1.ownBlock=v.ownBlock\/∃b,v1.ownBlock=some b/\W.heap.size<=b:=by
  rcases g with g|g
  ·exact .inl g
  ·exact .inr ⟨_,g,by simp⟩
 unfold Oper.wpIn;refine⟨?_,?_⟩
 ·simp[Oper.about,j,resolve,Target.leads,Sem.run_pure]
 ·rw[Oper.semAt_plain F _ _ (by rw[j];intro c ag;cases ag)]
  simp[execOp,j,resolve,invoke,builtin,H,I,ab,Result.andThen];exact aa _ _ (h v1 w1 (Kd.pS T U hp J L ad u w) ((O.alloc S _).grown r (by simp;omega) (ke m)) u w)
end
theorem nz {α:Type} {d:Kd α} {e base nw:Nat} {ok:Nat->Prop} {v:Value} {xs:List α} {W w1:World} (g:d.R e W base ok v xs) (h:W.grownBy w1 v.ownBlock):ct nw W w1:=fun k o h1 j b i=>by
 refine(h.block k (Array.getElem?_eq_some_iff.1 b).1 (fun e=>?_)).trans b;obtain⟨cells,a⟩:=Kd.gQ g k e.symm;rw[b] at a;injection a with a;subst a;simp[Obj.isCells] at i
theorem eO {nw bo j:Nat} (W:World) (v:Value) (h:bo<nw):ct nw W (W.setCell ⟨bo,j,none⟩ v):=fun k o h1 b a e=>by
 rw[Below.heap_setCell _ _ _ _ (by simp;omega)];exact a
theorem cZ {nw:Nat} {W w1:World} (h:Below W.heap.size W w1):ct nw W w1:=fun k o h1 b a e=>(h.block k (Array.getElem?_eq_some_iff.1 a).1).trans a
theorem df {α:Type} {d:Kd α} {e base l:Nat} {ok:Nat->Prop} {v:Value} {xs:List α} {A B:World} (h:d.R e A base ok v xs) (hb:Bk l A B):d.R e B base ok v xs:=
 Kd.bb (Kd.fB (Kd.eV h) (fun k hk=>by obtain⟨_,_,_,q,_,cells,a⟩:=hk;exact(hb.cells a).trans a.symm)) (fun k hk=>hk.1)
theorem uS (A:Option Addr) (m a c:Nat):(Value.slice A m c).ownBlock=(Value.slice A a c).ownBlock:=by cases A<;>rfl
theorem iW {F:Fence} {n:Nat} {P:Program} {fn:Func} {R:Ending->World->Prop} {a:Act} {w:World} {D:Nat} {v:Value} (hd:a.defers=[{target:=.collected D,args:=#[]}]) (b:w.heap[D]? =some (.deferred (some [])))
  (e:(results fn a.tmps).run P (w.putObj D (.deferred none))= .ok v (w.putObj D (.deferred none))) (g:R (.returned v) (w.putObj D (.deferred none))):bodyPostM F n P fn R .ret a w:=by
 show LeavesInM F n P fn a.tmps R a.defers .returning w
 rw[hd];exact⟨by simp,.inl ⟨_,_,rfl,run_takeDeferred b,⟨_,e,g⟩⟩⟩
theorem Cv {F:Fence} {n:Nat} {P:Program} {c:Code} {K:Act->World->Prop} {Q:Exit->Act->World->Prop} {a:Act} {w:World} (h:c.wpIn F n P (Exit.then K (fun _ _ _=>False)) a w):c.wpIn F n P (Exit.then K Q) a w:=
 wpIn_mono h (fun e a w h=>by cases e<;>first|exact h|exact h.elim)
end
def hU.f (a0:Int):Option (Bool):=if a0>=(-1048576) then(some (decide (a0<=1048576))) else(some false)
theorem hU.calls (a0:Int) (r:Bool) (w:World) (h:hU.f a0=some r):
  Calls Tryz.prog 119 #[.int .i64 a0] w fun e w'=>e= .returned (.bool r)/\aC w w':=by
 have H:(if a0>=(-1048576) then(some (decide (a0<=1048576))) else(some false))=some r:=h;clear h;by_cases c2:a0>=(-1048576)
 ·rw[if_pos c2] at H
  have a:=az c2;clear c2;obtain rfl:=aH H;go_enter Tryz.func119,Tryz.ntmps119
  go_wp2;go_ret;exact⟨zT,by repeat(first|exact aC.refl _|apply aC.step)⟩
 ·rw[if_neg c2] at H
  have a:=a6 c2;clear c2;obtain rfl:=aH H;go_enter Tryz.func119,Tryz.ntmps119
  go_wp2;go_ret;exact⟨zT,by repeat(first|exact aC.refl _|apply aC.step)⟩
def jA.f (a0:Int):Option (Int):=if a0<1 then(some 2) else(if a0>12 then(some 2) else(some 0))
theorem jA.calls (a0:Int) (r:Int) (w:World) (h:jA.f a0=some r):
  Calls Tryz.prog 141 #[.int .i64 a0] w fun e w'=>e= .returned (.int .i64 r)/\aC w w':=by
 have H:(if a0<1 then(some 2) else(if a0>12 then(some 2) else(some 0)))=some r:=h;clear h;by_cases c2:a0<1
 ·rw[if_pos c2] at H
  have a:=az c2;clear c2;obtain rfl:=aH H;go_enter Tryz.func141,Tryz.ntmps141
  go_wp2;go_ret;exact⟨zT,by repeat(first|exact aC.refl _|apply aC.step)⟩
 ·rw[if_neg c2] at H
  have a:=a6 c2;clear c2;by_cases c3:a0>12
  ·rw[if_pos c3] at H
   have b:=az c3;clear c3;obtain rfl:=aH H;go_enter Tryz.func141,Tryz.ntmps141
   go_wp2;go_ret;exact⟨zT,by repeat(first|exact aC.refl _|apply aC.step)⟩
  ·rw[if_neg c3] at H
   have b:=a6 c3;clear c3;obtain rfl:=aH H;go_enter Tryz.func141,Tryz.ntmps141
   go_wp2;go_ret;exact⟨zT,by repeat(first|exact aC.refl _|apply aC.step)⟩
def bs.l0:Nat->List Int->Int->Int->Option (Int)
 |0,_,_,_=>none
 |k+1,b,e,a=>if a<e then(if 0<=a then(if a<(b.length:Int) then((hU.f (rd b a)).bind fun t192=>(if t192=true then(bs.l0 k b e (wrap64 (a+1))) else(some 2))) else(none)) else(none)) else(some 0)
def bs.f (k:Nat) (l0:List Int) (a:Int):Option (Int):=(jA.f a).bind fun t190=>(if t190=0 then(if(l0.length:Int)=a then(bs.l0 k l0 (l0.length:Int) 0) else(some 8)) else(some t190))
theorem bs.cy:∀k,(∀a b e,al (bs.l0 k a b e) (bs.l0 (k+1) a b e))
 |0=>fun _ _ _ r h=>by simp[bs.l0] at h
 |k+1=>by
  have g:=bs.cy k
  ·intro a b e
   unfold bs.l0;with_reducible repeat' first|exact g _ _ _|exact al.refl _|exact al.none _|refine al.ite ?_ ?_|refine al.bind ?_ (fun _=>?_)
theorem bs.mono:∀a0 a k,al (bs.f k a0 a) (bs.f (k+1) a0 a):=by
 intro a0 a k;have b:=bs.cy k;unfold bs.f;with_reducible repeat' first|exact b _ _ _|exact al.refl _|exact al.none _|refine al.ite ?_ ?_|refine al.bind ?_ (fun _=>?_)
theorem bs.calls (k:Nat) (A0:Option Addr) (c0:Nat) (l0:List Int) (b:Int) (r:Int) (w:World) (x:Kd.C (Kd.int .i64) w A0 l0.length l0) (y:l0.length<=c0) (h:bs.f k l0 b=some r):
  Calls Tryz.prog 87 #[.slice A0 l0.length c0,.int .i64 b] w fun e w'=>e= .returned (.int .i64 r)/\aC w w':=by
 have z:=zA x;have P:=zA y;clear x y;unfold bs.f at h;have H:=h;clear h;obtain⟨t190,s,H⟩:=zo H;by_cases c4:t190=0
 ·rw[if_pos c4] at H
  obtain⟨B,D⟩:=bH c4;clear c4;by_cases l:(l0.length:Int)=b
  ·rw[if_pos l] at H
   obtain⟨E,F⟩:=bH l;clear l;have m:=zA H;clear H;go_enter Tryz.func87,Tryz.ntmps87
   go_wp2_with (first|((with_reducible refine aG (f:=141) rfl ?_);refine zL (some 9) Tryz.func141 #[.int .i64 b] ?_;(with_reducible refine(jA.calls b t190 _ s.out).mono ?_);rintro e w' ⟨rfl,⟨n,rfl⟩⟩;refine⟨_,rfl,?_⟩))
   go_loopg [19] k (fun G K w'=>∃(a:Int),K= .int .i64 a/\Aside0 (bs.l0 G l0 (l0.length:Int) a=some r)/\Aside0 (G<=k)/\aC w w')
   case atStart=>exact⟨(0),zT,m,⟨aI _⟩,by repeat(first|exact aC.refl _|apply aC.step)⟩
   case round=>
    clear m;clear B D E F;obtain⟨a,rfl,u,I,⟨m1,rfl⟩⟩:=hrel;cases gk with
    |zero=>exact absurd u.out (by simp[bs.l0])
    |succ L=>
     have H:=u.out;clear u;simp only[bs.l0] at H;by_cases j:a<(l0.length:Int)
     ·rw[if_pos j] at H
      have M:=az j;clear j;by_cases o:0<=a
      ·rw[if_pos o] at H
       have Q:=az o;clear o;by_cases p:a<(l0.length:Int)
       ·rw[if_pos p] at H
        have R:=az p;clear p;obtain⟨t192,J,H⟩:=zo H;by_cases q:t192=true
        ·subst q
         replace H:=zi H;have m:=zA H;clear H;have g:0<=(a:Int):=ay ‹_›;have i:a<(l0.length:Int):=ay ‹_›;obtain⟨N,v,O⟩:=Kd.bU z.out a g i;cases v;replace g:=eq_true g;replace i:=eq_true i;go_wp2_with (first|((with_reducible refine aG (f:=119) rfl ?_);refine zL (some 24) Tryz.func119 #[.int .i64 (rd l0 a)] ?_;(with_reducible refine(hU.calls (rd l0 a) true _ J.out).mono ?_);rintro e w' ⟨rfl,⟨n,rfl⟩⟩;refine⟨_,rfl,?_⟩))
         go_roundg L
         case measure=>have:=I.out;omega
         case rel=>exact⟨(wrap64 (a+1)),zT,m,⟨by have:=I.out;omega⟩,by repeat(first|exact aC.refl _|apply aC.step)⟩
        ·replace q:=Bool.eq_false_iff.mpr q
         subst q;replace H:=zj H;obtain rfl:=aH H;have g:0<=(a:Int):=ay ‹_›;have i:a<(l0.length:Int):=ay ‹_›;obtain⟨N,v,O⟩:=Kd.bU z.out a g i;cases v;replace g:=eq_true g;replace i:=eq_true i;go_wp2_with (first|((with_reducible refine aG (f:=119) rfl ?_);refine zL (some 24) Tryz.func119 #[.int .i64 (rd l0 a)] ?_;(with_reducible refine(hU.calls (rd l0 a) false _ J.out).mono ?_);rintro e w' ⟨rfl,⟨n,rfl⟩⟩;refine⟨_,rfl,?_⟩))
         go_ret;exact⟨zT,by repeat(first|exact aC.refl _|apply aC.step)⟩
       ·rw[if_neg p] at H
        exact absurd H (by simp)
      ·rw[if_neg o] at H
       exact absurd H (by simp)
     ·rw[if_neg j] at H
      have M:=a6 j;clear j;obtain rfl:=aH H;go_wp2;go_ret;exact⟨zT,by repeat(first|exact aC.refl _|apply aC.step)⟩
  ·rw[if_neg l] at H
   obtain⟨E,F⟩:=bI l;obtain rfl:=aH H;go_enter Tryz.func87,Tryz.ntmps87
   go_wp2_with (first|((with_reducible refine aG (f:=141) rfl ?_);refine zL (some 9) Tryz.func141 #[.int .i64 b] ?_;(with_reducible refine(jA.calls b t190 _ s.out).mono ?_);rintro e w' ⟨rfl,⟨n,rfl⟩⟩;refine⟨_,rfl,?_⟩))
   go_ret;exact⟨zT,by repeat(first|exact aC.refl _|apply aC.step)⟩
 ·rw[if_neg c4] at H
  obtain⟨B,D⟩:=bI c4;obtain rfl:=aH H;go_enter Tryz.func87,Tryz.ntmps87
  go_wp2_with (first|((with_reducible refine aG (f:=141) rfl ?_);refine zL (some 9) Tryz.func141 #[.int .i64 b] ?_;(with_reducible refine(jA.calls b t190 _ s.out).mono ?_);rintro e w' ⟨rfl,⟨n,rfl⟩⟩;refine⟨_,rfl,?_⟩))
  go_ret;exact⟨zT,by repeat(first|exact aC.refl _|apply aC.step)⟩
def cP.l0:Nat->Int->List Int->Int->Int->Option (Int)
 |0,_,_,_,_=>none
 |k+1,x1,b,e,a=>if a<e then(if 0<=a then(if a<(b.length:Int) then(if a=x1 then(cP.l0 k x1 b e (wrap64 (a+1))) else(if(rd b a)<0 then(some 2) else(cP.l0 k x1 b e (wrap64 (a+1))))) else(none)) else(none)) else(some 0)
def cP.f (k:Nat) (a:Int) (h:List (S83)) (b:Int) (l2:List Int):Option (Int):=(dn.f k a h b).bind fun e=>(if e=0 then((bs.f k l2 a).bind fun g=>(if g=0 then(cP.l0 k b l2 (l2.length:Int) 0) else(some g))) else(some e))
theorem cP.cy:∀k,(∀a b e g,al (cP.l0 k a b e g) (cP.l0 (k+1) a b e g))
 |0=>fun _ _ _ _ r h=>by simp[cP.l0] at h
 |k+1=>by
  have i:=cP.cy k
  ·intro a b e g
   unfold cP.l0;with_reducible repeat' first|exact i _ _ _ _|exact bs.mono _ _ _|exact dn.mono _ _ _ _|exact al.refl _|exact al.none _|refine al.ite ?_ ?_|refine al.bind ?_ (fun _=>?_)
theorem cP.mono:∀a0 a a2 a3 k,al (cP.f k a0 a a2 a3) (cP.f (k+1) a0 a a2 a3):=by
 intro a0 a a2 a3 k;have b:=cP.cy k;unfold cP.f;with_reducible repeat' first|exact b _ _ _ _|exact bs.mono _ _ _|exact dn.mono _ _ _ _|exact al.refl _|exact al.none _|refine al.ite ?_ ?_|refine al.bind ?_ (fun _=>?_)
theorem cP.calls (k:Nat) (i:Int) (q:Option Addr) (s:Nat) (j:List (S83)) (p:Int) (G:Option Addr) (c2:Nat) (l2:List Int) (r:Int) (w:World) (T:Kd.C aN w q j.length j) (U:j.length<=s) (V:Kd.C (Kd.int .i64) w G l2.length l2) (W:l2.length<=c2) (h:cP.f k i j p l2=some r):
  Calls Tryz.prog 224 #[.agg #[.int .i64 i,.slice q j.length s],.int .i64 p,.slice G l2.length c2] w fun e w'=>e= .returned (.int .i64 r)/\Below w.heap.size w w':=by
 have a9:=Tryz.underlying24;have M:=zA T;have O:=zA U;clear T U;have z:=zA V;have X:=zA W;clear V W;have a:=zA (aq w.heap.size w);unfold cP.f at h;have H:=h;clear h;obtain⟨I,P,H⟩:=zo H;by_cases B:I=0
 ·rw[if_pos B] at H
  obtain⟨Y,Z⟩:=bH B;clear B;obtain⟨Q,A6,H⟩:=zo H;by_cases D:Q=0
  ·rw[if_pos D] at H
   obtain⟨ab,ad⟩:=bH D;clear D;have v:=zA H;clear H;go_enter Tryz.func224,Tryz.ntmps224
   go_wp2_with (first|((with_reducible refine aJ (N:=3) rfl ?_);refine zX 3 #[.int .i64 i,.slice q j.length s] 24 ?_;intro R l w8 u hb;have g:=zA (u);have ag:=zG a l;have ak:=zG a l;replace a:=zS a hb;clear hb u l;obtain⟨ar,av,aB,aF⟩:=ax g)|((with_reducible refine aG (f:=211) rfl ?_);refine zL (some 13) Tryz.func211 #[.agg #[.int .i64 i,.slice q j.length s],.int .i64 p] ?_;(with_reducible refine(dn.calls k i _ _ j p I _ ?ah ?ai P.out).mono ?_);(case ah=>exact Kd.aw M.out zB);(case ai=>exact O.out);rintro e be ⟨rfl,hb⟩;refine⟨_,rfl,?_⟩;replace g:=zb g hb;replace a:=zS a hb;(try clear hb);obtain⟨aL,aO,aP,aS⟩:=ax g)|((with_reducible refine aG (f:=87) rfl ?_);refine zL (some 20) Tryz.func87 #[.slice G l2.length c2,.int .i64 i] ?_;(with_reducible refine(bs.calls k _ _ l2 i Q _ ?ah ?ai A6.out).mono ?_);(case ah=>exact Kd.aw z.out zB);(case ai=>exact X.out);rintro e w' ⟨rfl,⟨nd,rfl⟩⟩;refine⟨_,rfl,?_⟩))
   go_loopg [26] k (fun kq v26 w'=>∃(b:Int),v26= .int .i64 b/\Aside0 (cP.l0 kq p l2 (l2.length:Int) b=some r)/\Aside0 (kq<=k)/\Aside0 (w'.heap[R]? =some (.cells #[.int .i64 i,(.slice q j.length s)] 24 (0,0)))/\Aside0 (Below w.heap.size w w'))
   case atStart=>exact⟨(0),zT,v,⟨aI _⟩,⟨zK g⟩,⟨zB⟩⟩
   case round=>
    clear v;clear Y Z ab ad aL aO ar av aP aS aB aF;obtain⟨b,rfl,S,J,g,a⟩:=hrel;cases gk with
    |zero=>exact absurd S.out (by simp[cP.l0])
    |succ k1=>
     have H:=S.out;clear S;simp only[cP.l0] at H;by_cases x:b<(l2.length:Int)
     ·rw[if_pos x] at H
      have a2:=az x;clear x;by_cases K:0<=b
      ·rw[if_pos K] at H
       have bf:=az K;clear K;by_cases L:b<(l2.length:Int)
       ·rw[if_pos L] at H
        have bg:=az L;clear L;by_cases E:b=p
        ·rw[if_pos E] at H
         obtain⟨a3,a4⟩:=bH E;clear E;have v:=zA H;clear H;have m:0<=(b:Int):=ay ‹_›;have n:b<(l2.length:Int):=ay ‹_›;obtain⟨ap,F,o⟩:=Kd.bU z.out b m n;cases F;replace o:=(a.out.cell (a8 w _ o)).trans o;replace m:=eq_true m;replace n:=eq_true n;go_wp2;go_roundg k1
         case measure=>have:=J.out;omega
         case rel=>exact⟨(wrap64 (b+1)),zT,v,⟨by have:=J.out;omega⟩,⟨zK g⟩,⟨zB⟩⟩
        ·rw[if_neg E] at H
         obtain⟨a3,a4⟩:=bI E;by_cases y:(rd l2 b)<0
         ·rw[if_pos y] at H
          have a5:=az y;clear y;obtain rfl:=aH H;have m:0<=(b:Int):=ay ‹_›;have n:b<(l2.length:Int):=ay ‹_›;obtain⟨ap,F,o⟩:=Kd.bU z.out b m n;cases F;replace o:=(a.out.cell (a8 w _ o)).trans o;replace m:=eq_true m;replace n:=eq_true n;go_wp2;go_ret;exact⟨zE,zB⟩
         ·rw[if_neg y] at H
          have a5:=a6 y;clear y;have v:=zA H;clear H;have m:0<=(b:Int):=ay ‹_›;have n:b<(l2.length:Int):=ay ‹_›;obtain⟨ap,F,o⟩:=Kd.bU z.out b m n;cases F;replace o:=(a.out.cell (a8 w _ o)).trans o;replace m:=eq_true m;replace n:=eq_true n;go_wp2;go_roundg k1
          case measure=>have:=J.out;omega
          case rel=>exact⟨(wrap64 (b+1)),zT,v,⟨by have:=J.out;omega⟩,⟨zK g⟩,⟨zB⟩⟩
       ·rw[if_neg L] at H
        exact absurd H (by simp)
      ·rw[if_neg K] at H
       exact absurd H (by simp)
     ·rw[if_neg x] at H
      have a2:=a6 x;clear x;obtain rfl:=aH H;go_wp2;go_ret;exact⟨zE,zB⟩
  ·rw[if_neg D] at H
   obtain⟨ab,ad⟩:=bI D;obtain rfl:=aH H;go_enter Tryz.func224,Tryz.ntmps224
   go_wp2_with (first|((with_reducible refine aJ (N:=3) rfl ?_);refine zX 3 #[.int .i64 i,.slice q j.length s] 24 ?_;intro R l bi u hb;have g:=zA (u);have ag:=zG a l;have ak:=zG a l;replace a:=zS a hb;clear hb u l;obtain⟨bk,bn,bo,bv⟩:=ax g)|((with_reducible refine aG (f:=211) rfl ?_);refine zL (some 13) Tryz.func211 #[.agg #[.int .i64 i,.slice q j.length s],.int .i64 p] ?_;(with_reducible refine(dn.calls k i _ _ j p I _ ?ah ?ai P.out).mono ?_);(case ah=>exact Kd.aw M.out zB);(case ai=>exact O.out);rintro e bw ⟨rfl,hb⟩;refine⟨_,rfl,?_⟩;replace g:=zb g hb;replace a:=zS a hb;(try clear hb);obtain⟨bx,b0,b1,b2⟩:=ax g)|((with_reducible refine aG (f:=87) rfl ?_);refine zL (some 20) Tryz.func87 #[.slice G l2.length c2,.int .i64 i] ?_;(with_reducible refine(bs.calls k _ _ l2 i Q _ ?ah ?ai A6.out).mono ?_);(case ah=>exact Kd.aw z.out zB);(case ai=>exact X.out);rintro e w' ⟨rfl,⟨nd,rfl⟩⟩;refine⟨_,rfl,?_⟩))
   go_ret;exact⟨zE,zB⟩
 ·rw[if_neg B] at H
  obtain⟨Y,Z⟩:=bI B;obtain rfl:=aH H;go_enter Tryz.func224,Tryz.ntmps224
  go_wp2_with (first|((with_reducible refine aJ (N:=3) rfl ?_);refine zX 3 #[.int .i64 i,.slice q j.length s] 24 ?_;intro R l b3 u hb;have g:=zA (u);have ag:=zG a l;have ak:=zG a l;replace a:=zS a hb;clear hb u l;obtain⟨b4,b5,b6,b_⟩:=ax g)|((with_reducible refine aG (f:=211) rfl ?_);refine zL (some 13) Tryz.func211 #[.agg #[.int .i64 i,.slice q j.length s],.int .i64 p] ?_;(with_reducible refine(dn.calls k i _ _ j p I _ ?ah ?ai P.out).mono ?_);(case ah=>exact Kd.aw M.out zB);(case ai=>exact O.out);rintro e b' ⟨rfl,hb⟩;refine⟨_,rfl,?_⟩;replace g:=zb g hb;replace a:=zS a hb;(try clear hb)))
  go_ret;exact⟨zE,zB⟩
def fX.f (k:Nat) (e:Int) (g:List (S83)) (a:Int) (l2:List Int):Option (Int):=(cP.f k e g a l2).bind fun b=>(if b=0 then(if 0<=a then(if a<(l2.length:Int) then(if(rd l2 a)=0 then(some 0) else(some 3)) else(none)) else(none)) else(some b))
theorem fX.mono:∀a0 a a2 a3 k,al (fX.f k a0 a a2 a3) (fX.f (k+1) a0 a a2 a3):=by
 intro a0 a a2 a3 k;unfold fX.f;with_reducible repeat' first|exact cP.mono _ _ _ _ _|exact al.refl _|exact al.none _|refine al.ite ?_ ?_|refine al.bind ?_ (fun _=>?_)
theorem fX.calls (k:Nat) (i:Int) (m:Option Addr) (n:Nat) (g:List (S83)) (b:Int) (u:Option Addr) (c2:Nat) (l2:List Int) (r:Int) (w:World) (K:Kd.C aN w m g.length g) (L:g.length<=n) (M:Kd.C (Kd.int .i64) w u l2.length l2) (O:l2.length<=c2) (h:fX.f k i g b l2=some r):
  Calls Tryz.prog 219 #[.agg #[.int .i64 i,.slice m g.length n],.int .i64 b,.slice u l2.length c2] w fun e w'=>e= .returned (.int .i64 r)/\Below w.heap.size w w':=by
 have X:=Tryz.underlying24;have E:=zA K;have F:=zA L;clear K L;have v:=zA M;have G:=zA O;clear M O;have a:=zA (aq w.heap.size w);unfold fX.f at h;have H:=h;clear h;obtain⟨z,I,H⟩:=zo H;by_cases x:z=0
 ·rw[if_pos x] at H
  obtain⟨S,T⟩:=bH x;clear x;by_cases B:0<=b
  ·rw[if_pos B] at H
   have Y:=az B;clear B;by_cases D:b<(l2.length:Int)
   ·rw[if_pos D] at H
    have Z:=az D;clear D;by_cases y:(rd l2 b)=0
    ·rw[if_pos y] at H
     obtain⟨U,V⟩:=bH y;clear y;obtain rfl:=aH H;go_enter Tryz.func219,Tryz.ntmps219
     go_wp2_with (first|((with_reducible refine aJ (N:=3) rfl ?_);refine zX 3 #[.int .i64 i,.slice m g.length n] 24 ?_;intro P j w9 o hb;have l:=zA (o);have Q:=zG a j;have R:=zG a j;replace a:=zS a hb;clear hb o j;obtain⟨ab,ad,ag,ak⟩:=ax l)|((with_reducible refine aG (f:=224) rfl ?_);refine zL (some 11) Tryz.func224 #[.agg #[.int .i64 i,.slice m g.length n],.int .i64 b,.slice u l2.length c2] ?_;(with_reducible refine(cP.calls k i _ _ g b _ _ l2 z _ ?ah ?ai ?aW ?aX I.out).mono ?_);(case ah=>exact Kd.aw E.out zB);(case ai=>exact F.out);(case aW=>exact Kd.aw v.out zB);(case aX=>exact G.out);rintro e iE ⟨rfl,hb⟩;refine⟨_,rfl,?_⟩;replace l:=zb l hb;replace a:=zS a hb;(try clear hb);have p:0<=(b:Int):=ay ‹_›;have q:b<(l2.length:Int):=ay ‹_›;obtain⟨W,J,s⟩:=Kd.bU v.out b p q;cases J;replace s:=(a.out.cell (a8 w _ s)).trans s;replace p:=eq_true p;replace q:=eq_true q))
     go_ret;exact⟨zE,zB⟩
    ·rw[if_neg y] at H
     obtain⟨U,V⟩:=bI y;obtain rfl:=aH H;go_enter Tryz.func219,Tryz.ntmps219
     go_wp2_with (first|((with_reducible refine aJ (N:=3) rfl ?_);refine zX 3 #[.int .i64 i,.slice m g.length n] 24 ?_;intro P j am o hb;have l:=zA (o);have Q:=zG a j;have R:=zG a j;replace a:=zS a hb;clear hb o j;obtain⟨an,ap,ar,av⟩:=ax l)|((with_reducible refine aG (f:=224) rfl ?_);refine zL (some 11) Tryz.func224 #[.agg #[.int .i64 i,.slice m g.length n],.int .i64 b,.slice u l2.length c2] ?_;(with_reducible refine(cP.calls k i _ _ g b _ _ l2 z _ ?ah ?ai ?aW ?aX I.out).mono ?_);(case ah=>exact Kd.aw E.out zB);(case ai=>exact F.out);(case aW=>exact Kd.aw v.out zB);(case aX=>exact G.out);rintro e aB ⟨rfl,hb⟩;refine⟨_,rfl,?_⟩;replace l:=zb l hb;replace a:=zS a hb;(try clear hb);have p:0<=(b:Int):=ay ‹_›;have q:b<(l2.length:Int):=ay ‹_›;obtain⟨W,J,s⟩:=Kd.bU v.out b p q;cases J;replace s:=(a.out.cell (a8 w _ s)).trans s;replace p:=eq_true p;replace q:=eq_true q))
     go_ret;exact⟨zE,zB⟩
   ·rw[if_neg D] at H
    exact absurd H (by simp)
  ·rw[if_neg B] at H
   exact absurd H (by simp)
 ·rw[if_neg x] at H
  obtain⟨S,T⟩:=bI x;obtain rfl:=aH H;go_enter Tryz.func219,Tryz.ntmps219
  go_wp2_with (first|((with_reducible refine aJ (N:=3) rfl ?_);refine zX 3 #[.int .i64 i,.slice m g.length n] 24 ?_;intro P j aF o hb;have l:=zA (o);have Q:=zG a j;have R:=zG a j;replace a:=zS a hb;clear hb o j;obtain⟨aL,aO,aP,aS⟩:=ax l)|((with_reducible refine aG (f:=224) rfl ?_);refine zL (some 11) Tryz.func224 #[.agg #[.int .i64 i,.slice m g.length n],.int .i64 b,.slice u l2.length c2] ?_;(with_reducible refine(cP.calls k i _ _ g b _ _ l2 z _ ?ah ?ai ?aW ?aX I.out).mono ?_);(case ah=>exact Kd.aw E.out zB);(case ai=>exact F.out);(case aW=>exact Kd.aw v.out zB);(case aX=>exact G.out);rintro e a0 ⟨rfl,hb⟩;refine⟨_,rfl,?_⟩;replace l:=zb l hb;replace a:=zS a hb;(try clear hb)))
  go_ret;exact⟨zE,zB⟩
end Go.Proofs.YtffdiakgjakngaaGreat.P


