/- Bounds answers true whatever the input (text 5 of 7): own walks and plain laws; no conditions. -/
import Derived.BigQuiet
import Derived.Deep.QuietTactic
import Derived.Deep.RegionLaw
import Derived.DeepKeys3
import Derived.Laws.CopyOwn
import Derived.Laws.CopyRow
import Derived.Maps.Keyed
import Derived.Maps.Own
import Derived.StillTailTactics
import Derived.Test.YtffdiakgjakngaaGreatBounds4
namespace Go.Proofs.YtffdiakgjakngaaGreat.P
open Go.RowKit Go.Proofs.YtffdiakgjakngaaGreatW.PrintWords Go.Proofs.YtffdiakgjakngaaGreatW.PrintLast Go.Proofs.YtffdiakgjakngaaGreatW.PrintMore
set_option linter.unusedVariables false
set_option linter.unusedSimpArgs false
set_option maxHeartbeats 8000000
set_option maxRecDepth 100000
section
attribute [local go_sem] jk jl jm jn mo mq mr mu
def cZ.l0:Nat->Int->List (S83)->Int->Int->Int->List (S83)->Option (Int×(List (S83))×Int)
 |0,_,_,_,_,_,_=>none
 |k+1,x1,b,g,a,h,e=>if a<g then(if 0<=a then(if a<(b.length:Int) then(if((ae b a).f0)=((ae b a).f1) then(cZ.l0 k x1 b g (wrap64 (a+1)) h e) else(if e.length<5864062014805 then(cZ.l0 k x1 b g (wrap64 (a+1)) h (e++[(⟨(ae b a).f0,(ae b a).f1,mn ((ae b a).f2) x1⟩:S83)])) else(none))) else(none)) else(none)) else(some (h,e,0))
def cZ.f (k:Nat) (b:Int) (a:List (S83)) (e:Int):Option (Int×(List (S83))×Int):=(bd.f k b a).bind fun t260=>(if t260=0 then(cZ.l0 k e a (a.length:Int) 0 b ([]:List (S83))) else(some (0,([]:List (S83)),t260)))
theorem cZ.cn:∀k,(∀a b e g i j,aj (cZ.l0 k a b e g i j) (cZ.l0 (k+1) a b e g i j))
 |0=>fun _ _ _ _ _ _ r h=>by simp[cZ.l0] at h
 |k+1=>by
  have l:=cZ.cn k
  ·intro a b e g i j
   unfold cZ.l0;with_reducible repeat' first|exact l _ _ _ _ _ _|exact bd.mono _ _ _|exact aj.refl _|exact aj.none _|refine aj.ite ?_ ?_|refine aj.bind ?_ (fun _=>?_)
theorem cZ.mono:∀a0 a a2 k,aj (cZ.f k a0 a a2) (cZ.f (k+1) a0 a a2):=by
 intro a0 a a2 k;have b:=cZ.cn k;unfold cZ.f;with_reducible repeat' first|exact b _ _ _ _ _ _|exact bd.mono _ _ _|exact aj.refl _|exact aj.none _|refine aj.ite ?_ ?_|refine aj.bind ?_ (fun _=>?_)
theorem cZ.calls (k:Nat) (m:Int) (z:Option Addr) (x:Nat) (a:List (S83)) (J:Int) (Y:Int) (Z:List (S83)) (r3:Int) (w:World) (bn:Kd.C aN w z a.length a) (bo:a.length<=x) (h:cZ.f k m a J=some (Y,Z,r3)):
  Calls Tryz.prog 84 #[.agg #[.int .i64 m,.slice z a.length x],.int .i64 J] w fun e w'=>∃bv:Value,e= .returned (.tuple #[.agg #[.int .i64 Y,bv],.int .i64 r3])/\Kd.R aN 83 w' w.heap.size (fun _=>True) bv Z/\Below w.heap.size w w':=by
 have d1:=Tryz.underlying24;have d2:=Tryz.underlying83;have ad:=zA bn;have bw:=zA bo;clear bn bo;have j:=zA (al w.heap.size w);unfold cZ.f at h;have H:=h;clear h;obtain⟨t260,A3,H⟩:=zo H;by_cases c4:t260=0
 ·rw[if_pos c4] at H
  obtain⟨b0,b1⟩:=br c4;clear c4;have T:=zA H;clear H;go_enter Tryz.func84,Tryz.ntmps84
  go_wp2_with (first|((with_reducible refine aH (N:=2) rfl ?_);refine zX 2 #[.int .i64 m,.slice z a.length x] 24 ?_;intro r hg w5 u hb;have l:=zA (u);have b':=zG j hg;have ca:=zG j hg;replace j:=zS j hb;clear hb u hg)|((with_reducible refine aH (N:=4) rfl ?_);refine zX 4 #[.int .i64 0,.slice none 0 0] 24 ?_;intro s hg w6 u hb;have q:=zA (u);have cb:=zG j hg;have cc:=zG j hg;replace j:=zS j hb;have ag:=zA ((by rw[hg];exact Nat.ne_of_lt (az (g:=r) (o:=.cells #[.int .i64 m,.slice z a.length x] 24 (0,0)) (zK l)):r≠s));have ak:=zA ((by rw[hg];exact Nat.ne_of_gt (az (g:=r) (o:=.cells #[.int .i64 m,.slice z a.length x] 24 (0,0)) (zK l)):s≠r));replace l:=zb l hb;clear hb u hg;have d5:=ag.out;have d6:=ak.out;obtain⟨cd,ce,cf,ch⟩:=au l)|((with_reducible refine aC (f:=64) rfl ?_);refine zL (some 11) Tryz.func64 #[.agg #[.int .i64 m,.slice z a.length x]] ?_;(with_reducible refine(bd.calls k m _ _ a t260 _ ?af ?ah A3.out).mono ?_);(case af=>exact Kd.aq ad.out zB);(case ah=>exact bw.out);rintro e w9 ⟨rfl,hb⟩;refine⟨_,rfl,?_⟩;replace l:=zb l hb;replace q:=zb q hb;replace j:=zS j hb;(try clear hb);obtain⟨ci,cj,ck,cl⟩:=au l)|((with_reducible refine aH (N:=7) rfl ?_);refine zX 7 #[.int .i64 0,.slice none 0 0] 24 ?_;intro y hg gV u hb;have v:=zA (u);have d8:=zG j hg;have d9:=zG j hg;replace j:=zS j hb;have U:=zA ((by rw[hg];exact Nat.ne_of_lt (az (g:=r) (o:=.cells #[.int .i64 m,.slice z a.length x] 24 (0,0)) (zK l)):r≠y));have a2:=zA ((by rw[hg];exact Nat.ne_of_gt (az (g:=r) (o:=.cells #[.int .i64 m,.slice z a.length x] 24 (0,0)) (zK l)):y≠r));replace l:=zb l hb;have V:=zA ((by rw[hg];exact Nat.ne_of_lt (az (g:=s) (o:=.cells #[.int .i64 0,.slice none 0 0] 24 (0,0)) (zK q)):s≠y));have a3:=zA ((by rw[hg];exact Nat.ne_of_gt (az (g:=s) (o:=.cells #[.int .i64 0,.slice none 0 0] 24 (0,0)) (zK q)):y≠s));replace q:=zb q hb;clear hb u hg;have ea:=a2.out;have eb:=U.out;have ed:=a3.out;have eg:=V.out;obtain⟨co,cq,cr,cv⟩:=au v;obtain⟨cx,c0,c1,c2⟩:=au l))
  go_loopg [22] k (fun kq v22 w'=>∃(i:Int) (D:List (S83)) (u262001:Value),v22= .int .i64 i/\Aside0 (cZ.l0 kq J a (a.length:Int) i m D=some (Y,Z,r3))/\Aside0 (kq<=k)/\Aside0 (Kd.R aN 83 w' w.heap.size (fun _=>True) u262001 D)/\Aside0 (w'.heap[r]? =some (.cells #[.int .i64 m,(.slice z a.length x)] 24 (0,0)))/\Aside0 (w'.heap[s]? =some (.cells #[.int .i64 0,(.slice none 0 0)] 24 (0,0)))/\Aside0 (w'.heap[y]? =some (.cells #[.int .i64 m,u262001] 24 (0,0)))/\Aside0 (Below w.heap.size w w'))
  case atStart=>exact⟨(0),(([]:List (S83))),(.slice none 0 0),zT,T,⟨aI _⟩,⟨by first|exact Kd.dc _ _ _ _ _|exact Kd.gA _ _ _ _ _|exact Kd.V_nil _ _ _ _ _|exact Kd.Q_nil _ _ _ _ _|exact Kd.fQ _ _ _ _ _⟩,⟨by refine zk ?_;refine aD ?_ U.out _;refine zk ?_;refine aD ?_ U.out _;exact zK l⟩,⟨by refine zk ?_;refine aD ?_ V.out _;refine zk ?_;refine aD ?_ V.out _;exact zK q⟩,⟨by refine zk ?_;refine bC (cs:=#[.int .i64 m,.slice none 0 0]) ?_ 1 _ rfl;refine zk ?_;refine bC (cs:=#[.int .i64 0,.slice none 0 0]) ?_ 0 _ rfl;exact zK v⟩,⟨zB⟩⟩
  case round=>
   clear T;clear b0 b1 ci cj co cq cx c0 cd ce ck cl cr cv c1 c2 cf ch;obtain⟨i,D,u262001,rfl,HA,am,B,l,q,v,j⟩:=hrel;cases gk with
   |zero=>exact absurd HA.out (by simp[cZ.l0])
   |succ k1=>
    have H:=HA.out;clear HA;simp only[cZ.l0] at H;by_cases W:i<(a.length:Int)
    ·rw[if_pos W] at H
     have c3:=ay W;clear W;by_cases ap:0<=i
     ·rw[if_pos ap] at H
      have ek:=ay ap;clear ap;by_cases ar:i<(a.length:Int)
      ·rw[if_pos ar] at H
       have el:=ay ar;clear ar;by_cases ab:((ae a i).f0)=((ae a i).f1)
       ·rw[if_pos ab] at H
        obtain⟨c5,c6⟩:=br ab;clear ab;have T:=zA H;clear H;have K:0<=(i:Int):=ax ‹_›;have L:i<(a.length:Int):=ax ‹_›;obtain⟨X,a5,M,O,P⟩:=dB ad.out i K L;cases a5;replace M:=(j.out.cell (a8 w _ M)).trans M;replace O:=(j.out.cell (a8 w _ O)).trans O;replace P:=(j.out.cell (a8 w _ P)).trans P;replace K:=eq_true K;replace L:=eq_true L;go_wp2_with (first|((with_reducible refine aH (N:=9) rfl ?_);refine zX 9 #[.int .i64 0,.int .i64 0,.int .i64 0] 83 ?_;intro n hg em u hb;replace B:=zA (Kd.cR (Kd.rV (zR B) n (Nat.le_of_eq hg.symm)) hb);have Q:=zA (u);have c7:=zG j hg;have c8:=zG j hg;replace j:=zS j hb;have F:=zA ((by rw[hg];exact Nat.ne_of_lt (az (g:=r) (o:=.cells #[.int .i64 m,.slice (some X) a.length x] 24 (0,0)) (zK l)):r≠n));have a9:=zA ((by rw[hg];exact Nat.ne_of_gt (az (g:=r) (o:=.cells #[.int .i64 m,.slice (some X) a.length x] 24 (0,0)) (zK l)):n≠r));replace l:=zb l hb;have G:=zA ((by rw[hg];exact Nat.ne_of_lt (az (g:=s) (o:=.cells #[.int .i64 0,.slice none 0 0] 24 (0,0)) (zK q)):s≠n));have be:=zA ((by rw[hg];exact Nat.ne_of_gt (az (g:=s) (o:=.cells #[.int .i64 0,.slice none 0 0] 24 (0,0)) (zK q)):n≠s));replace q:=zb q hb;have I:=zA ((by rw[hg];exact Nat.ne_of_lt (az (g:=y) (o:=.cells #[.int .i64 m,u262001] 24 (0,0)) (zK v)):y≠n));have bf:=zA ((by rw[hg];exact Nat.ne_of_gt (az (g:=y) (o:=.cells #[.int .i64 m,u262001] 24 (0,0)) (zK v)):n≠y));replace v:=zb v hb;clear hb u hg;have er:=a9.out;have es:=F.out;have ev:=be.out;have ew:=G.out;have ex:=bf.out;have ey:=I.out;obtain⟨e0,e1,e2,e3,e4,e5⟩:=cm Q))
        go_roundg k1
        case measure=>have:=am.out;omega
        case rel=>exact⟨(wrap64 (i+1)),(D),(u262001),zT,T,⟨by have:=am.out;omega⟩,⟨by(with_reducible repeat(first|apply Kd.aM|apply Kd.bB|apply Kd.bq));exact Kd.ba (Kd.dV (p:=⟨n,2,none⟩) (Kd.dV (p:=⟨n,1,none⟩) (Kd.dV (p:=⟨n,0,none⟩) (Kd.ba B.out (fun S hk=>(⟨hk,hk.2⟩:_/\S≠n))) (fun _ hk=>hk.2) (.int .i64 ((ae a i).f0))) (fun _ hk=>hk.2) (.int .i64 ((ae a i).f1))) (fun _ hk=>hk.2) (.int .i64 ((ae a i).f2))) (fun _ hk=>trivial)⟩,⟨by refine zk ?_;refine aD ?_ F.out _;refine zk ?_;refine aD ?_ F.out _;refine zk ?_;refine aD ?_ F.out _;exact zK l⟩,⟨by refine zk ?_;refine aD ?_ G.out _;refine zk ?_;refine aD ?_ G.out _;refine zk ?_;refine aD ?_ G.out _;exact zK q⟩,⟨by refine zk ?_;refine aD ?_ I.out _;refine zk ?_;refine aD ?_ I.out _;refine zk ?_;refine aD ?_ I.out _;exact zK v⟩,⟨zB⟩⟩
       ·rw[if_neg ab] at H
        obtain⟨c5,c6⟩:=bG ab;obtain⟨E,bg⟩:∃j_:Int,(mn ((ae a i).f2) J)=j_:=⟨_,rfl⟩;replace H:(if D.length<5864062014805 then(cZ.l0 k1 J a (a.length:Int) (wrap64 (i+1)) m (D++[(⟨(ae a i).f0,(ae a i).f1,E⟩:S83)])) else(none))=some (Y,Z,r3):=by first|(rw[bg] at H;exact H)|(simp only[bg] at H⊢;exact H)
        have e6:(if J<((ae a i).f2) then J else((ae a i).f2))=E:=bg;by_cases av:D.length<5864062014805
        ·rw[if_pos av] at H
         have c':=zA av;clear av;obtain⟨a0,bi⟩:∃y_:List (S83),y_=(D++[(⟨(ae a i).f0,(ae a i).f1,E⟩:S83)]):=⟨_,rfl⟩;replace H:(cZ.l0 k1 J a (a.length:Int) (wrap64 (i+1)) m a0)=some (Y,Z,r3):=zh bi H;have dk:=zA bi;clear bi;have T:=zA H;clear H;have K:0<=(i:Int):=ax ‹_›;have L:i<(a.length:Int):=ax ‹_›;obtain⟨X,a5,M,O,P⟩:=dB ad.out i K L;cases a5;replace M:=(j.out.cell (a8 w _ M)).trans M;replace O:=(j.out.cell (a8 w _ O)).trans O;replace P:=(j.out.cell (a8 w _ P)).trans P;replace K:=eq_true K;replace L:=eq_true L;go_wp2_with (first|((with_reducible refine aH (N:=9) rfl ?_);refine zX 9 #[.int .i64 0,.int .i64 0,.int .i64 0] 83 ?_;intro n hg dl u hb;replace B:=zA (Kd.cR (Kd.rV (zR B) n (Nat.le_of_eq hg.symm)) hb);have Q:=zA (u);have c7:=zG j hg;have c8:=zG j hg;replace j:=zS j hb;have F:=zA ((by rw[hg];exact Nat.ne_of_lt (az (g:=r) (o:=.cells #[.int .i64 m,.slice (some X) a.length x] 24 (0,0)) (zK l)):r≠n));have a9:=zA ((by rw[hg];exact Nat.ne_of_gt (az (g:=r) (o:=.cells #[.int .i64 m,.slice (some X) a.length x] 24 (0,0)) (zK l)):n≠r));replace l:=zb l hb;have G:=zA ((by rw[hg];exact Nat.ne_of_lt (az (g:=s) (o:=.cells #[.int .i64 0,.slice none 0 0] 24 (0,0)) (zK q)):s≠n));have be:=zA ((by rw[hg];exact Nat.ne_of_gt (az (g:=s) (o:=.cells #[.int .i64 0,.slice none 0 0] 24 (0,0)) (zK q)):n≠s));replace q:=zb q hb;have I:=zA ((by rw[hg];exact Nat.ne_of_lt (az (g:=y) (o:=.cells #[.int .i64 m,u262001] 24 (0,0)) (zK v)):y≠n));have bf:=zA ((by rw[hg];exact Nat.ne_of_gt (az (g:=y) (o:=.cells #[.int .i64 m,u262001] 24 (0,0)) (zK v)):n≠y));replace v:=zb v hb;clear hb u hg;have e_:=a9.out;have e':=F.out;have fb:=be.out;have fd:=G.out;have fn:=bf.out;have fo:=I.out;obtain⟨fq,fr,ft,fv,f3,f4⟩:=cm Q;have f5:=a2.out;have f6:=U.out;have f7:=a3.out;have f8:=V.out;obtain⟨f9,f',gb,gc⟩:=au v;have gd:((((dl.setCell ⟨n,0,none⟩ (.int .i64 (ae a i).f0)).setCell ⟨n,1,none⟩ (.int .i64 (ae a i).f1)).setCell ⟨n,2,none⟩ (.int .i64 (ae a i).f2)).setCell ⟨n,2,none⟩ (.int .i64 E)).cell? ⟨n,2,none⟩=some (.int .i64 E):=(ai (bC (cs:=#[(.int .i64 (ae a i).f0),(.int .i64 (ae a i).f1),(.int .i64 (ae a i).f2)]) (bC (cs:=#[(.int .i64 (ae a i).f0),(.int .i64 (ae a i).f1),(.int .i64 0)]) (bC (cs:=#[(.int .i64 (ae a i).f0),(.int .i64 0),(.int .i64 0)]) (bC (cs:=#[(.int .i64 0),(.int .i64 0),(.int .i64 0)]) Q.out 0 _ rfl) 1 _ rfl) 2 _ rfl) 2 _ rfl) 2).trans rfl)|((with_reducible refine pA (b:=.append) (xs:=#[.tmp 37,.tmp 39]) rfl ?_);at_builtin;refine Kd.l7 aN (w0:=w) w.heap.size rfl (.tmp 37) (.tmp 39) 22 83 (.agg #[(.int .i64 0),(.int .i64 0),(.int .i64 0)]) 24 rfl Tryz.underlying22 zq rfl (by decide) (by omega) u262001 D (⟨(ae a i).f0,(ae a i).f1,E⟩:S83) [.int .i64 ((ae a i).f0),.int .i64 ((ae a i).f1),.int .i64 E] (fun S=>S≠n) (fun _=>False) rfl (by first|(go_simp;done)|(go_simp;rfl)) ?aP (fun _ hk=>hk.elim) ?aF ?aO ?aB ?aS ?aL ?_;(case aP=>exact iX _ _ _ (⟨(ae a i).f0,(ae a i).f1,E⟩:S83));(case aB=>exact zB);(case aF=>exact(fun S hk=>Kd.ll (g:=n) (o:=.cells #[.int .i64 ((ae a i).f0),.int .i64 ((ae a i).f1),.int .i64 E] 83 (0,0)) (by refine zk ?_;refine bC (cs:=#[.int .i64 ((ae a i).f0),.int .i64 ((ae a i).f1),.int .i64 ((ae a i).f2)]) ?_ 2 _ rfl;refine zk ?_;refine bC (cs:=#[.int .i64 ((ae a i).f0),.int .i64 ((ae a i).f1),.int .i64 0]) ?_ 2 _ rfl;refine zk ?_;refine bC (cs:=#[.int .i64 ((ae a i).f0),.int .i64 0,.int .i64 0]) ?_ 1 _ rfl;refine zk ?_;refine bC (cs:=#[.int .i64 0,.int .i64 0,.int .i64 0]) ?_ 0 _ rfl;exact zK Q) S hk));(case aO=>exact(by(with_reducible repeat(first|apply Kd.aM|apply Kd.bB|apply Kd.bq));exact Kd.ba (Kd.dV (p:=⟨n,2,none⟩) (Kd.dV (p:=⟨n,2,none⟩) (Kd.dV (p:=⟨n,1,none⟩) (Kd.dV (p:=⟨n,0,none⟩) (Kd.ba B.out (fun S hk=>(⟨hk,hk.2⟩:_/\S≠n))) (fun _ hk=>hk.2) (.int .i64 ((ae a i).f0))) (fun _ hk=>hk.2) (.int .i64 ((ae a i).f1))) (fun _ hk=>hk.2) (.int .i64 ((ae a i).f2))) (fun _ hk=>hk.2) (.int .i64 E)) (fun _ hk=>hk.1.2)));(case aS=>exact(bs zB));(case aL=>have:=c'.out;omega);intro ge gf ho hb hg ds;rw[<-dk.out] at ho;replace l:=zA (cS (g:=r) (o:=.cells #[.int .i64 m,.slice (some X) a.length x] 24 (0,0)) (by refine zk ?_;refine aD ?_ F.out _;refine zk ?_;refine aD ?_ F.out _;refine zk ?_;refine aD ?_ F.out _;refine zk ?_;refine aD ?_ F.out _;exact zK l) hg (Kd.dr B.out l.out (by decide)));replace q:=zA (cS (g:=s) (o:=.cells #[.int .i64 0,.slice none 0 0] 24 (0,0)) (by refine zk ?_;refine aD ?_ G.out _;refine zk ?_;refine aD ?_ G.out _;refine zk ?_;refine aD ?_ G.out _;refine zk ?_;refine aD ?_ G.out _;exact zK q) hg (Kd.dr B.out q.out (by decide)));replace v:=zA (cS (g:=y) (o:=.cells #[.int .i64 m,u262001] 24 (0,0)) (by refine zk ?_;refine aD ?_ I.out _;refine zk ?_;refine aD ?_ I.out _;refine zk ?_;refine aD ?_ I.out _;refine zk ?_;refine aD ?_ I.out _;exact zK v) hg (Kd.dr B.out v.out (by decide)));replace Q:=zA (cS (g:=n) (o:=.cells #[.int .i64 ((ae a i).f0),.int .i64 ((ae a i).f1),.int .i64 E] 83 (0,0)) (by refine zk ?_;refine bC (cs:=#[.int .i64 ((ae a i).f0),.int .i64 ((ae a i).f1),.int .i64 ((ae a i).f2)]) ?_ 2 _ rfl;refine zk ?_;refine bC (cs:=#[.int .i64 ((ae a i).f0),.int .i64 ((ae a i).f1),.int .i64 0]) ?_ 2 _ rfl;refine zk ?_;refine bC (cs:=#[.int .i64 ((ae a i).f0),.int .i64 0,.int .i64 0]) ?_ 1 _ rfl;refine zk ?_;refine bC (cs:=#[.int .i64 0,.int .i64 0,.int .i64 0]) ?_ 0 _ rfl;exact zK Q) hg (Kd.xx B.out (fun _ hk=>hk.2)));replace j:=zA (hb);have b3:=zA (ho);clear B;clear ho hb hg ds;obtain⟨b4,b5,dv⟩:=Kd.bm b3.out;subst dv;obtain⟨gg,gi,gl,gm⟩:=au v))
         go_roundg k1
         case measure=>have:=am.out;omega
         case rel=>exact⟨(wrap64 (i+1)),(a0),(.slice b4 a0.length b5),zT,T,⟨by have:=am.out;omega⟩,⟨by(with_reducible repeat(first|apply Kd.aM|apply Kd.bB|apply Kd.bq));exact Kd.ba (Kd.dV (p:=⟨y,1,none⟩) (Kd.gX b3.out v.out (by decide)) (fun _ hk=>hk.2) (.slice b4 a0.length b5)) (fun _ hk=>trivial)⟩,⟨by refine zk ?_;refine aD ?_ U.out _;exact zK l⟩,⟨by refine zk ?_;refine aD ?_ V.out _;exact zK q⟩,⟨by refine zk ?_;refine bC (cs:=#[.int .i64 m,u262001]) ?_ 1 _ rfl;exact zK v⟩,⟨zB⟩⟩
        ·rw[if_neg av] at H
         exact absurd H (by simp)
      ·rw[if_neg ar] at H
       exact absurd H (by simp)
     ·rw[if_neg ap] at H
      exact absurd H (by simp)
    ·rw[if_neg W] at H
     have c3:=a6 W;clear W;simp only[Option.some.injEq,Prod.mk.injEq] at H;obtain⟨rfl,rfl,rfl⟩:=H;have gn:=a2.out;have go:=U.out;have gp:=a3.out;have gq:=V.out;obtain⟨gr,gs,gt,gx⟩:=au v;have g0:=ak.out;have g1:=ag.out;obtain⟨g2,g3,g4,g5⟩:=au q;obtain⟨b6,b_,d0⟩:=Kd.bm B.out;subst d0;go_wp2;refine bodyPost_ret (o6 rfl _ _ s 24 #[.int .i64 m,.slice b6 D.length b_] (0,0) _ rfl (by refine zk ?_;refine bC (cs:=#[.int .i64 m,.slice none 0 0]) ?_ 1 _ rfl;refine zk ?_;refine bC (cs:=#[.int .i64 0,.slice none 0 0]) ?_ 0 _ rfl;exact zK q) Tryz.underlying24 rfl (by kernel_rfl)) rfl ?_;exact⟨_,zE,by(with_reducible repeat(first|apply Kd.aM|apply Kd.bB|apply Kd.bq));exact Kd.ba (Kd.dV (p:=⟨s,1,none⟩) (Kd.dV (p:=⟨s,0,none⟩) (Kd.gX B.out q.out (by decide)) (fun _ hk=>hk.2) (.int .i64 m)) (fun _ hk=>hk.2) (.slice b6 D.length b_)) (fun _ hk=>trivial),zB⟩
 ·rw[if_neg c4] at H
  obtain⟨b0,b1⟩:=bG c4;simp only[Option.some.injEq,Prod.mk.injEq] at H;obtain⟨rfl,rfl,rfl⟩:=H;go_enter Tryz.func84,Tryz.ntmps84
  go_wp2_with (first|((with_reducible refine aH (N:=2) rfl ?_);refine zX 2 #[.int .i64 m,.slice z a.length x] 24 ?_;intro r hg g6 u hb;have l:=zA (u);have b':=zG j hg;have ca:=zG j hg;replace j:=zS j hb;clear hb u hg)|((with_reducible refine aH (N:=4) rfl ?_);refine zX 4 #[.int .i64 0,.slice none 0 0] 24 ?_;intro s hg g7 u hb;have q:=zA (u);have cb:=zG j hg;have cc:=zG j hg;replace j:=zS j hb;have ag:=zA ((by rw[hg];exact Nat.ne_of_lt (az (g:=r) (o:=.cells #[.int .i64 m,.slice z a.length x] 24 (0,0)) (zK l)):r≠s));have ak:=zA ((by rw[hg];exact Nat.ne_of_gt (az (g:=r) (o:=.cells #[.int .i64 m,.slice z a.length x] 24 (0,0)) (zK l)):s≠r));replace l:=zb l hb;clear hb u hg;have g8:=ag.out;have g9:=ak.out;obtain⟨g',ha,hc,he⟩:=au l)|((with_reducible refine aC (f:=64) rfl ?_);refine zL (some 11) Tryz.func64 #[.agg #[.int .i64 m,.slice z a.length x]] ?_;(with_reducible refine(bd.calls k m _ _ a t260 _ ?af ?ah A3.out).mono ?_);(case af=>exact Kd.aq ad.out zB);(case ah=>exact bw.out);rintro e hf ⟨rfl,hb⟩;refine⟨_,rfl,?_⟩;replace l:=zb l hb;replace q:=zb q hb;replace j:=zS j hb;(try clear hb);obtain⟨hh,hj,hl,hm⟩:=au q))
  refine bodyPost_ret (o6 rfl _ _ s 24 #[.int .i64 0,.slice none 0 0] (0,0) _ rfl (by refine zk ?_;refine bC (cs:=#[.int .i64 0,.slice none 0 0]) ?_ 1 _ rfl;refine zk ?_;refine bC (cs:=#[.int .i64 0,.slice none 0 0]) ?_ 0 _ rfl;exact zK q) Tryz.underlying24 rfl (by kernel_rfl)) rfl ?_;exact⟨_,zE,by first|exact Kd.dc _ _ _ _ _|exact Kd.gA _ _ _ _ _|exact Kd.V_nil _ _ _ _ _|exact Kd.Q_nil _ _ _ _ _|exact Kd.fQ _ _ _ _ _,zB⟩
end
def eU.f (k:Nat) (b:Int) (e:List (S83)):Option (Int×(List (S83))×Int):=(cZ.f k b e 50).bind fun a=>(some (a.1,a.2.1,a.2.2))
theorem eU.mono:∀a0 a k,aj (eU.f k a0 a) (eU.f (k+1) a0 a):=by
 intro a0 a k;unfold eU.f;with_reducible repeat' first|exact cZ.mono _ _ _ _|exact aj.refl _|exact aj.none _|refine aj.ite ?_ ?_|refine aj.bind ?_ (fun _=>?_)
theorem eU.calls (k:Nat) (i:Int) (l:Option Addr) (m:Nat) (a:List (S83)) (x:Int) (y:List (S83)) (z:Int) (w:World) (B:Kd.C aN w l a.length a) (D:a.length<=m) (h:eU.f k i a=some (x,y,z)):
  Calls Tryz.prog 30 #[.agg #[.int .i64 i,.slice l a.length m]] w fun e w'=>∃E:Value,e= .returned (.tuple #[.agg #[.int .i64 x,E],.int .i64 z])/\Kd.R aN 83 w' w.heap.size (fun _=>True) E y/\Below w.heap.size w w':=by
 have T:=Tryz.underlying24;have K:=zA B;have L:=zA D;clear B D;have b:=zA (al w.heap.size w);unfold eU.f at h;have H:=h;clear h;obtain⟨⟨s,v,M⟩,O,H⟩:=zo H;dsimp only at H;simp only[Option.some.injEq,Prod.mk.injEq] at H;obtain⟨rfl,rfl,rfl⟩:=H;go_enter Tryz.func30,Tryz.ntmps30
 go_wp2_with (first|((with_reducible refine aH (N:=1) rfl ?_);refine zX 1 #[.int .i64 i,.slice l a.length m] 24 ?_;intro u hg w3 n hb;have j:=zA (n);have U:=zG b hg;have V:=zG b hg;replace b:=zS b hb;clear hb n hg)|((with_reducible refine aH (N:=2) rfl ?_);refine zX 2 #[.int .i64 0,.slice none 0 0] 24 ?_;intro q hg W n hb;have r:=zA (n);have X:=zG b hg;have Y:=zG b hg;replace b:=zS b hb;have P:=zA ((by rw[hg];exact Nat.ne_of_lt (az (g:=u) (o:=.cells #[.int .i64 i,.slice l a.length m] 24 (0,0)) (zK j)):u≠q));have Q:=zA ((by rw[hg];exact Nat.ne_of_gt (az (g:=u) (o:=.cells #[.int .i64 i,.slice l a.length m] 24 (0,0)) (zK j)):q≠u));replace j:=zb j hb;clear hb n hg;have Z:=P.out;have aa:=Q.out;obtain⟨ab,ad,ag,ak⟩:=au j)|((with_reducible refine aC (f:=84) rfl ?_);refine zL (some 5) Tryz.func84 #[.agg #[.int .i64 i,.slice l a.length m],.int .i64 50] ?_;(with_reducible refine(cZ.calls k i _ _ a 50 s v M _ ?af ?ah O.out).mono ?_);(case af=>exact Kd.aq K.out zB);(case ah=>exact L.out);rintro e w7 ⟨an,rfl,F,hb⟩;refine⟨_,rfl,?_⟩;have G:=zA (Kd.bc F (bs zB));replace j:=zb j hb;replace r:=zb r hb;replace b:=zS b hb;(try clear hb);(try clear F);obtain⟨ap,ar,av,aB⟩:=au r;obtain⟨I,J,S⟩:=Kd.bm G.out;subst S))
 refine bodyPost_ret (o6 rfl _ _ q 24 #[.int .i64 s,.slice I v.length J] (0,0) _ rfl (by refine zk ?_;refine bC (cs:=#[.int .i64 s,.slice none 0 0]) ?_ 1 _ rfl;refine zk ?_;refine bC (cs:=#[.int .i64 0,.slice none 0 0]) ?_ 0 _ rfl;exact zK r) Tryz.underlying24 rfl (by kernel_rfl)) rfl ?_;exact⟨_,zE,by(with_reducible repeat(first|apply Kd.aM|apply Kd.bB|apply Kd.bq));exact Kd.ba (Kd.dV (p:=⟨q,1,none⟩) (Kd.dV (p:=⟨q,0,none⟩) (Kd.gX G.out r.out (by decide)) (fun _ hk=>hk.2) (.int .i64 s)) (fun _ hk=>hk.2) (.slice I v.length J)) (fun _ hk=>trivial),zB⟩
def cN (E:List S83):List S83:=E.filter fun x=>decide (x.f0≠x.f1)
theorem m_ {E:List S83} {x:S83}:x∈cN E↔x∈E/\x.f0≠x.f1:=by simp[cN]
theorem vz (E:List S83):timesOf (cN E)=timesOf E:=by
 unfold timesOf cN;generalize (fun _ _=>(0:Int):Nat->Nat->Int)=f;induction E generalizing f with
 |nil=>rfl
 |cons x E a=>
  by_cases e:x.f0=x.f1
  ·rw[List.filter_cons_of_neg (by simp[e]),List.foldl_cons,a,show cQ f x=f from if_pos e]
  ·rw[List.filter_cons_of_pos (by simp[e]),List.foldl_cons,List.foldl_cons,a]
theorem bt.cN {N:Int} {E:List S83} (h:bt N E):bt N (cN E):=
 ⟨fun x a=>h.ok x (m_.1 a).1,fun x a=>h.le x (m_.1 a).1,h.order.sublist (List.filter_sublist ..)⟩
theorem vA {N:Int}:∀{E:List S83} {a b:Int},(∀x∈E,bX N x=true/\x.f0<=x.f1/\(a<x.f0\/a=x.f0/\b<x.f1))->E.Pairwise g_->gF N a b E=0
 |[],_,_,_,_=>rfl
 |y::E,a,b,h,hp=>by
  obtain⟨g,i⟩:=List.pairwise_cons.1 hp;obtain⟨h1,j,k⟩:=h y (List.mem_cons_self ..);have he:dM N a b y=0:=by
   unfold dM;rw[h1,if_neg (by decide),if_neg (by omega)]
  rw[gF,if_pos he];exact vA (fun x e=>⟨(h x (List.mem_cons_of_mem _ e)).1,(h x (List.mem_cons_of_mem _ e)).2.1,g x e⟩) i
theorem DL {N:Int} {E:List S83} (h1:1<=N) (b:N<=12) (h:bt N E):cJ N E=0:=by
 unfold cJ;rw[if_neg (by omega)];refine vA (fun x a=>⟨h.ok x a,h.le x a,?_⟩) h.order;have:=h.ok x a;simp[bX] at this;omega
theorem fw.cN {n:Nat} {E:List S83} (h:fw n E):fw n (cN E):=fun S h1 b=>by
 obtain⟨x,g,a⟩:=h S h1 b;exact⟨x,m_.2 ⟨g,fun e=>a (by rw[e])⟩,a⟩
theorem qN {N:Int} {E:List S83} (b:E.length<=1000) (hm:∀x∈E,x.f2<=50):∀(m i:Nat) (o:List S83),i+m=E.length->o.length<=i->Ev (fun k=>cZ.l0 k 50 E E.length i N o) (N,o++cN (E.drop i),(0:Int))
 |0,i,o,hi,g=>by
  refine Ev.of_succ ?_;simp only[cZ.l0,if_neg (show ¬((i:Int)<(E.length:Int)) by omega)];rw[List.drop_eq_nil_of_le (by omega)];simpa [cN] using Ev.const (N,o,(0:Int))
 |m+1,i,o,hi,g=>by
  have h:ae E i∈E:=by
   have:ae E i=E[i]:=by simp[ae,bb,bP (show i<E.length by omega)]
   rw[this];exact List.getElem_mem _
  have l:=hm _ h;rw[lB (show i<E.length by omega)];refine Ev.of_succ ?_;by_cases e:(ae E i).f0=(ae E i).f1
  ·have a:=qN (N:=N) b hm m (i+1) o (by omega) (by omega)
   simp only[cZ.l0,if_pos (show (i:Int)<(E.length:Int) by omega),if_pos (show (0:Int)<=(i:Int) by omega),if_pos e,eh (show i<=1000000 by omega)];rw[show Go.Proofs.YtffdiakgjakngaaGreat.P.cN (ae E i::E.drop (i+1))=Go.Proofs.YtffdiakgjakngaaGreat.P.cN (E.drop (i+1)) from List.filter_cons_of_neg (by simp[e])];exact a
  ·have j:mn (ae E i).f2 50=(ae E i).f2:=by unfold mn;first|(rw[if_pos (by omega)])|(rw[if_neg (by omega)])|omega
   have a:=qN (N:=N) b hm m (i+1) (o++[ae E i]) (by omega) (by simp;omega);simp only[cZ.l0,if_pos (show (i:Int)<(E.length:Int) by omega),if_pos (show (0:Int)<=(i:Int) by omega),if_neg e,if_pos (show o.length<5864062014805 by omega),eh (show i<=1000000 by omega),j];rw[show Go.Proofs.YtffdiakgjakngaaGreat.P.cN (ae E i::E.drop (i+1))=ae E i::Go.Proofs.YtffdiakgjakngaaGreat.P.cN (E.drop (i+1)) from List.filter_cons_of_pos (by simp[e])];rw[List.append_assoc] at a;exact a
theorem DM {N:Int} {E:List S83} (b:E.length<=1000) (e:cJ N E=0):Ev (fun k=>eU.f k N E) (N,cN E,(0:Int)):=by
 unfold eU.f cZ.f;have h:=nT N E b;rw[e] at h;refine Ev.bind (a:=(N,cN E,(0:Int))) (Ev.bind h ?_) (Ev.const _);simp only[if_true];have hm:∀x∈E,x.f2<=50:=fun x g=>by
  have:=(gK e).2.2.ok x g;simp[bX] at this;omega
 simpa using qN (N:=N) b hm E.length 0 [] (by omega) (by simp)
theorem vB {p q:Nat->Nat} (h:∀v,rootOf q v=rootOf p v):∀u,bZ q u=bZ p u
 |0=>rfl
 |u+1=>by rw[bZ,bZ,vB h u,h u]
theorem vC {p q:Nat->Nat} {M m:Nat} (g:rootOf p M=M) (hm:rootOf p m=m) (a:m≠M) (h:∀v,rootOf q v=if rootOf p v=M then m else rootOf p v):∀u,bZ q u+(if M<u then 1 else 0)=bZ p u
 |0=>rfl
 |u+1=>by
  have b:=vC g hm a h u;rw[bZ,bZ,h u];rcases Nat.lt_trichotomy u M with e|e|e
  ·have e2:rootOf p u≠M:=by have:=iD p u;omega
   rw[if_neg (by omega)] at b;rw[if_neg e2,if_neg (show ¬M<u+1 by omega)];omega
  ·subst e
   rw[if_neg (Nat.lt_irrefl _)] at b;rw[g,if_pos rfl,if_neg a,if_pos (Nat.lt_succ_self _),if_pos rfl];omega
  ·rw[if_pos e] at b
   rw[if_pos (show M<u+1 by omega)];by_cases e2:rootOf p u=M
   ·have i:m≠u:=fun j=>a (by rw[<-hm,j,e2])
    rw[if_pos e2,if_neg i,e2,if_neg (show ¬M=u by omega)];omega
   ·rw[if_neg e2]
    omega
theorem DN {n:Nat} (s:(Nat->Nat)×Nat) (x:Nat×Int×Int) (h1:x.2.1.toNat<n) (g:x.2.2.toNat<n):(fg s x).2+bZ s.1 n=s.2+1+bZ (fg s x).1 n:=by
 unfold fg;have a:=lK s.1 x.2.1.toNat x.2.2.toNat;have i:=lI s.1 x.2.1.toNat;have hb:=lI s.1 x.2.2.toNat;have j:=iD s.1 x.2.1.toNat;have lb:=iD s.1 x.2.2.toNat;by_cases e:rootOf s.1 x.2.1.toNat=rootOf s.1 x.2.2.toNat
 ·rw[if_pos e,vB (q:=dE s.1 x.2.1.toNat x.2.2.toNat) (p:=s.1) (fun v=>by
   rw[a v,e,Nat.max_self,Nat.min_self];split
   ·rename_i h;exact h.symm
   ·rfl) n]
 ·rw[if_neg e]
  have b:=vC (p:=s.1) (q:=dE s.1 x.2.1.toNat x.2.2.toNat) (M:=max (rootOf s.1 x.2.1.toNat) (rootOf s.1 x.2.2.toNat)) (m:=min (rootOf s.1 x.2.1.toNat) (rootOf s.1 x.2.2.toNat))
   (by rw[Nat.max_def];split<;>assumption) (by rw[Nat.min_def];split<;>assumption) (by omega) a n
  rw[if_pos (by omega)] at b;dsimp only;omega
theorem vD {n:Nat}:∀(xs:List (Nat×Int×Int)) (s:(Nat->Nat)×Nat),(∀x∈xs,x.2.1.toNat<n/\x.2.2.toNat<n)->(xs.foldl fg s).2+bZ s.1 n=s.2+xs.length+bZ (xs.foldl fg s).1 n
 |[],s,_=>by simp
 |x::xs,s,h=>by
  have h1:=DN s x (h x (List.mem_cons_self ..)).1 (h x (List.mem_cons_self ..)).2;have b:=vD xs (fg s x) (fun y a=>h y (List.mem_cons_of_mem _ a));rw[List.foldl_cons,List.length_cons];omega
def na (x:Nat×Int×Int):S83:=⟨x.2.1,x.2.2,1⟩
theorem vE:∀(xs:List (Nat×Int×Int)) (s:(Nat->Nat)×Nat),(xs.foldl fg s).1=(xs.map na).foldl (fun p x=>dE p x.f0.toNat x.f1.toNat) s.1
 |[],s=>rfl
 |x::xs,s=>by rw[List.foldl_cons,List.map_cons,List.foldl_cons,vE xs (fg s x)];rfl
theorem vF:∀n,bZ id n=n
 |0=>rfl
 |n+1=>by rw[bZ,vF n,lJ (by simp),if_pos rfl]
theorem vG {E:List S83} {y:Nat×Int×Int} (h:y∈cg E E.length):∃x∈E,y.2=(x.f0,x.f1):=by
 obtain⟨x,a,h1,b⟩:=qd E _ (aI _) y h;exact⟨x,a,Prod.ext h1 b⟩
theorem vH {E:List S83} {i:Nat} (hi:i<E.length) (hm:1<=(ae E i).f2):∀{k:Nat},i<k->∃y∈cg E k,y.2=((ae E i).f0,(ae E i).f1)
 |0,h=>by omega
 |k+1,h=>by
  by_cases e:i=k
  ·subst e
   obtain⟨j,a⟩:∃j,(ae E i).f2.toNat=j+1:=⟨(ae E i).f2.toNat-1,by omega⟩;refine⟨_,List.mem_append_right _ (by rw[a];exact List.mem_append_right _ (List.mem_singleton.2 rfl)),rfl⟩
  ·obtain⟨y,b,he⟩:=vH hi hm (k:=k) (by omega)
   exact⟨y,List.mem_append_left _ b,he⟩
theorem DO {n:Nat} {E:List S83} (e:bt n E) (h:fw n E):fw n ((cg E E.length).map na):=fun S h1 g=>by
 obtain⟨x,a,j⟩:=h S h1 g;obtain⟨i,hi,rfl⟩:=List.getElem_of_mem a;have b:ae E i=E[i]:=by simp[ae,bb,bP hi]
 have k:=e.ok _ a;simp[bX] at k;obtain⟨y,l,he⟩:=vH hi (by rw[b];omega) hi;rw[b] at he;refine⟨na y,List.mem_map.2 ⟨y,l,rfl⟩,?_⟩;show S y.2.1.toNat≠S y.2.2.toNat
 rw[he];exact j
theorem DP {n:Nat} {E:List S83} (hn:1<=n) (a:bt n E) (h:fw n E):(cw (cg E E.length)).2+n=(cg E E.length).length+1:=by
 have i:∀x∈cg E E.length,x.2.1.toNat<n/\x.2.2.toNat<n:=fun y b=>by
  obtain⟨x,e,he⟩:=vG b;have g:=a.ok x e;simp[bX] at g;rw[he];show x.f0.toNat<n/\x.f1.toNat<n
  omega
 have j:=vD (n:=n) (cg E E.length) (id,0) i;have hf:=vE (cg E E.length) (id,0);have h1:bZ (aK ((cg E E.length).map na)) n=1:=(tj hn (fun z k=>by
  obtain⟨y,b,rfl⟩:=List.mem_map.1 k;obtain⟨x,e,he⟩:=vG b;have g:=a.ok x e;simp[bX] at g;show 0<=y.2.1/\y.2.1<n/\0<=y.2.2/\y.2.2<n/\(1:Int)<=1/\(1:Int)<=50
  rw[he];show 0<=x.f0/\x.f0<n/\0<=x.f1/\x.f1<n/\(1:Int)<=1/\(1:Int)<=50
  omega)).2 (DO a h)
 rw[show ((cg E E.length).foldl fg (id,0)).1=aK ((cg E E.length).map na) from hf,h1,vF] at j;show ((cg E E.length).foldl fg (id,0)).2+n=_
 omega
theorem val_step_eq {n:Nat} {f:Nat->Nat->Int} {x:S83} (j:0<=x.f0/\x.f0<n) (h1:0<=x.f1/\x.f1<n) (a:x.f0≠x.f1) (b:f x.f0.toNat x.f1.toNat=0) (e:f x.f1.toNat x.f0.toNat=0) {u:Nat} (hu:u<n):
  T.val n (cQ f x) u=T.val n f u+(T.one x.f1.toNat u*x.f2+T.one x.f0.toNat u*x.f2):=by
 unfold cQ;rw[if_neg a];have g:x.f0.toNat<n:=by omega
 have hb:x.f1.toNat<n:=by omega
 have k:x.f0.toNat≠x.f1.toNat:=by omega
 unfold T.val;have i:T.one x.f1.toNat u*x.f2=T.sN (fun v=>(T.one x.f1.toNat u*x.f2)*T.one x.f0.toNat v) n:=by rw[T.eP,T.fu g,Int.mul_one]
 have e2:T.one x.f0.toNat u*x.f2=T.sN (fun v=>(T.one x.f0.toNat u*x.f2)*T.one x.f1.toNat v) n:=by rw[T.eP,T.fu hb,Int.mul_one]
 rw[i,e2,<-T.dD,<-T.dD];refine T.bI fun v l=>?_
 unfold T.one;dsimp only;by_cases c1:u=x.f1.toNat/\v=x.f0.toNat
 ·rw[if_pos c1,if_pos c1.1,if_pos c1.2,if_neg (show ¬u=x.f0.toNat by omega),c1.1,c1.2,e];omega
 ·rw[if_neg c1]
  by_cases c2:u=x.f0.toNat/\v=x.f1.toNat
  ·rw[if_pos c2,if_pos c2.1,if_pos c2.2,if_neg (show ¬u=x.f1.toNat by omega),c2.1,c2.2,b];omega
  ·rw[if_neg c2]
   by_cases c3:u=x.f1.toNat
   ·rw[if_pos c3,if_neg (fun h=>c1 ⟨c3,h⟩),if_neg (show ¬u=x.f0.toNat by omega)];omega
   ·rw[if_neg c3]
    by_cases c4:u=x.f0.toNat
    ·rw[if_pos c4,if_neg (fun h=>c2 ⟨c4,h⟩)];omega
    ·rw[if_neg c4];omega
theorem DQ {n:Nat} {f:Nat->Nat->Int} {x:S83} (b:0<=x.f0/\x.f0<n) (h1:0<=x.f1/\x.f1<n) (e:x.f0≠x.f1) (h:f x.f0.toNat x.f1.toNat=0) (i:f x.f1.toNat x.f0.toNat=0):
  T.sN (T.val n (cQ f x)) n=T.sN (T.val n f) n+2*x.f2:=by
 have j:x.f0.toNat<n:=by omega
 have hb:x.f1.toNat<n:=by omega
 have a:=T.bI fun u hu=>val_step_eq b h1 e h i (u:=u) hu
 rw[T.dD,T.dD] at a;have k:T.sN (fun u=>T.one x.f1.toNat u*x.f2) n=x.f2:=by
  rw[T.bI (g:=fun u=>x.f2*T.one x.f1.toNat u) (fun u _=>Int.mul_comm _ _),T.eP,T.fu hb,Int.mul_one]
 have l:T.sN (fun u=>T.one x.f0.toNat u*x.f2) n=x.f2:=by
  rw[T.bI (g:=fun u=>x.f2*T.one x.f0.toNat u) (fun u _=>Int.mul_comm _ _),T.eP,T.fu j,Int.mul_one]
 rw[k,l] at a;omega
theorem vI {n:Nat}:∀(E:List S83) (f:Nat->Nat->Int),(∀x∈E,bX n x=true/\x.f0<x.f1/\f x.f0.toNat x.f1.toNat=0/\f x.f1.toNat x.f0.toNat=0)->E.Pairwise g_->T.sN (T.val n (E.foldl cQ f)) n=T.sN (T.val n f) n+2*fA E
 |[],f,_,_=>by simp[fA]
 |x::E,f,h,hp=>by
  obtain⟨e,g⟩:=List.pairwise_cons.1 hp;obtain⟨h1,r,i,j⟩:=h x (List.mem_cons_self ..);simp[bX] at h1;have k:=DQ (n:=n) (f:=f) (x:=x) (by omega) (by omega) (by omega) i j;have l:=vI E (cQ f x) (fun y a=>by
   obtain⟨b,m,o,p⟩:=h y (List.mem_cons_of_mem _ a);have hb:=e y a;unfold g_ at hb;have q:=b;simp[bX] at q;unfold cQ;rw[if_neg (show ¬x.f0=x.f1 by omega)];refine⟨b,m,?_,?_⟩
   ·show (if _ then _ else _)=_
    rw[if_neg (by omega),if_neg (by omega)];exact o
   ·show (if _ then _ else _)=_
    rw[if_neg (by omega),if_neg (by omega)];exact p) g
  rw[List.foldl_cons,l,k,fA];omega
theorem vJ {n:Nat} {E:List S83} (h:bt n E) (b:∀x∈E,x.f0≠x.f1):T.sN (T.val n (timesOf E)) n=2*(cK E E.length:Nat):=by
 have h1:=vI (n:=n) E (fun _ _=>0) (fun x a=>⟨h.ok x a,by have:=h.le x a;have:=b x a;omega,rfl,rfl⟩) h.order;have g:T.sN (T.val n fun _ _=>0) n=0:=T.gG fun u _=>T.iY n
 have e:=oP h E.length (aI _);rw[List.take_length] at e;unfold timesOf;omega
theorem DR {n:Nat} {E:List S83} (hn:1<=n) (m:n<=12) (o:E.length<=40) (e:cJ n E=0) (hC:fw n E):
  ∃g:Nat,Ev (fun k=>eT.f k n (cN E)) ((g:Int),(0:Int))/\T.IsGenus n (timesOf E) g:=by
 have a:=(gK e).2.2.cN;have p:(cN E).length<=E.length:=List.length_filter_le _ _;have i:=DP hn a hC.cN;refine⟨(cw (cg (cN E) (cN E).length)).2,?_,?_⟩
 ·unfold eT.f
  have h:=nT n (cN E) (by omega);rw[DL (by omega) (by omega) a] at h;refine Ev.bind h ?_;have j:mZ n (cN E)=true:=by
   unfold mZ eQ;rw[a.db,ay (by omega),ay (show (cN E).length<=40 by omega)];simp only[Bool.true_and,Bool.and_true];refine List.all_eq_true.2 fun x b=>?_
   have:=a.ok x b;simp[bX] at this;exact ay (by omega)
  simp only[if_true,if_pos j];exact Ev.const _
 ·have h1:=vJ a (fun x b=>(m_.1 b).2)
  rw[vz] at h1;show T.sN (T.can n (timesOf E)) n=_
  have l:T.sN (T.can n (timesOf E)) n=T.sN (T.val n (timesOf E)) n-2*n:=by
   show T.sN (fun v=>T.val n (timesOf E) v-2) n=_
   rw[T.da,T.gH];omega
  rw[ow] at i;rw[l,h1];omega
def dg.l0:Nat->List Int->Int->Int->Int->List (S83)->Option (Int)
 |0,_,_,_,_,_=>none
 |k+1,b,e,a,g,h=>if a<e then(if 0<=a then(if a<(b.length:Int) then((fD.f g (rd b a)).bind fun t222=>(if t222=true then(dg.l0 k b e (wrap64 (a+1)) g h) else(some 2))) else(none)) else(none)) else(some 0)
def dg.f (k:Nat) (a:Int) (b:List (S83)) (l1:List Int):Option (Int):=(bd.f k a b).bind fun t220=>(if t220=0 then(dg.l0 k l1 (l1.length:Int) 0 a b) else(some t220))
theorem dg.cn:∀k,(∀a b e g i,aj (dg.l0 k a b e g i) (dg.l0 (k+1) a b e g i))
 |0=>fun _ _ _ _ _ r h=>by simp[dg.l0] at h
 |k+1=>by
  have j:=dg.cn k
  ·intro a b e g i
   unfold dg.l0;with_reducible repeat' first|exact j _ _ _ _ _|exact bd.mono _ _ _|exact aj.refl _|exact aj.none _|refine aj.ite ?_ ?_|refine aj.bind ?_ (fun _=>?_)
theorem dg.mono:∀a0 a a2 k,aj (dg.f k a0 a a2) (dg.f (k+1) a0 a a2):=by
 intro a0 a a2 k;have b:=dg.cn k;unfold dg.f;with_reducible repeat' first|exact b _ _ _ _ _|exact bd.mono _ _ _|exact aj.refl _|exact aj.none _|refine aj.ite ?_ ?_|refine aj.bind ?_ (fun _=>?_)
theorem dg.calls (k:Nat) (g:Int) (l:Option Addr) (m:Nat) (i:List (S83)) (D:Option Addr) (c1:Nat) (l1:List Int) (r:Int) (w:World) (E:Kd.C aN w l i.length i) (F:i.length<=m) (G:Kd.C (Kd.int .i64) w D l1.length l1) (I:l1.length<=c1) (h:dg.f k g i l1=some r):
  Calls Tryz.prog 203 #[.agg #[.int .i64 g,.slice l i.length m],.slice D l1.length c1] w fun e w'=>e= .returned (.int .i64 r)/\Below w.heap.size w w':=by
 have am:=Tryz.underlying24;have J:=zA E;have K:=zA F;clear E F;have L:=zA G;have an:=zA I;clear G I;have b:=zA (al w.heap.size w);unfold dg.f at h;have H:=h;clear h;obtain⟨t220,M,H⟩:=zo H;by_cases c4:t220=0
 ·rw[if_pos c4] at H
  obtain⟨O,P⟩:=br c4;clear c4;have u:=zA H;clear H;go_enter Tryz.func203,Tryz.ntmps203
  go_wp2_with (first|((with_reducible refine aH (N:=2) rfl ?_);refine zX 2 #[.int .i64 g,.slice l i.length m] 24 ?_;intro Q hg w5 s hb;have j:=zA (s);have U:=zG b hg;have V:=zG b hg;replace b:=zS b hb;clear hb s hg;obtain⟨W,X,Y,Z⟩:=au j)|((with_reducible refine aC (f:=64) rfl ?_);refine zL (some 9) Tryz.func64 #[.agg #[.int .i64 g,.slice l i.length m]] ?_;(with_reducible refine(bd.calls k g _ _ i t220 _ ?af ?ah M.out).mono ?_);(case af=>exact Kd.aq J.out zB);(case ah=>exact K.out);rintro e w7 ⟨rfl,hb⟩;refine⟨_,rfl,?_⟩;replace j:=zb j hb;replace b:=zS b hb;(try clear hb)))
  go_loopg [15] k (fun R aa w'=>∃(a:Int),aa= .int .i64 a/\Aside0 (dg.l0 R l1 (l1.length:Int) a g i=some r)/\Aside0 (R<=k)/\Aside0 (w'.heap[Q]? =some (.cells #[.int .i64 g,(.slice l i.length m)] 24 (0,0)))/\Aside0 (Below w.heap.size w w'))
  case atStart=>exact⟨(0),zT,u,⟨aI _⟩,⟨zK j⟩,⟨zB⟩⟩
  case round=>
   clear u;clear O P W X Y Z;obtain⟨a,rfl,z,S,j,b⟩:=hrel;cases gk with
   |zero=>exact absurd z.out (by simp[dg.l0])
   |succ k1=>
    have H:=z.out;clear z;simp only[dg.l0] at H;by_cases q:a<(l1.length:Int)
    ·rw[if_pos q] at H
     have ad:=ay q;clear q;by_cases v:0<=a
     ·rw[if_pos v] at H
      have av:=ay v;clear v;by_cases x:a<(l1.length:Int)
      ·rw[if_pos x] at H
       have aB:=ay x;clear x;obtain⟨t222,T,H⟩:=zo H;by_cases y:t222=true
       ·subst y
        replace H:=zi H;have u:=zA H;clear H;have n:0<=(a:Int):=ax ‹_›;have o:a<(l1.length:Int):=ax ‹_›;obtain⟨ag,B,p⟩:=Kd.bT L.out a n o;cases B;replace p:=(b.out.cell (a8 w _ p)).trans p;replace n:=eq_true n;replace o:=eq_true o;obtain⟨aF,aL,aO,aP⟩:=au j;go_wp2_with (first|((with_reducible refine aC (f:=121) rfl ?_);refine zL (some 22) Tryz.func121 #[.int .i64 g,.int .i64 (rd l1 a)] ?_;(with_reducible refine(fD.calls g (rd l1 a) true _ T.out).mono ?_);rintro e w' ⟨rfl,⟨nd,rfl⟩⟩;refine⟨_,rfl,?_⟩))
        go_roundg k1
        case measure=>have:=S.out;omega
        case rel=>exact⟨(wrap64 (a+1)),zT,u,⟨by have:=S.out;omega⟩,⟨zK j⟩,⟨zB⟩⟩
       ·replace y:=Bool.eq_false_iff.mpr y
        subst y;replace H:=zj H;obtain rfl:=aE H;have n:0<=(a:Int):=ax ‹_›;have o:a<(l1.length:Int):=ax ‹_›;obtain⟨ag,B,p⟩:=Kd.bT L.out a n o;cases B;replace p:=(b.out.cell (a8 w _ p)).trans p;replace n:=eq_true n;replace o:=eq_true o;obtain⟨aS,a0,a1,a2⟩:=au j;go_wp2_with (first|((with_reducible refine aC (f:=121) rfl ?_);refine zL (some 22) Tryz.func121 #[.int .i64 g,.int .i64 (rd l1 a)] ?_;(with_reducible refine(fD.calls g (rd l1 a) false _ T.out).mono ?_);rintro e w' ⟨rfl,⟨nd,rfl⟩⟩;refine⟨_,rfl,?_⟩))
        go_ret;exact⟨zE,zB⟩
      ·rw[if_neg x] at H
       exact absurd H (by simp)
     ·rw[if_neg v] at H
      exact absurd H (by simp)
    ·rw[if_neg q] at H
     have ad:=a6 q;clear q;obtain rfl:=aE H;go_wp2;go_ret;exact⟨zE,zB⟩
 ·rw[if_neg c4] at H
  obtain⟨O,P⟩:=bG c4;obtain rfl:=aE H;go_enter Tryz.func203,Tryz.ntmps203
  go_wp2_with (first|((with_reducible refine aH (N:=2) rfl ?_);refine zX 2 #[.int .i64 g,.slice l i.length m] 24 ?_;intro Q hg a3 s hb;have j:=zA (s);have U:=zG b hg;have V:=zG b hg;replace b:=zS b hb;clear hb s hg;obtain⟨a4,a5,a9,be⟩:=au j)|((with_reducible refine aC (f:=64) rfl ?_);refine zL (some 9) Tryz.func64 #[.agg #[.int .i64 g,.slice l i.length m]] ?_;(with_reducible refine(bd.calls k g _ _ i t220 _ ?af ?ah M.out).mono ?_);(case af=>exact Kd.aq J.out zB);(case ah=>exact K.out);rintro e bf ⟨rfl,hb⟩;refine⟨_,rfl,?_⟩;replace j:=zb j hb;replace b:=zS b hb;(try clear hb)))
  go_ret;exact⟨zE,zB⟩
def cz.l0:Nat->Int->Int->List (S83)->Int->Int->Option (Int×Int)
 |0,_,_,_,_,_=>none
 |k+1,x1,e,b,g,a=>if a<g then(if 0<=a then(if a<(b.length:Int) then(if((ae b a).f0)=((ae b a).f1) then(cz.l0 k x1 e b g (wrap64 (a+1))) else(if((ae b a).f0)=x1 then(cz.l0 k x1 (wrap64 (e+((ae b a).f2))) b g (wrap64 (a+1))) else(if((ae b a).f1)=x1 then(cz.l0 k x1 (wrap64 (e+((ae b a).f2))) b g (wrap64 (a+1))) else(cz.l0 k x1 e b g (wrap64 (a+1)))))) else(none)) else(none)) else(some (e,0))
def cz.f (k:Nat) (e:Int) (a:List (S83)) (b:Int):Option (Int×Int):=(dg.f k e a (([b]:List Int))).bind fun t227=>(if t227=0 then(cz.l0 k b 0 a (a.length:Int) 0) else(some (0,t227)))
theorem cz.cn:∀k,(∀a b e g i,aj (cz.l0 k a b e g i) (cz.l0 (k+1) a b e g i))
 |0=>fun _ _ _ _ _ r h=>by simp[cz.l0] at h
 |k+1=>by
  have j:=cz.cn k
  ·intro a b e g i
   unfold cz.l0;with_reducible repeat' first|exact j _ _ _ _ _|exact dg.mono _ _ _ _|exact aj.refl _|exact aj.none _|refine aj.ite ?_ ?_|refine aj.bind ?_ (fun _=>?_)
theorem cz.mono:∀a0 a a2 k,aj (cz.f k a0 a a2) (cz.f (k+1) a0 a a2):=by
 intro a0 a a2 k;have b:=cz.cn k;unfold cz.f;with_reducible repeat' first|exact b _ _ _ _ _|exact dg.mono _ _ _ _|exact aj.refl _|exact aj.none _|refine aj.ite ?_ ?_|refine aj.bind ?_ (fun _=>?_)
theorem cz.calls (k:Nat) (m:Int) (G:Option Addr) (q:Nat) (b:List (S83)) (r:Int) (W:Int) (X:Int) (w:World) (ar:Kd.C aN w G b.length b) (av:b.length<=q) (h:cz.f k m b r=some (W,X)):
  Calls Tryz.prog 186 #[.agg #[.int .i64 m,.slice G b.length q],.int .i64 r] w fun e w'=>e= .returned (.tuple #[.int .i64 W,.int .i64 X])/\Below w.heap.size w w':=by
 have ca:=Tryz.underlying24;have cb:=Tryz.underlying83;have O:=zA ar;have aB:=zA av;clear ar av;have a:=zA (al w.heap.size w);unfold cz.f at h;have H:=h;clear h;obtain⟨Q,ad⟩:∃y_:List Int,y_=(([r]:List Int)):=⟨_,rfl⟩;replace H:((dg.f k m b Q).bind fun t227=>(if t227=0 then(cz.l0 k r 0 b (b.length:Int) 0) else(some (0,t227))))=some (W,X):=zh ad H;have Y:=zA ad;clear ad;obtain⟨t227,A3,H⟩:=zo H;by_cases c4:t227=0
 ·rw[if_pos c4] at H
  obtain⟨aL,aO⟩:=br c4;clear c4;have E:=zA H;clear H;go_enter Tryz.func186,Tryz.ntmps186
  go_wp2_with (first|((with_reducible refine aH (N:=2) rfl ?_);refine zX 2 #[.int .i64 m,.slice G b.length q] 24 ?_;intro n hg w5 p hb;have i:=zA (p);have a0:=zG a hg;have a2:=zG a hg;replace a:=zS a hb;clear hb p hg;obtain⟨a3,a4,a5,a9⟩:=au i)|((with_reducible refine aH (N:=12) rfl ?_);refine Kd.eY (Kd.int .i64) _ 3 ?hg (N:=12) ?hd (xs:=([r]:List Int)) (inner:=[.int .i64 r]) (ok:=fun _=>True) (okp:=fun _=>True) ?hr ?hp (fun _ hk=>hk) trivial (al _ _) (aI _) (by simp) ?_;(case hd=>rfl);(case hg=>rfl);(case hr=>first|(go_simp;done)|(go_simp;rfl));(case hp=>exact(aR.one (show Kd.M (Kd.int .i64) _ _ _ r [.int .i64 r] from rfl) (aR.none _ _)));intro be w7 R hb ag ak;clear ag ak;(first|rw[<-Y.out] at R|(simp only[Int.reduceToNat] at R;rw[<-Y.out] at R));have z:=zA (Kd.bc R (bs zB));replace i:=zb i hb;replace a:=zS a hb;clear hb R;obtain⟨bf,bg,bi⟩:=Kd.bm z.out;subst bi)|((with_reducible refine aC (f:=203) rfl ?_);refine zL (some 13) Tryz.func203 #[.agg #[.int .i64 m,.slice G b.length q],.slice bf Q.length bg] ?_;(with_reducible refine(dg.calls k m _ _ b _ _ Q t227 _ ?af ?ah ?aT ?aU A3.out).mono ?_);(case af=>exact Kd.aq O.out zB);(case ah=>exact aB.out);(case aT=>exact zC (Kd.aG z.out).2.2);(case aU=>exact(Kd.aG z.out).2.1);rintro e ce ⟨rfl,hb⟩;refine⟨_,rfl,?_⟩;replace z:=bp z hb;replace i:=zb i hb;replace a:=zS a hb;(try clear hb);obtain⟨bk,bn,bo,bv⟩:=au i))
  go_loopg [7,20] k (fun kq v7 v20 w'=>∃(I:Int) (j:Int),v7= .int .i64 I/\v20= .int .i64 j/\Aside0 (cz.l0 kq r I b (b.length:Int) j=some (W,X))/\Aside0 (kq<=k)/\Aside0 (w'.heap[n]? =some (.cells #[.int .i64 m,(.slice G b.length q)] 24 (0,0)))/\Aside0 (Below w.heap.size w w'))
  case atStart=>exact⟨(0),(0),zT,zT,E,⟨aI _⟩,⟨zK i⟩,⟨zB⟩⟩
  case round=>
   clear E;clear aL aO bk bn a3 a4 bo bv a5 a9;obtain⟨I,j,rfl,rfl,HA,F,i,a⟩:=hrel;cases gk with
   |zero=>exact absurd HA.out (by simp[cz.l0])
   |succ Z=>
    have H:=HA.out;clear HA;simp only[cz.l0] at H;by_cases P:j<(b.length:Int)
    ·rw[if_pos P] at H
     have bx:=ay P;clear P;by_cases aa:0<=j
     ·rw[if_pos aa] at H
      have cf:=ay aa;clear aa;by_cases ab:j<(b.length:Int)
      ·rw[if_pos ab] at H
       have ch:=ay ab;clear ab;by_cases S:((ae b j).f0)=((ae b j).f1)
       ·rw[if_pos S] at H
        obtain⟨b0,b1⟩:=br S;clear S;have E:=zA H;clear H;have s:0<=(j:Int):=ax ‹_›;have u:j<(b.length:Int):=ax ‹_›;obtain⟨B,J,v,x,y⟩:=dB O.out j s u;cases J;replace v:=(a.out.cell (a8 w _ v)).trans v;replace x:=(a.out.cell (a8 w _ x)).trans x;replace y:=(a.out.cell (a8 w _ y)).trans y;replace s:=eq_true s;replace u:=eq_true u;go_wp2_with (first|((with_reducible refine aH (N:=9) rfl ?_);refine zX 9 #[.int .i64 0,.int .i64 0,.int .i64 0] 83 ?_;intro D hg ci p hb;have K:=zA (p);have an:=zG a hg;have ap:=zG a hg;replace a:=zS a hb;have l:=zA ((by rw[hg];exact Nat.ne_of_lt (az (g:=n) (o:=.cells #[.int .i64 m,.slice (some B) b.length q] 24 (0,0)) (zK i)):n≠D));have L:=zA ((by rw[hg];exact Nat.ne_of_gt (az (g:=n) (o:=.cells #[.int .i64 m,.slice (some B) b.length q] 24 (0,0)) (zK i)):D≠n));replace i:=zb i hb;clear hb p hg;have cj:=L.out;have ck:=l.out;obtain⟨cl,co,cq,cr,cs,cv⟩:=cm K))
        go_roundg Z
        case measure=>have:=F.out;omega
        case rel=>exact⟨(I),(wrap64 (j+1)),zT,zT,E,⟨by have:=F.out;omega⟩,⟨by refine zk ?_;refine aD ?_ l.out _;refine zk ?_;refine aD ?_ l.out _;refine zk ?_;refine aD ?_ l.out _;exact zK i⟩,⟨zB⟩⟩
       ·rw[if_neg S] at H
        obtain⟨b0,b1⟩:=bG S;by_cases T:((ae b j).f0)=r
        ·rw[if_pos T] at H
         obtain⟨b2,b3⟩:=br T;clear T;have E:=zA H;clear H;have s:0<=(j:Int):=ax ‹_›;have u:j<(b.length:Int):=ax ‹_›;obtain⟨B,J,v,x,y⟩:=dB O.out j s u;cases J;replace v:=(a.out.cell (a8 w _ v)).trans v;replace x:=(a.out.cell (a8 w _ x)).trans x;replace y:=(a.out.cell (a8 w _ y)).trans y;replace s:=eq_true s;replace u:=eq_true u;go_wp2_with (first|((with_reducible refine aH (N:=9) rfl ?_);refine zX 9 #[.int .i64 0,.int .i64 0,.int .i64 0] 83 ?_;intro D hg cx p hb;have K:=zA (p);have an:=zG a hg;have ap:=zG a hg;replace a:=zS a hb;have l:=zA ((by rw[hg];exact Nat.ne_of_lt (az (g:=n) (o:=.cells #[.int .i64 m,.slice (some B) b.length q] 24 (0,0)) (zK i)):n≠D));have L:=zA ((by rw[hg];exact Nat.ne_of_gt (az (g:=n) (o:=.cells #[.int .i64 m,.slice (some B) b.length q] 24 (0,0)) (zK i)):D≠n));replace i:=zb i hb;clear hb p hg;have c0:=L.out;have c1:=l.out;obtain⟨c2,c3,c5,c6,c7,c8⟩:=cm K))
         go_roundg Z
         case measure=>have:=F.out;omega
         case rel=>exact⟨(wrap64 (I+((ae b j).f2))),(wrap64 (j+1)),zT,zT,E,⟨by have:=F.out;omega⟩,⟨by refine zk ?_;refine aD ?_ l.out _;refine zk ?_;refine aD ?_ l.out _;refine zk ?_;refine aD ?_ l.out _;exact zK i⟩,⟨zB⟩⟩
        ·rw[if_neg T] at H
         obtain⟨b2,b3⟩:=bG T;by_cases U:((ae b j).f1)=r
         ·rw[if_pos U] at H
          obtain⟨b4,b5⟩:=br U;clear U;have E:=zA H;clear H;have s:0<=(j:Int):=ax ‹_›;have u:j<(b.length:Int):=ax ‹_›;obtain⟨B,J,v,x,y⟩:=dB O.out j s u;cases J;replace v:=(a.out.cell (a8 w _ v)).trans v;replace x:=(a.out.cell (a8 w _ x)).trans x;replace y:=(a.out.cell (a8 w _ y)).trans y;replace s:=eq_true s;replace u:=eq_true u;go_wp2_with (first|((with_reducible refine aH (N:=9) rfl ?_);refine zX 9 #[.int .i64 0,.int .i64 0,.int .i64 0] 83 ?_;intro D hg c9 p hb;have K:=zA (p);have an:=zG a hg;have ap:=zG a hg;replace a:=zS a hb;have l:=zA ((by rw[hg];exact Nat.ne_of_lt (az (g:=n) (o:=.cells #[.int .i64 m,.slice (some B) b.length q] 24 (0,0)) (zK i)):n≠D));have L:=zA ((by rw[hg];exact Nat.ne_of_gt (az (g:=n) (o:=.cells #[.int .i64 m,.slice (some B) b.length q] 24 (0,0)) (zK i)):D≠n));replace i:=zb i hb;clear hb p hg;have c':=L.out;have dd:=l.out;obtain⟨dk,dl,ds,dv,d0,d1⟩:=cm K))
          go_roundg Z
          case measure=>have:=F.out;omega
          case rel=>exact⟨(wrap64 (I+((ae b j).f2))),(wrap64 (j+1)),zT,zT,E,⟨by have:=F.out;omega⟩,⟨by refine zk ?_;refine aD ?_ l.out _;refine zk ?_;refine aD ?_ l.out _;refine zk ?_;refine aD ?_ l.out _;exact zK i⟩,⟨zB⟩⟩
         ·rw[if_neg U] at H
          obtain⟨b4,b5⟩:=bG U;have E:=zA H;clear H;have s:0<=(j:Int):=ax ‹_›;have u:j<(b.length:Int):=ax ‹_›;obtain⟨B,J,v,x,y⟩:=dB O.out j s u;cases J;replace v:=(a.out.cell (a8 w _ v)).trans v;replace x:=(a.out.cell (a8 w _ x)).trans x;replace y:=(a.out.cell (a8 w _ y)).trans y;replace s:=eq_true s;replace u:=eq_true u;go_wp2_with (first|((with_reducible refine aH (N:=9) rfl ?_);refine zX 9 #[.int .i64 0,.int .i64 0,.int .i64 0] 83 ?_;intro D hg d2 p hb;have K:=zA (p);have an:=zG a hg;have ap:=zG a hg;replace a:=zS a hb;have l:=zA ((by rw[hg];exact Nat.ne_of_lt (az (g:=n) (o:=.cells #[.int .i64 m,.slice (some B) b.length q] 24 (0,0)) (zK i)):n≠D));have L:=zA ((by rw[hg];exact Nat.ne_of_gt (az (g:=n) (o:=.cells #[.int .i64 m,.slice (some B) b.length q] 24 (0,0)) (zK i)):D≠n));replace i:=zb i hb;clear hb p hg;have d3:=L.out;have d4:=l.out;obtain⟨d5,d6,d7,d8,d9,ea⟩:=cm K))
          go_roundg Z
          case measure=>have:=F.out;omega
          case rel=>exact⟨(I),(wrap64 (j+1)),zT,zT,E,⟨by have:=F.out;omega⟩,⟨by refine zk ?_;refine aD ?_ l.out _;refine zk ?_;refine aD ?_ l.out _;refine zk ?_;refine aD ?_ l.out _;exact zK i⟩,⟨zB⟩⟩
      ·rw[if_neg ab] at H
       exact absurd H (by simp)
     ·rw[if_neg aa] at H
      exact absurd H (by simp)
    ·rw[if_neg P] at H
     have bx:=a6 P;clear P;simp only[Option.some.injEq,Prod.mk.injEq] at H;obtain⟨rfl,rfl⟩:=H;go_wp2;go_ret2;exact⟨zE,zB⟩
 ·rw[if_neg c4] at H
  obtain⟨aL,aO⟩:=bG c4;simp only[Option.some.injEq,Prod.mk.injEq] at H;obtain⟨rfl,rfl⟩:=H;go_enter Tryz.func186,Tryz.ntmps186
  go_wp2_with (first|((with_reducible refine aH (N:=2) rfl ?_);refine zX 2 #[.int .i64 m,.slice G b.length q] 24 ?_;intro n hg eb p hb;have i:=zA (p);have a0:=zG a hg;have a2:=zG a hg;replace a:=zS a hb;clear hb p hg;obtain⟨ed,eg,ek,el⟩:=au i)|((with_reducible refine aH (N:=12) rfl ?_);refine Kd.eY (Kd.int .i64) _ 3 ?hg (N:=12) ?hd (xs:=([r]:List Int)) (inner:=[.int .i64 r]) (ok:=fun _=>True) (okp:=fun _=>True) ?hr ?hp (fun _ hk=>hk) trivial (al _ _) (aI _) (by simp) ?_;(case hd=>rfl);(case hg=>rfl);(case hr=>first|(go_simp;done)|(go_simp;rfl));(case hp=>exact(aR.one (show Kd.M (Kd.int .i64) _ _ _ r [.int .i64 r] from rfl) (aR.none _ _)));intro be em V hb ag ak;clear ag ak;(first|rw[<-Y.out] at V|(simp only[Int.reduceToNat] at V;rw[<-Y.out] at V));have z:=zA (Kd.bc V (bs zB));replace i:=zb i hb;replace a:=zS a hb;clear hb V;obtain⟨b6,b_,b'⟩:=Kd.bm z.out;subst b')|((with_reducible refine aC (f:=203) rfl ?_);refine zL (some 13) Tryz.func203 #[.agg #[.int .i64 m,.slice G b.length q],.slice b6 Q.length b_] ?_;(with_reducible refine(dg.calls k m _ _ b _ _ Q t227 _ ?af ?ah ?aT ?aU A3.out).mono ?_);(case af=>exact Kd.aq O.out zB);(case ah=>exact aB.out);(case aT=>exact zC (Kd.aG z.out).2.2);(case aU=>exact(Kd.aG z.out).2.1);rintro e er ⟨rfl,hb⟩;refine⟨_,rfl,?_⟩;replace z:=bp z hb;replace i:=zb i hb;replace a:=zS a hb;(try clear hb)))
  go_ret2;exact⟨zE,zB⟩
section
attribute [local go_sem] Oper.semAt_some
theorem vK (N:Int) (ev:Value) (w:World):Calls Tryz.prog 143 #[.agg #[.int .i64 N,ev]] w fun e w'=>e= .returned (.func (.func 185) #[] #[.pointer (some ⟨w.heap.size,0,none⟩)])/\w'=w.alloc (.cells #[.int .i64 N,ev] 24):=by
 go_enter Tryz.func143,Tryz.ntmps143
 go_wp2;go_ret;exact⟨rfl,rfl⟩
def kS (k:Nat) (N:Int) (E:List S83):Nat->Option (List Int)
 |0=>some []
 |v+1=>(kS k N E v).bind fun l=>(cz.f k N E (v:Nat)).bind fun p=>some (l++[p.1])
theorem vL (k:Nat) (N:Int) (E:List S83):∀v,aj (kS k N E v) (kS (k+1) N E v)
 |0=>aj.refl _
 |v+1=>aj.bind (vL k N E v) (fun _=>aj.bind (cz.mono _ _ _ _) (fun _=>aj.refl _))
theorem vM {k:Nat} {N:Int} {E:List S83}:∀{v:Nat} {l:List Int},kS k N E v=some l->l.length=v/\∀u:Nat,u<v->∃e,cz.f k N E (u:Nat)=some (rd l u,e)
 |0,l,h=>by injection h with h;subst h;exact⟨rfl,fun u hu=>by omega⟩
 |v+1,l,h=>by
  obtain⟨l',h1,b⟩:=Option.bind_eq_some_iff.1 h;obtain⟨p,g,a⟩:=Option.bind_eq_some_iff.1 b;injection a with a
  subst a;obtain⟨i1,i2⟩:=vM h1;refine⟨by simp[i1],fun u hu=>?_⟩;by_cases e:u=v
  ·subst e
   refine⟨p.2,?_⟩;rw[g,show rd (l'++[p.1]) (u:Int)=p.1 by simp[rd,bb,<-i1]]
  ·obtain⟨e',i⟩:=i2 u (by omega)
   refine⟨e',?_⟩;rw[i,show rd (l'++[p.1]) (u:Int)=rd l' u by simp[rd,bb,List.getElem?_append_left (show u<l'.length by omega)]]
def ga (L:List Int) (v:Nat):List (Int×Int):=(List.range v).map fun u:Nat=>((u:Int),rd L u)
theorem vN (L:List Int) (v:Nat):ga L (v+1)=ga L v++[((v:Int),rd L v)]:=by simp[ga,List.range_succ]
def DS (base a:Nat) (X Y:World):Prop:=(base<=X.heap.size->Below base X Y)/\(a<X.heap.size->Y.heap[a]? =X.heap[a]?)
theorem vO (a k n:Nat) (A0:Option Addr) (c0:Nat) (E:List S83) (L:List Int) (w0 W:World) (O:Kd.C aN w0 A0 E.length E) (P:E.length<=c0) (hn:n<=1000) (q:∀u:Nat,u<n->∃e,cz.f k n E (u:Nat)=some (rd L u,e)) (r:Below w0.heap.size w0 W)
  (h:W.heap[a]? =some (.cells #[.int .i64 n,.slice A0 E.length c0] 24 (0,0))):
  i_ (σ:=Unit) Fence.wide 9 Tryz.prog 185 #[.pointer (some ⟨a,0,none⟩)] (fun x:Int×Int=>#[.int .i64 x.1,.int .i64 x.2]) (fun _ W W1=>W1=W) (fun _ A B=>Below A.heap.size A B) (fun _ x A B=>(∃v:Nat,v<n/\x=((v:Int),rd L v))/\Below A.heap.size A B)
   (fun _ X Y=>DS w0.heap.size a X Y)
   (fun _ xs W'=>xs=ga L n) (fun _ _ _=>True) (fun pre=>pre.length<=n) W:=by
 intro lp J Jx s w y z;have Q:=zA s;have ar:=zA w;have R:=zA z;have S:=zA q;have D:=y () W rfl;clear s w y z q;have hu:=Tryz.underlying24;refine callsIn_of_wp Tryz.func185 rfl trivial ?_ rfl;simp only[Tryz.ntmps185,List.size_toArray,List.length_cons,List.length_nil,Nat.reduceAdd,Nat.reduceSub,Array.replicate_succ,Array.replicate_zero,List.push_toArray,List.append_toArray,List.nil_append,List.cons_append];have j:W.cell? ⟨a,0,none⟩=some (.int .i64 n):=(ai h 0).trans rfl;have b:=zA h;clear h;gi_wp2;clear j;gi_loopg [8] (n) (fun T i wr=>∃v:Nat,i= .int .i64 v/\v<=n/\Aside0 (J () (ga L v) wr)/\Aside0 (wr.heap[a]? =some (.cells #[.int .i64 n,.slice A0 E.length c0] 24 (0,0)))/\Aside0 (Below w0.heap.size w0 wr)/\Aside0 (T=n-v))
 case atStart=>exact⟨0,rfl,Nat.zero_le _,⟨D⟩,b,⟨r⟩,⟨rfl⟩⟩
 case round=>
  clear D r b;obtain⟨v,rfl,hv,l,b,m,U⟩:=hrel;by_cases F:v<n
  ·have aB:(0:Int)<=(v:Int):=by omega
   have aF:(v:Int)<(n:Int):=by omega
   obtain⟨ev,G⟩:=S.out v F;have V:=zA G;have Z:=zA (vN L v);have j:wr.cell? ⟨a,0,none⟩=some (.int .i64 n):=(ai b.out 0).trans rfl;have b1:wr.cell? ⟨a,1,none⟩=some (.slice A0 E.length c0):=(ai b.out 1).trans rfl;clear G;gi_wp2_with (refine⟨trivial,?_⟩;gi_at_call 186;refine(callsIn_wide.2 (cz.calls k n A0 c0 E v (rd L v) ev _ (Kd.aq O m.out) P V.out)).mono ?_;rintro e w3 ⟨rfl,g⟩;have ab:=zA (Q.out () _ _ _ l.out g);have H:=zA (a7 m.out g);have I:=zA (aJ b.out g);obtain⟨fn,tmps,aL,aO,o,K⟩:=R.out () (ga L v) ((v:Int),rd L v) _ _ ab.out ⟨⟨v,F,rfl⟩,al _ _⟩ (by show (ga L v).length<=n;simp[ga];omega);have ad:=zA K;simp only at o;clear K g l m b j b1)
   refine ad.out.mono ?_;rintro e W3 (⟨rfl,M,p⟩|⟨rfl,N⟩)
   ·have ag:=zA M
    have ak:=zA ((p.2 (az I.out)).trans I.out);have am:=zA (H.out.trans (p.1 H.out.size));clear M p o;gi_wp2;gi_roundg (n- (v+1))
    case measure=>rw[U.out];omega
    case rel=>exact⟨v+1,by go_num,by omega,⟨by rw[Z.out];exact ag.out⟩,ak,am,⟨rfl⟩⟩
   ·have an:=zA N
    clear N o;gi_wp2;refine bodyPost_ret (results_none rfl _ _ _) rfl ?_;exact⟨⟨_,rfl⟩,.inr ⟨(),_,trivial,an.out⟩⟩
  ·obtain rfl:n=v:=by omega
   gi_wp2;go_end0;exact⟨⟨_,rfl⟩,.inl ⟨(),_,rfl,l.out⟩⟩
def jF (L:List Int) (n v:Nat):List Int:=(List.range n).map fun u:Nat=>if u<v then wrap64 (rd L u-2) else 0
theorem DT {L:List Int} {n v:Nat} (a:v<n):(jF L n v).set v (wrap64 (rd L v-2))=jF L n (v+1):=by
 unfold jF;refine List.ext_getElem (by simp) fun i h1 b=>?_
 rw[List.getElem_set];simp only[List.getElem_map,List.getElem_range];by_cases e:v=i
 ·subst e;simp
 ·rw[if_neg e]
  by_cases h:i<v
  ·rw[if_pos h,if_pos (by omega)]
  ·rw[if_neg h,if_neg (by omega)]
def iQ (n:Nat) (pre:List (Int×Int)):List Int:=pre.foldl (fun l x=>l.set x.1.toNat (wrap64 (x.2-2))) (List.replicate n 0)
theorem vP (n:Nat) (pre:List (Int×Int)) (x:Int×Int):iQ n (pre++[x])=(iQ n pre).set x.1.toNat (wrap64 (x.2-2)):=by simp[iQ,List.foldl_append]
theorem DU (n:Nat) (pre:List (Int×Int)):(iQ n pre).length=n:=by
 unfold iQ;have:∀(pre:List (Int×Int)) (l:List Int),(pre.foldl (fun l x=>l.set x.1.toNat (wrap64 (x.2-2))) l).length=l.length:=by
  intro pre;induction pre with
  |nil=>intro l;rfl
  |cons x pre a=>intro l;rw[List.foldl_cons,a];simp
 rw[this];simp
theorem vQ (L:List Int) (n:Nat):∀v,v<=n->iQ n (ga L v)=jF L n v
 |0,_=>by
  unfold jF;refine List.ext_getElem (by simp[iQ,ga]) fun i h1 a=>?_
  simp[iQ,ga]
 |v+1,h=>by
  rw[vN,vP,vQ L n v (by omega)];simp only[aQ];exact DT (by omega)
def iR.f (k:Nat) (N:Int) (E:List S83):Option (List Int):=if 1<=N/\N<=1000 then(kS k N E N.toNat).bind fun l=>some (jF l N.toNat N.toNat) else none
theorem iR.mono:∀a b k,aj (iR.f k a b) (iR.f (k+1) a b):=by
 intro N E k;unfold iR.f;exact aj.ite (aj.bind (vL _ _ _ _) (fun _=>aj.refl _)) (aj.refl _)
theorem DV (k n:Nat) (A0:Option Addr) (c0:Nat) (E:List S83) (L:List Int) (w:World) (ad:Kd.C aN w A0 E.length E) (ag:E.length<=c0) (a9:1<=n) (hn:n<=1000) (J:∀u:Nat,u<n->∃e,cz.f k n E (u:Nat)=some (rd L u,e)):
  Calls Tryz.prog 89 #[.agg #[.int .i64 n,.slice A0 E.length c0]] w fun e w'=>∃go co,e= .returned (.slice (some ⟨go,0,none⟩) n co)/\(Kd.int .i64).R 3 w' w.heap.size (fun _=>True) (.slice (some ⟨go,0,none⟩) n co) (jF L n n)/\Below w.heap.size w w':=by
 have hu:=Tryz.underlying24;have HL:=zA J;have be:(0:Int)<=(n:Int):=by omega
 obtain⟨zs,am,M⟩:=lU 26 Tryz.underlying26 n hn;have N:=zA M;clear J M;refine(callsIn_wide (n:=10)).1 ?_;refine callsIn_of_wp_marks Tryz.func89 rfl trivial ?_ rfl;simp only[Tryz.ntmps89,List.size_toArray,List.length_cons,List.length_nil,Nat.reduceAdd,Nat.reduceSub,Array.replicate_succ,Array.replicate_zero,List.push_toArray,List.append_toArray,List.nil_append,List.cons_append];gi_wp2_with (first|(refine⟨trivial,?_⟩;gi_at_call 143;refine(callsIn_wide.2 (vK n _ _)).mono ?_;rintro e w3 ⟨rfl,rfl⟩))
 have q:=bl ((w.alloc (.cells #[.int .i64 n,.slice A0 E.length c0] 24)).alloc (.cells zs 3)) (.cells #[.slice (some ⟨w.heap.size+1,0,none⟩) n n] 26);have r:=bl (((w.alloc (.cells #[.int .i64 n,.slice A0 E.length c0] 24)).alloc (.cells zs 3)).alloc (.cells #[.slice (some ⟨w.heap.size+1,0,none⟩) n n] 26)) (.cells #[.int .i64 n,.slice A0 E.length c0] 24);have hS:=N.out (w.alloc (.cells #[.int .i64 n,.slice A0 E.length c0] 24)) (fun _=>True) trivial;simp only[World.size_alloc] at q r hS;have O:=zA (aw q (.cells #[.int .i64 n,.slice A0 E.length c0] 24));have P:=zA r;have y:=zA (ao (ao (ao (ao (al w.heap.size w) (.cells #[.int .i64 n,.slice A0 E.length c0] 24)) (.cells zs 3)) (.cells #[.slice (some ⟨w.heap.size+1,0,none⟩) n n] 26)) (.cells #[.int .i64 n,.slice A0 E.length c0] 24));have Q:Aside0 ((Kd.int .i64).R 3 ((((w.alloc (.cells #[.int .i64 n,.slice A0 E.length c0] 24)).alloc (.cells zs 3)).alloc (.cells #[.slice (some ⟨w.heap.size+1,0,none⟩) n n] 26)).alloc (.cells #[.int .i64 n,.slice A0 E.length c0] 24)) w.heap.size (fun _=>True) (.slice (some ⟨w.heap.size+1,0,none⟩) n n) (iQ n [])):=⟨Kd.bc (Kd.aM (Kd.aM hS _) _) (by omega)⟩;have an:=Nat.le_of_eq (show ((((w.alloc (.cells #[.int .i64 n,.slice A0 E.length c0] 24)).alloc (.cells zs 3)).alloc (.cells #[.slice (some ⟨w.heap.size+1,0,none⟩) n n] 26)).alloc (.cells #[.int .i64 n,.slice A0 E.length c0] 24)).heap.size=w.heap.size+4 by simp);have ap:=Nat.le_of_eq (show w.heap.size+4=((((w.alloc (.cells #[.int .i64 n,.slice A0 E.length c0] 24)).alloc (.cells zs 3)).alloc (.cells #[.slice (some ⟨w.heap.size+1,0,none⟩) n n] 26)).alloc (.cells #[.int .i64 n,.slice A0 E.length c0] 24)).heap.size by simp);clear q r hS N am;generalize (((w.alloc (.cells #[.int .i64 n,.slice A0 E.length c0] 24)).alloc (.cells zs 3)).alloc (.cells #[.slice (some ⟨w.heap.size+1,0,none⟩) n n] 26)).alloc (.cells #[.int .i64 n,.slice A0 E.length c0] 24)=b at O P y Q an ap⊢;refine iG (σ:=Unit) (α:=Int×Int) (F:=Fence.wide) (n:=10) rfl (by decide) (gf:=185) (lb:=#[.pointer (some ⟨w.heap.size+1+1+1,0,none⟩)]) rfl trivial (enters_of Tryz.func185 (by kernel_rfl) rfl)
  (fun o=>vO (w.heap.size+1+1+1) k n A0 c0 E L w _ ad ag hn HL.out (ao (ao y.out _) _) (aw (aw P.out _) _)) (fun _=>rfl)
  (fun _=>True) ?eB ?st ?ar
  (fun _ pre W=>b.heap.size<=W.heap.size/\(Kd.int .i64).R 3 W w.heap.size (fun _=>True) (.slice (some ⟨w.heap.size+1,0,none⟩) n n) (iQ n pre)/\W.heap[w.heap.size+1+1]? =some (.cells #[.slice (some ⟨w.heap.size+1,0,none⟩) n n] 26 (0,0))/\Below w.heap.size w W) (fun _ _ _ _=>False)
  ?is (fun _ _ _ _ _ _ h _=>h) ?ib (fun _ _ _ _ _ h _=>h) ?kt ?h0 ?a1 ?assign ?body ?done (fun _ _ _ _ _ _ _ h=>h.elim)
 case assign=>
  intro l x W K hK;gi_wp2;exact hK
 case eB=>
  intro o s W1 h;exact⟨trivial,by rw[h];exact cp.refl _ _⟩
 case st=>intro s A B _ h;exact cW h
 case ar=>intro s x A B _ h;exact cW h.2
 case is=>
  rintro s pre A B _ ⟨g,h1,G,H⟩ j;exact⟨Nat.le_trans g j.size,Kd.cR h1 j,aJ G j,a7 H j⟩
 case ib=>
  rintro s pre A B ⟨g,h1,G,H⟩ hb;exact⟨by rw[hb.size];exact g,dq h1 hb,hb.cells G,H.trans (hb.below w.heap.size (by omega))⟩
 case kt=>
  intro s A B C D m S T;refine⟨fun aY=>((m.below w.heap.size (by omega)).trans (S.1 (by rw[m.size];exact aY))).trans (T.below w.heap.size (by omega)),fun aB=>?_⟩;have U:w.heap.size+1+1+1≠b.heap.size+1:=by omega
  exact(T.heap _ U).trans ((S.2 (by rw[m.size];exact aB)).trans (m.heap _ U))
 case h0=>
  rintro o s W1 rfl;exact⟨by simp;omega,Kd.aM (Kd.aM Q.out _) _,aw (aw O.out _) _,ao (ao y.out _) _⟩
 case body=>
  rintro l s' pre ⟨xv,V⟩ Wb Wc W _ ⟨g,i1,i2,i3⟩ ⟨⟨v,bk,hx⟩,i⟩ aL a;injection hx with aO aP
  subst aO;have X:=zA (dq (Kd.cR i1 i) a);have Y:=zA (a.cells (aJ i2 i));have I3:=zA ((a7 i3 i).trans (a.below w.heap.size (by omega)));have a0:b.heap.size<=W.heap.size:=by have:=a.size;have:=i.size;omega
  have a2:=zA (vP n pre ((v:Int),V));have bn:=zA (DU n pre);clear i1 i2 i3 i a aL g aP;have z1:=dG Y.out;obtain⟨z2,z3⟩:=Kd.bW 0 X.out (v:Int) (by omega) (by omega);rw[aQ] at z2 z3;generalize bV 0 (iQ n pre) (v:Int)=z at z2;replace z2:W.cell? ⟨w.heap.size+1,v,none⟩=some (.int .i64 z):=z2;have bo:(0:Int)<=(v:Int):=by omega
  have bv:(v:Int)<(n:Int):=by omega
  have I:=Kd.dh X.out (v:Int) (wrap64 (V-2));rw[aQ] at I;have a3:=zA I.1;clear I;gi_wp2;refine⟨fz _ _ (by omega),⟨fun _=>Below.setCell (p:=⟨w.heap.size+1,v,none⟩) (al _ _) (by show w.heap.size<=w.heap.size+1;omega) _,fun _=>Below.heap_setCell _ _ _ _ (by show w.heap.size+1+1+1≠w.heap.size+1;omega)⟩,by simpa using a0,?_,aD Y.out (by show w.heap.size+1+1≠w.heap.size+1;omega) _,Below.setCell (p:=⟨w.heap.size+1,v,none⟩) I3.out (by show w.heap.size<=w.heap.size+1;omega) _⟩;rw[a2.out];exact a3.out
 case done=>
  rintro s' xs W W' _ rfl ⟨g,i1,i2,i3⟩ a Z;have b1:=zA (dq i1 a);have b2:=zA (a.cells i2);have b3:=zA (i3.trans (a.below w.heap.size (by omega)));have aa:=zA Z;clear i1 i2 i3 Z;have hc:=dG b2.out;gi_wp2_with fail
  have ab:Bk b.heap.size W' (W'.putObj b.heap.size (.deferred none)):=⟨_,_,aa.out,rfl,rfl⟩;have h1:=b1.out;rw[vQ L n n (aI _)] at h1;exact i' (D:=b.heap.size) rfl aa.out (results_tmp rfl _ _ _) ⟨_,_,rfl,dq h1 ab,b3.out.trans (ab.below w.heap.size (by omega))⟩
theorem iR.calls (k:Nat) (b:Int) (i:Option Addr) (j:Nat) (a:List (S83)) (r:List Int) (w:World) (o:Kd.C aN w i a.length a) (p:a.length<=j) (h:iR.f k b a=some r):
  Calls Tryz.prog 89 #[.agg #[.int .i64 b,.slice i a.length j]] w fun e w'=>∃l:Value,e= .returned (l)/\Kd.R (Kd.int .i64) 3 w' w.heap.size (fun _=>True) l r/\Below w.heap.size w w':=by
 unfold iR.f at h;by_cases m:1<=b/\b<=1000
 ·rw[if_pos m] at h
  obtain⟨n,rfl⟩:=Int.eq_ofNat_of_zero_le (show 0<=b by omega);obtain⟨L,h1,g⟩:=Option.bind_eq_some_iff.1 h;simp only[aQ] at h1 g;injection g with g
  subst g;refine(DV k n i j a L w o p (by omega) (by omega) (vM h1).2).mono ?_;rintro e w' ⟨go,co,rfl,q,s⟩;exact⟨_,rfl,q,s⟩
 ·rw[if_neg m] at h;cases h
end
mutual
def bK.l0:Nat->List (List Int)->List (List Int)->Int->Int->Option (Int)
 |0,_,_,_,_=>none
 |k+1,b,e,g,a=>if a<g then(if 0<=a then(if a<(e.length:Int) then((bz.f k (aZ e a) ((aZ e a).length:Int)).bind fun t194=>(if t194=0 then(bK.l0 k b e g (wrap64 (a+1))) else(some t194))) else(none)) else(none)) else(bK.l1 k b b (b.length:Int) 0)
def bK.l1:Nat->List (List Int)->List (List Int)->Int->Int->Option (Int)
 |0,_,_,_,_=>none
 |k+1,b,e,g,a=>if a<g then(if 0<=a then(if a<(e.length:Int) then(if 0<(b.length:Int) then(if((aZ e a).length:Int)=((aZ b 0).length:Int) then(bK.l1 k b e g (wrap64 (a+1))) else(some 8)) else(none)) else(none)) else(none)) else(some 0)
end
def bK.f (k:Nat) (l0:List (List Int)):Option (Int):=bK.l0 k l0 l0 (l0.length:Int) 0
theorem bK.cn:∀k,(∀a b e g,aj (bK.l0 k a b e g) (bK.l0 (k+1) a b e g))/\(∀a b e g,aj (bK.l1 k a b e g) (bK.l1 (k+1) a b e g))
 |0=>⟨fun _ _ _ _ r h=>by simp[bK.l0] at h,fun _ _ _ _ r h=>by simp[bK.l1] at h⟩
 |k+1=>by
  obtain⟨i,j⟩:=bK.cn k;refine⟨?_,?_⟩
  ·intro a b e g
   unfold bK.l0;with_reducible repeat' first|exact i _ _ _ _|exact j _ _ _ _|exact bz.mono _ _ _|exact aj.refl _|exact aj.none _|refine aj.ite ?_ ?_|refine aj.bind ?_ (fun _=>?_)
  ·intro a b e g
   unfold bK.l1;with_reducible repeat' first|exact i _ _ _ _|exact j _ _ _ _|exact bz.mono _ _ _|exact aj.refl _|exact aj.none _|refine aj.ite ?_ ?_|refine aj.bind ?_ (fun _=>?_)
theorem bK.mono:∀a0 k,aj (bK.f k a0) (bK.f (k+1) a0):=by
 intro a0 k;obtain⟨a,b⟩:=bK.cn k;unfold bK.f;with_reducible repeat' first|exact a _ _ _ _|exact b _ _ _ _|exact bz.mono _ _ _|exact aj.refl _|exact aj.none _|refine aj.ite ?_ ?_|refine aj.bind ?_ (fun _=>?_)
theorem bK.calls (k:Nat) (A0:Option Addr) (c0:Nat) (l0:List (List Int)) (r:Int) (w:World) (W:Kd.C (Kd.slice 3 (Kd.int .i64)) w A0 l0.length l0) (X:l0.length<=c0) (h:bK.f k l0=some r):
  Calls Tryz.prog 118 #[.slice A0 l0.length c0] w fun e w'=>e= .returned (.int .i64 r)/\aA w w':=by
 have s:=zA W;have a5:=zA X;clear W X;have H:(bK.l0 k l0 l0 (l0.length:Int) 0)=some r:=h;clear h;have g:=zA H;clear H;go_enter Tryz.func118,Tryz.ntmps118
 go_wp2;go_loopg [10] k (fun v v10 w'=>∃(a:Int),v10= .int .i64 a/\Aside0 (bK.l0 v l0 l0 (l0.length:Int) a=some r)/\Aside0 (v<=k)/\aA w w')
 case atStart=>exact⟨(0),zT,g,⟨aI _⟩,by repeat(first|exact aA.refl _|apply aA.step)⟩
 case round=>
  clear g;obtain⟨a,rfl,j,J,⟨m1,rfl⟩⟩:=hrel;cases gk with
  |zero=>exact absurd j.out (by simp[bK.l0])
  |succ x=>
   have H:=j.out;clear j;simp only[bK.l0] at H;by_cases c2:a<(l0.length:Int)
   ·rw[if_pos c2] at H
    have Y:=ay c2;clear c2;by_cases c3:0<=a
    ·rw[if_pos c3] at H
     have a9:=ay c3;clear c3;by_cases c4:a<(l0.length:Int)
     ·rw[if_pos c4] at H
      have be:=ay c4;clear c4;obtain⟨t194,Z,H⟩:=zo H;by_cases y:t194=0
      ·rw[if_pos y] at H
       obtain⟨ab,ad⟩:=br y;clear y;have g:=zA H;clear H;have l:0<=(a:Int):=ax ‹_›;have m:a<(l0.length:Int):=ax ‹_›;obtain⟨ag,N,O,P,ak,z,B⟩:=fT s.out a l m;cases P;have Q:=zA B;have R:=zA z;clear B z;replace l:=eq_true l;replace m:=eq_true m;go_wp2_with (first|((with_reducible refine aC (f:=87) rfl ?_);refine zL (some 17) Tryz.func87 #[.slice N (aZ l0 a).length O,.int .i64 ((aZ l0 a).length:Int)] ?_;(with_reducible refine(bz.calls x _ _ (aZ l0 a) ((aZ l0 a).length:Int) t194 _ ?af ?ah Z.out).mono ?_);(case af=>repeat(first|exact Q.out|(with_reducible refine Kd.bE ?_ _)|(with_reducible refine Kd.fK ?_ _)|(with_reducible refine Kd.fk ?_)));(case ah=>exact R.out);rintro e w' ⟨rfl,⟨nd,rfl⟩⟩;refine⟨_,rfl,?_⟩))
       go_roundg x
       case measure=>have:=J.out;omega
       case rel=>exact⟨(wrap64 (a+1)),zT,g,⟨by have:=J.out;omega⟩,by repeat(first|exact aA.refl _|apply aA.step)⟩
      ·rw[if_neg y] at H
       obtain⟨ab,ad⟩:=bG y;obtain rfl:=aE H;have l:0<=(a:Int):=ax ‹_›;have m:a<(l0.length:Int):=ax ‹_›;obtain⟨ag,N,O,P,ak,z,B⟩:=fT s.out a l m;cases P;have Q:=zA B;have R:=zA z;clear B z;replace l:=eq_true l;replace m:=eq_true m;go_wp2_with (first|((with_reducible refine aC (f:=87) rfl ?_);refine zL (some 17) Tryz.func87 #[.slice N (aZ l0 a).length O,.int .i64 ((aZ l0 a).length:Int)] ?_;(with_reducible refine(bz.calls x _ _ (aZ l0 a) ((aZ l0 a).length:Int) t194 _ ?af ?ah Z.out).mono ?_);(case af=>repeat(first|exact Q.out|(with_reducible refine Kd.bE ?_ _)|(with_reducible refine Kd.fK ?_ _)|(with_reducible refine Kd.fk ?_)));(case ah=>exact R.out);rintro e w' ⟨rfl,⟨nd,rfl⟩⟩;refine⟨_,rfl,?_⟩))
       go_ret;exact⟨zT,by repeat(first|exact aA.refl _|apply aA.step)⟩
     ·rw[if_neg c4] at H
      exact absurd H (by simp)
    ·rw[if_neg c3] at H
     exact absurd H (by simp)
   ·rw[if_neg c2] at H
    have Y:=a6 c2;clear c2;have g:=zA H;clear H;go_wp2;go_loopg [24] x (fun v v24 w'=>∃(b:Int),v24= .int .i64 b/\Aside0 (bK.l1 v l0 l0 (l0.length:Int) b=some r)/\Aside0 (v<=x)/\aA w w')
    case atStart=>exact⟨(0),zT,g,⟨aI _⟩,by repeat(first|exact aA.refl _|apply aA.step)⟩
    case round=>
     clear g;clear Y;obtain⟨b,rfl,j,aa,⟨m2,rfl⟩⟩:=hrel;cases gk with
     |zero=>exact absurd j.out (by simp[bK.l1])
     |succ k2=>
      have H:=j.out;clear j;simp only[bK.l1] at H;by_cases u:b<(l0.length:Int)
      ·rw[if_pos u] at H
       have ap:=ay u;clear u;by_cases K:0<=b
       ·rw[if_pos K] at H
        have bf:=ay K;clear K;by_cases L:b<(l0.length:Int)
        ·rw[if_pos L] at H
         have bg:=ay L;clear L;by_cases M:0<(l0.length:Int)
         ·rw[if_pos M] at H
          have bi:=ay M;have bk:decide (0<l0.length)=true:=ay (by omega);clear M;by_cases i:((aZ l0 b).length:Int)=((aZ l0 0).length:Int)
          ·rw[if_pos i] at H
           obtain⟨ar,av⟩:=br i;have aB:((aZ l0 b).length==(aZ l0 0).length)=true:=by first|simpa using i|(simp at i⊢;omega)
           clear i;have g:=zA H;clear H;have n:0<=(b:Int):=ax ‹_›;have o:b<(l0.length:Int):=ax ‹_›;obtain⟨S,aF,aL,T,aO,D,E⟩:=fT s.out b n o;cases T;have aP:=zA E;have aS:=zA D;clear E D;replace n:=eq_true n;replace o:=eq_true o;have p:0<=(0:Int):=(by omega);have q:0<(l0.length:Int):=ax ‹_›;obtain⟨U,a0,a1,V,F,G,I⟩:=fT s.out 0 p q;obtain rfl:S=U:=(by injection V);have a2:(0<l0.length)=True:=eq_true (by omega)
           (try rw[show ((0:Int)).toNat=0 from rfl] at F)
           (try rw[Addr.add_zero'] at F)
           have a3:=zA I;have a4:=zA G;clear I G;replace p:=eq_true p;replace q:=eq_true q;go_wp2;go_roundg k2
           case measure=>have:=J.out;have:=aa.out;omega
           case rel=>exact⟨(wrap64 (b+1)),zT,g,⟨by have:=J.out;have:=aa.out;omega⟩,by repeat(first|exact aA.refl _|apply aA.step)⟩
          ·rw[if_neg i] at H
           obtain⟨ar,av⟩:=bG i;have aB:((aZ l0 b).length==(aZ l0 0).length)=false:=by first|simpa using i|(simp at i⊢;omega)
           obtain rfl:=aE H;have n:0<=(b:Int):=ax ‹_›;have o:b<(l0.length:Int):=ax ‹_›;obtain⟨S,aF,aL,T,aO,D,E⟩:=fT s.out b n o;cases T;have aP:=zA E;have aS:=zA D;clear E D;replace n:=eq_true n;replace o:=eq_true o;have p:0<=(0:Int):=(by omega);have q:0<(l0.length:Int):=ax ‹_›;obtain⟨U,a0,a1,V,F,G,I⟩:=fT s.out 0 p q;obtain rfl:S=U:=(by injection V);have a2:(0<l0.length)=True:=eq_true (by omega)
           (try rw[show ((0:Int)).toNat=0 from rfl] at F)
           (try rw[Addr.add_zero'] at F)
           have a3:=zA I;have a4:=zA G;clear I G;replace p:=eq_true p;replace q:=eq_true q;go_wp2;go_ret;exact⟨zT,by repeat(first|exact aA.refl _|apply aA.step)⟩
         ·rw[if_neg M] at H
          exact absurd H (by simp)
        ·rw[if_neg L] at H
         exact absurd H (by simp)
       ·rw[if_neg K] at H
        exact absurd H (by simp)
      ·rw[if_neg u] at H
       have ap:=a6 u;clear u;obtain rfl:=aE H;go_wp2;go_ret;exact⟨zT,by repeat(first|exact aA.refl _|apply aA.step)⟩
theorem nc:wrap64 (0+1)=1:=by unfold wrap64;omega
theorem gV:wrap64 (1+1)=2:=by unfold wrap64;omega
def qO (a:List Int):Int:=fO a a.length
def oQ (a b:List Int):Int:=if fO a a.length=0 then(if fO b b.length=0 then(if(b.length:Int)=(a.length:Int) then 0 else 8) else fO b b.length) else fO a a.length
theorem lZ (a:List Int) (l:List (List Int)):aZ (a::l) 0=a:=by simp[aZ]
theorem vR (a b:List Int) (l:List (List Int)):aZ (a::b::l) 1=b:=by simp[aZ]
theorem DW (a:List Int) (b:a.length<=1000000):Ev (fun k=>bK.f k [a]) (qO a):=by
 unfold bK.f qO;refine Ev.of_succ ?_;simp only[bK.l0,List.length_cons,List.length_nil,Nat.zero_add,Int.natCast_one,if_pos (show (0:Int)<1 by decide),if_pos (show (0:Int)<=0 by decide),lZ];refine Ev.bind (kJ a a.length b) ?_;by_cases h:fO a a.length=0
 ·simp only[if_pos h,nc]
  rw[h];refine Ev.of_succ ?_;simp only[bK.l0,if_neg (show ¬(1:Int)<1 by decide)];refine Ev.of_succ ?_;simp only[bK.l1,List.length_cons,List.length_nil,Nat.zero_add,Int.natCast_one,if_pos (show (0:Int)<1 by decide),if_pos (show (0:Int)<=0 by decide),lZ,if_true,nc];refine Ev.of_succ ?_;simp only[bK.l1,if_neg (show ¬(1:Int)<1 by decide)];exact Ev.const _
 ·simp only[if_neg h]
  exact Ev.const _
theorem DX (a b:List Int) (i:a.length<=1000000) (hb:b.length<=1000000):Ev (fun k=>bK.f k [a,b]) (oQ a b):=by
 unfold bK.f oQ;have e2:((([a,b]:List (List Int)).length:Nat):Int)=2:=rfl;refine Ev.of_succ ?_;simp only[bK.l0,e2,if_pos (show (0:Int)<2 by decide),if_pos (show (0:Int)<=0 by decide),lZ];refine Ev.bind (kJ a a.length i) ?_;by_cases h:fO a a.length=0
 ·simp only[if_pos h,nc]
  refine Ev.of_succ ?_;simp only[bK.l0,e2,if_pos (show (1:Int)<2 by decide),if_pos (show (0:Int)<=1 by decide),vR];refine Ev.bind (kJ b b.length hb) ?_;by_cases e:fO b b.length=0
  ·simp only[if_pos e,gV]
   refine Ev.of_succ ?_;simp only[bK.l0,e2,if_neg (show ¬(2:Int)<2 by decide)];refine Ev.of_succ ?_;simp only[bK.l1,e2,if_pos (show (0:Int)<2 by decide),if_pos (show (0:Int)<=0 by decide),lZ,if_true,nc];refine Ev.of_succ ?_;simp only[bK.l1,e2,if_pos (show (0:Int)<2 by decide),if_pos (show (1:Int)<2 by decide),if_pos (show (0:Int)<=1 by decide),lZ,vR,gV];by_cases g:(b.length:Int)=(a.length:Int)
   ·simp only[if_pos g]
    refine Ev.of_succ ?_;simp only[bK.l1,if_neg (show ¬(2:Int)<2 by decide)];exact Ev.const _
   ·simp only[if_neg g]
    exact Ev.const _
  ·simp only[if_neg e]
   exact Ev.const _
 ·simp only[if_neg h]
  exact Ev.const _
end Go.Proofs.YtffdiakgjakngaaGreat.P


namespace Go.Proofs.YtffdiakgjakngaaGreat.P
open Go.RowKit Go.Proofs.YtffdiakgjakngaaGreatW.PrintWords Go.Proofs.YtffdiakgjakngaaGreatW.PrintLast Go.Proofs.YtffdiakgjakngaaGreatW.PrintMore
set_option linter.unusedVariables false
set_option linter.unusedSimpArgs false
set_option maxHeartbeats 8000000
set_option maxRecDepth 100000
section
attribute [local go_sem] Oper.semAt_some
theorem DY (g n:Nat) (A0:Option Addr) (c0:Nat) (E:List S83) (q:Int) (dv Q:Value) (R:Int) (v:Nat) (lb:Array Value) (B:Nat->Bool) (w:World) (ab:Kd.C aN w A0 E.length E) (hE:ej n E) (hn:n<=1000) (hv:v<n) (i:gO w g n (.slice A0 E.length c0) q dv Q R)
  (hB:∀(W:World) (u:Int),Below w.heap.size w W->0<=u->u<n->Calls Tryz.prog 171 (#[.int .i64 u]++lb) W fun e w'=>e= .returned (.bool (B u.toNat))/\Below W.heap.size W w'):
  Calls Tryz.prog 168 #[.pointer (some ⟨g,0,none⟩),.int .i64 v,.func (.func 171) #[] lb] w fun e w'=>e= .returned (.int .i64 (dZ B (cy E v E.length)))/\Below w.heap.size w w':=by
 have be:=zA hB;have HE:=zA hE;have ak:=zA i;clear hB hE i;refine(callsIn_wide (n:=10)).1 ?_;refine callsIn_of_wp_marks Tryz.func168 rfl trivial ?_ rfl;simp only[Tryz.ntmps168,List.size_toArray,List.length_cons,List.length_nil,Nat.reduceAdd,Nat.reduceSub,Array.replicate_succ,Array.replicate_zero,List.push_toArray,List.append_toArray,List.nil_append,List.cons_append];gi_wp2_with (refine⟨trivial,?_⟩;gi_at_call 194;refine(callsIn_wide.2 (lS g v _)).mono ?_;rintro e w3 ⟨rfl,rfl⟩)
 obtain⟨p,am⟩:∃o:Obj,o= .cells #[.func (.func 171) #[] lb] 121:=⟨_,rfl⟩;obtain⟨on,an⟩:∃o:Obj,o= .cells #[.int .i64 0] 3:=⟨_,rfl⟩;obtain⟨r,ap⟩:∃o:Obj,o= .cells #[.pointer (some ⟨g,0,none⟩)] 135:=⟨_,rfl⟩;obtain⟨y,av⟩:∃o:Obj,o= .cells #[.int .i64 v] 3:=⟨_,rfl⟩;have Z0:=bl w p;have S:=bl (w.alloc p) on;have T:=bl ((w.alloc p).alloc on) r;have U:=bl (((w.alloc p).alloc on).alloc r) y;simp only[World.size_alloc] at S T U;have H0:=zA ((aw (aw (aw Z0 on) r) y).trans (by rw[am]:_=some (.cells #[.func (.func 171) #[] lb] 121 (0,0))));have H1:=zA ((aw (aw S r) y).trans (by rw[an]:_=some (.cells #[.int .i64 0] 3 (0,0))));have H2:=zA ((aw T y).trans (by rw[ap]:_=some (.cells #[.pointer (some ⟨g,0,none⟩)] 135 (0,0))));have H3:=zA (U.trans (by rw[av]:_=some (.cells #[.int .i64 v] 3 (0,0))));have z:=zA (ao (ao (ao (ao (al w.heap.size w) p) on) r) y);have aP:Aside0 (gO ((((w.alloc p).alloc on).alloc r).alloc y) g n (.slice A0 E.length c0) q dv Q R):=⟨aJ ak.out z.out⟩;have bw:g<w.heap.size:=az ak.out;have bg:=zA (Kd.aq ab z.out);clear Z0 S T U;subst am an ap av;have bi:=z.out.size;have bk:((((w.alloc (.cells #[.func (.func 171) #[] lb] 121)).alloc (.cells #[.int .i64 0] 3)).alloc (.cells #[.pointer (some ⟨g,0,none⟩)] 135)).alloc (.cells #[.int .i64 v] 3)).heap.size=w.heap.size+4:=by simp
 generalize ((((w.alloc (.cells #[.func (.func 171) #[] lb] 121)).alloc (.cells #[.int .i64 0] 3)).alloc (.cells #[.pointer (some ⟨g,0,none⟩)] 135)).alloc (.cells #[.int .i64 v] 3))=j at H0 H1 H2 H3 z aP bg bi bk⊢;refine iG (σ:=Unit) (α:=Int×Int) (F:=Fence.wide) (n:=10) rfl (by decide) (gf:=207) (lb:=#[.pointer (some ⟨w.heap.size+1+1,0,none⟩),.pointer (some ⟨w.heap.size+1+1+1,0,none⟩)]) rfl trivial (enters_of Tryz.func207 (by kernel_rfl) rfl)
  (fun o=>oC (w.heap.size+1+1) (w.heap.size+1+1+1) g n A0 c0 E q dv Q R v w _ ab HE.out hn hv (ao (ao z.out _) _) (aw (aw H2.out _) _) (aw (aw H3.out _) _) (aw (aw aP.out _) _)) (fun _=>rfl)
  (fun _=>True) ?eB ?st ?ar
  (fun _ pre W=>j.heap.size<=W.heap.size/\W.heap[w.heap.size]? =some (.cells #[.func (.func 171) #[] lb] 121 (0,0))/\W.heap[w.heap.size+1]? =some (.cells #[.int .i64 (dZ B pre)] 3 (0,0))/\Below w.heap.size w W) (fun _ _ _ _=>False)
  ?is (fun _ _ _ _ _ _ h _=>h) ?ib (fun _ _ _ _ _ h _=>h) ?kt ?h0 ?a1 ?assign ?body ?done (fun _ _ _ _ _ _ _ h=>h.elim)
 case assign=>
  intro l x W K hK;gi_wp2;exact hK
 case eB=>
  intro o s W1 h;exact⟨trivial,by rw[h];exact cp.refl _ _⟩
 case st=>intro s A B _ h;exact cW h
 case ar=>intro s x A B _ h;exact cW h.2
 case is=>
  rintro s pre A B _ ⟨H,h1,V,X⟩ i;exact⟨Nat.le_trans H i.size,aJ h1 i,aJ V i,a7 X i⟩
 case ib=>
  rintro s pre A B ⟨H,h1,V,X⟩ hb;exact⟨by rw[hb.size];exact H,hb.cells h1,hb.cells V,X.trans (hb.below w.heap.size (by omega))⟩
 case kt=>
  intro s A B C D N aS a0;refine⟨fun aY=>((N.below w.heap.size (by omega)).trans (aS.1 (by rw[N.size];exact aY))).trans (a0.below w.heap.size (by omega)),fun k hk I=>?_⟩;have a2:k≠j.heap.size+1:=by rcases hk with rfl|rfl|rfl<;>omega
  exact(a0.heap k a2).trans ((aS.2 k hk (by rw[N.size];exact I)).trans (N.heap k a2))
 case h0=>
  rintro o s W1 rfl;exact⟨by simp;omega,aw (aw H0.out _) _,aw (aw H1.out _) _,ao (ao z.out _) _⟩
 case body=>
  rintro l s pre ⟨u,m⟩ Wb W1 W _ ⟨H,i1,i2,i3⟩ ⟨Y,J⟩ bo b;have Z:=zA (b.cells (aJ i1 J));have L:=zA (b.cells (aJ i2 J));have b3:=zA ((a7 i3 J).trans (b.below w.heap.size (by omega)));have b0:j.heap.size<=W.heap.size:=by have:=b.size;have:=J.size;omega
  clear i1 i2 i3 J b bo;simp only at Y;have b4:W.cell? ⟨w.heap.size,0,none⟩=some (.func (.func 171) #[] lb):=(ai Z.out 0).trans rfl;have O:=zA (be.out W u b3.out Y.1 Y.2.1);have M:=zA (qh B pre (u,m));generalize dZ B pre=s0 at L M;cases P:B u.toNat with
  |true=>
   rw[P] at O M;clear P;gi_wp2_with (refine⟨trivial,?_⟩;gi_at_call 171;refine(callsIn_wide.2 O.out).mono ?_;rintro e w5 ⟨rfl,G⟩;have a:=zA G;have D2:=zA (aJ L.out G);have c5:w5.cell? ⟨w.heap.size+1,0,none⟩=some (.int .i64 s0):=(ai D2.out 0).trans rfl;have f5:=bD D2.out 0;clear G)
   have aY:=a.out.size;refine⟨(cW a.out).trans (fz _ _ (by show w.heap.size+1<j.heap.size;omega)),⟨fun aY=>Below.setCell (a.out.mono aY) (by show w.heap.size<=w.heap.size+1;omega) _,fun k hk I=>?_⟩,by simp;omega,?_,?_,Below.setCell (a7 b3.out a.out) (by show w.heap.size<=w.heap.size+1;omega) _⟩
   ·rw[Below.heap_setCell _ _ _ _ (by rcases hk with rfl|rfl|rfl<;>(show _≠w.heap.size+1)<;>omega)]
    exact a.out.block k I
   ·rw[Below.heap_setCell _ _ _ _ (by show w.heap.size≠w.heap.size+1;omega)]
    exact aJ Z.out a.out
   ·have h:=bR D2.out 0 (.int .i64 (wrap64 (s0+m)))
    rw[M.out];simpa using h
  |false=>
   rw[P] at O M;clear P;gi_wp2_with (refine⟨trivial,?_⟩;gi_at_call 171;refine(callsIn_wide.2 O.out).mono ?_;rintro e w5 ⟨rfl,G⟩;have a:=zA G;clear G)
   have aY:=a.out.size;exact⟨cW a.out,⟨fun aY=>a.out.mono aY,fun k hk I=>a.out.block k I⟩,by omega,aJ Z.out a.out,by rw[M.out];exact aJ L.out a.out,a7 b3.out a.out⟩
 case done=>
  rintro s xs W W' _ rfl ⟨H,i1,i2,i3⟩ b a4;have L:=zA (b.cells i2);have b3:=zA (i3.trans (b.below w.heap.size (by omega)));have a5:=zA a4;clear i1 i2 i3 a4;have hc:W'.cell? ⟨w.heap.size+1,0,none⟩=some (.int .i64 (dZ B (cy E v E.length))):=(ai L.out 0).trans rfl;gi_wp2_with fail
  have bv:Bk j.heap.size W' (W'.putObj j.heap.size (.deferred none)):=⟨_,_,a5.out,rfl,rfl⟩;exact i' (D:=j.heap.size) rfl a5.out (results_tmp rfl _ _ _) ⟨rfl,b3.out.trans (bv.below w.heap.size (by omega))⟩
end
section
attribute [local go_sem] Oper.semAt_some
theorem DZ (gb a cr n:Nat) (B:Nat->Bool) (ok:Nat->Prop) (base:Nat) (W:World) (u:Int) (hb:W.heap[gb]? =some (.cells #[.slice (some ⟨a,0,none⟩) n cr] 43 (0,0))) (g:Kd.bool.R 4 W base ok (.slice (some ⟨a,0,none⟩) n cr) ((List.range n).map fun v=> !B v)) (h:0<=u) (hn:u<n):
  Calls Tryz.prog 171 #[.int .i64 u,.pointer (some ⟨gb,0,none⟩)] W fun e w'=>e= .returned (.bool (B u.toNat))/\Below W.heap.size W w':=by
 have i:W.cell? ⟨gb,0,none⟩=some (.slice (some ⟨a,0,none⟩) n cr):=(ai hb 0).trans rfl;have b:=(Kd.bW false g u h hn).1;have e:bV false ((List.range n).map fun v=> !B v) u= !B u.toNat:=by
  obtain⟨m,rfl⟩:=Int.eq_ofNat_of_zero_le h;have:m<n:=by omega
  simp[bV,bb,List.getElem?_map,List.getElem?_range this]
 rw[e] at b;have b:W.cell? ⟨a,u.toNat,none⟩=some (.bool (!B u.toNat)):=b;clear g hb e;go_enter Tryz.func171,Tryz.ntmps171
 go_wp2;go_ret;exact⟨by simp[go_sem],al _ _⟩
theorem vS (g n:Nat) (A0:Option Addr) (c0:Nat) (E:List S83) (q:Nat) (a:Option Addr) (cd:Nat) (d:List Int) (b:Value) (h:Int) (w:World) (k:Kd.C aN w A0 E.length E) (i:bt n E) (l:E.length<=1000) (hn:n<=1000) (m:q<n) (o:d.length=n) (p:gO w g n (.slice A0 E.length c0) q (.slice a n cd) b h)
  (hd:Kd.C (Kd.int .i64) w a d.length d):
  Calls Tryz.prog 170 #[.pointer (some ⟨g,0,none⟩)] w fun e w'=>∃j cl,e= .returned (.tuple #[.slice (some ⟨j,0,none⟩) n cl,.bool ((List.range n).any fun v=> !bA n (timesOf E) q d v)])/\Kd.bool.R 4 w' w.heap.size (fun _=>True) (.slice (some ⟨j,0,none⟩) n cl) ((List.range n).map fun v=> !bA n (timesOf E) q d v)/\Below w.heap.size w w':=by
 subst o;exact BF g d.length A0 c0 E q a cd d b h w k i.jy hn m p hd rfl (fun B v r _=>BQ i l B r)
def ik (n:Nat) (t:Nat->Nat->Int) (q:Nat) (d:List Int) (v:Nat):Int:=T.sN (fun u=>if bA n t q d u=true then t v u else 0) n
theorem qP {n:Nat} {E:List S83} (a:bt n E) (hn:n<=12) (q:Nat) (d:List Int) (v:Nat):0<=ik n (timesOf E) q d v/\ik n (timesOf E) q d v<=600:=by
 have h:=T.cT (f:=fun w=>if bA n (timesOf E) q d w=true then timesOf E v w else 0) (g:=fun _=>50) (n:=n) (fun w _=>by
  have:=a.jy.times v w;show (if bA n (timesOf E) q d w=true then timesOf E v w else 0)<=50
  split<;>omega)
 rw[T.gH] at h;have b:0<=ik n (timesOf E) q d v:=T.dm fun w _=>by
  have:=a.jy.times v w;show 0<=(if bA n (timesOf E) q d w=true then timesOf E v w else 0)
  split<;>omega
 exact⟨b,by show T.sN _ n<=600;omega⟩
theorem D0 {n q:Nat} {t:Nat->Nat->Int} (b:T.Wt n t) (e:T.dn n t) (g:q<n) {D c σ:Nat->Int} (a:eA n q t D c σ) {d s:List Int} (h:ja n q t D d s):0<=jz n q σ s:=T.dm fun v i=>by
 have h1:=T.p6 b e g a.red a.eq a.q0 (d:=fun v=>rd d (v:Nat)) h.eq h.j4 v i;have j:rd s v<=σ v+rd s q:=h1;show 0<=σ v+rd s q-rd s v
 omega
theorem D3 (g gd gs cd cs n:Nat) (A0:Option Addr) (c0:Nat) (E:List S83) (q:Nat) (D c σ:Nat->Int) (d s:List Int) (w0 w:World) (N:Kd.C aN w0 A0 E.length E) (F:bt n E) (hl:E.length<=1000) (hC:fw n E) (hn:n<=12) (p:q<n) (aP:T.sN (T.val n (timesOf E)) n<=19)
  (hD:∀v:Nat,v<n-> -200<=D v/\D v<=200) (hr:eA n q (timesOf E) D c σ) (ad:ja n q (timesOf E) D d s) (h:SI w0 g gd gs cd cs n A0 c0 E q d s w):
  Calls Tryz.prog 111 #[.pointer (some ⟨g,0,none⟩)] w fun e w'=>e= .returned (.tuple #[])/\∃(d' s':List Int),SI w0 g gd gs cd cs n A0 c0 E q d' s' w'/\ja n q (timesOf E) D d' s'/\T.jW n (timesOf E) q (fun v=>rd d' (v:Nat)):=by
 have c1:=Tryz.underlying188;have hu:=Tryz.underlying24;have j:=zA F;have ag:=zA (F.conn hC);have HD:=zA hD;have a1:=zA hr;have k:=zA ad;have a:=zA h;have a2:=zA (D0 F.wt (F.conn hC) p hr ad);have c4:1<=n:=by omega
 clear F hC hD hr ad h;go_enter Tryz.func111,Tryz.ntmps111
 go_wp2;go_loopg [] ((jz n q σ s).toNat) (fun kq wr=>∃(d s:List Int),Aside0 (SI w0 g gd gs cd cs n A0 c0 E q d s wr)/\Aside0 (ja n q (timesOf E) D d s)/\Aside0 (0<=jz n q σ s/\kq=(jz n q σ s).toNat))
 case atStart=>exact⟨d,s,a,k,⟨a2.out,rfl⟩⟩
 case round=>
  clear a k a2;obtain⟨d,s,a,k,HK⟩:=hrel;have s5:=a.out.f5;have a4:=k.out.dl;have am:=zA a4;have b3:=a.out.hb.size;obtain⟨r1,r2,r3,r4,r5⟩:=a.out.ld;clear a4;cases O:(List.range n).any fun v=> !bA n (timesOf E) q d v with
  |false=>
   have r:=zA O;clear O;go_wp2_with (go_at_call 170;refine(vS g n A0 c0 E q _ cd d _ 0 _ (Kd.aq N a.out.hb) j.out hl (by omega) p am.out a.out.st (Kd.aG a.out.d).2.2).mono ?_;rintro e P ⟨b,cl,rfl,G,H⟩;rw[r.out];have I:=zA (a.out.below H);clear G H)
   refine bodyPost_ret (results_none rfl _ _ _) rfl ?_;exact⟨rfl,d,s,I.out.alloc _,k.out,B4 j.out.wt r.out⟩
  |true=>
   have r:=zA O;clear O;go_wp2_with (go_at_call 170;refine(vS g n A0 c0 E q _ cd d _ 0 _ (Kd.aq N a.out.hb) j.out hl (by omega) p am.out a.out.st (Kd.aG a.out.d).2.2).mono ?_;rintro e P ⟨b,cl,rfl,G,H⟩;rw[r.out];have I:=zA (a.out.below H);have an:=zA G;have c':=Kd.dz G b rfl;clear G H)
   have b4:=I.out.ld;have b5:=Kd.a_ an.out b rfl;have b6:gd≠b:=by omega
   have b_:gs≠b:=by omega
   have Q:=zA (bl P (.cells #[.slice (some ⟨b,0,none⟩) n cl] 43));have ap:=zA (Kd.bc (Kd.aM an.out (.cells #[.slice (some ⟨b,0,none⟩) n cl] 43)) (base':=w0.heap.size) b3);have ar:=zA (I.out.alloc (.cells #[.slice (some ⟨b,0,none⟩) n cl] 43));clear I an a s5 b4;generalize P.alloc (.cells #[.slice (some ⟨b,0,none⟩) n cl] 43)=W6 at Q ap ar⊢;generalize P.heap.size=gb at Q b5⊢;go_loopg [23,4] (n) (fun kq vv tv wr=>∃(v:Nat) (x:Int),v<=n/\vv= .int .i64 v/\tv= .int .i64 x/\0<=x/\Aside0 (x=0->∀u:Nat,u<v->bA n (timesOf E) q d u=false->ik n (timesOf E) q d u<=0)/\Aside0 (∀u:Nat,u<v->bA n (timesOf E) q d u=false->x*ik n (timesOf E) q d u<=rd d u)/\Aside0 (SI w0 g gd gs cd cs n A0 c0 E q d s wr)/\Aside0 (wr.heap[gb]? =some (.cells #[.slice (some ⟨b,0,none⟩) n cl] 43 (0,0)))/\Aside0 (Kd.bool.R 4 wr w0.heap.size (fun _=>True) (.slice (some ⟨b,0,none⟩) n cl) ((List.range n).map fun v=> !bA n (timesOf E) q d v))/\Aside0 (kq=n-v))
   case atStart=>exact⟨0,0,by omega,rfl,rfl,by omega,⟨fun _ u hu=>by omega⟩,⟨fun u hu=>by omega⟩,ar,Q,ap,⟨rfl⟩⟩
   case round=>
    clear ar Q ap;obtain⟨v,x,S,rfl,rfl,av,U,J,a,z,m,K⟩:=hrel;by_cases B:v<n
    ·have dk:(0:Int)<=(v:Int):=by omega
     have ds:(v:Int)<(n:Int):=by omega
     have i:=(Kd.bW false m.out (v:Int) (by omega) (by omega)).1;rw[aQ] at i;have e1:bV false ((List.range n).map fun v=> !bA n (timesOf E) q d v) v= !bA n (timesOf E) q d v:=by simp[bV,bb,List.getElem?_map,List.getElem?_range B]
     rw[e1] at i;replace i:wr.cell? ⟨b,v,none⟩=some (.bool (!bA n (timesOf E) q d v)):=i;clear e1;cases hF:bA n (timesOf E) q d v with
     |true=>
      rw[hF] at i;replace i:wr.cell? ⟨b,v,none⟩=some (.bool false):=i;have HF:=zA hF;clear hF;go_wp2;go_roundg (n- (v+1))
      case measure=>rw[K.out];omega
      case rel=>exact⟨v+1,x,by omega,by go_num,rfl,av,⟨fun hx u hu h1=>by
       by_cases e:u=v
       ·subst e;rw[HF.out] at h1;cases h1
       ·exact U.out hx u (by omega) h1⟩,⟨fun u hu h1=>by
       by_cases e:u=v
       ·subst e;rw[HF.out] at h1;cases h1
       ·exact J.out u (by omega) h1⟩,a,z,m,⟨rfl⟩⟩
     |false=>
      rw[hF] at i;replace i:wr.cell? ⟨b,v,none⟩=some (.bool true):=i;have HF:=zA hF;have a9:=zA (show ik n (timesOf E) q d v<=rd d v from um B hF);have be:=zA (qP j.out hn q d v);have bf:=zA (show dZ (bA n (timesOf E) q d) (cy E v E.length)=ik n (timesOf E) q d v from qt j.out hl (bA n (timesOf E) q d) B);have dv:=(k.out.bounds j.out.wt ag.out p hn aP HD.out a1.out v B).2.1;clear hF;go_wp2_with (go_at_call 168;refine(DY g n A0 c0 E q _ _ 0 v #[.pointer (some ⟨gb,0,none⟩)] (bA n (timesOf E) q d) _ (Kd.aq N a.out.hb) j.out.jy (by omega) B a.out.st (fun W u bg cb cc=>DZ gb b cl n _ _ _ W u (aJ z.out bg) (Kd.cR m.out bg) cb cc)).mono ?_;rintro e w8 ⟨rfl,V⟩;rw[bf.out];have l:=zA (a.out.below V);have X:=zA (aJ z.out V);have Y:=zA (Kd.cR m.out V);have c2:=l.out.j7 v B;have c3:=l.out.f3;clear V i a z m;obtain⟨y,i⟩:∃y,y=ik n (timesOf E) q d v:=⟨_,rfl⟩;rw[<-i];have Z:=be.out;have cf:=a9.out;rw[<-i] at Z cf;obtain⟨Z,d0⟩:=Z;have L:=zA i;clear i be a9 bf)
      ·have ch:1<=rd d v/y:=Int.le_ediv_of_mul_le (by omega) (by omega)
       have hx:=zA ‹x=0›;go_roundg (n- (v+1))
       case measure=>rw[K.out];omega
       case rel=>exact⟨v+1,rd d v/y,by omega,by go_num,rfl,by omega,⟨fun M=>by omega⟩,⟨fun u hu h1=>by
        by_cases e:u=v
        ·subst e;rw[<-L.out];exact Int.ediv_mul_le _ (by omega)
        ·have h2:=U.out hx.out u (by omega) h1
         have h3:=(qP j.out hn q d u).1;rw[show ik n (timesOf E) q d u=0 by omega,Int.mul_zero];have h4:ik n (timesOf E) q d u<=rd d u:=um (by omega) h1;omega⟩,l,X,Y,⟨rfl⟩⟩
      ·have ch:1<=rd d v/y:=Int.le_ediv_of_mul_le (by omega) (by omega)
       have d1:rd d v/y<x:=by
        rename_i o;rcases o with o|o
        ·exact absurd (by simpa using o) ‹¬x=0›
        ·exact o
       go_roundg (n- (v+1))
       case measure=>rw[K.out];omega
       case rel=>exact⟨v+1,rd d v/y,by omega,by go_num,rfl,by omega,⟨fun M=>by omega⟩,⟨fun u hu h1=>by
        by_cases e:u=v
        ·subst e;rw[<-L.out];exact Int.ediv_mul_le _ (by omega)
        ·exact Int.le_trans (Int.mul_le_mul_of_nonneg_right (by omega) (qP j.out hn q d u).1) (J.out u (by omega) h1)⟩,l,X,Y,⟨rfl⟩⟩
      ·have hle:x<=rd d v/y:=by
        rename_i o;exact o.2
       have ci:¬x=0:=‹¬x=0›;go_roundg (n- (v+1))
       case measure=>rw[K.out];omega
       case rel=>exact⟨v+1,x,by omega,by go_num,rfl,av,⟨fun M=>absurd M ci⟩,⟨fun u hu h1=>by
        by_cases e:u=v
        ·subst e;rw[<-L.out];exact Int.le_trans (Int.mul_le_mul_of_nonneg_right hle Z) (Int.ediv_mul_le _ (by omega))
        ·exact J.out u (by omega) h1⟩,l,X,Y,⟨rfl⟩⟩
      ·have cj:y<=0:=by assumption
       go_roundg (n- (v+1))
       case measure=>rw[K.out];omega
       case rel=>exact⟨v+1,x,by omega,by go_num,rfl,av,⟨fun M u hu h1=>by
        by_cases e:u=v
        ·subst e;rw[<-L.out];exact cj
        ·exact U.out M u (by omega) h1⟩,⟨fun u hu h1=>by
        by_cases e:u=v
        ·subst e;rw[<-L.out,show y=0 by omega,Int.mul_zero];omega
        ·exact J.out u (by omega) h1⟩,l,X,Y,⟨rfl⟩⟩
    ·obtain rfl:n=v:=by omega
     have b0:=dG z.out;have bk:1<=x:=by
      refine Classical.byContradiction fun bk=>?_
      obtain⟨v,S,h1,h2⟩:=B7 ag.out j.out.wt p r.out;have h3:ik n (timesOf E) q d v<=0:=U.out (by omega) v S h1;have h4:0<ik n (timesOf E) q d v:=h2;omega
     obtain⟨k1,k2,k3,k4⟩:=k.out.step j.out ag.out p hn aP HD.out a1.out r.out bk (fun v S h1=>J.out v S h1);have K1:=zA k1;have K2:=zA k2;have K3:=zA k3;have K4:=zA k4;have cv:=zA k.out.sl;clear k1 k2 k3 k4;go_wp2_with (go_at_call 166;refine(t' g gd gs b cd cs cl n A0 c0 E q d s (fun v=> !bA n (timesOf E) q d v) x w0 _ N j.out.jy (by omega) (by omega) a.out m.out ⟨b6,b_⟩ am.out cv.out K2.out).mono ?_;rintro e w8 ⟨rfl,b1,cx,aY⟩;have l:=zA b1;clear b1 cx a z m b0)
     go_roundg ((jz n q σ (bu E (fun v=> !bA n (timesOf E) q d v) x n (d,s)).2).toNat)
     case measure=>have h1:=K3.out;have h2:=K4.out;have h3:=HK.out.2;have h4:=HK.out.1;rw[h3];omega
     case rel=>exact⟨_,_,l,K1,⟨K3.out,rfl⟩⟩
end
def nf.f (a0:Int) (a:Int):Option (Int×Int):=some (IntKind.u64.wrap ((IntKind.u64.wrap ((IntKind.u64.wrap ((a0/4294967296)*(a/4294967296)))+((IntKind.u64.wrap ((IntKind.u64.wrap ((a0/4294967296)*(Go.bits .and .u64 a 4294967295)))+((IntKind.u64.wrap ((Go.bits .and .u64 a0 4294967295)*(Go.bits .and .u64 a 4294967295)))/4294967296)))/4294967296)))+((IntKind.u64.wrap ((Go.bits .and .u64 (IntKind.u64.wrap ((IntKind.u64.wrap ((a0/4294967296)*(Go.bits .and .u64 a 4294967295)))+((IntKind.u64.wrap ((Go.bits .and .u64 a0 4294967295)*(Go.bits .and .u64 a 4294967295)))/4294967296))) 4294967295)+(IntKind.u64.wrap ((Go.bits .and .u64 a0 4294967295)*(a/4294967296)))))/4294967296)),IntKind.u64.wrap (a0*a))
theorem nf.calls (a0:Int) (a:Int) (b:Int) (g:Int) (w:World) (h:nf.f a0 a=some (b,g)):
  Calls Tryz.prog 216 #[.int .u64 a0,.int .u64 a] w fun e w'=>e= .returned (.tuple #[.int .u64 b,.int .u64 g])/\aA w w':=by
 have H:(some (IntKind.u64.wrap ((IntKind.u64.wrap ((IntKind.u64.wrap ((a0/4294967296)*(a/4294967296)))+((IntKind.u64.wrap ((IntKind.u64.wrap ((a0/4294967296)*(Go.bits .and .u64 a 4294967295)))+((IntKind.u64.wrap ((Go.bits .and .u64 a0 4294967295)*(Go.bits .and .u64 a 4294967295)))/4294967296)))/4294967296)))+((IntKind.u64.wrap ((Go.bits .and .u64 (IntKind.u64.wrap ((IntKind.u64.wrap ((a0/4294967296)*(Go.bits .and .u64 a 4294967295)))+((IntKind.u64.wrap ((Go.bits .and .u64 a0 4294967295)*(Go.bits .and .u64 a 4294967295)))/4294967296))) 4294967295)+(IntKind.u64.wrap ((Go.bits .and .u64 a0 4294967295)*(a/4294967296)))))/4294967296)),IntKind.u64.wrap (a0*a)))=some (b,g):=h;clear h;simp only[Option.some.injEq,Prod.mk.injEq] at H;obtain⟨rfl,rfl⟩:=H;go_enter Tryz.func216,Tryz.ntmps216
 go_wp2;go_ret2;exact⟨by first|rfl|(simp;done)|(simp[*];done),by repeat(first|exact aA.refl _|apply aA.step)⟩
def ng.f (a0:Int) (b:Int):Option (Int×Int):=(nf.f a0 b).bind fun a=>(some (a.1,a.2))
theorem ng.calls (a0:Int) (a:Int) (b:Int) (g:Int) (w:World) (h:ng.f a0 a=some (b,g)):
  Calls Tryz.prog 206 #[.int .u64 a0,.int .u64 a] w fun e w'=>e= .returned (.tuple #[.int .u64 b,.int .u64 g])/\aA w w':=by
 have H:((nf.f a0 a).bind fun i=>(some (i.1,i.2)))=some (b,g):=h;clear h;replace H:=Option.bind_eq_some_iff.mp H;obtain⟨⟨t238,t239⟩,j,H⟩:=H;replace H:(some (t238,t239))=some (b,g):=H;have k:=zA j;clear j;simp only[Option.some.injEq,Prod.mk.injEq] at H;obtain⟨rfl,rfl⟩:=H;go_enter Tryz.func206,Tryz.ntmps206
 go_wp2_with (first|((with_reducible refine aC (f:=216) rfl ?_);refine r8 (some 25) rfl rfl Tryz.func216 (by kernel_rfl) rfl #[.int .u64 a0,.int .u64 a] rfl (by(try simp only[List.map_toArray,List.map_cons,List.map_nil]);first|done|rfl|(simp only[List.length_drop,List.length_take];rfl)) ?_;(with_reducible refine(nf.calls a0 a t238 t239 _ k.out).mono ?_);rintro e w' ⟨rfl,⟨l,rfl⟩⟩;refine⟨_,rfl,?_⟩))
 go_ret2;exact⟨by first|rfl|(simp;done)|(simp[*];done),by repeat(first|exact aA.refl _|apply aA.step)⟩
theorem D4:∀n:Fin 1001,ng.f 1 ((n:Nat):Int)=some (0,((n:Nat):Int)):=by decide+kernel
theorem D5 (n:Nat) (h:n<=1000):ng.f 1 n=some (0,(n:Int)):=D4 ⟨n,by omega⟩
theorem D6 (k m r:Nat) (a b:Value) (rest:List Value):Go.splice (List.replicate k a++List.replicate (m+r) b++rest) k (List.replicate m a)=List.replicate (k+m) a++List.replicate r b++rest:=by
 unfold Go.splice;have e:(List.replicate k a++List.replicate (m+r) b++rest).take k=List.replicate k a:=by
  rw[List.append_assoc,List.take_left' (by simp)]
 have e2:(List.replicate k a++List.replicate (m+r) b++rest).drop (k+(List.replicate m a).length)=List.replicate r b++rest:=by
  rw[<-List.replicate_append_replicate,<-List.append_assoc,List.append_assoc,List.length_replicate,List.drop_left' (by simp)]
 rw[e,e2,<-List.append_assoc,List.replicate_append_replicate,<-List.append_assoc]
theorem D7 (gx s H n:Nat) (z:Int) (w:World) (I:w.cell? ⟨gx,s,none⟩=some (.int .i64 z)) (T:1<=n) (hn:n<=1000):
  Calls Tryz.prog 193 #[.slice (some ⟨gx,s,none⟩) 1 H,.int .i64 n] w fun e w'=>∃g c,e= .returned (.slice (some ⟨g,0,none⟩) n c)/\(Kd.int .i64).R 3 w' w.heap.size (fun _=>True) (.slice (some ⟨g,0,none⟩) n c) (List.replicate n z)/\Below w.heap.size w w':=by
 have hmul:=D5 n hn;have U:(0:Int)<=(n:Int):=by omega
 go_enter Tryz.func193,Tryz.ntmps193
 go_wp2_with (first|(go_at_call 206;refine(ng.calls 1 n 0 n _ hmul).mono ?_;rintro e w1 ⟨rfl,⟨V,rfl⟩⟩)|((with_reducible refine aH (N:=30) rfl ?_);refine Kd.jM (Kd.int .i64) _ 3 rfl (N:=30) rfl 25 _ _ rfl (n:Int) rfl rfl Tryz.underlying25 (.int .i64 0) 8 gD rfl (by decide) (by omega) 0 (ok:=fun _=>True) (okp:=fun _=>True) rfl (fun _ hk=>hk) trivial U (by simp;omega) (al _ _) (aI _) ?_;intro v1 u x hb W X;rw[aQ] at x;obtain⟨a,cr,b,p,Y, -⟩:=Kd.fC x (by rw[List.length_replicate];omega);rw[List.length_replicate] at b;subst b;have l:=zA x;have q:=zA ((b8 (al w.heap.size w) V).trans (hb.mono (by simp)));have J:u.cell? ⟨gx,s,none⟩=some (.int .i64 z):=iu hb (by simpa using I);clear x hb W X))
 have Z:=Kd.ny l.out;obtain⟨aa,h|⟨g',cap,cur,b,ab,B,ad,K,C,y⟩⟩:=Z
 ·cases h.1
 ·injection b with i e2 e3
  injection i with i
  injection i with i _
  subst i e3;rw[List.length_replicate] at ad y;simp only[Nat.mul_one] at C y;obtain⟨rest,ak⟩:∃rest,cur=(List.replicate n (Value.int .i64 0)++rest).toArray:=⟨cur.toList.drop n,by
   rw[<-Array.toList_inj];show cur.toList=List.replicate n (Value.int .i64 0)++cur.toList.drop n
   rw[show List.replicate n (Value.int .i64 0)=cur.toList.take n from by rw[y];simp[bS],List.take_append_drop]⟩
  subst ak;have L:rest.length=cr-n:=by simp at C;omega
  rw[run_copy_row _ u 25 25 3 3 a 0 n cr ⟨gx,s,none⟩ 1 H _ 3 [.int .i64 z] Tryz.underlying25 (by kernel_rfl) B (by show 1=min 1 n;omega) (fun j v o=>by
   cases j with
   |zero=>injection o with o;subst o;simpa [Addr.add] using J
   |succ j=>simp at o) (by simp;omega) (fun v b=>by simp at b;subst b;rfl)]
  simp only[Result.andThen_ok,List.cons_append,List.nil_append,List.take_zero,Nat.zero_add];rw[show ([Value.int .i64 z]:List Value).length=1 from rfl];have i:Value.int .i64 z::(List.replicate n (Value.int .i64 0)++rest).drop 1=List.replicate 1 (Value.int .i64 z)++List.replicate (n-1) (Value.int .i64 0)++rest:=by
   obtain⟨n',rfl⟩:∃n',n=n'+1:=⟨n-1,by omega⟩;simp[List.replicate_succ]
  rw[i];have D:=zA (below_setRow (g:=a) q.out (by simp at p;exact p) ((List.replicate 1 (Value.int .i64 z)++List.replicate (n-1) (Value.int .i64 0)++rest).toArray));have E:=zA (setRow_heap u a _ ((List.replicate 1 (Value.int .i64 z)++List.replicate (n-1) (Value.int .i64 0)++rest).toArray) _ _ B);have M:w.heap.size<=a:=by simp at p;exact p
  clear l q J aa ab B C y i e2 I hmul;generalize u.setRow a (List.replicate 1 (Value.int .i64 z)++List.replicate (n-1) (Value.int .i64 0)++rest).toArray=W6 at D E⊢;have O:=zA L;have am:=zA K;clear L K Y p;rw[show goInt ((1:Nat):Int)=Value.int .i64 1 from rfl];rw[Oper.upon_value];go_wp2;go_loopg [8] (n-1) (fun kq nv wr=>∃k:Nat,nv= .int .i64 k/\1<=k/\k<=n/\Aside0 (wr.heap[a]? =some (.cells (List.replicate k (Value.int .i64 z)++List.replicate (n-k) (Value.int .i64 0)++rest).toArray 3 (0,0)))/\Aside0 (Below w.heap.size w wr)/\Aside0 (kq=n-k))
  case atStart=>exact⟨1,rfl,by omega,T,E,D,⟨rfl⟩⟩
  case round=>
   clear D E;obtain⟨k,rfl,a0,a1,F,q,HK⟩:=hrel;by_cases a2:k<n
   ·have a3:(0:Int)<=(k:Int):=by omega
    have a4:(k:Int)<(n:Int):=by omega
    have a5:(k:Int)<=(cr:Int):=by omega
    have a9:(n:Int)<=(cr:Int):=by omega
    obtain⟨m,hm⟩:∃m,m=min k (n-k):=⟨_,rfl⟩;obtain⟨r,P⟩:∃r,n-k=m+r:=⟨n-k-m,by omega⟩;have be:¬cr=k:=by omega
    have av:Aside0 (∀(j:Nat) (v:Value),(List.replicate m (Value.int .i64 z))[j]? =some v->wr.drew.cell? ((⟨a,0,none⟩:Addr).add j)=some v):=⟨fun j v o=>by
     obtain⟨aB,b⟩:=List.getElem?_eq_some_iff.1 o;rw[List.length_replicate] at aB;rw[List.getElem_replicate] at b;subst b;have h:=cell_of_row wr a j _ _ _ F.out;rw[List.getElem?_toArray,List.append_assoc,List.getElem?_append_left (by rw[List.length_replicate];omega),List.getElem?_replicate,if_pos (by omega)] at h;by_cases e:j=0
     ·subst e;simpa [Addr.add] using h
     ·simpa [Addr.add,e] using h⟩
    have bf:(m:Int)<=1000:=by omega
    have bg:(0:Int)<=(m:Int):=by omega
    have bi:(k:Int)<=1000:=by omega
    have G:=zA hm;have l:=zA P;clear hm P;go_wp2;go_region_law (refine step_copy_splice rfl (.tmp 41) (.tmp 44) 25 25 rfl 3 Tryz.underlying25 (by kernel_rfl) (some ⟨a,k,none⟩) (some ⟨a,0,none⟩) (n-k) (cr-k) k cr (by go_simp) (by go_simp) a k (List.replicate k (Value.int .i64 z)++List.replicate (n-k) (Value.int .i64 0)++rest) 3 F.out (List.replicate m (Value.int .i64 z)) (by have:=G.out;rw[List.length_replicate];show m=min k (n-k);omega) (fun _=>⟨rfl,_,rfl,av.out⟩) (by have:=O.out;have:=G.out;simp;omega) (fun v b=>by rw[List.eq_of_mem_replicate b];rfl) w.heap.size w (bU q.out) M ?_;intro w4 Q S)
    have aL:Aside0 (w4.heap[a]? =some (.cells (List.replicate (k+m) (Value.int .i64 z)++List.replicate (n- (k+m)) (Value.int .i64 0)++rest).toArray 3 (0,0))):=⟨by
     have h:=Q;rw[l.out] at h;rw[show n- (k+m)=r from by have:=l.out;omega,<-D6 k m r (.int .i64 z) (.int .i64 0) rest];first|exact h|(rw[List.append_assoc];exact h)⟩
    have aO:=zA S;clear Q S;have bk:=G.out;have bn:=l.out;go_wp2;go_roundg (n- (k+m))
    case measure=>rw[HK.out];omega
    case rel=>exact⟨k+m,(by rw[IntWalk.i64_in ((k:Int)+(m:Int)) (by omega)];go_num),by omega,by omega,aL,aO,⟨rfl⟩⟩
   ·obtain rfl:k=n:=by omega
    go_wp2;go_ret;exact⟨a,cr,rfl,Kd.l8 ⟨by simp[bS],.inr ⟨a,cr,_,by simp,M,F.out,by simp;omega,am.out,by have:=O.out;simp;omega,by simp[bS]⟩⟩ (fun _ _=>trivial),q.out⟩
section
attribute [local go_sem] Oper.semAt_some
theorem cE.vT {α:Type} {d:Kd α} {e base a b:Nat} {ok:Nat->Prop} {ds:List Deferred} {v:Value} {xs:List α} {W w1:World} (h:cE a b ds W) (i:d.Q e W base ok v xs) (hg:W.grownBy w1 v.ownBlock):cE a b ds w1:=
 h.iK fun D _ hd=>(hg.block D (Array.getElem?_eq_some_iff.1 hd).1 (fun e=>by
  obtain⟨cells,g⟩:=Kd.rS i D e.symm;rw[hd] at g;cases g)).trans hd
structure DI (w:World) (b3 b4 go co n lo hi:Nat) (out:List Int) (qv:Value) (Q:List Nat) (W:World):Prop where
 hb:Below w.heap.size w W
 x3:W.heap[b3]? =some (.cells #[.slice (some ⟨go,0,none⟩) n co] 25 (0,0))
 x4:W.heap[b4]? =some (.cells #[qv] 25 (0,0))
 ro:(Kd.int .i64).R 3 W w.heap.size (fun _=>True) (.slice (some ⟨go,0,none⟩) n co) out
 rq:(Kd.int .i64).Q 3 W w.heap.size (fun k=>k≠go/\(k<lo\/hi<=k)) qv (Q.map fun x:Nat=>(x:Int))
 ne:b3≠b4/\go≠b3/\go≠b4/\w.heap.size<=b3/\w.heap.size<=b4
theorem D8 {α:Type} {d:Kd α} {e base l:Nat} {ok:Nat->Prop} {v:Value} {xs:List α} {A B:World} (h:d.Q e A base ok v xs) (hb:Bk l A B):d.Q e B base ok v xs:=
 Kd.lh (Kd.rL (Kd.nA h) (fun k hk=>by obtain⟨_,_,_,q,_,cells,a⟩:=hk;exact(hb.cells a).trans a.symm)) (fun k hk=>hk.1)
section
variable {F:Fence} {n:Nat} {P:Program} {ops:Array Oper} {rest:List Oper} {o:Oper} {a:Act} {Q':Exit->Act->World->Prop} {α:Type}
theorem vU (d:Kd α) {w0 W:World} (base:Nat) (j:o.guard=none) (s x:Operand) (t e:TypeId) (z:Value) (bytes:Nat)
  (g:o.op= .call {callee:=.builtin .append,args:=#[s,x],argTypes:=#[t,t]})
  (l:P.underlying t=some (.slice e)) (m:(P.info? e).map (fun i=>(i.zero,i.size,i.bytes))=some (some z,d.sz,bytes)) (q:z.cells.size=d.sz) (r:0<d.sz) (u:0<bytes)
  (v:Value) (xs:List α) (p:α) (cs:List Value) (ok okp:Nat->Prop) (w:a.eval s=v) (y:a.eval x= .slice (some ⟨W.heap.size,0,none⟩) 1 1) (hp:d.M W base okp p cs) (B:∀k,okp k->ok k/\some k≠v.ownBlock) (C:∀k,W.heap.size<=k->ok k)
  (D:d.Q e W base ok v xs) (E:Below base w0 W) (G:base<=W.heap.size) (H:(xs.length+1)*bytes<=140737488355328)
  (h:∀v1 w1,d.Q e w1 base ok v1 (xs++[p])->Below base w0 w1->W.grownBy w1 v.ownBlock->(v1.ownBlock=v.ownBlock\/∃b,v1.ownBlock=some b/\W.heap.size<=b)->wpListIn F n P ops Q' rest (a.put o.dst v1) w1):
  wpListIn F n P ops Q' (o::rest) a (W.alloc (.cells cs.toArray e)):=by
 obtain⟨v1,w1,I,h1,J,L,N⟩:=Kd.xQ (P:=P) d base t o.type e z bytes l m q r u v xs p cs ok okp hp B C D E G H;refine wpListIn_plain j fun K O=>?_
 unfold Oper.wpIn;refine⟨?_,?_⟩
 ·simp[Oper.about,g,resolve,Target.leads,Sem.run_pure]
 ·rw[Oper.semAt_plain F _ _ (by rw[g];intro c R;cases R)]
  simp[execOp,g,resolve,invoke,builtin,w,y,I,Result.andThen];exact O _ _ (h v1 w1 h1 J L N)
end
theorem vV {α:Type} {d:Kd α} {e base nw:Nat} {ok:Nat->Prop} {v:Value} {xs:List α} {W w1:World} (g:d.Q e W base ok v xs) (hg:W.grownBy w1 v.ownBlock):cp nw W w1:=fun k o h1 i b h=>by
 refine(hg.block k (Array.getElem?_eq_some_iff.1 b).1 (fun e=>?_)).trans b;obtain⟨cells,a⟩:=Kd.rS g k e.symm;rw[b] at a;injection a with a;subst a;simp[Obj.isCells] at h
theorem Bf.l4 {n q:Nat} {nb:Nat->Nat->Prop} {out:List Int} {Q:List Nat} {D:Int} {ex a:Nat->Nat->Prop} (h:Bf n q nb out Q D ex) (hex:∀x y,ex x y->a x y):Bf n q nb out Q D a:=
 ⟨h.len,h.q0,h.lo,h.hi,h.qv,h.mO,h.top,h.d0,h.back,fun v b e hn u hu g he=>h.j6 v b e hn u hu g (fun k=>he (hex v u k))⟩
def oR (v:Nat) (pre:List (Int×Int)) (x y:Nat):Prop:=x=v/\¬∃m,((y:Int),m)∈pre
theorem Bf.done {n q:Nat} {nb:Nat->Nat->Prop} {out:List Int} {Q:List Nat} {D:Int} {ex:Nat->Nat->Prop} (h:Bf n q nb out Q D ex) (hex:∀x y,nb x y->¬ex x y):Bf n q nb out Q D (fun _ _=>False):=
 ⟨h.len,h.q0,h.lo,h.hi,h.qv,h.mO,h.top,h.d0,h.back,fun v b e hn u hu a _=>h.j6 v b e hn u hu a (hex v u a)⟩
namespace DI
variable {w W W':World} {b3 b4 go co n lo hi lo' hi' l:Nat} {out:List Int} {qv:Value} {Q:List Nat}
theorem below (h:DI w b3 b4 go co n lo hi out qv Q W) (hb:Below W.heap.size W W'):DI w b3 b4 go co n lo hi out qv Q W':=⟨a7 h.hb hb,aJ h.x3 hb,aJ h.x4 hb,Kd.cR h.ro hb,Kd.rM h.rq hb,h.ne⟩
theorem alloc (h:DI w b3 b4 go co n lo hi out qv Q W) (o:Obj):DI w b3 b4 go co n lo hi out qv Q (W.alloc o):=h.below (ao (al _ _) o)
theorem drewN (h:DI w b3 b4 go co n lo hi out qv Q W) (m:Nat):DI w b3 b4 go co n lo hi out qv Q (W.drewN m):=h.below (b8 (al _ _) m)
theorem bk (h:DI w b3 b4 go co n lo hi out qv Q W) (hb:Bk l W W') (a:w.heap.size<=l):DI w b3 b4 go co n lo hi out qv Q W':=⟨h.hb.trans (hb.below _ a),hb.cells h.x3,hb.cells h.x4,dq h.ro hb,D8 h.rq hb,h.ne⟩
theorem ld (h:DI w b3 b4 go co n lo hi out qv Q W):go<W.heap.size/\b3<W.heap.size/\b4<W.heap.size/\w.heap.size<=go:=⟨Kd.a_ h.ro go rfl,az h.x3,az h.x4,Kd.dz h.ro go rfl⟩
theorem vW (h:DI w b3 b4 go co n lo hi out qv Q W) (v:Nat) (x:Int):DI w b3 b4 go co n lo hi (out.set v x) qv Q (W.setCell ⟨go,v,none⟩ (.int .i64 x)):=by
 obtain⟨h1,g,i,b⟩:=h.ld;have a:=Kd.dh h.ro (v:Int) x;rw[aQ] at a;exact⟨Below.setCell h.hb b _,aD h.x3 (fun e=>h.ne.2.1 e.symm) _,aD h.x4 (fun e=>h.ne.2.2.1 e.symm) _,a.1,Kd.xK h.rq a.2 (fun k hk e=>by injection e with e;exact hk.1 e),h.ne⟩
theorem vX (h:DI w b3 b4 go co n lo hi out qv Q W) {qv':Value} {Q':List Nat} (a:(Kd.int .i64).Q 3 W w.heap.size (fun k=>k≠go/\(k<lo'\/hi'<=k)) qv' (Q'.map fun x:Nat=>(x:Int))):DI w b3 b4 go co n lo' hi' out qv' Q' (W.setCell ⟨b4,0,none⟩ qv'):=by
 obtain⟨h1,b,g,i⟩:=h.ld;refine⟨Below.setCell h.hb h.ne.2.2.2.2 _,aD h.x3 h.ne.1 _,by simpa using bR h.x4 0 qv',?_,?_,h.ne⟩
 ·exact Kd.ba (Kd.fj (Kd.gz rfl h.ro) (fun k hk=>Below.heap_setCell _ _ _ _ (fun e=>by injection hk with hk;exact h.ne.2.2.1 (hk.symm.trans e)))) (fun _ _=>trivial)
 ·exact Kd.rN a h.x4 (fun q a=>by rcases List.mem_cons.1 a with rfl|h;decide;cases h) 0 qv'
theorem c3 (h:DI w b3 b4 go co n lo hi out qv Q W):W.cell? ⟨b3,0,none⟩=some (.slice (some ⟨go,0,none⟩) n co):=(ai h.x3 0).trans rfl
theorem c4 (h:DI w b3 b4 go co n lo hi out qv Q W):W.cell? ⟨b4,0,none⟩=some qv:=(ai h.x4 0).trans rfl
theorem jG (h:DI w b3 b4 go co n lo hi out qv Q W) (v:Nat) (a:v<n):W.cell? ⟨go,v,none⟩=some (.int .i64 (rd out v)):=by
 have:=(Kd.bW 0 h.ro (v:Int) (by omega) (by omega)).1;rw[aQ] at this;exact this
theorem vY (h:DI w b3 b4 go co n lo hi out qv Q W) (v:Nat) (a:v<n):W.frozen? ⟨go,v,none⟩=false:=by
 have:=(Kd.bW 0 h.ro (v:Int) (by omega) (by omega)).2;rw[aQ] at this;exact this
theorem free (h:DI w b3 b4 go co n lo hi out qv Q W):DI w b3 b4 go co n 0 0 out qv Q W:=⟨h.hb,h.x3,h.x4,h.ro,Kd.lh h.rq (fun k hk=>⟨hk.1,.inr (Nat.zero_le _)⟩),h.ne⟩
theorem own (h:DI w b3 b4 go co n lo hi out qv Q W):∀k,qv.ownBlock=some k->k≠go/\(k<lo\/hi<=k)/\w.heap.size<=k/\k≠b3/\k≠b4:=fun k hk=>⟨(h.rq.1 k hk).1,(h.rq.1 k hk).2,Kd.xN h.rq k hk,fun e=>Kd.rO h.rq h.x3 (by decide) (by rw[hk,e]),fun e=>Kd.rO h.rq h.x4 (by decide) (by rw[hk,e])⟩
theorem push (h:DI w b3 b4 go co n lo hi out qv Q W) {v1:Value} {w1:World} {u:Nat} (a:(Kd.int .i64).Q 3 w1 w.heap.size (fun k=>k≠go/\(k<lo\/hi<=k)) v1 (Q.map (fun x:Nat=>(x:Int))++[(u:Int)])) (hg:W.grownBy w1 qv.ownBlock) (hb:Below w.heap.size w w1):DI w b3 b4 go co n lo hi out v1 (Q++[u]) (w1.setCell ⟨b4,0,none⟩ v1):=by
 have g:=cS h.x3 hg (fun e=>(h.own b3 e.symm).2.2.2.1 rfl);have b:=cS h.x4 hg (fun e=>(h.own b4 e.symm).2.2.2.2 rfl);have ro:=Kd.iy h.ro rfl hg (fun e=>(h.own go e).1 rfl);refine⟨Below.setCell hb h.ne.2.2.2.2 _,aD g h.ne.1 _,by simpa using bR b 0 v1,?_,?_,h.ne⟩
 ·exact Kd.ba (Kd.fj (Kd.gz rfl ro) (fun k hk=>Below.heap_setCell _ _ _ _ (fun e=>by injection hk with hk;exact h.ne.2.2.1 (hk.symm.trans e)))) (fun _ _=>trivial)
 ·rw[List.map_append]
  exact Kd.rN a b (fun q a=>by rcases List.mem_cons.1 a with rfl|h;decide;cases h) 0 v1
end DI
def kT (E:List S83) (v u:Nat):Prop:=∃m,(((u:Nat):Int),m)∈cy E v E.length
theorem D9 (g n:Nat) (A0:Option Addr) (c0:Nat) (E:List S83) (q:Nat) (dv sv:Value) (er:Int) (w:World) (gi:Kd.C aN w A0 E.length E) (hE:ej n E) (hn:n<=1000) (hq:q<n)
  (N:gO w g n (.slice A0 E.length c0) q dv sv er):
  Calls Tryz.prog 165 #[.pointer (some ⟨g,0,none⟩)] w fun e w'=>∃(go co:Nat) (out:List Int) (D:Int),e= .returned (.slice (some ⟨go,0,none⟩) n co)/\(Kd.int .i64).R 3 w' w.heap.size (fun _=>True) (.slice (some ⟨go,0,none⟩) n co) out/\Below w.heap.size w w'/\Bf n q (kT E) out [] D (fun _ _=>False):=by
 have h':=Tryz.underlying188;have hu:=Tryz.underlying24;have HE:=zA hE;have dl:=zA N;have ib:=az N;have hr:1<=n:=by omega
 have id:(0:Int)<=(q:Int):=by omega
 have ih:(q:Int)<(n:Int):=by omega
 have hx:=(ai (bl w (.cells #[.int .i64 (-1)] 3)) 0).trans rfl;have s0:(w.alloc (.cells #[.int .i64 (-1)] 3)).cell? ⟨g,0,none⟩=some (.int .i64 n):=(ai (aw N _) 0).trans rfl;clear hE N;refine(callsIn_wide (n:=10)).1 ?_;refine callsIn_of_wp_marks Tryz.func165 rfl trivial ?_ rfl;simp only[Tryz.ntmps165,List.size_toArray,List.length_cons,List.length_nil,Nat.reduceAdd,Nat.reduceSub,Array.replicate_succ,Array.replicate_zero,List.push_toArray,List.append_toArray,List.nil_append,List.cons_append];gi_wp2_with (first|(refine⟨trivial,?_⟩;gi_at_call 193;refine(callsIn_wide.2 (D7 w.heap.size 0 1 n (-1) _ hx hr hn)).mono ?_;rintro e w3 ⟨go,co,rfl,hR,hB⟩))
 have em:=a7 (ao (al w.heap.size w) _) hB;have ht:w.heap.size<=go:=by have:=Kd.dz hR go rfl;simp at this;omega
 have hv:=Kd.a_ hR go rfl;have d2:Aside0 ((Kd.int .i64).R 3 (w3.alloc (.cells #[.slice (some ⟨go,0,none⟩) n co] 25)) w.heap.size (fun _=>True) (.slice (some ⟨go,0,none⟩) n co) (List.replicate n (-1))):=⟨Kd.aM (Kd.bc hR (by simp)) _⟩;have d3:=zA (ao em (.cells #[.slice (some ⟨go,0,none⟩) n co] 25));have b':=zA (bl w3 (.cells #[.slice (some ⟨go,0,none⟩) n co] 25));have hw:w.heap.size<=w3.heap.size:=em.size;have d4:(w3.alloc (.cells #[.slice (some ⟨go,0,none⟩) n co] 25)).heap.size=w3.heap.size+1:=by simp
 clear hR hB em hx s0;obtain⟨b3,gr⟩:∃b,b=w3.heap.size:=⟨_,rfl⟩;rw[<-gr] at b' hw d4 hv⊢;clear gr;generalize w3.alloc (.cells #[.slice (some ⟨go,0,none⟩) n co] 25)=W1 at d2 d3 b' d4⊢;have y0:=(ai b'.out 0).trans rfl;have y1:W1.cell? ⟨g,2,none⟩=some (.int .i64 q):=(ai (aJ dl.out d3.out) 2).trans rfl;obtain⟨y2,y3⟩:=Kd.bW 0 d2.out (q:Int) (by omega) (by omega);rw[aQ] at y2 y3;generalize bV 0 (List.replicate n (-1)) (q:Int)=xq at y2;replace y2:W1.cell? ⟨go,q,none⟩=some (.int .i64 xq):=y2;have HP:=Kd.dh d2.out (q:Int) (0:Int);rw[aQ] at HP;have cb:=zA (Kd.bq HP.1);have ev:=zA (eI (cS (g:=b3) b'.out HP.2 (fun e=>by injection e with e;omega)));have d6:=zA (bU (Below.setCell (p:=⟨go,q,none⟩) d3.out ht (.int .i64 0)));have cc:(W1.setCell ⟨go,q,none⟩ (.int .i64 0)).drew.heap.size=b3+1:=by simp[d4]
 clear HP;gi_region
 replace cb:Aside0 ((Kd.int .i64).R 3 (W1.setCell ⟨go,q,none⟩ (.int .i64 0)).drew w.heap.size (fun _=>True) (.slice (some ⟨go,0,none⟩) n co) ((List.replicate n (-1)).set q 0)):=cb;clear y0 y1 y2 y3 d2 b' d3 d4;generalize (W1.setCell ⟨go,q,none⟩ (.int .i64 0)).drew=W2 at cb ev d6 cc⊢;have y1:W2.cell? ⟨g,2,none⟩=some (.int .i64 q):=(ai (aJ dl.out d6.out) 2).trans rfl;gi_wp2;have ew:Aside0 (DI w b3 (b3+1+1) go co n 0 0 ((List.replicate n (-1)).set q 0) (.slice (some ⟨b3+1,0,none⟩) 1 1) [q] ((W2.alloc (.cells #[.int .i64 q] 3)).alloc (.cells #[.slice (some ⟨b3+1,0,none⟩) 1 1] 25))):=⟨by
  have Z1:=bl W2 (.cells #[.int .i64 q] 3);have Z2:=bl (W2.alloc (.cells #[.int .i64 q] 3)) (.cells #[.slice (some ⟨b3+1,0,none⟩) 1 1] 25);rw[World.size_alloc,cc] at Z2;rw[cc] at Z1;refine⟨ao (ao d6.out _) _,aw (aw ev.out _) _,Z2,Kd.aM (Kd.aM cb.out _) _,Kd.xI (Kd.l8 ⟨by simp[bS],.inr ⟨b3+1,1,_,rfl,by omega,aw Z1 _,by simp,by decide,by simp,by simp[bS]⟩⟩ (fun k hk=>by cases hk;exact⟨by show b3+1≠go;omega,.inr (Nat.zero_le _)⟩)),by omega,by omega,by omega,by omega,by omega⟩⟩
 have gt:=zA (Bf.start (nb:=kT E) hq);have gx:((W2.alloc (.cells #[.int .i64 q] 3)).alloc (.cells #[.slice (some ⟨b3+1,0,none⟩) 1 1] 25)).heap.size=b3+3:=by simp[cc]
 clear cb ev d6 cc y1;generalize (W2.alloc (.cells #[.int .i64 q] 3)).alloc (.cells #[.slice (some ⟨b3+1,0,none⟩) 1 1] 25)=W4 at ew gx⊢;refine tT (b3+3) (fun kq tm wr=>∃(u5 u25 u26 u27 u28 u29 u30 u31 u32 u33 u34 u35:Value) (out:List Int) (qv:Value) (Q:List Nat) (D:Int),Aside0 (DI w b3 (b3+1+1) go co n 0 0 out qv Q wr)/\Aside0 (Bf n q (kT E) out Q D (fun _ _=>False))/\b3+3<=wr.heap.size/\Aside0 (kq=2*(n-bY out)+Q.length/\kq<=2*n+1)/\tm=#[.pointer (some ⟨g,0,none⟩),undef,.slice none 0 0,.pointer (some ⟨b3,0,none⟩),.pointer (some ⟨b3+1+1,0,none⟩),u5,undef,.slice (some ⟨w.heap.size,0,none⟩) 1 1,.pointer (some ⟨g,0,none⟩),.pointer (some ⟨g,0,none⟩),.pointer (some ⟨g,0,none⟩),.pointer (some ⟨g,0,none⟩),.int .i64 n,.slice (some ⟨go,0,none⟩) n co,.slice (some ⟨go,0,none⟩) n co,.pointer (some ⟨g,0,none⟩),.pointer (some ⟨g,0,none⟩),.pointer (some ⟨g,2,none⟩),.int .i64 q,.pointer (some ⟨go,q,none⟩),.pointer (some ⟨g,0,none⟩),.pointer (some ⟨g,0,none⟩),.pointer (some ⟨g,2,none⟩),.int .i64 q,.slice (some ⟨b3+1,0,none⟩) 1 1,u25,u26,u27,u28,u29,u30,u31,u32,u33,u34,u35,undef,undef,undef,undef,undef,undef,undef,undef,undef,undef,undef,undef,undef,undef,undef,undef,undef,undef,undef,undef]) (2*(n-bY ((List.replicate n (-1)).set q 0))+1) ⟨_,_,_,_,_,_,_,_,_,_,_,_,_,_,_,_,ew,gt,by omega,⟨rfl,by omega⟩,rfl⟩ (b3+3) (by omega) (cE.nil _ _ _) ?_;clear ew gt gx;rintro gk tm wr ⟨u5,u25,u26,u27,u28,u29,u30,u31,u32,u33,u34,u35,out,qv,Q,D,V,HF,aY,HK,rfl⟩ ds b hb g5 J K hJ Y;have g7:=zA g5;have HJ:=zA hJ;clear g5 hJ;have x4:=V.out.c4;have x3:=V.out.c3;cases Q with
 |nil=>
  obtain⟨A,c,rfl, -⟩:=Kd.nB V.out.rq;have hA:((([]:List Nat).map fun x:Nat=>(x:Int)).length:Int)=0:=rfl;simp only[List.map_nil,List.length_nil] at x4;clear hA Y;gi_wp2;refine(tS g7.out fun w' g9=>?_).1;exact⟨_,results_tmp rfl _ _ _,go,co,rfl,out,g9.R V.out.ro,V.out.hb.trans (g9.kG.mono (by omega)),D,HF.out⟩
 |cons v rest=>
  obtain⟨gq,oq,cq,rfl,im,io, -⟩:=Kd.yh V.out.rq (by simp);have hC:=HF.out.qv v (List.mem_cons_self ..);have a1:=hC.1;have cd:=(Kd.yj 0 V.out.rq 0 (by omega) (by simp)).1;have g':=Kd.lh (Kd.nA (Kd.xO (k:=1) V.out.rq (by simp))) (ok':=fun k=>k≠go/\(k<wr.heap.size\/wr.heap.size+3<=k)) (fun k hk=>⟨hk.1.1,.inl hk.2.2.1⟩);obtain⟨A',c',ha,hl⟩:=Kd.nB V.out.rq;injection ha with hH hI hM
  subst hM;have d9:=zA (bl wr (.cells #[.int .i64 v] 3));have a2:=zA (V.out.alloc (.cells #[.int .i64 v] 3));have ea:=zA (g7.out.below (ao (al _ _) (.cells #[.int .i64 v] 3)));have ce:=zA (Kd.xJ g' (.cells #[.int .i64 v] 3));simp only[List.map_cons,List.length_cons,List.length_map,List.drop_succ_cons,List.drop_zero,Nat.add_sub_cancel] at x4 cd ce hl;replace cd:wr.cell? ⟨gq,oq,none⟩=some (.int .i64 v):=cd;obtain⟨L,hL⟩:∃L,L=rest.length+1:=⟨_,rfl⟩;rw[<-hL] at x4 hl;have he:(1:Int)<=(L:Int):=by omega
  have hf:(L:Int)<=(cq:Int):=by omega
  have hg:(0:Int)<(L:Int):=by omega
  have ed:=a2.out.c4;simp only[List.map_cons,List.length_cons,List.length_map] at ed;rw[<-hL] at ed;have hh:=zA hL;clear hH hI hL g';have hj:=bD a2.out.x4 0;have hm:=zA (Bf.pop HF.out);have it:=HF.out.len;by_cases eg:cq=1
  ·subst eg
   obtain rfl:L=1:=by omega
   obtain⟨Z,a3⟩:∃Z,Z=Value.slice (some ⟨gq,oq,none⟩) 0 0:=⟨_,rfl⟩;have a4:=zA (a2.out.vX (lo':=wr.heap.size) (hi':=wr.heap.size+3) (qv':=Z) (Q':=rest) (by have h:=ce.out;rw[if_pos rfl,show rest.length=0 by have:=hh.out;omega] at h;rw[a3];exact h));gi_wp2_with (first|(refine⟨trivial,?_⟩;gi_at_call 194;refine(callsIn_wide.2 (lS g v _)).mono ?_;rintro e w3 ⟨rfl,rfl⟩))
   rw[<-a3];obtain⟨M,aa⟩:∃X,X=(wr.alloc (.cells #[.int .i64 v] 3)).setCell ⟨b3+1+1,0,none⟩ Z:=⟨_,rfl⟩;have cf:Aside0 (M.heap[wr.heap.size]? =some (.cells #[.int .i64 v] 3 (0,0))):=⟨by rw[aa];exact aD d9.out (show wr.heap.size≠b3+1+1 by omega) _⟩;have ch:M.heap.size=wr.heap.size+1:=by rw[aa];simp
   have ci:Aside0 (cE (b3+3) b ds M):=⟨by rw[aa];exact ea.out.set a2.out.x4 _⟩;rw[<-aa] at a4⊢;have Z1:=bl M (.cells #[.pointer (some ⟨g,0,none⟩)] 135);have Z2:=heap_alloc2_new M (.cells #[.pointer (some ⟨g,0,none⟩)] 135) (.cells #[.int .i64 v] 3);rw[ch] at Z1 Z2;have O:=zA ((a4.out.alloc (.cells #[.pointer (some ⟨g,0,none⟩)] 135)).alloc (.cells #[.int .i64 v] 3));have ar:=zA (aw (aw cf.out (.cells #[.pointer (some ⟨g,0,none⟩)] 135)) (.cells #[.int .i64 v] 3));have av:=zA ((ci.out.below (ao (al _ _) (.cells #[.pointer (some ⟨g,0,none⟩)] 135))).below (ao (al _ _) (.cells #[.int .i64 v] 3)));have a5:=zA (aw Z1 (.cells #[.int .i64 v] 3));have a9:=zA Z2;have aB:=zA (aJ dl.out O.out.hb);have be:((M.alloc (.cells #[.pointer (some ⟨g,0,none⟩)] 135)).alloc (.cells #[.int .i64 v] 3)).heap.size=wr.heap.size+3:=by simp[ch]
   have e4:=Nat.le_of_eq be;have e5:=Nat.le_of_eq be.symm;clear be;clear d9 ea a2 ce a4 cf ci Z1 Z2 aa a3 V x4 ed x3 cd hj he hf hg hl;generalize (M.alloc (.cells #[.pointer (some ⟨g,0,none⟩)] 135)).alloc (.cells #[.int .i64 v] 3)=r at O ar av a5 a9 aB e4 e5⊢;refine iG (σ:=Unit) (α:=Int×Int) (F:=Fence.wide) (n:=10) rfl (by decide) (gf:=207) (lb:=#[.pointer (some ⟨wr.heap.size+1,0,none⟩),.pointer (some ⟨wr.heap.size+1+1,0,none⟩)]) rfl trivial (enters_of Tryz.func207 (by kernel_rfl) rfl)
    (fun o=>qf (wr.heap.size+1) (wr.heap.size+1+1) g n A0 c0 E q dv sv er v w _ gi HE.out hn a1 (ao (ao O.out.hb _) _) (aw (aw a5.out _) _) (aw (aw a9.out _) _) (aw (aw aB.out _) _)) (fun _=>rfl)
    (fun _=>True) ?GJ ?st1 ?GB
    (fun _ pre W=>r.heap.size<=W.heap.size/\∃(a:List Int) (qv':Value) (Q':List Nat),DI w b3 (b3+1+1) go co n wr.heap.size (wr.heap.size+3) a qv' Q' W/\Bf n q (kT E) a Q' (rd a v) (oR v pre)/\2*(n-bY a)+Q'.length<=2*(n-bY out)+rest.length/\W.heap[wr.heap.size]? =some (.cells #[.int .i64 v] 3 (0,0))/\cE (b3+3) b ds W) (fun _ _ _ _=>False)
    ?GI (fun _ _ _ _ _ _ h _=>h) ?GA (fun _ _ _ _ _ h _=>h) ?GQ ?Gz ?Jl ?GK ?GM ?GR (fun _ _ _ _ _ _ _ h=>h.elim)
   case GK=>
    intro l x W K Y;gi_wp2;exact Y
   case GJ=>
    intro o s W1 h;exact⟨trivial,by rw[h];exact cp.refl _ _⟩
   case st1=>intro s A B _ h;exact cW h
   case GB=>intro s x A B _ h;exact cW h.2
   case GI=>
    rintro s pre A B _ ⟨P,a,qv',Q',h1,z,h4,h5,h6⟩ N;exact⟨Nat.le_trans P N.size,a,qv',Q',h1.below N,z,h4,aJ h5 N,h6.below N⟩
   case GA=>
    rintro s pre A B ⟨P,a,qv',Q',h1,z,h4,h5,h6⟩ aF;exact⟨by rw[aF.size];exact P,a,qv',Q',h1.bk aF (by omega),z,h4,aF.cells h5,h6.bk aF (by omega)⟩
   case GQ=>
    intro s A B C D aL cj ck;refine⟨fun aY=>((aL.below w.heap.size (by omega)).trans (cj.1 (by rw[aL.size];exact aY))).trans (ck.below w.heap.size (by omega)),fun k hk cl=>?_⟩;have cr:k≠r.heap.size+1:=by rcases hk with rfl|rfl|rfl<;>omega
    exact(ck.heap k cr).trans ((cj.2 k hk (by rw[aL.size];exact cl)).trans (aL.heap k cr))
   case Gz=>
    rintro o s W1 rfl;exact⟨by simp;omega,out,Z,rest,(O.out.alloc _).alloc _,hm.out.l4 (fun x y h=>⟨h,by simp⟩),aI _,aw (aw ar.out _) _,(av.out.below (ao (al _ _) _)).below (ao (al _ _) _)⟩
   case GM=>
    rintro l s' pre ⟨u,m⟩ Wb Wc W _ ⟨P,a,qv',Q',i1,i2,i4,i5,i6⟩ ⟨⟨cs,e6⟩,ab⟩ e_ H;have G:=zA ((i1.below ab).bk H (by omega));have S:=zA i4;have I5:=zA (H.cells (aJ i5 ab));have I6:=zA ((i6.below ab).bk H (by omega));have aP:r.heap.size<=W.heap.size:=by have:=H.size;have:=ab.size;omega
    clear i1 i4 i5 i6 ab H e_ P;simp only at cs;obtain⟨u0,u1,m0,m1⟩:=cs;obtain⟨u,rfl⟩:=Int.eq_ofNat_of_zero_le u0;have aS:u<n:=by omega
    obtain⟨l1,l2⟩:=Bf.look (ex:=fun y=>¬∃m,((y:Int),m)∈pre) i2 aS a1 ⟨m,e6⟩;have hP:=i2.d0;have hQ:rd a v<=1000:=by have h1:=i2.hi v a1;have z:=jq a;have h3:=i2.len;omega
    have e':=zA i2.len;have z3:=G.out.c3;have z4:=G.out.jG u aS;have cx:∀(ex:Nat->Prop) (x y:Nat),(x=v/\(¬∃m,((y:Int),m)∈pre)/\y≠u)->oR v (pre++[((u:Int),m)]) x y:=fun ex x y h=>⟨h.1,fun⟨m',ag⟩=>by
     rcases List.mem_append.1 ag with ag|ag
     ·exact h.2.1 ⟨m',ag⟩
     ·have:=List.mem_singleton.1 ag
      injection this with e1 e2
      exact h.2.2 (by omega)⟩
    have c2:=zA cx;clear cx i2;by_cases bn:rd a u<0
    ·obtain⟨k1,k2,k3,k4⟩:=l2 bn
     have K2:=zA k2;have K3:=zA k3;have K4:=zA (k4.l4 (c2.out (fun _=>True)));have fo:decide (rd a u<0)=true:=ay bn;clear l1 l2 k1 k2 k3 k4;gi_wp2;have z3:=G.out.c3;have z4:=G.out.jG v a1;have z5:=(ai I5.out 0).trans rfl;have fq:wrap64 (rd a v+1)=rd a v+1:=by unfold wrap64;omega
     have hV:(0:Int)<=(u:Int):=by omega
     have hW:(0:Int)<=(v:Int):=by omega
     have bw:(v:Int)<(n:Int):=by omega
     refine oH [_,_,_,_,_,_,_,_] _ rfl (by kernel_rfl) rfl (by kernel_rfl) (by kernel_rfl) (by kernel_rfl) (by kernel_rfl) ?_;repeat(gi_big_quiet_step (fail))
     refine wpQuietIn_nil ?_;rintro _ ⟨nq,rfl⟩;have I:=zA (G.out.drewN nq);have J5:=zA (iw I5.out nq);have J6:=zA (I6.out.below (b8 (al _ _) nq));have b1:r.heap.size<=(W.drewN nq).heap.size:=by simpa using aP
     have b2:=zA (cW (nw:=r.heap.size) (b8 (al W.heap.size W) nq));have b4:=zA (b8 (al w.heap.size W) nq);have b5:Aside0 (∀k,k≠go->(W.drewN nq).heap[k]? =W.heap[k]?):=⟨fun k _=>by simp⟩;clear z3 z4 z5 fq;have z5:=I.out.vY u aS;have z6:=I.out.jG u aS;generalize W.drewN nq=Wq at I J5 J6 b1 b2 b4 b5 z5 z6⊢;obtain⟨g1,g2,g3,g4⟩:=I.out.ld;obtain⟨n1,n2,n3,n4,n5⟩:=I.out.ne;have i:=zA (I.out.vW u (rd a v+1));have fv:wr.heap.size≠go:=by omega
     have f0:=zA (aD (p:=⟨go,u,none⟩) J5.out fv (.int .i64 (rd a v+1)));have f1:Aside0 (cE (b3+3) b ds (Wq.setCell ⟨go,u,none⟩ (.int .i64 (rd a v+1)))):=⟨by
      obtain⟨inner,ho⟩:=Kd.ji I.out.ro;obtain⟨cells,hc⟩:=jh ho go rfl;exact J6.out.set (p:=⟨go,u,none⟩) hc _⟩
     have f4:r.heap.size<=(Wq.setCell ⟨go,u,none⟩ (.int .i64 (rd a v+1))).heap.size:=by simpa using b1
     have f5:=zA (b2.out.trans (fz (bo:=go) (j:=u) Wq (.int .i64 (rd a v+1)) (show go<r.heap.size by omega)));have f6:Aside0 (∀k,k≠go->(Wq.setCell ⟨go,u,none⟩ (.int .i64 (rd a v+1))).heap[k]? =W.heap[k]?):=⟨fun k hk=>(Below.heap_setCell _ _ _ _ hk).trans (b5.out k hk)⟩;have f7:Aside0 (∀k,(Wq.setCell ⟨go,u,none⟩ (.int .i64 (rd a v+1))).heap.size<=k->k≠go/\(k<wr.heap.size\/wr.heap.size+3<=k)):=⟨fun k hk=>by
      simp only[World.size_setCell] at hk;omega⟩
     have f8:Aside0 (((Q'.map fun x:Nat=>(x:Int)).length+1)*8<=140737488355328):=⟨by
      have h1:=S.out;have z:=HK.out.1;have h3:=HK.out.2;rw[List.length_cons] at z;rw[List.length_map];omega⟩
     have f9:=zA (Below.setCell (p:=⟨go,u,none⟩) b4.out g4 (.int .i64 (rd a v+1)));have z4:=i.out.c4;have h0:go≠b3+1+1:=n3;clear G I5 I6 I J5 J6 b1 b2 b4 b5 aP O ar av aB;gi_wp2_with (gi_at_builtin;go_loud (refine vU (Kd.int .i64) (w0:=w) w.heap.size rfl (.tmp 51) (.tmp 53) 25 3 (.int .i64 0) 8 rfl Tryz.underlying25 gD rfl (by decide) (by omega) qv' (Q'.map fun x:Nat=>(x:Int)) (u:Int) [.int .i64 u] (fun k=>k≠go/\(k<wr.heap.size\/wr.heap.size+3<=k)) (fun _=>False) rfl (by rw[World.size_setCell];rfl) rfl (fun _ hk=>hk.elim) f7.out i.out.rq i.out.hb i.out.hb.size f8.out ?_;intro v1 h7 T c9 a0 f';obtain⟨A1,c1,bw, -⟩:=Kd.nB T;obtain⟨nx,dk⟩:∃nx,nx=((Q'.map fun x:Nat=>(x:Int))++[(u:Int)]).length:=⟨_,rfl⟩;rw[<-dk] at bw;clear dk;subst bw;have gb:=zA (i.out.push T a0 c9);have X4:=zA (cS i.out.x4 a0 (fun e=>(i.out.own _ e.symm).2.2.2.2 rfl));have eg:=dG X4.out;have h9:=bD X4.out 0;have gc:=zA a0;clear T a0 f' c9))
     have U:=gc.out;have T:=i.out.own;have Y:∀k,(k=wr.heap.size\/k=wr.heap.size+1\/k=wr.heap.size+1+1\/k=g)->some k≠qv'.ownBlock:=fun k hk e=>by
      have:=T k e.symm;rcases hk with rfl|rfl|rfl|rfl<;>omega
     have h_:=U.size;refine⟨(f5.out.trans (vV i.out.rq U)).trans (fz _ _ (show b3+1+1<r.heap.size by omega)),⟨fun _=>Below.setCell (p:=⟨b3+1+1,0,none⟩) (f9.out.grown U i.out.hb.size (fun k e=>(T k e).2.2.1)) n5 _,fun k hk cl=>?_⟩,?_,_,_,Q'++[u],gb.out,?_,?_,aD (cS f0.out U (Y _ (.inl rfl))) (show wr.heap.size≠b3+1+1 by omega) _,(f1.out.vT i.out.rq U).set X4.out _⟩
     ·refine(Below.heap_setCell _ _ _ _ (show k≠b3+1+1 by rcases hk with rfl|rfl|rfl<;>omega)).trans ((U.block k ?_ (Y k (hk.elim (fun h=>.inr (.inl h)) (fun h=>.inr (.inr h))))).trans (f6.out k (by rcases hk with rfl|rfl|rfl<;>omega)))
      have h1:=f4;rcases hk with rfl|rfl|rfl<;>omega
     ·simp only[World.size_setCell];omega
     ·rw[K2.out];exact K4.out
     ·rw[K3.out,List.length_append]
      have h1:=S.out;have z:=jq (a.set u (rd a v+1));rw[K3.out,List.length_set,e'.out] at z;simp only[List.length_cons,List.length_nil];omega
    ·have K4:=zA ((l1 (by omega)).l4 (c2.out (fun _=>True)))
     have fo:decide (rd a u<0)=false:=a6 bn;clear l1 l2 O ar av a5 a9 aB;gi_wp2;exact⟨cp.refl _ _,⟨fun _=>al _ _,fun _ _ _=>rfl⟩,aP,a,qv',Q',G.out,K4.out,S.out,I5.out,I6.out⟩
   case GR=>
    rintro s' xs W W' _ rfl ⟨P,a,qv',Q',i1,i2,i4,i5,i6⟩ H b_;have G:=zA (i1.bk H (by omega)).free;have I2:=zA (Bf.done i2 (fun x y ge hex=>hex.2 (by rw[<-hex.1];exact ge)));have S:=zA i4;have I6:=zA (i6.bk H (by omega));have gg:=zA b_;have aP:r.heap.size<W'.heap.size:=(Array.getElem?_eq_some_iff.1 b_).1;clear i1 i2 i4 i5 i6 b_;gi_wp2;exact kH.intro (2*(n-bY a)+Q'.length) (by rw[HK.out.1];have:=S.out;simp only[List.length_cons];omega) (HJ.out _ _ _ ⟨_,_,_,_,_,_,_,_,_,_,_,_,a,qv',Q',_,G,I2,by omega,⟨rfl,by have h1:=S.out;have z:=HK.out.1;have h3:=HK.out.2;rw[List.length_cons] at z;omega⟩,rfl⟩) (r.heap.size+1) (by omega) (I6.out.push (by omega) (by omega) gg.out)
  ·obtain⟨Z,a3⟩:∃Z,Z=Value.slice (some ⟨gq,oq+1,none⟩) (L-1) (cq-1):=⟨_,rfl⟩
   have a4:=zA (a2.out.vX (lo':=wr.heap.size) (hi':=wr.heap.size+3) (qv':=Z) (Q':=rest) (by have h:=ce.out;rw[if_neg eg,show rest.length=L-1 by have:=hh.out;omega] at h;rw[a3];exact h));gi_wp2_with (first|(refine⟨trivial,?_⟩;gi_at_call 194;refine(callsIn_wide.2 (lS g v _)).mono ?_;rintro e w3 ⟨rfl,rfl⟩))
   rw[<-a3];obtain⟨M,aa⟩:∃X,X=(wr.alloc (.cells #[.int .i64 v] 3)).setCell ⟨b3+1+1,0,none⟩ Z:=⟨_,rfl⟩;have cf:Aside0 (M.heap[wr.heap.size]? =some (.cells #[.int .i64 v] 3 (0,0))):=⟨by rw[aa];exact aD d9.out (show wr.heap.size≠b3+1+1 by omega) _⟩;have ch:M.heap.size=wr.heap.size+1:=by rw[aa];simp
   have ci:Aside0 (cE (b3+3) b ds M):=⟨by rw[aa];exact ea.out.set a2.out.x4 _⟩;rw[<-aa] at a4⊢;have Z1:=bl M (.cells #[.pointer (some ⟨g,0,none⟩)] 135);have Z2:=heap_alloc2_new M (.cells #[.pointer (some ⟨g,0,none⟩)] 135) (.cells #[.int .i64 v] 3);rw[ch] at Z1 Z2;have O:=zA ((a4.out.alloc (.cells #[.pointer (some ⟨g,0,none⟩)] 135)).alloc (.cells #[.int .i64 v] 3));have ar:=zA (aw (aw cf.out (.cells #[.pointer (some ⟨g,0,none⟩)] 135)) (.cells #[.int .i64 v] 3));have av:=zA ((ci.out.below (ao (al _ _) (.cells #[.pointer (some ⟨g,0,none⟩)] 135))).below (ao (al _ _) (.cells #[.int .i64 v] 3)));have a5:=zA (aw Z1 (.cells #[.int .i64 v] 3));have a9:=zA Z2;have aB:=zA (aJ dl.out O.out.hb);have be:((M.alloc (.cells #[.pointer (some ⟨g,0,none⟩)] 135)).alloc (.cells #[.int .i64 v] 3)).heap.size=wr.heap.size+3:=by simp[ch]
   have e4:=Nat.le_of_eq be;have e5:=Nat.le_of_eq be.symm;clear be;clear d9 ea a2 ce a4 cf ci Z1 Z2 aa a3 V x4 ed x3 cd hj he hf hg hl;generalize (M.alloc (.cells #[.pointer (some ⟨g,0,none⟩)] 135)).alloc (.cells #[.int .i64 v] 3)=r at O ar av a5 a9 aB e4 e5⊢;refine iG (σ:=Unit) (α:=Int×Int) (F:=Fence.wide) (n:=10) rfl (by decide) (gf:=207) (lb:=#[.pointer (some ⟨wr.heap.size+1,0,none⟩),.pointer (some ⟨wr.heap.size+1+1,0,none⟩)]) rfl trivial (enters_of Tryz.func207 (by kernel_rfl) rfl)
    (fun o=>qf (wr.heap.size+1) (wr.heap.size+1+1) g n A0 c0 E q dv sv er v w _ gi HE.out hn a1 (ao (ao O.out.hb _) _) (aw (aw a5.out _) _) (aw (aw a9.out _) _) (aw (aw aB.out _) _)) (fun _=>rfl)
    (fun _=>True) ?GF ?st2 ?GN
    (fun _ pre W=>r.heap.size<=W.heap.size/\∃(a:List Int) (qv':Value) (Q':List Nat),DI w b3 (b3+1+1) go co n wr.heap.size (wr.heap.size+3) a qv' Q' W/\Bf n q (kT E) a Q' (rd a v) (oR v pre)/\2*(n-bY a)+Q'.length<=2*(n-bY out)+rest.length/\W.heap[wr.heap.size]? =some (.cells #[.int .i64 v] 3 (0,0))/\cE (b3+3) b ds W) (fun _ _ _ _=>False)
    ?GD (fun _ _ _ _ _ _ h _=>h) ?GC (fun _ _ _ _ _ h _=>h) ?GO ?GG ?a12 ?GL ?Gy ?GH (fun _ _ _ _ _ _ _ h=>h.elim)
   case GL=>
    intro l x W K Y;gi_wp2;exact Y
   case GF=>
    intro o s W1 h;exact⟨trivial,by rw[h];exact cp.refl _ _⟩
   case st2=>intro s A B _ h;exact cW h
   case GN=>intro s x A B _ h;exact cW h.2
   case GD=>
    rintro s pre A B _ ⟨P,a,qv',Q',h1,z,h4,h5,h6⟩ N;exact⟨Nat.le_trans P N.size,a,qv',Q',h1.below N,z,h4,aJ h5 N,h6.below N⟩
   case GC=>
    rintro s pre A B ⟨P,a,qv',Q',h1,z,h4,h5,h6⟩ aF;exact⟨by rw[aF.size];exact P,a,qv',Q',h1.bk aF (by omega),z,h4,aF.cells h5,h6.bk aF (by omega)⟩
   case GO=>
    intro s A B C D aL cj ck;refine⟨fun aY=>((aL.below w.heap.size (by omega)).trans (cj.1 (by rw[aL.size];exact aY))).trans (ck.below w.heap.size (by omega)),fun k hk cl=>?_⟩;have cr:k≠r.heap.size+1:=by rcases hk with rfl|rfl|rfl<;>omega
    exact(ck.heap k cr).trans ((cj.2 k hk (by rw[aL.size];exact cl)).trans (aL.heap k cr))
   case GG=>
    rintro o s W1 rfl;exact⟨by simp;omega,out,Z,rest,(O.out.alloc _).alloc _,hm.out.l4 (fun x y h=>⟨h,by simp⟩),aI _,aw (aw ar.out _) _,(av.out.below (ao (al _ _) _)).below (ao (al _ _) _)⟩
   case Gy=>
    rintro l s' pre ⟨u,m⟩ Wb Wc W _ ⟨P,a,qv',Q',i1,i2,i4,i5,i6⟩ ⟨⟨cs,e6⟩,ab⟩ e_ H;have G:=zA ((i1.below ab).bk H (by omega));have S:=zA i4;have I5:=zA (H.cells (aJ i5 ab));have I6:=zA ((i6.below ab).bk H (by omega));have aP:r.heap.size<=W.heap.size:=by have:=H.size;have:=ab.size;omega
    clear i1 i4 i5 i6 ab H e_ P;simp only at cs;obtain⟨u0,u1,m0,m1⟩:=cs;obtain⟨u,rfl⟩:=Int.eq_ofNat_of_zero_le u0;have aS:u<n:=by omega
    obtain⟨l1,l2⟩:=Bf.look (ex:=fun y=>¬∃m,((y:Int),m)∈pre) i2 aS a1 ⟨m,e6⟩;have hP:=i2.d0;have hQ:rd a v<=1000:=by have h1:=i2.hi v a1;have z:=jq a;have h3:=i2.len;omega
    have e':=zA i2.len;have z3:=G.out.c3;have z4:=G.out.jG u aS;have cx:∀(ex:Nat->Prop) (x y:Nat),(x=v/\(¬∃m,((y:Int),m)∈pre)/\y≠u)->oR v (pre++[((u:Int),m)]) x y:=fun ex x y h=>⟨h.1,fun⟨m',ag⟩=>by
     rcases List.mem_append.1 ag with ag|ag
     ·exact h.2.1 ⟨m',ag⟩
     ·have:=List.mem_singleton.1 ag
      injection this with e1 e2
      exact h.2.2 (by omega)⟩
    have c2:=zA cx;clear cx i2;by_cases bn:rd a u<0
    ·obtain⟨k1,k2,k3,k4⟩:=l2 bn
     have K2:=zA k2;have K3:=zA k3;have K4:=zA (k4.l4 (c2.out (fun _=>True)));have fo:decide (rd a u<0)=true:=ay bn;clear l1 l2 k1 k2 k3 k4;gi_wp2;have z3:=G.out.c3;have z4:=G.out.jG v a1;have z5:=(ai I5.out 0).trans rfl;have fq:wrap64 (rd a v+1)=rd a v+1:=by unfold wrap64;omega
     have hV:(0:Int)<=(u:Int):=by omega
     have hW:(0:Int)<=(v:Int):=by omega
     have bw:(v:Int)<(n:Int):=by omega
     refine oH [_,_,_,_,_,_,_,_] _ rfl (by kernel_rfl) rfl (by kernel_rfl) (by kernel_rfl) (by kernel_rfl) (by kernel_rfl) ?_;repeat(gi_big_quiet_step (fail))
     refine wpQuietIn_nil ?_;rintro _ ⟨nq,rfl⟩;have I:=zA (G.out.drewN nq);have J5:=zA (iw I5.out nq);have J6:=zA (I6.out.below (b8 (al _ _) nq));have b1:r.heap.size<=(W.drewN nq).heap.size:=by simpa using aP
     have b2:=zA (cW (nw:=r.heap.size) (b8 (al W.heap.size W) nq));have b4:=zA (b8 (al w.heap.size W) nq);have b5:Aside0 (∀k,k≠go->(W.drewN nq).heap[k]? =W.heap[k]?):=⟨fun k _=>by simp⟩;clear z3 z4 z5 fq;have z5:=I.out.vY u aS;have z6:=I.out.jG u aS;generalize W.drewN nq=Wq at I J5 J6 b1 b2 b4 b5 z5 z6⊢;obtain⟨g1,g2,g3,g4⟩:=I.out.ld;obtain⟨n1,n2,n3,n4,n5⟩:=I.out.ne;have i:=zA (I.out.vW u (rd a v+1));have fv:wr.heap.size≠go:=by omega
     have f0:=zA (aD (p:=⟨go,u,none⟩) J5.out fv (.int .i64 (rd a v+1)));have f1:Aside0 (cE (b3+3) b ds (Wq.setCell ⟨go,u,none⟩ (.int .i64 (rd a v+1)))):=⟨by
      obtain⟨inner,ho⟩:=Kd.ji I.out.ro;obtain⟨cells,hc⟩:=jh ho go rfl;exact J6.out.set (p:=⟨go,u,none⟩) hc _⟩
     have f4:r.heap.size<=(Wq.setCell ⟨go,u,none⟩ (.int .i64 (rd a v+1))).heap.size:=by simpa using b1
     have f5:=zA (b2.out.trans (fz (bo:=go) (j:=u) Wq (.int .i64 (rd a v+1)) (show go<r.heap.size by omega)));have f6:Aside0 (∀k,k≠go->(Wq.setCell ⟨go,u,none⟩ (.int .i64 (rd a v+1))).heap[k]? =W.heap[k]?):=⟨fun k hk=>(Below.heap_setCell _ _ _ _ hk).trans (b5.out k hk)⟩;have f7:Aside0 (∀k,(Wq.setCell ⟨go,u,none⟩ (.int .i64 (rd a v+1))).heap.size<=k->k≠go/\(k<wr.heap.size\/wr.heap.size+3<=k)):=⟨fun k hk=>by
      simp only[World.size_setCell] at hk;omega⟩
     have f8:Aside0 (((Q'.map fun x:Nat=>(x:Int)).length+1)*8<=140737488355328):=⟨by
      have h1:=S.out;have z:=HK.out.1;have h3:=HK.out.2;rw[List.length_cons] at z;rw[List.length_map];omega⟩
     have f9:=zA (Below.setCell (p:=⟨go,u,none⟩) b4.out g4 (.int .i64 (rd a v+1)));have z4:=i.out.c4;have h0:go≠b3+1+1:=n3;clear G I5 I6 I J5 J6 b1 b2 b4 b5 aP O ar av aB;gi_wp2_with (gi_at_builtin;go_loud (refine vU (Kd.int .i64) (w0:=w) w.heap.size rfl (.tmp 51) (.tmp 53) 25 3 (.int .i64 0) 8 rfl Tryz.underlying25 gD rfl (by decide) (by omega) qv' (Q'.map fun x:Nat=>(x:Int)) (u:Int) [.int .i64 u] (fun k=>k≠go/\(k<wr.heap.size\/wr.heap.size+3<=k)) (fun _=>False) rfl (by rw[World.size_setCell];rfl) rfl (fun _ hk=>hk.elim) f7.out i.out.rq i.out.hb i.out.hb.size f8.out ?_;intro v1 h7 T c9 a0 f';obtain⟨A1,c1,bw, -⟩:=Kd.nB T;obtain⟨nx,dk⟩:∃nx,nx=((Q'.map fun x:Nat=>(x:Int))++[(u:Int)]).length:=⟨_,rfl⟩;rw[<-dk] at bw;clear dk;subst bw;have gb:=zA (i.out.push T a0 c9);have X4:=zA (cS i.out.x4 a0 (fun e=>(i.out.own _ e.symm).2.2.2.2 rfl));have eg:=dG X4.out;have h9:=bD X4.out 0;have gc:=zA a0;clear T a0 f' c9))
     have U:=gc.out;have T:=i.out.own;have Y:∀k,(k=wr.heap.size\/k=wr.heap.size+1\/k=wr.heap.size+1+1\/k=g)->some k≠qv'.ownBlock:=fun k hk e=>by
      have:=T k e.symm;rcases hk with rfl|rfl|rfl|rfl<;>omega
     have h_:=U.size;refine⟨(f5.out.trans (vV i.out.rq U)).trans (fz _ _ (show b3+1+1<r.heap.size by omega)),⟨fun _=>Below.setCell (p:=⟨b3+1+1,0,none⟩) (f9.out.grown U i.out.hb.size (fun k e=>(T k e).2.2.1)) n5 _,fun k hk cl=>?_⟩,?_,_,_,Q'++[u],gb.out,?_,?_,aD (cS f0.out U (Y _ (.inl rfl))) (show wr.heap.size≠b3+1+1 by omega) _,(f1.out.vT i.out.rq U).set X4.out _⟩
     ·refine(Below.heap_setCell _ _ _ _ (show k≠b3+1+1 by rcases hk with rfl|rfl|rfl<;>omega)).trans ((U.block k ?_ (Y k (hk.elim (fun h=>.inr (.inl h)) (fun h=>.inr (.inr h))))).trans (f6.out k (by rcases hk with rfl|rfl|rfl<;>omega)))
      have h1:=f4;rcases hk with rfl|rfl|rfl<;>omega
     ·simp only[World.size_setCell];omega
     ·rw[K2.out];exact K4.out
     ·rw[K3.out,List.length_append]
      have h1:=S.out;have z:=jq (a.set u (rd a v+1));rw[K3.out,List.length_set,e'.out] at z;simp only[List.length_cons,List.length_nil];omega
    ·have K4:=zA ((l1 (by omega)).l4 (c2.out (fun _=>True)))
     have fo:decide (rd a u<0)=false:=a6 bn;clear l1 l2 O ar av a5 a9 aB;gi_wp2;exact⟨cp.refl _ _,⟨fun _=>al _ _,fun _ _ _=>rfl⟩,aP,a,qv',Q',G.out,K4.out,S.out,I5.out,I6.out⟩
   case GH=>
    rintro s' xs W W' _ rfl ⟨P,a,qv',Q',i1,i2,i4,i5,i6⟩ H b_;have G:=zA (i1.bk H (by omega)).free;have I2:=zA (Bf.done i2 (fun x y ge hex=>hex.2 (by rw[<-hex.1];exact ge)));have S:=zA i4;have I6:=zA (i6.bk H (by omega));have gg:=zA b_;have aP:r.heap.size<W'.heap.size:=(Array.getElem?_eq_some_iff.1 b_).1;clear i1 i2 i4 i5 i6 b_;gi_wp2;exact kH.intro (2*(n-bY a)+Q'.length) (by rw[HK.out.1];have:=S.out;simp only[List.length_cons];omega) (HJ.out _ _ _ ⟨_,_,_,_,_,_,_,_,_,_,_,_,a,qv',Q',_,G,I2,by omega,⟨rfl,by have h1:=S.out;have z:=HK.out.1;have h3:=HK.out.2;rw[List.length_cons] at z;omega⟩,rfl⟩) (r.heap.size+1) (by omega) (I6.out.push (by omega) (by omega) gg.out)
end
section
attribute [local go_sem] jk jl jm jn mo mq mr mu
def fP (xs:List Int):Nat->Int
 |0=>rd xs 0
 |k+1=>if fP xs k<rd xs ((k+1:Nat):Int) then rd xs ((k+1:Nat):Int) else fP xs k
theorem D_ (A:Option Addr) (c:Nat) (xs:List Int) (w:World) (h:Kd.C (Kd.int .i64) w A xs.length xs) (h1:1<=xs.length):
  Calls Tryz.prog 167 #[.slice A xs.length c] w fun e w'=>e= .returned (.int .i64 (fP xs (xs.length-1)))/\Below w.heap.size w w':=by
 have v:xs.length<=9223372036854775807:=Kd.l_ h;have b:=zA (al w.heap.size w);have m:=zA h;obtain⟨a,n,g⟩:=Kd.bT h 0 (by omega) (by omega);subst n;have g:w.cell? a=some (.int .i64 (rd xs 0)):=by simpa [Addr.add] using g
 have x:(1:Int)<=(xs.length:Int):=by omega
 have B:((xs.length:Nat):Int)<=9223372036854775807:=by omega
 clear h;go_enter Tryz.func167,Tryz.ntmps167
 go_wp2;clear g;go_loopg [3,4] (xs.length-1) (fun o p q wr=>∃i:Nat,p= .int .i64 (fP xs (i-1))/\q= .int .i64 i/\1<=i/\i<=xs.length/\Aside0 (Below w.heap.size w wr)/\Aside0 (o=xs.length-i))
 case atStart=>exact⟨1,rfl,rfl,aI _,h1,b,⟨rfl⟩⟩
 case round=>
  clear b;obtain⟨i,rfl,rfl,D,E,b,r⟩:=hrel;by_cases F:i<xs.length
  ·have s:(0:Int)<=(i:Int):=by omega
   have u:(i:Int)<(xs.length:Int):=by omega
   obtain⟨a',k,g⟩:=Kd.bT (Kd.aq m.out b.out) (i:Int) s u;injection k with k
   subst k;rw[aQ] at g;have l:Aside0 (fP xs (i+1-1)=if fP xs (i-1)<rd xs (i:Int) then rd xs (i:Int) else fP xs (i-1)):=⟨by
    obtain⟨j,rfl⟩:∃j,i=j+1:=⟨i-1,by omega⟩;rfl⟩
   generalize fP xs (i-1)=y at l⊢;generalize rd xs (i:Int)=z at g l;go_wp2
   all_goals
    go_roundg (xs.length- (i+1))
    case measure=>rw[r.out];omega
    case rel=>exact⟨i+1,(by rw[l.out];first|rw[if_pos (by assumption)]|rw[if_neg (by assumption)]|rw[if_neg (by omega)]),by go_num,by omega,by omega,b,⟨rfl⟩⟩
  ·obtain rfl:i=xs.length:=by omega
   go_wp2;go_ret;exact⟨rfl,b.out⟩
end
section
attribute [local go_sem] Oper.semAt_some
theorem Ea (g n:Nat) (A0:Option Addr) (c0:Nat) (E:List S83) (q:Int) (dv Q:Value) (R:Int) (v:Nat) (lb:Array Value) (B:Nat->Bool) (w:World) (ab:Kd.C aN w A0 E.length E) (hE:ej n E) (hn:n<=1000) (hv:v<n) (i:gO w g n (.slice A0 E.length c0) q dv Q R)
  (hB:∀(W:World) (u:Int),Below w.heap.size w W->0<=u->u<n->Calls Tryz.prog 169 (#[.int .i64 u]++lb) W fun e w'=>e= .returned (.bool (B u.toNat))/\Below W.heap.size W w'):
  Calls Tryz.prog 168 #[.pointer (some ⟨g,0,none⟩),.int .i64 v,.func (.func 169) #[] lb] w fun e w'=>e= .returned (.int .i64 (dZ B (cy E v E.length)))/\Below w.heap.size w w':=by
 have be:=zA hB;have HE:=zA hE;have ak:=zA i;clear hB hE i;refine(callsIn_wide (n:=10)).1 ?_;refine callsIn_of_wp_marks Tryz.func168 rfl trivial ?_ rfl;simp only[Tryz.ntmps168,List.size_toArray,List.length_cons,List.length_nil,Nat.reduceAdd,Nat.reduceSub,Array.replicate_succ,Array.replicate_zero,List.push_toArray,List.append_toArray,List.nil_append,List.cons_append];gi_wp2_with (refine⟨trivial,?_⟩;gi_at_call 194;refine(callsIn_wide.2 (lS g v _)).mono ?_;rintro e w3 ⟨rfl,rfl⟩)
 obtain⟨p,am⟩:∃o:Obj,o= .cells #[.func (.func 169) #[] lb] 121:=⟨_,rfl⟩;obtain⟨on,an⟩:∃o:Obj,o= .cells #[.int .i64 0] 3:=⟨_,rfl⟩;obtain⟨r,ap⟩:∃o:Obj,o= .cells #[.pointer (some ⟨g,0,none⟩)] 135:=⟨_,rfl⟩;obtain⟨y,av⟩:∃o:Obj,o= .cells #[.int .i64 v] 3:=⟨_,rfl⟩;have Z0:=bl w p;have S:=bl (w.alloc p) on;have T:=bl ((w.alloc p).alloc on) r;have U:=bl (((w.alloc p).alloc on).alloc r) y;simp only[World.size_alloc] at S T U;have H0:=zA ((aw (aw (aw Z0 on) r) y).trans (by rw[am]:_=some (.cells #[.func (.func 169) #[] lb] 121 (0,0))));have H1:=zA ((aw (aw S r) y).trans (by rw[an]:_=some (.cells #[.int .i64 0] 3 (0,0))));have H2:=zA ((aw T y).trans (by rw[ap]:_=some (.cells #[.pointer (some ⟨g,0,none⟩)] 135 (0,0))));have H3:=zA (U.trans (by rw[av]:_=some (.cells #[.int .i64 v] 3 (0,0))));have z:=zA (ao (ao (ao (ao (al w.heap.size w) p) on) r) y);have aP:Aside0 (gO ((((w.alloc p).alloc on).alloc r).alloc y) g n (.slice A0 E.length c0) q dv Q R):=⟨aJ ak.out z.out⟩;have bw:g<w.heap.size:=az ak.out;have bg:=zA (Kd.aq ab z.out);clear Z0 S T U;subst am an ap av;have bi:=z.out.size;have bk:((((w.alloc (.cells #[.func (.func 169) #[] lb] 121)).alloc (.cells #[.int .i64 0] 3)).alloc (.cells #[.pointer (some ⟨g,0,none⟩)] 135)).alloc (.cells #[.int .i64 v] 3)).heap.size=w.heap.size+4:=by simp
 generalize ((((w.alloc (.cells #[.func (.func 169) #[] lb] 121)).alloc (.cells #[.int .i64 0] 3)).alloc (.cells #[.pointer (some ⟨g,0,none⟩)] 135)).alloc (.cells #[.int .i64 v] 3))=j at H0 H1 H2 H3 z aP bg bi bk⊢;refine iG (σ:=Unit) (α:=Int×Int) (F:=Fence.wide) (n:=10) rfl (by decide) (gf:=207) (lb:=#[.pointer (some ⟨w.heap.size+1+1,0,none⟩),.pointer (some ⟨w.heap.size+1+1+1,0,none⟩)]) rfl trivial (enters_of Tryz.func207 (by kernel_rfl) rfl)
  (fun o=>oC (w.heap.size+1+1) (w.heap.size+1+1+1) g n A0 c0 E q dv Q R v w _ ab HE.out hn hv (ao (ao z.out _) _) (aw (aw H2.out _) _) (aw (aw H3.out _) _) (aw (aw aP.out _) _)) (fun _=>rfl)
  (fun _=>True) ?eB ?st ?ar
  (fun _ pre W=>j.heap.size<=W.heap.size/\W.heap[w.heap.size]? =some (.cells #[.func (.func 169) #[] lb] 121 (0,0))/\W.heap[w.heap.size+1]? =some (.cells #[.int .i64 (dZ B pre)] 3 (0,0))/\Below w.heap.size w W) (fun _ _ _ _=>False)
  ?is (fun _ _ _ _ _ _ h _=>h) ?ib (fun _ _ _ _ _ h _=>h) ?kt ?h0 ?a1 ?assign ?body ?done (fun _ _ _ _ _ _ _ h=>h.elim)
 case assign=>
  intro l x W K hK;gi_wp2;exact hK
 case eB=>
  intro o s W1 h;exact⟨trivial,by rw[h];exact cp.refl _ _⟩
 case st=>intro s A B _ h;exact cW h
 case ar=>intro s x A B _ h;exact cW h.2
 case is=>
  rintro s pre A B _ ⟨H,h1,V,X⟩ i;exact⟨Nat.le_trans H i.size,aJ h1 i,aJ V i,a7 X i⟩
 case ib=>
  rintro s pre A B ⟨H,h1,V,X⟩ hb;exact⟨by rw[hb.size];exact H,hb.cells h1,hb.cells V,X.trans (hb.below w.heap.size (by omega))⟩
 case kt=>
  intro s A B C D N aS a0;refine⟨fun aY=>((N.below w.heap.size (by omega)).trans (aS.1 (by rw[N.size];exact aY))).trans (a0.below w.heap.size (by omega)),fun k hk I=>?_⟩;have a2:k≠j.heap.size+1:=by rcases hk with rfl|rfl|rfl<;>omega
  exact(a0.heap k a2).trans ((aS.2 k hk (by rw[N.size];exact I)).trans (N.heap k a2))
 case h0=>
  rintro o s W1 rfl;exact⟨by simp;omega,aw (aw H0.out _) _,aw (aw H1.out _) _,ao (ao z.out _) _⟩
 case body=>
  rintro l s pre ⟨u,m⟩ Wb W1 W _ ⟨H,i1,i2,i3⟩ ⟨Y,J⟩ bo b;have Z:=zA (b.cells (aJ i1 J));have L:=zA (b.cells (aJ i2 J));have b3:=zA ((a7 i3 J).trans (b.below w.heap.size (by omega)));have b0:j.heap.size<=W.heap.size:=by have:=b.size;have:=J.size;omega
  clear i1 i2 i3 J b bo;simp only at Y;have b4:W.cell? ⟨w.heap.size,0,none⟩=some (.func (.func 169) #[] lb):=(ai Z.out 0).trans rfl;have O:=zA (be.out W u b3.out Y.1 Y.2.1);have M:=zA (qh B pre (u,m));generalize dZ B pre=s0 at L M;cases P:B u.toNat with
  |true=>
   rw[P] at O M;clear P;gi_wp2_with (refine⟨trivial,?_⟩;gi_at_call 169;refine(callsIn_wide.2 O.out).mono ?_;rintro e w5 ⟨rfl,G⟩;have a:=zA G;have D2:=zA (aJ L.out G);have c5:w5.cell? ⟨w.heap.size+1,0,none⟩=some (.int .i64 s0):=(ai D2.out 0).trans rfl;have f5:=bD D2.out 0;clear G)
   have aY:=a.out.size;refine⟨(cW a.out).trans (fz _ _ (by show w.heap.size+1<j.heap.size;omega)),⟨fun aY=>Below.setCell (a.out.mono aY) (by show w.heap.size<=w.heap.size+1;omega) _,fun k hk I=>?_⟩,by simp;omega,?_,?_,Below.setCell (a7 b3.out a.out) (by show w.heap.size<=w.heap.size+1;omega) _⟩
   ·rw[Below.heap_setCell _ _ _ _ (by rcases hk with rfl|rfl|rfl<;>(show _≠w.heap.size+1)<;>omega)]
    exact a.out.block k I
   ·rw[Below.heap_setCell _ _ _ _ (by show w.heap.size≠w.heap.size+1;omega)]
    exact aJ Z.out a.out
   ·have h:=bR D2.out 0 (.int .i64 (wrap64 (s0+m)))
    rw[M.out];simpa using h
  |false=>
   rw[P] at O M;clear P;gi_wp2_with (refine⟨trivial,?_⟩;gi_at_call 169;refine(callsIn_wide.2 O.out).mono ?_;rintro e w5 ⟨rfl,G⟩;have a:=zA G;clear G)
   have aY:=a.out.size;exact⟨cW a.out,⟨fun aY=>a.out.mono aY,fun k hk I=>a.out.block k I⟩,by omega,aJ Z.out a.out,by rw[M.out];exact aJ L.out a.out,a7 b3.out a.out⟩
 case done=>
  rintro s xs W W' _ rfl ⟨H,i1,i2,i3⟩ b a4;have L:=zA (b.cells i2);have b3:=zA (i3.trans (b.below w.heap.size (by omega)));have a5:=zA a4;clear i1 i2 i3 a4;have hc:W'.cell? ⟨w.heap.size+1,0,none⟩=some (.int .i64 (dZ B (cy E v E.length))):=(ai L.out 0).trans rfl;gi_wp2_with fail
  have bv:Bk j.heap.size W' (W'.putObj j.heap.size (.deferred none)):=⟨_,_,a5.out,rfl,rfl⟩;exact i' (D:=j.heap.size) rfl a5.out (results_tmp rfl _ _ _) ⟨rfl,b3.out.trans (bv.below w.heap.size (by omega))⟩
end
end Go.Proofs.YtffdiakgjakngaaGreat.P


namespace Go.Proofs.YtffdiakgjakngaaGreat.P
open Go.RowKit Go.Proofs.YtffdiakgjakngaaGreatW.PrintWords Go.Proofs.YtffdiakgjakngaaGreatW.PrintLast Go.Proofs.YtffdiakgjakngaaGreatW.PrintMore
set_option linter.unusedVariables false
set_option linter.unusedSimpArgs false
set_option maxHeartbeats 8000000
set_option maxRecDepth 100000
section
attribute [local go_sem] Oper.semAt_some jk jl jm jn
theorem Eb (gb a cr n:Nat) (B:Nat->Bool) (ok:Nat->Prop) (base:Nat) (W:World) (u:Int) (hb:W.heap[gb]? =some (.cells #[.slice (some ⟨a,0,none⟩) n cr] 43 (0,0))) (g:Kd.bool.R 4 W base ok (.slice (some ⟨a,0,none⟩) n cr) ((List.range n).map B)) (h:0<=u) (hn:u<n):
  Calls Tryz.prog 169 #[.int .i64 u,.pointer (some ⟨gb,0,none⟩)] W fun e w'=>e= .returned (.bool (B u.toNat))/\Below W.heap.size W w':=by
 have i:W.cell? ⟨gb,0,none⟩=some (.slice (some ⟨a,0,none⟩) n cr):=(ai hb 0).trans rfl;have b:=(Kd.bW false g u h hn).1;have e:bV false ((List.range n).map B) u=B u.toNat:=by
  obtain⟨m,rfl⟩:=Int.eq_ofNat_of_zero_le h;have:m<n:=by omega
  simp[bV,bb,List.getElem?_map,List.getElem?_range this]
 rw[e] at b;have b:W.cell? ⟨a,u.toNat,none⟩=some (.bool (B u.toNat)):=b;clear g hb e;go_enter Tryz.func169,Tryz.ntmps169
 go_wp2;go_ret;exact⟨rfl,al _ _⟩
theorem Ec (A:Option Addr) (c n:Nat) (xs:List Int) (w:World) (a:xs.length=n) (b:Kd.C (Kd.int .i64) w A xs.length xs) (h1:1<=n):
  Calls Tryz.prog 167 #[.slice A n c] w fun e w'=>e= .returned (.int .i64 (fP xs (n-1)))/\Below w.heap.size w w':=by
 subst a;exact D_ A c xs w b h1
theorem vZ (xs:List Int):∀k i:Nat,i<=k->rd xs (i:Int)<=fP xs k
 |0,i,h=>by
  obtain rfl:i=0:=by omega
  exact Int.le_refl _
 |k+1,i,h=>by
  unfold fP;by_cases e:i=k+1
  ·subst e;split<;>omega
  ·have:=vZ xs k i (by omega)
   split<;>omega
theorem v_ (xs:List Int):∀k:Nat,∃i,i<=k/\fP xs k=rd xs (i:Int)
 |0=>⟨0,aI _,rfl⟩
 |k+1=>by
  unfold fP;split
  ·exact⟨k+1,aI _,rfl⟩
  ·obtain⟨i,h1,a⟩:=v_ xs k
   exact⟨i,by omega,a⟩
structure Ed (n q:Nat) (t:Nat->Nat->Int) (out:List Int):Prop where
 len:out.length=n
 q0:rd out (q:Int)=0
 pos:∀v:Nat,v<n->0<=rd out (v:Int)/\rd out (v:Int)<n
 wa:∀u v:Nat,u<n->v<n->0<t u v->rd out (v:Int)<=rd out (u:Int)+1
 back:∀v:Nat,v<n->v≠q->∃u:Nat,u<n/\0<t v u/\rd out (u:Int)+1=rd out (v:Int)
theorem qQ {n:Nat} {E:List S83} (h:bt n E) {u v:Nat} (hu:u<n) (g:v<n):kT E v u↔0<timesOf E v u:=by
 have h1:∀L:List (Int×Int),(∀x∈L,0<=x.1/\x.1<n/\x.1≠v/\1<=x.2/\x.2<=50)->0<=dH (fun w=>if w=u then 1 else 0) L/\(0<dH (fun w=>if w=u then 1 else 0) L↔∃m,((u:Int),m)∈L):=by
  intro L;induction L with
  |nil=>intro _;simp[dH]
  |cons x L i=>
   intro a;obtain⟨i1,i2⟩:=i (fun y j=>a y (List.mem_cons_of_mem _ j));have k:=a x (List.mem_cons_self ..);simp only[dH];by_cases e:x.1.toNat=u
   ·rw[if_pos e,Int.mul_one]
    refine⟨by omega,fun _=>⟨x.2,?_⟩,fun _=>by omega⟩;have:x=((u:Int),x.2):=by rw[<-e];ext<;>simp;omega
    rw[<-this];exact List.mem_cons_self ..
   ·rw[if_neg e,Int.mul_zero,Int.zero_add]
    refine⟨i1,fun h=>?_,fun⟨m,hm⟩=>?_⟩
    ·obtain⟨m,hm⟩:=i2.1 h
     exact⟨m,List.mem_cons_of_mem _ hm⟩
    ·rcases List.mem_cons.1 hm with rfl|hm
     ·exact absurd (show ((u:Int)).toNat=u by simp) e
     ·exact i2.2 ⟨m,hm⟩
 have b:=h1 _ (oJ h E.length (aI _) (v:=v));rw[oI h _ g,T.jo hu (fun w _ hw=>by rw[if_neg hw,Int.mul_zero]),if_pos rfl,Int.mul_one] at b;exact b.2.symm
theorem Bf.dst {n q:Nat} {E:List S83} (h:bt n E) (m:T.dn n (timesOf E)) (o:q<n) {out:List Int} {D:Int} (hb:Bf n q (kT E) out [] D (fun _ _=>False)):Ed n q (timesOf E) out:=by
 have i:∀v:Nat,v<n->0<=rd out (v:Int):=by
  intro v e;refine Classical.byContradiction fun p=>?_
  obtain⟨a,b,k,l,h1,g,j⟩:=m (fun v=>decide (0<=rd out (v:Int))) ⟨q,o,by simp[hb.q0]⟩ ⟨v,e,by simpa using p⟩;have:=hb.j6 a k (ax h1) (by simp) b l ((qQ h l k).2 j) (fun f=>f);exact(of_decide_eq_false g) this.1
 refine⟨hb.len,hb.q0,fun v e=>⟨i v e,?_⟩,fun u v hu e r=>(hb.j6 u hu (i u hu) (by simp) v e ((qQ h e hu).2 r) (fun f=>f)).2,fun v e s=>?_⟩
 ·have h1:=hb.hi v e
  have g:=jq out;rw[hb.len] at g;omega
 ·obtain⟨u,hu,h1,g,j⟩:=hb.back v e s (i v e)
  exact⟨u,hu,by rw[h.wt.sym];exact(qQ h e hu).1 h1,j⟩
structure LI (w0 w:World) (g gd gs go cd cs co n:Nat) (A0:Option Addr) (c0:Nat) (E:List S83) (q:Int) (out d s:List Int) (W:World):Prop where
 si:SI w0 g gd gs cd cs n A0 c0 E q d s W
 fo:(Kd.int .i64).R 3 W w.heap.size (fun _=>True) (.slice (some ⟨go,0,none⟩) n co) out
 hw:w0.heap.size<=w.heap.size/\gd<w.heap.size/\gs<w.heap.size/\g<w.heap.size/\w.heap.size<=go
namespace LI
variable {w0 w W W':World} {g gd gs go cd cs co n c0 l:Nat} {A0:Option Addr} {E:List S83} {q:Int} {out d s:List Int}
theorem below (h:LI w0 w g gd gs go cd cs co n A0 c0 E q out d s W) (hb:Below W.heap.size W W'):LI w0 w g gd gs go cd cs co n A0 c0 E q out d s W':=⟨h.si.below hb,Kd.cR h.fo hb,h.hw⟩
theorem alloc (h:LI w0 w g gd gs go cd cs co n A0 c0 E q out d s W) (o:Obj):LI w0 w g gd gs go cd cs co n A0 c0 E q out d s (W.alloc o):=h.below (ao (al _ _) o)
theorem drewN (h:LI w0 w g gd gs go cd cs co n A0 c0 E q out d s W) (m:Nat):LI w0 w g gd gs go cd cs co n A0 c0 E q out d s (W.drewN m):=h.below (b8 (al _ _) m)
theorem drew (h:LI w0 w g gd gs go cd cs co n A0 c0 E q out d s W):LI w0 w g gd gs go cd cs co n A0 c0 E q out d s W.drew:=h.drewN 1
theorem hZ (h:LI w0 w g gd gs go cd cs co n A0 c0 E q out d s W) (p:Addr) (v:Value) (a:w.heap.size<=p.block) (h1:p.block≠go):LI w0 w g gd gs go cd cs co n A0 c0 E q out d s (W.setCell p v):=
 ⟨h.si.hZ p v (by have:=h.hw;omega) (by have:=h.hw;omega),Kd.ba (Kd.fj (Kd.gz rfl h.fo) (fun k hk=>Below.heap_setCell _ _ _ _ (fun e=>h1 (by rw[<-e];injection hk)))) (fun _ _=>trivial),h.hw⟩
theorem jG (h:LI w0 w g gd gs go cd cs co n A0 c0 E q out d s W) (v:Nat) (a:v<n):W.cell? ⟨go,v,none⟩=some (.int .i64 (rd out v)):=by
 have:=(Kd.bW 0 h.fo (v:Int) (by omega) (by omega)).1;rw[aQ] at this;exact this
theorem Ee (h:LI w0 w g gd gs go cd cs co n A0 c0 E q out d s W) {d' s':List Int} (a:SI w0 g gd gs cd cs n A0 c0 E q d' s' W') (hk:∀k,k<W.heap.size->k≠gd->k≠gs->W'.heap[k]? =W.heap[k]?):LI w0 w g gd gs go cd cs co n A0 c0 E q out d' s' W':=
 ⟨a,Kd.ba (Kd.fj (Kd.gz rfl h.fo) (fun k e=>by
  injection e with e
  subst e;have h1:=h.hw;exact hk _ (Kd.a_ h.fo _ rfl) (by omega) (by omega))) (fun _ _=>trivial),h.hw⟩
end LI
theorem Ef (g gd gs cd cs n:Nat) (A0:Option Addr) (c0:Nat) (E:List S83) (q:Nat) (d:List Int) (w0 w:World) (an:Kd.C aN w0 A0 E.length E) (hE:bt n E) (hl:E.length<=1000) (hC:fw n E) (hn:n<=12) (hq:q<n) (aa:T.sN (T.val n (timesOf E)) n<=19)
  (hd:∀v:Nat,v<n-> -200<=rd d v/\rd d v<=200) (bi:d.length=n) (h:SI w0 g gd gs cd cs n A0 c0 E q d (List.replicate n 0) w):
  Calls Tryz.prog 110 #[.pointer (some ⟨g,0,none⟩)] w fun e w'=>e= .returned (.tuple #[])/\∃(d' s':List Int),d'.length=n/\s'.length=n/\SI w0 g gd gs cd cs n A0 c0 E q d' s' w'/\(∀v:Nat,v<n->v≠q->0<=rd d' v)/\∃dist:Nat->Int,T.fa n (timesOf E) (fun v=>rd d (v:Nat)) dist 200 0 (fun v=>rd d' (v:Nat)) (fun v=>rd s' (v:Nat)):=by
 have fb:=Tryz.underlying188;have hu:=Tryz.underlying24;have o:=zA hE;have HC:=zA hC;have HD:=zA hd;have bk:=h.hb.size;obtain⟨q1,q2,q3,q4,q5⟩:=h.ld;have HS:=zA h;have c':1<=n:=by omega
 clear hE hC hd h;go_enter Tryz.func110,Tryz.ntmps110
 go_wp2_with (first|(go_at_call 165;refine(D9 g n A0 c0 E q _ _ 0 _ (Kd.aq an HS.out.hb) o.out.jy (by omega) hq HS.out.st).mono ?_;rintro e w1 ⟨go,co,out,D,rfl,hO,K,bn⟩;have s:=zA (Bf.dst o.out (o.out.conn HC.out) hq bn);have ar:Aside0 (LI w0 w g gd gs go cd cs co n A0 c0 E q out d (List.replicate n 0) w1):=⟨HS.out.below K,hO,bk,q1,q2,q3,Kd.dz hO go rfl⟩;clear hO K bn)|(go_at_call 167;refine(Ec _ _ n out _ s.out.len (Kd.aG ar.out.fo).2.2 c').mono ?_;rintro e w2 ⟨rfl,K⟩;have L:=zA (ar.out.below K);clear K ar))
 obtain⟨im,dd,dk⟩:=v_ out (n-1);obtain⟨G,av⟩:∃G:Nat,fP out (n-1)=G:=⟨(fP out (n-1)).toNat,by have:=s.out.pos im (by omega);omega⟩;have aB:G<=n:=by have:=s.out.pos im (by omega);omega
 have HM:Aside0 (∀v:Nat,v<n->rd out (v:Int)<=G):=⟨fun v l=>by rw[<-av];exact vZ out (n-1) v (by omega)⟩;have bw:Aside0 (T.fa n (timesOf E) (fun v=>rd d (v:Nat)) (fun v=>rd out (v:Nat)) 200 G (fun v=>rd d (v:Nat)) (fun v=>rd (List.replicate n 0) (v:Nat))):=⟨by
  have h:=T.fa.start (n:=n) (t:=timesOf E) (D:=fun v=>rd d (v:Nat)) (dist:=fun v=>rd out (v:Nat)) (B:=200) (k:=G) (by omega) (fun v l=>(HD.out v l).1) HM.out (by omega);rw[show (fun v:Nat=>rd (List.replicate n 0) (v:Int))=fun _=>0 from by
   funext v
   simp[rd,bb,List.getElem?_replicate];split<;>rfl]
  exact h⟩
 rw[av];clear av dk dd;have dl:=zA bi;have ds:=zA (List.length_replicate (n:=n) (a:=(0:Int)));clear bi;go_loopg [4] (G) (fun M kv wr=>∃(k:Nat) (d' s':List Int),kv= .int .i64 k/\k<=n/\Aside0 (LI w0 w g gd gs go cd cs co n A0 c0 E q out d' s' wr)/\Aside0 (d'.length=n)/\Aside0 (s'.length=n)/\Aside0 (T.fa n (timesOf E) (fun v=>rd d (v:Nat)) (fun v=>rd out (v:Nat)) 200 k (fun v=>rd d' (v:Nat)) (fun v=>rd s' (v:Nat)))/\Aside0 (M=k))
 case atStart=>exact⟨G,d,List.replicate n 0,rfl,aB,L,dl,ds,bw,⟨rfl⟩⟩
 case round=>
  clear L bw HM aB HS;obtain⟨k,d',s',rfl,aB,b,O,P,I,HK⟩:=hrel;by_cases hk:0<k
  ·have fq:(0:Int)<(k:Int):=by omega
   have d0:(0:Int)<=(n:Int):=by omega
   have s5:=b.out.si.f5;have s0:=b.out.si.f0;go_wp2_with (first|((with_reducible refine aH (N:=33) rfl ?_);refine Kd.jM Kd.bool _ 4 rfl (N:=33) rfl 43 _ _ rfl (n:Int) rfl rfl Tryz.underlying43 (.bool false) 1 mz rfl (by decide) (by omega) false (ok:=fun _=>True) (okp:=fun _=>True) rfl (fun _ hk=>hk) trivial d0 (by simp;omega) (al _ _) (aI _) ?_;intro v1 w5 ho hb d2 d3;rw[aQ] at ho;obtain⟨j,cr,l,fr,d4, -⟩:=Kd.fC ho (by rw[List.length_replicate];omega);rw[List.length_replicate] at l;subst l;have b4:=zA ho;have b5:=zA (b.out.below hb);clear ho hb d2 d3))
   have ft:=Kd.a_ b.out.fo go rfl;have fv:=b.out.si.hb.size;have f1:=b.out.hw;have d5:w.heap.size<=wr.heap.size:=by omega
   have d6:j≠go:=by omega
   have d7:w.heap.size<=j:=by omega
   have ag:=zA (bl w5 (.cells #[.slice (some ⟨j,0,none⟩) n cr] 43));have aL:=zA (Kd.bc (Kd.aM b4.out (.cells #[.slice (some ⟨j,0,none⟩) n cr] 43)) (base':=w.heap.size) d5);have aO:=zA (b5.out.alloc (.cells #[.slice (some ⟨j,0,none⟩) n cr] 43));clear b4 b5 s5 s0 b;generalize w5.alloc (.cells #[.slice (some ⟨j,0,none⟩) n cr] 43)=W6 at ag aL aO⊢;generalize w5.heap.size=gb at ag d4⊢;have b6:Aside0 (Kd.bool.R 4 W6 w.heap.size (fun _=>True) (.slice (some ⟨j,0,none⟩) n cr) ((List.range n).map fun u:Nat=>if u<0 then decide (rd out (u:Int)<k) else false)):=⟨by
    have h:=aL.out;rw[show (List.replicate n false:List Bool)=(List.range n).map fun u:Nat=>if u<0 then decide (rd out (u:Int)<k) else false from by
     refine List.ext_getElem (by simp) fun i h1 H=>?_
     simp] at h
    exact h⟩
   clear aL;go_loopg [36] (n) (fun M vv aS=>∃v:Nat,v<=n/\vv= .int .i64 v/\Aside0 (LI w0 w g gd gs go cd cs co n A0 c0 E q out d' s' aS)/\Aside0 (aS.heap[gb]? =some (.cells #[.slice (some ⟨j,0,none⟩) n cr] 43 (0,0)))/\Aside0 (Kd.bool.R 4 aS w.heap.size (fun _=>True) (.slice (some ⟨j,0,none⟩) n cr) ((List.range n).map fun u:Nat=>if u<v then decide (rd out (u:Int)<k) else false))/\Aside0 (M=n-v))
   case atStart=>exact⟨0,by omega,rfl,aO,ag,b6,⟨rfl⟩⟩
   case round=>
    clear aO ag b6;obtain⟨v,l,rfl,b,m,Q,J⟩:=hrel;by_cases p:v<n
    ·have d9:(0:Int)<=(v:Int):=by omega
     have ea:(v:Int)<(n:Int):=by omega
     have S:=dG m.out;have b1:=b.out.jG v p;obtain⟨U,hf⟩:=Kd.bW false Q.out (v:Int) (by omega) (by omega);rw[aQ] at U hf;generalize bV false ((List.range n).map fun u:Nat=>if u<v then decide (rd out (u:Int)<k) else false) (v:Int)=z at U;replace U:wr.cell? ⟨j,v,none⟩=some (.bool z):=U;have V:=Kd.dh Q.out (v:Int) (decide (rd out (v:Int)<k));rw[aQ] at V;have em:(((List.range n).map fun u:Nat=>if u<v then decide (rd out (u:Int)<k) else false).set v (decide (rd out (v:Int)<k)))=(List.range n).map fun u:Nat=>if u<v+1 then decide (rd out (u:Int)<k) else false:=by
      refine List.ext_getElem (by simp) fun i h1 H=>?_
      rw[List.getElem_set];simp only[List.getElem_map,List.getElem_range];by_cases e:v=i
      ·subst e;simp
      ·rw[if_neg e]
       by_cases h:i<v
       ·rw[if_pos h,if_pos (by omega)]
       ·rw[if_neg h,if_neg (by omega)]
     rw[em] at V;have b_:=zA (Kd.bq V.1);have b':=zA (eI (cS (g:=gb) m.out V.2 (fun e=>by injection e with e;omega)));have L:=zA ((b.out.hZ ⟨j,v,none⟩ (.bool (decide (rd out (v:Int)<k))) d7 d6).drew);clear V em b m Q;go_wp2;go_region
     clear S b1 U hf;generalize (wr.setCell ⟨j,v,none⟩ (.bool (decide (rd out (v:Int)<k)))).drew=W7 at L b' b_⊢;go_wp2;go_roundg (n- (v+1))
     case measure=>rw[J.out];omega
     case rel=>exact⟨v+1,by omega,by go_num,L,b',b_,⟨rfl⟩⟩
    ·obtain rfl:n=v:=by omega
     go_wp2;have r:Aside0 (Kd.bool.R 4 wr w.heap.size (fun _=>True) (.slice (some ⟨j,0,none⟩) n cr) ((List.range n).map (T.bF (fun v=>rd out (v:Nat)) k))):=⟨by
      have h:=Q.out;rw[show ((List.range n).map fun u:Nat=>if u<n then decide (rd out (u:Int)<k) else false)=(List.range n).map (T.bF (fun v=>rd out (v:Nat)) k) from List.map_congr_left fun u hu=>by
       rw[if_pos (List.mem_range.1 hu)];rfl] at h
      exact h⟩
     have eb:0<=T.fy n (timesOf E) (fun v=>rd out (v:Nat)) 200 k:=by have:=T.oa (n:=n) (t:=timesOf E) (fun v=>rd out (v:Nat)) (show (0:Int)<=200 by omega) k;omega
     have ed:=T.p9 o.out.wt (fun v=>rd out (v:Nat)) (B:=200) (by omega) aa k;have ca:Aside0 (∀v:Nat,v<n-> -T.fy n (timesOf E) (fun v=>rd out (v:Nat)) 200 k<=rd d' v):=⟨fun v l=>I.out.low v l⟩;clear Q J;obtain⟨Y,a1⟩:∃Y,Y=T.fy n (timesOf E) (fun v=>rd out (v:Nat)) 200 k:=⟨_,rfl⟩;rw[<-a1] at eb ed ca;have eg:=zA a1;clear a1;go_loopg [51,7] (n) (fun M vv tv wr=>∃(v:Nat) (x:Int),v<=n/\vv= .int .i64 v/\tv= .int .i64 x/\0<=x/\x<=Y/\Aside0 (∀u:Nat,u<v->rd out u=k->rd d' u<0-> -rd d' u<=x*T.sN (fun w=>if T.bF (fun v=>rd out (v:Nat)) k w=true then timesOf E u w else 0) n)/\Aside0 (LI w0 w g gd gs go cd cs co n A0 c0 E q out d' s' wr)/\Aside0 (wr.heap[gb]? =some (.cells #[.slice (some ⟨j,0,none⟩) n cr] 43 (0,0)))/\Aside0 (Kd.bool.R 4 wr w.heap.size (fun _=>True) (.slice (some ⟨j,0,none⟩) n cr) ((List.range n).map (T.bF (fun v=>rd out (v:Nat)) k)))/\Aside0 (M=n-v))
     case atStart=>exact⟨0,0,by omega,rfl,rfl,by omega,by omega,⟨fun u hu=>by omega⟩,b,m,r,⟨rfl⟩⟩
     case round=>
      clear b m r;obtain⟨v,x,l,rfl,rfl,a2,a3,X,b,m,r,J⟩:=hrel;by_cases p:v<n
      ·have d9:(0:Int)<=(v:Int):=by omega
       have ea:(v:Int)<(n:Int):=by omega
       have S:=dG m.out;have b1:=b.out.jG v p;have b2:=b.out.si.j7 v p;have b3:=b.out.si.f3;by_cases F:rd out v=k
       ·have er:(rd out v==(k:Int))=true:=by simpa using F
        by_cases cb:rd d' v<0
        ·have es:decide (rd d' v<0)=true:=ay cb
         obtain⟨u,hu,cc,ce⟩:=s.out.back v p (fun e=>by have:=s.out.q0;rw[<-e] at this;omega);have cf:=zA (BY o.out.wt hu cc ce F);have ch:Aside0 (T.sN (fun w=>if T.bF (fun v=>rd out (v:Nat)) k w=true then timesOf E v w else 0) n<=600):=⟨by
          have h:=T.cT (f:=fun w=>if T.bF (fun v=>rd out (v:Nat)) k w=true then timesOf E v w else 0) (g:=fun _=>50) (n:=n) (fun w _=>by
           have:=o.out.jy.times v w;show (if T.bF (fun v=>rd out (v:Nat)) k w=true then timesOf E v w else 0)<=50
           split<;>omega)
          rw[T.gH] at h;omega⟩
         have ci:=zA (qt o.out hl (T.bF (fun v=>rd out (v:Nat)) k) p);have f4:=(mR o.out.wt hn aa (fun v l=>HD.out v l) (by omega) (by omega) I.out v p).1;have f6:=ca.out v p;have a4:=zA F;clear F cc ce;go_wp2_with (go_at_call 168;refine(Ea g n A0 c0 E q _ _ 0 v #[.pointer (some ⟨gb,0,none⟩)] (T.bF (fun v=>rd out (v:Nat)) k) _ (Kd.aq an b.out.si.hb) o.out.jy (by omega) p b.out.si.st (fun W u cj ev ew=>Eb gb j cr n _ _ _ W u (aJ m.out cj) (Kd.cR r.out cj) ev ew)).mono ?_;rintro e w8 ⟨rfl,ak⟩;have Z:=zA (b.out.below ak);have ey:=zA (aJ m.out ak);have e0:=zA (Kd.cR r.out ak);have c2:=Z.out.si.j7 v p;have c3:=Z.out.si.f3;rw[ci.out];clear ak S b1 b2 b3 b m r;obtain⟨y,hy⟩:∃y,y=T.sN (fun w=>if T.bF (fun v=>rd out (v:Nat)) k w=true then timesOf E v w else 0) n:=⟨_,rfl⟩;rw[<-hy];have a5:=cf.out;have e1:=ch.out;rw[<-hy] at a5 e1;have HY:=zA hy;clear hy cf ch ci)
         all_goals
          have e3:=zA (BS (a:= -rd d' v) (x:=y) a5);have ck:=zA (BU (a:= -rd d' v) (x:=y) (by omega) a5);go_roundg (n- (v+1))
          case measure=>rw[J.out];omega
          case rel=>exact⟨v+1,_,by omega,by go_num,rfl,by have:=ck.out;omega,by have:=ck.out;omega,⟨fun u hu h1 H=>by
           have hc:=e3.out;by_cases e:u=v
           ·subst e
            rw[<-HY.out];first|exact hc|exact Int.le_trans hc (Int.mul_le_mul_of_nonneg_right (by assumption) (by omega))
           ·have hT:=X.out u (by omega) h1 H
            first|exact hT|exact Int.le_trans hT (Int.mul_le_mul_of_nonneg_right (by omega) (T.dm fun w _=>by
             show 0<=(if T.bF (fun v=>rd out (v:Nat)) k w=true then timesOf E u w else 0)
             have:=o.out.wt.pos u w;split<;>omega))⟩,Z,ey,e0,⟨rfl⟩⟩
        ·have es:decide (rd d' v<0)=false:=a6 cb
         have a4:=zA F;clear F;go_wp2;go_roundg (n- (v+1))
         case measure=>rw[J.out];omega
         case rel=>exact⟨v+1,x,by omega,by go_num,rfl,a2,a3,⟨fun u hu h1 H=>by
          by_cases e:u=v
          ·subst e;omega
          ·exact X.out u (by omega) h1 H⟩,b,m,r,⟨rfl⟩⟩
       ·have er:(rd out v==(k:Int))=false:=by simpa using F
        have a4:=zA F;clear F;go_wp2;go_roundg (n- (v+1))
        case measure=>rw[J.out];omega
        case rel=>exact⟨v+1,x,by omega,by go_num,rfl,a2,a3,⟨fun u hu h1 H=>by
         by_cases e:u=v
         ·subst e;exact absurd h1 a4.out
         ·exact X.out u (by omega) h1 H⟩,b,m,r,⟨rfl⟩⟩
      ·obtain rfl:n=v:=by omega
       by_cases f7:0<x
       ·have S:=dG m.out
        obtain⟨cv,cx⟩:=BW o.out hn aa (fun v l=>HD.out v l) s.out.wa (show (1:Int)<=(k:Int) by omega) (by omega) O.out P.out I.out a2 (by rw[<-eg.out];exact a3) X.out;have e4:=zA cv;have e5:=zA cx;obtain⟨a9,be⟩:=mP E (T.bF (fun v=>rd out (v:Nat)) k) x (d',s') n;have a9:=zA a9;have be:=zA be;clear cv cx;rename_i e6 e_;clear e6 e_;go_wp2_with (go_at_call 166;refine(t' g gd gs j cd cs cr n A0 c0 E q d' s' (T.bF (fun v=>rd out (v:Nat)) k) x w0 _ an o.out.jy (by omega) (by omega) b.out.si (Kd.bc r.out bk) ⟨by omega,by omega⟩ O.out P.out e5.out).mono ?_;rintro e w8 ⟨rfl,c1,c4,aY⟩;have Z:=zA (b.out.Ee c1 c4);clear c1 c4 b m r S)
        go_roundg (k-1)
        case measure=>rw[HK.out];omega
        case rel=>exact⟨k-1,_,_,by go_num,by omega,Z,⟨a9.out.trans O.out⟩,⟨be.out.trans P.out⟩,⟨by
         have h:=e4.out;rw[show ((k:Int)-1)=((k-1:Nat):Int) by omega] at h;exact h⟩,⟨rfl⟩⟩
       ·obtain rfl:x=0:=by omega
        go_wp2;go_roundg (k-1)
        case measure=>rw[HK.out];omega
        case rel=>exact⟨k-1,d',s',by go_num,by omega,b,O,P,⟨by
         have h:=BX o.out aa s.out.wa I.out X.out;rw[show ((k:Int)-1)=((k-1:Nat):Int) by omega] at h;exact h⟩,⟨rfl⟩⟩
  ·obtain rfl:k=0:=by omega
   go_wp2;go_end0;exact⟨rfl,d',s',O.out,P.out,b.out.si,fun v l e'=>I.out.j4 v l (by obtain⟨u,hu,h1,H⟩:=s.out.back v l e';have:=s.out.pos u hu;show ((0:Nat):Int)<rd out (v:Int);omega),_,I.out⟩
end
section
attribute [local go_sem] Oper.semAt_some
theorem Eg (A0:Option Addr) (c0 n:Nat) (l0:List Int) (w:World) (h:l0.length=n) (h1:1<=n) (hn:n<=1000) (i:Kd.C (Kd.int .i64) w A0 l0.length l0) (j:l0.length<=c0):
  Calls Tryz.prog 57 #[.slice A0 n c0] w fun e w'=>∃gd a,e= .returned (.slice (some ⟨gd,0,none⟩) n a)/\(Kd.int .i64).R 3 w' w.heap.size (fun _=>True) (.slice (some ⟨gd,0,none⟩) n a) l0/\Below w.heap.size w w':=by
 subst h;refine(fM.calls A0 c0 l0 l0 w i j (by unfold fM.f clone.f;rw[if_pos (by omega)])).mono ?_;rintro e w1 ⟨v0,rfl,b,k⟩;obtain⟨g,cap,rfl, -⟩:=Kd.fC b (by omega);exact⟨g,cap,rfl,b,k⟩
abbrev Hg (w:World) (N:Int) (A0:Option Addr) (k c0:Nat) (w':World):Prop:=w'.heap[w.heap.size]? =some (.cells #[.int .i64 N,.slice A0 k c0] 24 (0,0))/\w'.cell? ⟨w.heap.size,0,none⟩=some (.int .i64 N)/\w'.cell? ⟨w.heap.size,1,none⟩=some (.slice A0 k c0)/\Below w.heap.size w w'
theorem Hg.of {w w':World} {N:Int} {A0:Option Addr} {k c0:Nat} (h:w'.heap[w.heap.size]? =some (.cells #[.int .i64 N,.slice A0 k c0] 24 (0,0))) (hb:Below w.heap.size w w'):Hg w N A0 k c0 w':=⟨h,(ai h 0).trans rfl,(ai h 1).trans rfl,hb⟩
theorem Hg.start (w:World) (N:Int) (A0:Option Addr) (k c0:Nat):Hg w N A0 k c0 (w.alloc (.cells #[.int .i64 N,.slice A0 k c0] 24)).drew:=Hg.of (eI (bl w _)) (bU (ao (al _ _) _))
theorem Hg.alloc {w w':World} {N:Int} {A0:Option Addr} {k c0:Nat} (h:w'.heap[w.heap.size]? =some (.cells #[.int .i64 N,.slice A0 k c0] 24 (0,0))) (hb:Below w.heap.size w w') (o:Obj):Hg w N A0 k c0 (w'.alloc o):=Hg.of (aw h o) (ao hb o)
theorem Hg.below {w w' a:World} {N:Int} {A0:Option Addr} {k c0:Nat} (h:w'.heap[w.heap.size]? =some (.cells #[.int .i64 N,.slice A0 k c0] 24 (0,0))) (hb:Below w.heap.size w w') (b:Below w'.heap.size w' a):Hg w N A0 k c0 a:=Hg.of (aJ h b) (a7 hb b)
theorem Eh (n:Nat) (q:Int) (A0:Option Addr) (c0:Nat) (E:List S83) (m:Option Addr) (cd:Nat) (d:List Int) (w:World) (hd:Kd.C (Kd.int .i64) w m d.length d) (r:d.length<=cd) (s:d.length=n) (h1:1<=n) (hn:n<=1000):
  Calls Tryz.prog 109 #[.agg #[.int .i64 n,.slice A0 E.length c0],.int .i64 q,.slice m n cd] w fun e w'=>∃g gd gs b x,e= .returned (.pointer (some ⟨g,0,none⟩))/\SI w g gd gs b x n A0 c0 E q d (List.replicate n 0) w':=by
 have hu:=Tryz.underlying24;have G:=Tryz.underlying188;have y:=zA s;have z:=zA r;have B:=zA hd;have H:(0:Int)<=(n:Int):=by omega
 have I:(n:Int)<=1000:=by omega
 obtain⟨zs,u,v⟩:=lU 29 Tryz.underlying29 n hn;have l:=zA v;clear s r hd v;go_enter Tryz.func109,Tryz.ntmps109
 go_wp2_with fail
 go_region_held3 (fun w'=>w'.heap[w.heap.size]? =some (.cells #[.int .i64 n,.slice A0 E.length c0] 24 (0,0))/\w'.cell? ⟨w.heap.size,0,none⟩=some (.int .i64 n)/\w'.cell? ⟨w.heap.size,1,none⟩=some (.slice A0 E.length c0)/\Below w.heap.size w w')
  (first
   |exact Hg.start w n A0 E.length c0
   |((try go_split_ands);refine⟨by assumption,by assumption,by assumption,by assumption⟩)
   |((try go_split_ands);exact Hg.alloc (by assumption) (by assumption) _)
   |((try go_split_ands);exact Hg.below (by assumption) (by assumption) (by assumption))
   |fail)
  ((go_at_call 57;refine(Eg m cd n d _ y.out h1 hn (Kd.aq B.out (by go_split_ands;assumption)) z.out).mono ?_;rintro e w1 ⟨gd,b,rfl,a,i⟩))
 ·rename_i hHeld
  obtain⟨-, -, -,j⟩:=hHeld;have D:=Kd.a_ a gd rfl;have o:=Kd.dz a gd rfl;have p:=i.size;simp only[World.drew,World.size_alloc] at o p;have hS:=l.out w1 (fun _=>True) trivial;have k:=zA (SI.mk (g:=w1.heap.size+1) j (by have h:=bl (w1.alloc (.cells zs 3)) (.cells #[.int .i64 n,.slice A0 E.length c0,.int .i64 q,.slice (some ⟨gd,0,none⟩) n b,.slice (some ⟨w1.heap.size,0,none⟩) n n,.int .i64 0] 188);rw[World.size_alloc] at h;exact h)
   (Kd.aM (Kd.aM (Kd.bc a (by simp[World.drew])) _) _) (Kd.bc (Kd.aM hS _) (by omega)) ⟨by omega,by omega,by omega,by omega⟩)
  clear a i j hS l u;generalize (w1.alloc (.cells zs 3)).alloc (.cells #[.int .i64 n,.slice A0 E.length c0,.int .i64 q,.slice (some ⟨gd,0,none⟩) n b,.slice (some ⟨w1.heap.size,0,none⟩) n n,.int .i64 0] 188)=F at k⊢;go_wp2;go_ret;exact⟨_,_,_,_,_,rfl,k.out⟩
 ·rename_i hHeld
  obtain⟨-, -, -,j⟩:=hHeld;have D:=Kd.a_ a gd rfl;have o:=Kd.dz a gd rfl;have p:=i.size;simp only[World.drew,World.size_alloc] at o p;have hS:=Kd.cR (Kd.bq (l.out (w.alloc (.cells #[.int .i64 n,.slice A0 E.length c0] 24)) (fun _=>True) trivial)) i;rw[World.size_alloc] at hS;have k:=zA (SI.mk (g:=w1.heap.size) j (bl w1 (.cells #[.int .i64 n,.slice A0 E.length c0,.int .i64 q,.slice (some ⟨gd,0,none⟩) n b,.slice (some ⟨w.heap.size+1,0,none⟩) n n,.int .i64 0] 188))
   (Kd.aM (Kd.bc a (by simp[World.drew];omega)) _) (Kd.bc (Kd.aM hS _) (by omega)) ⟨by omega,by omega,by omega,by omega⟩)
  clear a i j hS l u;generalize w1.alloc (.cells #[.int .i64 n,.slice A0 E.length c0,.int .i64 q,.slice (some ⟨gd,0,none⟩) n b,.slice (some ⟨w.heap.size+1,0,none⟩) n n,.int .i64 0] 188)=F at k⊢;go_wp2;go_ret;exact⟨_,_,_,_,_,rfl,k.out⟩
end
section
attribute [local go_sem] Oper.semAt_some
def eV (s:List Int) (o:Int):Nat->List Int
 |0=>s
 |k+1=>(eV s o k).set k (rd (eV s o k) k-o)
theorem nh (s:List Int) (o:Int):∀k,(eV s o k).length=s.length
 |0=>rfl
 |k+1=>by simp[eV,nh s o k]
theorem oS (s:List Int) (o:Int):∀(k v:Nat),k<=s.length->v<s.length->rd (eV s o k) v=if v<k then rd s v-o else rd s v
 |0,v,_,a=>by rw[if_neg (by omega)];rfl
 |k+1,v,hk,a=>by
  have b:=oS s o k;unfold eV;by_cases e:k=v
  ·subst e
   rw[jx _ _ _ (by rw[nh];exact a),b k (by omega) a,if_neg (by omega),if_pos (by omega)]
  ·rw[iJ _ _ _ _ e,b v (by omega) a]
   by_cases h:v<k
   ·rw[if_pos h,if_pos (by omega)]
   ·rw[if_neg h,if_neg (by omega)]
theorem Ei (g gd gs cd cs n:Nat) (A0:Option Addr) (c0:Nat) (E:List S83) (q:Nat) (d s:List Int) (w0 w:World) (z:1<=n) (hn:n<=12) (B:q<n) (h:SI w0 g gd gs cd cs n A0 c0 E q d s w) (C:d.length=n) (D:s.length=n)
  (hd:∀v:Nat,v<n-> -1048576<=rd d v/\rd d v<=1048576) (p:∀v:Nat,v<n->0<=rd s v/\rd s v<=2000000/\ -1048576<=rd s v-rd s q/\rd s v-rd s q<=1048576):
  Calls Tryz.prog 112 #[.pointer (some ⟨g,0,none⟩)] w fun e w'=>e= .returned (.tuple #[.slice (some ⟨gd,0,none⟩) n cd,.slice (some ⟨gs,0,none⟩) n cs,.int .i64 0])/\SI w0 g gd gs cd cs n A0 c0 E q d (eV s (rd s q) n) w':=by
 have ad:=Tryz.underlying188;have hu:=Tryz.underlying24;have O:=zA hd;have F:=zA p;have G:=zA C;have j:=zA D;have a:=zA h;obtain⟨P,Q, -, -⟩:=p q B;have ag:(q:Int)<(n:Int):=by omega
 have ak:(0:Int)<=(q:Int):=by omega
 clear hd p C D h;have R:=a.out.f5;have b:=a.out.f4;have s2:=a.out.f2;have r:=a.out.cells q B;go_enter Tryz.func112,Tryz.ntmps112
 go_wp2_with fail
 go_quiet (fail)
 clear R s2 r;rename_i nq;have k:=zA (a.out.drewN nq);clear a b;generalize w.drewN nq=W1 at k⊢;have b:=k.out.f4;generalize H:rd s q=o at P Q;have I:=zA H;clear H;go_wp2;go_loopg [31] (n) (fun S T wr=>∃v:Nat,v<=n/\T= .int .i64 v/\Aside0 (SI w0 g gd gs cd cs n A0 c0 E q d (eV s o v) wr)/\Aside0 (S=n-v))
 case atStart=>exact⟨0,by omega,rfl,k,⟨rfl⟩⟩
 case round=>
  clear k b;obtain⟨v,l,rfl,a,U⟩:=hrel;by_cases m:v<n
  ·have am:(0:Int)<=(v:Int):=by omega
   have an:(v:Int)<(n:Int):=by omega
   have b:=a.out.f4;have r:=a.out.cells v m;have sf:=a.out.tW v m;have J:Aside0 (∀W,SI w0 g gd gs cd cs n A0 c0 E q d ((eV s o v).set v (rd (eV s o v) v-o)) W->SI w0 g gd gs cd cs n A0 c0 E q d (eV s o (v+1)) W):=⟨fun W h=>h⟩;have V:0<=rd (eV s o v) v/\rd (eV s o v) v<=2000000:=by
    rw[oS s o v v (by rw[j.out];omega) (by rw[j.out];exact m),if_neg (by omega)];have:=F.out v m;omega
   obtain⟨X,Y⟩:=V;have i:=zA (J.out _ (a.out.oF v (rd (eV s o v) v-o)));clear J a;generalize rd (eV s o v) v=y at X Y r i;go_wp2;go_roundg (n- (v+1))
   case measure=>rw[U.out];omega
   case rel=>exact⟨v+1,by omega,by go_num,i,⟨rfl⟩⟩
  ·obtain rfl:n=v:=by omega
   have s0:=a.out.f0;have K:=a.out.f3;have b:=a.out.f4;obtain⟨Z,e2,L⟩:=Kd.aG a.out.d;obtain⟨e4,M,N⟩:=Kd.aG a.out.s;have u:=zA (And.intro e2 L);have x:=zA (And.intro M N);have ab:Aside0 (∀v:Nat,v<n-> -1048576<=rd (eV s o n) v/\rd (eV s o n) v<=1048576):=⟨fun v l=>by
    rw[oS s o n v (by rw[j.out];omega) (by rw[j.out];exact l),if_pos l];have:=F.out v l;rw[I.out] at this;omega⟩
   clear Z e2 L e4 M N;go_wp2_with fail
   go_quiet ((first|(go_at_call 87;with_reducible exact ur (some ⟨gd,0,none⟩) cd n d _ _ G.out z hn O.out (Kd.fK u.out.2 _) (by rw[G.out];exact u.out.1))|(go_at_call 87;with_reducible exact ur (some ⟨gs,0,none⟩) cs n (eV s o n) _ _ (by rw[nh];exact j.out) z hn ab.out (Kd.fK x.out.2 _) (by rw[nh,j.out];exact x.out.1))))
   have i:=zA (a.out.drewN nq);clear s0 K b a u x;generalize wr.drewN nq=W2 at i⊢;have K:=i.out.f3;have b:=i.out.f4;go_wp2_with fail
   go_quiet (fail)
   go_wp2;refine bodyPost_ret (results_tmp3 rfl _ _ _) rfl ?_;exact⟨rfl,by rw[I.out];exact i.out.drewN _⟩
end
def jd.f (k:Nat) (a:Int) (g:List (S83)) (e:Int) (l2:List Int):Option (Int):=(cD.f k a g).bind fun b=>(if b.2=0 then(if b.1=true then(if e<0 then(some 2) else(if e>=a then(some 2) else((bz.f k l2 a).bind fun t248=>(some t248)))) else(some 13)) else(some b.2))
theorem jd.calls (k:Nat) (g:Int) (l:Option Addr) (m:Nat) (i:List (S83)) (v:Int) (D:Option Addr) (c2:Nat) (l2:List Int) (r:Int) (w:World) (E:Kd.C aN w l i.length i) (F:i.length<=m) (G:Kd.C (Kd.int .i64) w D l2.length l2) (I:l2.length<=c2) (h:jd.f k g i v l2=some r):
  Calls Tryz.prog 108 #[.agg #[.int .i64 g,.slice l i.length m],.int .i64 v,.slice D l2.length c2] w fun e w'=>e= .returned (.int .i64 r)/\Below w.heap.size w w':=by
 have R:=Tryz.underlying24;have p:=zA E;have q:=zA F;clear E F;have J:=zA G;have K:=zA I;clear G I;have a:=zA (al w.heap.size w);unfold jd.f at h;have H:=h;clear h;obtain⟨⟨t246,t247⟩,s,H⟩:=zo H;dsimp only at H;by_cases u:t247=0
 ·rw[if_pos u] at H
  obtain⟨L,M⟩:=br u;clear u;by_cases x:t246=true
  ·subst x
   replace H:=zi H;by_cases n:v<0
   ·rw[if_pos n] at H
    have O:=ay n;clear n;obtain rfl:=aE H;go_enter Tryz.func108,Tryz.ntmps108
    go_wp2_with (first|((with_reducible refine aH (N:=3) rfl ?_);refine zX 3 #[.int .i64 g,.slice l i.length m] 24 ?_;intro y hg S j hb;have b:=zA (j);have z:=zG a hg;have B:=zG a hg;replace a:=zS a hb;clear hb j hg;obtain⟨T,U,V,W⟩:=au b)|((with_reducible refine aC (f:=113) rfl ?_);refine zL (some 11) Tryz.func113 #[.agg #[.int .i64 g,.slice l i.length m]] ?_;(with_reducible refine(cD.calls k g _ _ i true t247 _ ?af ?ah s.out).mono ?_);(case af=>exact Kd.aq p.out zB);(case ah=>exact q.out);rintro e X ⟨rfl,hb⟩;refine⟨_,rfl,?_⟩;replace b:=zb b hb;replace a:=zS a hb;(try clear hb)))
    go_ret;exact⟨zE,zB⟩
   ·rw[if_neg n] at H
    have O:=a6 n;clear n;by_cases o:v>=g
    ·rw[if_pos o] at H
     have P:=ay o;clear o;obtain rfl:=aE H;go_enter Tryz.func108,Tryz.ntmps108
     go_wp2_with (first|((with_reducible refine aH (N:=3) rfl ?_);refine zX 3 #[.int .i64 g,.slice l i.length m] 24 ?_;intro y hg Y j hb;have b:=zA (j);have z:=zG a hg;have B:=zG a hg;replace a:=zS a hb;clear hb j hg;obtain⟨Z,aa,ab,ad⟩:=au b)|((with_reducible refine aC (f:=113) rfl ?_);refine zL (some 11) Tryz.func113 #[.agg #[.int .i64 g,.slice l i.length m]] ?_;(with_reducible refine(cD.calls k g _ _ i true t247 _ ?af ?ah s.out).mono ?_);(case af=>exact Kd.aq p.out zB);(case ah=>exact q.out);rintro e ag ⟨rfl,hb⟩;refine⟨_,rfl,?_⟩;replace b:=zb b hb;replace a:=zS a hb;(try clear hb);obtain⟨ak,am,an,ap⟩:=au b))
     go_ret;exact⟨zE,zB⟩
    ·rw[if_neg o] at H
     have P:=a6 o;clear o;obtain⟨t248,Q,H⟩:=zo H;obtain rfl:=aE H;go_enter Tryz.func108,Tryz.ntmps108
     go_wp2_with (first|((with_reducible refine aH (N:=3) rfl ?_);refine zX 3 #[.int .i64 g,.slice l i.length m] 24 ?_;intro y hg ar j hb;have b:=zA (j);have z:=zG a hg;have B:=zG a hg;replace a:=zS a hb;clear hb j hg;obtain⟨av,aB,aF,aL⟩:=au b)|((with_reducible refine aC (f:=113) rfl ?_);refine zL (some 11) Tryz.func113 #[.agg #[.int .i64 g,.slice l i.length m]] ?_;(with_reducible refine(cD.calls k g _ _ i true t247 _ ?af ?ah s.out).mono ?_);(case af=>exact Kd.aq p.out zB);(case ah=>exact q.out);rintro e aO ⟨rfl,hb⟩;refine⟨_,rfl,?_⟩;replace b:=zb b hb;replace a:=zS a hb;(try clear hb);obtain⟨aP,aS,a0,a2⟩:=au b)|((with_reducible refine aC (f:=87) rfl ?_);refine zL (some 33) Tryz.func87 #[.slice D l2.length c2,.int .i64 g] ?_;(with_reducible refine(bz.calls k _ _ l2 g t248 _ ?af ?ah Q.out).mono ?_);(case af=>exact Kd.aq J.out zB);(case ah=>exact K.out);rintro e w' ⟨rfl,⟨nd,rfl⟩⟩;refine⟨_,rfl,?_⟩))
     go_ret;exact⟨zE,zB⟩
  ·replace x:=Bool.eq_false_iff.mpr x
   subst x;replace H:=zj H;obtain rfl:=aE H;go_enter Tryz.func108,Tryz.ntmps108
   go_wp2_with (first|((with_reducible refine aH (N:=3) rfl ?_);refine zX 3 #[.int .i64 g,.slice l i.length m] 24 ?_;intro y hg a4 j hb;have b:=zA (j);have z:=zG a hg;have B:=zG a hg;replace a:=zS a hb;clear hb j hg;obtain⟨a5,a9,be,bf⟩:=au b)|((with_reducible refine aC (f:=113) rfl ?_);refine zL (some 11) Tryz.func113 #[.agg #[.int .i64 g,.slice l i.length m]] ?_;(with_reducible refine(cD.calls k g _ _ i false t247 _ ?af ?ah s.out).mono ?_);(case af=>exact Kd.aq p.out zB);(case ah=>exact q.out);rintro e bg ⟨rfl,hb⟩;refine⟨_,rfl,?_⟩;replace b:=zb b hb;replace a:=zS a hb;(try clear hb)))
   go_ret;exact⟨zE,zB⟩
 ·rw[if_neg u] at H
  obtain⟨L,M⟩:=bG u;obtain rfl:=aE H;go_enter Tryz.func108,Tryz.ntmps108
  go_wp2_with (first|((with_reducible refine aH (N:=3) rfl ?_);refine zX 3 #[.int .i64 g,.slice l i.length m] 24 ?_;intro y hg bi j hb;have b:=zA (j);have z:=zG a hg;have B:=zG a hg;replace a:=zS a hb;clear hb j hg;obtain⟨bk,bn,bo,bv⟩:=au b)|((with_reducible refine aC (f:=113) rfl ?_);refine zL (some 11) Tryz.func113 #[.agg #[.int .i64 g,.slice l i.length m]] ?_;(with_reducible refine(cD.calls k g _ _ i t246 t247 _ ?af ?ah s.out).mono ?_);(case af=>exact Kd.aq p.out zB);(case ah=>exact q.out);rintro e bw ⟨rfl,hb⟩;refine⟨_,rfl,?_⟩;replace b:=zb b hb;replace a:=zS a hb;(try clear hb)))
  go_ret;exact⟨zE,zB⟩
section
attribute [local go_sem] Oper.semAt_some
def j9.f (k:Nat) (N:Int) (E:List S83) (q:Int) (d:List Int):Option (List Int×List Int×Int):=
 (jd.f k N E q d).bind fun e=>if e=0 then(if fY N E q d=true then((ia N.toNat E q.toNat d k).bind fun s=>some (dw N.toNat E d s,s,0)) else none) else some ([],[],e)
theorem Ej {n q:Nat} {t:Nat->Nat->Int} (b:T.Wt n t) (a:q<n) (hn:n<=12) (e:T.sN (T.val n t) n<=19) {D dist:Nat->Int} (g:∀v,v<n-> -200<=D v/\D v<=200) {d s:List Int} (i:d.length=n) (j:s.length=n) (hp:∀v:Nat,v<n->v≠q->0<=rd d v)
  (h:T.fa n t D dist 200 0 (fun v=>rd d (v:Nat)) (fun v=>rd s (v:Nat))):ja n q t D d s:=by
 have hb:=mR b hn e g (by omega) (by omega) h;exact⟨i,j,h.eq,hp,(hb q a).1,fun v k=>(hb v k).2.2.1,(hb q a).2.2.2⟩
theorem Ek (k:Nat) (N:Int) (A0:Option Addr) (c0:Nat) (E:List S83) (q:Int) (a:Option Addr) (c2:Nat) (d:List Int) (t:Int) (w:World) (i:Kd.C aN w A0 E.length E) (j:E.length<=c0) (b:Kd.C (Kd.int .i64) w a d.length d) (g:d.length<=c2)
  (hg:jd.f k N E q d=some t) (h:t≠0):
  Calls Tryz.prog 54 #[.agg #[.int .i64 N,.slice A0 E.length c0],.int .i64 q,.slice a d.length c2] w fun e w'=>e= .returned (.tuple #[.slice none 0 0,.slice none 0 0,.int .i64 t])/\Below w.heap.size w w':=by
 have hu:=Tryz.underlying24;have l:=zA hg;have m:=zA b;have n:=zA g;have p:(t != 0)=true:=by simpa using h
 clear hg h b g;go_enter Tryz.func54,Tryz.ntmps54
 go_wp2_with (go_at_call 108;refine(jd.calls k N A0 c0 E q a c2 d t _ (Kd.bE i _) j (Kd.bE m.out _) n.out l.out).mono ?_;rintro e w1 ⟨rfl,hb⟩;have o:=zA (a7 (ao (al w.heap.size w) _) hb);clear hb)
 refine bodyPost_ret (results_tmp3 rfl _ _ _) rfl ?_;exact⟨rfl,o.out⟩
theorem El (n:Nat) (q:Int) (A0:Option Addr) (c0:Nat) (E:List S83) (a:Option Addr) (cd:Nat) (d:List Int) (w:World) (hd:Kd.C (Kd.int .i64) w a d.length d) (b:d.length<=cd) (h:d.length=n) (h1:1<=n) (hn:n<=1000):
  Calls Tryz.prog 109 #[.agg #[.int .i64 n,.slice A0 E.length c0],.int .i64 q,.slice a d.length cd] w fun e w'=>∃g gd gs i j,e= .returned (.pointer (some ⟨g,0,none⟩))/\SI w g gd gs i j n A0 c0 E q d (List.replicate n 0) w':=by
 subst h;exact Eh d.length q A0 c0 E a cd d w hd b rfl h1 hn
theorem Em (k n:Nat) (A0:Option Addr) (c0:Nat) (E:List S83) (q:Nat) (z:Option Addr) (c2:Nat) (d s:List Int) (w:World) (J:Kd.C aN w A0 E.length E) (ag:E.length<=c0) (K:Kd.C (Kd.int .i64) w z d.length d) (L:d.length<=c2)
  (hg:jd.f k n E q d=some 0) (l:dP n q E d) (M:j8 n E q d s=true):
  Calls Tryz.prog 54 #[.agg #[.int .i64 n,.slice A0 E.length c0],.int .i64 q,.slice z d.length c2] w fun e w'=>∃gd gs m o,e= .returned (.tuple #[.slice (some ⟨gd,0,none⟩) n m,.slice (some ⟨gs,0,none⟩) n o,.int .i64 0])/\gd≠gs/\(Kd.int .i64).R 3 w' w.heap.size (fun _=>True) (.slice (some ⟨gd,0,none⟩) n m) (dw n E d s)/\(Kd.int .i64).R 3 w' w.heap.size (fun _=>True) (.slice (some ⟨gs,0,none⟩) n o) s/\Below w.heap.size w w':=by
 have hu:=Tryz.underlying24;have HG:=zA hg;have N:=zA K;have O:=zA L;have a:=zA l;have F:=(mS l.right).1 M;have G:=zA F.2;have am:=zA F.1;have P:=zA l.dl;clear hg K L F M;have Q:=l.n1;have r:=l.n12;have p:=l.q;clear l;go_enter Tryz.func54,Tryz.ntmps54
 go_wp2_with (go_at_call 108;refine(jd.calls k n A0 c0 E q z c2 d 0 _ (Kd.bE J _) ag (Kd.bE N.out _) O.out HG.out).mono ?_;rintro e w1 ⟨rfl,hb⟩;have H:=aJ (bl w (.cells #[.int .i64 n,.slice A0 E.length c0] 24)) hb;have y0:=(ai H 0).trans rfl;have y1:=(ai H 1).trans rfl;have B:=zA (a7 (ao (al w.heap.size w) _) hb);clear hb H)
 refine(El n q A0 c0 E z c2 d w1 (Kd.aq N.out B.out) O.out P.out Q (by omega)).mono ?_;rintro e w2 ⟨g,gd,gs,m,o,rfl,j⟩;have S:=zA j;have U:=zA (Kd.aq J B.out);have V:=B.out.size;clear j y0 y1;go_wp2_with (go_at_call 110;refine(Ef g gd gs m o n A0 c0 E q d w1 _ U.out a.out.right a.out.len a.out.conn r p a.out.val a.out.d P.out S.out).mono ?_;rintro e w3 ⟨rfl,d3,s3,l1,l2,j,hp,dist,hle⟩;have W:=zA j;have X:=zA (Ej a.out.right.wt p r a.out.val a.out.d l1 l2 hp hle);clear l1 l2 j hp hle S)
 refine(D3 g gd gs m o n A0 c0 E q (fun v=>rd d (v:Nat)) (fun v=>rd (dw n E d s) (v:Nat)) (fun v=>rd s (v:Nat)) d3 s3 w1 w3 U.out a.out.right a.out.len a.out.conn r p a.out.val a.out.d G.out X.out W.out).mono ?_;rintro e w4 ⟨rfl,d4,b,j,x,Y⟩;have Z:=zA j;have av:=zA (x.bounds a.out.right.wt (a.out.right.conn a.out.conn) p r a.out.val a.out.d G.out);have I:eA n q (timesOf E) (fun v=>rd d (v:Nat)) (fun v=>rd d4 (v:Nat)) (fun v=>rd b (v:Nat)-rd b q):=⟨⟨x.j4,Y⟩,fun v i=>by
  have h:=T.lD n (timesOf E) (fun u=>rd b (u:Nat)) (fun _=>rd b q) v;rw[T.jV] at h;rw[h,x.eq v i];omega,by show rd b q-rd b q=0;omega⟩
 have HU:=zA (eA.unique a.out.right.wt (a.out.right.conn a.out.conn) p I G.out);have ab:=zA (eA.bound a.out.right.wt (a.out.right.conn a.out.conn) p r a.out.val a.out.d I);have ad:=zA x.dl;have D:=zA x.sl;clear j x Y I W X;go_wp2_with (go_at_call 112;refine(Ei g gd gs m o n A0 c0 E q d4 b w1 _ Q r p Z.out ad.out D.out (fun v i=>by have:=ab.out v i;omega) (fun v i=>by have h1: -31536<=rd b v-rd b q/\rd b v-rd b q<=31536/\_:=ab.out v i;have h2:=av.out v i;omega)).mono ?_;rintro e w5 ⟨rfl,j⟩;have aB:=zA j;clear j Z)
 refine bodyPost_ret (results_tmp3 rfl _ _ _) rfl ?_;have e1:d4=dw n E d s:=uy ad.out (qA n E d s) (fun v i=>(HU.out v i).1);have e2:eV b (rd b q) n=s:=uy ((nh _ _ _).trans D.out) am.out (fun v i=>by
  rw[oS _ _ _ _ (by rw[D.out];omega) (by rw[D.out];exact i),if_pos i];exact(HU.out v i).2)
 have y:=aB.out;rw[e1,e2] at y;exact⟨gd,gs,m,o,rfl,y.ne.1,Kd.bc y.d V,Kd.bc y.s V,a7 B.out y.hb⟩
theorem j9.calls (k:Nat) (b:Int) (g:Option Addr) (i:Nat) (a:List (S83)) (j:Int) (l:Option Addr) (c2:Nat) (l2:List Int) (y:List Int) (z:List Int) (B:Int) (w:World) (D:Kd.C aN w g a.length a) (E:a.length<=i) (F:Kd.C (Kd.int .i64) w l l2.length l2) (G:l2.length<=c2) (h:j9.f k b a j l2=some (y,z,B)):
  Calls Tryz.prog 54 #[.agg #[.int .i64 b,.slice g a.length i],.int .i64 j,.slice l l2.length c2] w fun e w'=>∃o p:Value,e= .returned (.tuple #[o,p,.int .i64 B])/\Kd.R (Kd.int .i64) 3 w' w.heap.size (fun r=>some r≠(p:Value).ownBlock) o y/\Kd.R (Kd.int .i64) 3 w' w.heap.size (fun r=>some r≠(o:Value).ownBlock) p z/\Below w.heap.size w w':=by
 unfold j9.f at h;obtain⟨e,he,u⟩:=Option.bind_eq_some_iff.1 h;clear h;have h:=u;by_cases v:e=0
 ·subst v
  rw[if_pos rfl] at h;by_cases x:fY b a j l2=true
  ·rw[if_pos x] at h
   obtain⟨n,q,rfl,rfl,hk⟩:=oK x;obtain⟨s,m,u⟩:=Option.bind_eq_some_iff.1 h;clear h;have h:=u;simp only[aQ,Option.some.injEq,Prod.mk.injEq] at m h;obtain⟨rfl,rfl,rfl⟩:=h;refine(Em k n g i a q l c2 l2 s w D E F G he hk (qB m)).mono ?_;rintro e w' ⟨gd,gs,K,L,rfl,H,hd,m,hb⟩;exact⟨_,_,rfl,Kd.ba (Kd.gz rfl hd) (fun k hk e=>H (by have:=hk.symm.trans e;injection this)),Kd.ba (Kd.gz rfl m) (fun k hk e=>H (by have:=e.symm.trans hk;injection this)),hb⟩
  ·rw[if_neg x] at h;cases h
 ·rw[if_neg v] at h
  injection h with h
  injection h with h1 h
  injection h with I J
  subst h1 I J;refine(Ek k b g i a j l c2 l2 e w D E F G he v).mono ?_;rintro e' w' ⟨rfl,hb⟩;exact⟨_,_,rfl,Kd.dc _ _ _ _ _,Kd.dc _ _ _ _ _,hb⟩
end
section
attribute [local go_sem] Oper.semAt_some
theorem we (W:World) (t:TypeId) {A B:Option Addr} {a b:List Int} {e cb:Nat} (h:Kd.C (Kd.int .i64) W A a.length a) (k:a.length<=e) (hb:Kd.C (Kd.int .i64) W B b.length b) (l:b.length<=cb):
  Kd.C (Kd.slice 3 (Kd.int .i64)) (W.alloc (.cells #[.slice A a.length e,.slice B b.length cb] t)) (some ⟨W.heap.size,0,none⟩) [a,b].length [a,b]:=by
 have g:=bl W (.cells #[.slice A a.length e,.slice B b.length cb] t);refine⟨rfl,by simp,fun _=>⟨_,rfl,fun j p hp=>?_⟩⟩;match j,hp with
 |0,hp=>
  obtain rfl:a=p:=by simpa using hp
  refine⟨[.slice A a.length e],rfl,⟨A,e,rfl,k,Kd.bE h _⟩,fun i u hu=>?_⟩;match i,hu with
  |0,hu=>
   obtain rfl:Value.slice A a.length e=u:=by simpa using hu
   rw[add_plain];exact(ai g 0).trans rfl
  |i+1,hu=>simp at hu
 |1,hp=>
  obtain rfl:b=p:=by simpa using hp
  refine⟨[.slice B b.length cb],rfl,⟨B,cb,rfl,l,Kd.bE hb _⟩,fun i u hu=>?_⟩;match i,hu with
  |0,hu=>
   obtain rfl:Value.slice B b.length cb=u:=by simpa using hu
   rw[add_plain];exact(ai g 1).trans rfl
  |i+1,hu=>simp at hu
 |j+2,hp=>simp at hp
theorem qR (W:World) (t:TypeId) {A:Option Addr} {a:List Int} {b:Nat} (e:Kd.C (Kd.int .i64) W A a.length a) (g:a.length<=b):
  Kd.C (Kd.slice 3 (Kd.int .i64)) (W.alloc (.cells #[.slice A a.length b] t)) (some ⟨W.heap.size,0,none⟩) [a].length [a]:=by
 have h:=bl W (.cells #[.slice A a.length b] t);refine⟨rfl,by simp,fun _=>⟨_,rfl,fun j p hp=>?_⟩⟩;match j,hp with
 |0,hp=>
  obtain rfl:a=p:=by simpa using hp
  refine⟨[.slice A a.length b],rfl,⟨A,b,rfl,g,Kd.bE e _⟩,fun i u hu=>?_⟩;match i,hu with
  |0,hu=>
   obtain rfl:Value.slice A a.length b=u:=by simpa using hu
   rw[add_plain];exact(ai h 0).trans rfl
  |i+1,hu=>simp at hu
 |j+1,hp=>simp at hp
def il (a b:List Int) (k:Nat):List Int:=(List.range a.length).map fun v=>if v<k then rd a (v:Nat)-rd b (v:Nat) else 0
def di (a b:List Int):List Int:=il a b a.length
def ni (a b:List Int):Bool:=decide (a.length=b.length/\1<=a.length/\a.length<=12)&&a.all db&&b.all db
def iq.f (k:Nat) (a b:List Int):Option (List Int×Int):=
 (bK.f k [a,b]).bind fun e=>if e=0 then(if ni a b=true then(if(di a b).all db=true then some (di a b,0) else some ([],11)) else none) else some ([],e)
theorem iq.mono:∀l0 l1 k,aj (iq.f k l0 l1) (iq.f (k+1) l0 l1):=by
 intro a b k;unfold iq.f;exact aj.bind (bK.mono _ _) (fun _=>aj.refl _)
theorem En (x y:Int) (w:World) (a: -1048576<=x/\x<=1048576) (b: -1048576<=y/\y<=1048576):Calls Tryz.prog 59 #[.int .i64 x,.int .i64 y] w fun e w'=>e= .returned (.int .i64 (x-y))/\w'=w:=by
 obtain⟨h1,g⟩:=a;obtain⟨h,i⟩:=b;go_enter Tryz.func59,Tryz.ntmps59
 go_wp2;go_ret;exact⟨rfl,rfl⟩
theorem oT (a b:List Int) (k:Nat):(il a b k).length=a.length:=by simp[il]
theorem Eo {a b:List Int} {v:Nat} (g:v<a.length):(il a b v).set v (rd a v-rd b v)=il a b (v+1):=by
 unfold il;refine List.ext_getElem (by simp) fun i h1 j=>?_
 rw[List.getElem_set];simp only[List.getElem_map,List.getElem_range];by_cases e:v=i
 ·subst e;simp
 ·rw[if_neg e]
  by_cases h:i<v
  ·rw[if_pos h,if_pos (by omega)]
  ·rw[if_neg h,if_neg (by omega)]
theorem oU {a b:List Int} {v:Nat} (e:v<a.length):rd (di a b) v=rd a v-rd b v:=by
 rw[show rd (di a b) (v:Int)=(di a b).getD v 0 by simp[rd],di,il,bb,List.getElem?_map,List.getElem?_range e];simp[e]
theorem Ep (k:Nat) (A0:Option Addr) (c0:Nat) (a:List Int) (g:Option Addr) (c1:Nat) (b:List Int) (t:Int) (l:Value) (w:World) (h:Kd.C (Kd.int .i64) w A0 a.length a) (n:a.length<=c0) (i:Kd.C (Kd.int .i64) w g b.length b) (o:b.length<=c1)
  (hg:bK.f k [a,b]=some t) (j:t≠0):
  Calls Tryz.prog 58 #[.slice A0 a.length c0,.slice g b.length c1,l] w fun e w'=>e= .returned (.tuple #[.slice none 0 0,.int .i64 t])/\Below w.heap.size w w':=by
 have p:=zA hg;have q:=zA (we w 26 h n i o);have r:(t != 0)=true:=by simpa using j
 clear hg j h i;go_enter Tryz.func58,Tryz.ntmps58
 go_wp2_with (go_at_call 118;refine(bK.calls k (some ⟨w.heap.size,0,none⟩) 2 [a,b] t _ q.out (by simp) p.out).mono ?_;rintro e w1 ⟨rfl,⟨m,rfl⟩⟩)
 go_ret2;exact⟨rfl,b8 (ao (al _ _) _) m⟩
def iS (n:Nat) (a b:List Int) (base:Nat) (e:Ending) (w':World):Prop:=if(di a b).all db=true then ∃go co,e= .returned (.tuple #[.slice (some ⟨go,0,none⟩) n co,.int .i64 0])/\(Kd.int .i64).R 3 w' base (fun _=>True) (.slice (some ⟨go,0,none⟩) n co) (di a b) else e= .returned (.tuple #[.slice none 0 0,.int .i64 11])
theorem iS.bad {n:Nat} {a b:List Int} {base:Nat} {w':World} {v:Nat} (e:v<a.length) (h:db (rd a v-rd b v)=false):iS n a b base (.returned (.tuple #[.slice none 0 0,.int .i64 11])) w':=by
 unfold iS;rw[if_neg];intro g;rw[List.all_eq_true] at g;have i:v<(di a b).length:=by simpa [di,oT] using e
 have h1:=g (di a b)[v] (List.getElem_mem i);have j:=oU (b:=b) e;rw[show rd (di a b) (v:Int)=(di a b)[v] by simp[rd,bb,bP i]] at j;rw[j,h] at h1;cases h1
theorem Er (k n:Nat) (A0:Option Addr) (c0:Nat) (a:List Int) (S:Option Addr) (c1:Nat) (b:List Int) (w:World) (E:Kd.C (Kd.int .i64) w A0 a.length a) (am:a.length<=c0) (F:Kd.C (Kd.int .i64) w S b.length b) (an:b.length<=c1)
  (hg:bK.f k [a,b]=some 0) (G:a.length=n) (H:b.length=n) (bv:1<=n) (hn:n<=12) (T:∀v:Nat,v<n-> -1048576<=rd a v/\rd a v<=1048576) (hb:∀v:Nat,v<n-> -1048576<=rd b v/\rd b v<=1048576):
  Calls Tryz.prog 58 #[.slice A0 n c0,.slice S n c1,.func (.func 59) #[] #[]] w fun e w'=>iS n a b w.heap.size e w'/\Below w.heap.size w w':=by
 have HG:=zA hg;have I:=we w 26 E am F an;rw[G,H] at I;have HC:=zA I;have av:=zA E;have aB:=zA F;have HA:=zA T;have HB:=zA hb;have q:=zA G;have aO:=zA H;have aP:(0:Int)<=(n:Int):=by omega
 clear hg E F T hb I G H;go_enter Tryz.func58,Tryz.ntmps58
 go_wp2_with (first|(go_at_call 118;refine(bK.calls k (some ⟨w.heap.size,0,none⟩) 2 [a,b] 0 _ HC.out (by simp) HG.out).mono ?_;rintro e w1 ⟨rfl,⟨m,rfl⟩⟩)|((with_reducible refine aH (N:=20) rfl ?_);refine Kd.jM (Kd.int .i64) (w0:=w) w.heap.size 3 rfl (N:=20) rfl 26 _ _ rfl (n:Int) rfl rfl Tryz.underlying26 (.int .i64 0) 8 gD rfl (by decide) (by omega) 0 (ok:=fun _=>True) (okp:=fun _=>True) rfl (fun _ hk=>hk) trivial aP (by simp;omega) (b8 (ao (al _ _) _) m) (by simp) ?_;intro v1 w5 r hb a0 a1;rw[aQ] at r;obtain⟨go,co,J,a2,bw, -⟩:=Kd.fC r (by rw[List.length_replicate];omega);rw[List.length_replicate] at J;subst J;have U:=zA r;have V:=zA hb;clear r hb a0 a1))
 have W:Aside0 ((Kd.int .i64).R 3 w5 w.heap.size (fun _=>True) (.slice (some ⟨go,0,none⟩) n co) (il a b 0)):=⟨by
  have h:=U.out;rw[show List.replicate n (0:Int)=il a b 0 from by
   rw[<-q.out];unfold il;refine List.ext_getElem (by simp) fun i h1 h2=>?_
   simp] at h
  exact h⟩
 clear U;go_loopg [23] (n) (fun kq vv wr=>∃v:Nat,v<=n/\vv= .int .i64 v/\Aside0 ((Kd.int .i64).R 3 wr w.heap.size (fun _=>True) (.slice (some ⟨go,0,none⟩) n co) (il a b v))/\Aside0 (Below w.heap.size w wr)/\Aside0 (∀u:Nat,u<v->db (rd a u-rd b u)=true)/\Aside0 (kq=n-v))
 case atStart=>exact⟨0,by omega,rfl,W,V,⟨fun u hu=>by omega⟩,⟨rfl⟩⟩
 case round=>
  clear W V;obtain⟨v,J,rfl,s,l,X,HK⟩:=hrel;by_cases Y:v<n
  ·have b0:(0:Int)<=(v:Int):=by omega
   have b1:(v:Int)<(n:Int):=by omega
   have Z:=q.out;have a9:=aO.out;obtain⟨aa,ea,K⟩:=Kd.bT (Kd.aq av.out l.out) (v:Int) (by omega) (by omega);obtain⟨ab,eb,L⟩:=Kd.bT (Kd.aq aB.out l.out) (v:Int) (by omega) (by omega);subst ea eb;rw[aQ] at K L;obtain⟨g,hf⟩:=Kd.bW 0 s.out (v:Int) (by omega) (by omega);rw[aQ] at g hf;generalize bV 0 (il a b v) (v:Int)=z at g;replace g:wr.cell? ⟨go,v,none⟩=some (.int .i64 z):=g;have ad:=HA.out v Y;have ag:=HB.out v Y;have M:=Kd.dh (Kd.bq s.out) (v:Int) (rd a v-rd b v);rw[aQ,Eo (show v<a.length by omega)] at M;have B:=zA M.1;have o:=zA (Below.setCell (p:=⟨go,v,none⟩) (bU l.out) a2 (.int .i64 (rd a v-rd b v)));have O:=zA (show db (rd a v-rd b v)=true->∀u:Nat,u<v+1->db (rd a u-rd b u)=true from fun h u hu=>by
    by_cases e:u=v
    ·subst e;exact h
    ·exact X.out u (by omega))
   have P:Aside0 (db (rd a v-rd b v)=false->∀w',iS n a b w.heap.size (.returned (.tuple #[.slice none 0 0,.int .i64 11])) w'):=⟨fun h w'=>iS.bad (by omega) h⟩;have b4:=zA Z;clear M s l Z a9;generalize rd a v=x at K ad B o O P;generalize rd b v=y at L ag B o O P;go_wp2_with fail
   refine wp_region_still_tail 13 (by kernel_rfl) (by kernel_rfl) ?_;simp only[List.take_succ_cons,List.take_zero,List.drop_succ_cons,List.drop_zero];repeat(first|still_step|still_call (En x y _ ad ag))
   refine wpStill_nil ?_;change wpList _ _ _ _ _ wr.drew
   have bg:wr.drew.cell? ⟨go,v,none⟩=some (.int .i64 z):=g;have bi:wr.drew.frozen? ⟨go,v,none⟩=false:=hf;clear g hf K L;generalize wr.drew=W2 at B o bg bi⊢;have D:=zA (uo (x-y));cases j:db (x-y) with
   |true=>
    have Q:=zA j;rw[j] at D;clear j;go_wp2_with (go_at_call 119;refine(iH.calls (x-y) true _ D.out).mono ?_;rintro e w8 ⟨rfl,⟨m8,rfl⟩⟩)
    go_roundg (n- (v+1))
    case measure=>rw[HK.out];omega
    case rel=>exact⟨v+1,by omega,by go_num,⟨Kd.bB B.out _⟩,⟨b8 o.out _⟩,⟨O.out Q.out⟩,⟨rfl⟩⟩
   |false=>
    have Q:=zA j;rw[j] at D;clear j;go_wp2_with (go_at_call 119;refine(iH.calls (x-y) false _ D.out).mono ?_;rintro e w8 ⟨rfl,⟨m8,rfl⟩⟩)
    go_ret2;exact⟨P.out Q.out _,b8 o.out _⟩
  ·obtain rfl:n=v:=by omega
   go_wp2;go_ret2;have bn:(di a b).all db=true:=by
    rw[List.all_eq_true];intro x hx;obtain⟨u,hu,rfl⟩:=List.getElem_of_mem hx;have ak:u<a.length:=by simpa [di,oT] using hu
    have:=X.out u (by rw[<-q.out];exact ak);rw[<-oU ak] at this;simpa [rd,bb,bP hu] using this
   refine⟨?_,l.out⟩;unfold iS;rw[if_pos bn];refine⟨go,co,rfl,?_⟩;have h:=s.out;unfold di;rw[q.out];exact h
theorem wg {l:List Int}:l.all db=true↔∀v:Nat,v<l.length-> -1048576<=rd l v/\rd l v<=1048576:=by
 have e:∀(v:Nat) (a:v<l.length),rd l (v:Int)=l[v]:=fun v a=>by simp[rd,bb,bP a]
 rw[List.all_eq_true];constructor
 ·intro h v a
  rw[e v a];simpa [db] using h l[v] (List.getElem_mem a)
 ·intro h x b
  obtain⟨v,a,rfl⟩:=List.getElem_of_mem b;have:=h v a;rw[e v a] at this;simpa [db] using this
theorem Es (k:Nat) (A0:Option Addr) (c0:Nat) (a:List Int) (g:Option Addr) (c1:Nat) (b:List Int) (t:Int) (w:World) (h:Kd.C (Kd.int .i64) w A0 a.length a) (i:a.length<=c0) (j:Kd.C (Kd.int .i64) w g b.length b) (l:b.length<=c1)
  (hg:bK.f k [a,b]=some t) (m:t≠0):
  Calls Tryz.prog 16 #[.slice A0 a.length c0,.slice g b.length c1] w fun e w'=>e= .returned (.tuple #[.slice none 0 0,.int .i64 t])/\Below w.heap.size w w':=by
 have n:=zA (Ep k A0 c0 a g c1 b t (.func (.func 59) #[] #[]) w h i j l hg m);clear h i j l hg m;go_enter Tryz.func16,Tryz.ntmps16
 go_wp2_with (go_at_call 58;refine n.out.mono ?_;rintro e w1 ⟨rfl,hb⟩;have o:=zA hb;clear hb)
 go_ret2;exact⟨rfl,o.out⟩
theorem Et (k n:Nat) (A0:Option Addr) (c0:Nat) (a:List Int) (g:Option Addr) (c1:Nat) (b:List Int) (w:World) (m:Kd.C (Kd.int .i64) w A0 a.length a) (o:a.length<=c0) (p:Kd.C (Kd.int .i64) w g b.length b) (q:b.length<=c1)
  (hg:bK.f k [a,b]=some 0) (i:a.length=n) (j:b.length=n) (y:1<=n) (hn:n<=12) (r:∀v:Nat,v<n-> -1048576<=rd a v/\rd a v<=1048576) (hb:∀v:Nat,v<n-> -1048576<=rd b v/\rd b v<=1048576):
  Calls Tryz.prog 16 #[.slice A0 a.length c0,.slice g b.length c1] w fun e w'=>iS n a b w.heap.size e w'/\Below w.heap.size w w':=by
 have z:=zA (Er k n A0 c0 a g c1 b w m o p q hg i j y hn r hb);rw[i,j];clear m o p q hg r hb i j;have s:=zA (show ∀e w',iS n a b w.heap.size e w'->(∃go co,e= .returned (.tuple #[.slice (some ⟨go,0,none⟩) n co,.int .i64 0]))\/e= .returned (.tuple #[.slice none 0 0,.int .i64 11]) from fun e w' h=>by
  unfold iS at h;split at h
  ·obtain⟨go,co,he, -⟩:=h;exact .inl ⟨go,co,he⟩
  ·exact .inr h)
 go_enter Tryz.func16,Tryz.ntmps16
 go_wp2_with fail
 refine z.out.mono ?_;rintro e w1 ⟨l,hb⟩;have u:=zA l;have x:=zA hb;have hp:=s.out e w1 l;clear l hb s;rcases hp with⟨go,co,rfl⟩|rfl
 ·go_wp2
  go_ret2;exact⟨u.out,x.out⟩
 ·go_wp2
  go_ret2;exact⟨u.out,x.out⟩
theorem iq.calls (k:Nat) (A0:Option Addr) (c0:Nat) (l0:List Int) (g:Option Addr) (c1:Nat) (l1:List Int) (j:List Int) (l:Int) (w:World) (m:Kd.C (Kd.int .i64) w A0 l0.length l0) (n:l0.length<=c0) (o:Kd.C (Kd.int .i64) w g l1.length l1) (p:l1.length<=c1) (h:iq.f k l0 l1=some (j,l)):
  Calls Tryz.prog 16 #[.slice A0 l0.length c0,.slice g l1.length c1] w fun e w'=>∃q:Value,e= .returned (.tuple #[q,.int .i64 l])/\Kd.R (Kd.int .i64) 3 w' w.heap.size (fun _=>True) q j/\Below w.heap.size w w':=by
 unfold iq.f at h;obtain⟨e,he,r⟩:=Option.bind_eq_some_iff.1 h;clear h;have h:=r;clear r;by_cases i:e=0
 ·subst i
  rw[if_pos rfl] at h;by_cases a:ni l0 l1=true
  ·rw[if_pos a] at h
   unfold ni at a;simp only[Bool.and_eq_true,decide_eq_true_eq] at a;obtain⟨⟨⟨h1,u,x⟩,y⟩,z⟩:=a;refine(Et k l0.length A0 c0 l0 g c1 l1 w m n o p he rfl h1.symm u x (wg.1 y) (fun v D=>wg.1 z v (by omega))).mono ?_;rintro e w' ⟨b,hb⟩;unfold iS at b;by_cases s:(di l0 l1).all db=true
   ·rw[if_pos s] at b h
    obtain⟨go,co,rfl,B⟩:=b;simp only[Option.some.injEq,Prod.mk.injEq] at h;obtain⟨rfl,rfl⟩:=h;exact⟨_,rfl,B,hb⟩
   ·rw[if_neg s] at b h
    simp only[Option.some.injEq,Prod.mk.injEq] at h;obtain⟨rfl,rfl⟩:=h;exact⟨_,b,Kd.dc _ _ _ _ _,hb⟩
  ·rw[if_neg a] at h;cases h
 ·rw[if_neg i] at h
  simp only[Option.some.injEq,Prod.mk.injEq] at h;obtain⟨rfl,rfl⟩:=h;refine(Es k A0 c0 l0 g c1 l1 e w m n o p he i).mono ?_;rintro e' w' ⟨rfl,hb⟩;exact⟨_,rfl,Kd.dc _ _ _ _ _,hb⟩
end
def je.f (k:Nat) (b:Int) (e:List (S83)) (l1:List Int):Option (Bool×List Int×List Int×Int):=(j9.f k b e 0 l1).bind fun a=>(if a.2.2=0 then(if 0<(a.1.length:Int) then(some (decide ((rd a.1 0)>=0),a.1,a.2.1,0)) else(none)) else(some (false,([]:List Int),([]:List Int),a.2.2)))
theorem je.calls (k:Nat) (g:Int) (j:Option Addr) (l:Nat) (b:List (S83)) (p:Option Addr) (c1:Nat) (l1:List Int) (z:Bool) (B:List Int) (D:List Int) (E:Int) (w:World) (F:Kd.C aN w j b.length b) (G:b.length<=l) (I:Kd.C (Kd.int .i64) w p l1.length l1) (J:l1.length<=c1) (h:je.f k g b l1=some (z,B,D,E)):
  Calls Tryz.prog 14 #[.agg #[.int .i64 g,.slice j b.length l],.slice p l1.length c1] w fun e w'=>∃s u:Value,e= .returned (.tuple #[.bool z,s,u,.int .i64 E])/\Kd.R (Kd.int .i64) 3 w' w.heap.size (fun v=>some v≠(u:Value).ownBlock) s B/\Kd.R (Kd.int .i64) 3 w' w.heap.size (fun v=>some v≠(s:Value).ownBlock) u D/\Below w.heap.size w w':=by
 have ad:=Tryz.underlying24;have K:=zA F;have L:=zA G;clear F G;have M:=zA I;have O:=zA J;clear I J;have a:=zA (al w.heap.size w);unfold je.f at h;have H:=h;clear h;obtain⟨⟨t250,t253,t256⟩,P,H⟩:=zo H;dsimp only at H;by_cases c4:t256=0
 ·rw[if_pos c4] at H
  obtain⟨T,U⟩:=br c4;clear c4;by_cases q:0<(t250.length:Int)
  ·rw[if_pos q] at H
   have ag:=ay q;have ak:decide (0<t250.length)=true:=ay (by omega);clear q;simp only[Option.some.injEq,Prod.mk.injEq] at H;obtain⟨rfl,rfl,rfl,rfl⟩:=H;go_enter Tryz.func14,Tryz.ntmps14
   go_wp2_with (first|((with_reducible refine aH (N:=2) rfl ?_);refine zX 2 #[.int .i64 g,.slice j b.length l] 24 ?_;intro V hg w6 m hb;have i:=zA (m);have W:=zG a hg;have X:=zG a hg;replace a:=zS a hb;clear hb m hg;obtain⟨an,ap,ar,av⟩:=au i)|((with_reducible refine aC (f:=54) rfl ?_);refine zL (some 14) Tryz.func54 #[.agg #[.int .i64 g,.slice j b.length l],.int .i64 0,.slice p l1.length c1] ?_;(with_reducible refine(j9.calls k g _ _ b 0 _ _ l1 t250 t253 t256 _ ?af ?ah ?aT ?aU P.out).mono ?_);(case af=>exact Kd.aq K.out zB);(case ah=>exact L.out);(case aT=>exact Kd.aq M.out zB);(case aU=>exact O.out);rintro e w8 ⟨Y,Z,rfl,n,o,hb⟩;refine⟨_,rfl,?_⟩;have r:=zA (Kd.bc n (bs zB));have Q:=zA (Kd.bc o (bs zB));replace i:=zb i hb;replace a:=zS a hb;(try clear hb);(try clear n);(try clear o);obtain⟨aF,aL,aa⟩:=Kd.bm r.out;subst aa;have x:0<=(0:Int):=(by omega);have y:0<(t250.length:Int):=ax ‹_›;obtain⟨aO,ab,S⟩:=Kd.bT (Kd.aG r.out).2.2 0 x y;cases ab;have aP:(0<t250.length)=True:=eq_true (by omega);(try rw[show ((0:Int)).toNat=0 from rfl] at S);(try rw[Addr.add_zero'] at S);replace x:=eq_true x;replace y:=eq_true y))
   refine bodyPost_ret (rX (rs:=[.tmp 4,.tmp 5,.tmp 6,.tmp 7]) rfl (by simp) (.tmp (.tmp (.tmp (.tmp .nil))))) rfl ?_;exact⟨_,_,zE,by(with_reducible repeat(first|apply Kd.aM|apply Kd.bB|apply Kd.bq));exact r.out,by(with_reducible repeat(first|apply Kd.aM|apply Kd.bB|apply Kd.bq));exact Q.out,zB⟩
  ·rw[if_neg q] at H
   exact absurd H (by simp)
 ·rw[if_neg c4] at H
  obtain⟨T,U⟩:=bG c4;simp only[Option.some.injEq,Prod.mk.injEq] at H;obtain⟨rfl,rfl,rfl,rfl⟩:=H;go_enter Tryz.func14,Tryz.ntmps14
  go_wp2_with (first|((with_reducible refine aH (N:=2) rfl ?_);refine zX 2 #[.int .i64 g,.slice j b.length l] 24 ?_;intro V hg aS m hb;have i:=zA (m);have W:=zG a hg;have X:=zG a hg;replace a:=zS a hb;clear hb m hg;obtain⟨a0,a1,a2,a3⟩:=au i)|((with_reducible refine aC (f:=54) rfl ?_);refine zL (some 14) Tryz.func54 #[.agg #[.int .i64 g,.slice j b.length l],.int .i64 0,.slice p l1.length c1] ?_;(with_reducible refine(j9.calls k g _ _ b 0 _ _ l1 t250 t253 t256 _ ?af ?ah ?aT ?aU P.out).mono ?_);(case af=>exact Kd.aq K.out zB);(case ah=>exact L.out);(case aT=>exact Kd.aq M.out zB);(case aU=>exact O.out);rintro e a4 ⟨Y,Z,rfl,n,o,hb⟩;refine⟨_,rfl,?_⟩;have r:=zA (Kd.bc n (bs zB));have Q:=zA (Kd.bc o (bs zB));replace i:=zb i hb;replace a:=zS a hb;(try clear hb);(try clear n);(try clear o)))
  refine bodyPost_ret (rX (rs:=[.tmp 4,.tmp 5,.tmp 6,.tmp 7]) rfl (by simp) (.tmp (.tmp (.tmp (.tmp .nil))))) rfl ?_;exact⟨_,_,zE,by first|exact Kd.dc _ _ _ _ _|exact Kd.gA _ _ _ _ _|exact Kd.V_nil _ _ _ _ _|exact Kd.Q_nil _ _ _ _ _|exact Kd.fQ _ _ _ _ _,by first|exact Kd.dc _ _ _ _ _|exact Kd.gA _ _ _ _ _|exact Kd.V_nil _ _ _ _ _|exact Kd.Q_nil _ _ _ _ _|exact Kd.fQ _ _ _ _ _,zB⟩
def fh.l0:Nat->List (List Int)->Int->Int->Int->List (S83)->Option (Int)
 |0,_,_,_,_,_=>none
 |k+1,b,e,a,g,i=>if a<e then(if 0<=a then(if a<(b.length:Int) then((bz.f k (aZ b a) g).bind fun h=>(if h=0 then(fh.l0 k b e (wrap64 (a+1)) g i) else(some h))) else(none)) else(none)) else(some 0)
def fh.f (k:Nat) (b:Int) (e:List (S83)) (l1:List (List Int)):Option (Int):=(cD.f k b e).bind fun a=>(if a.2=0 then(if a.1=true then(fh.l0 k l1 (l1.length:Int) 0 b e) else(some 13)) else(some a.2))
theorem fh.calls (k:Nat) (b:Int) (l:Option Addr) (m:Nat) (i:List (S83)) (T:Option Addr) (c1:Nat) (l1:List (List Int)) (r:Int) (w:World) (U:Kd.C aN w l i.length i) (V:i.length<=m) (W:Kd.C (Kd.slice 3 (Kd.int .i64)) w T l1.length l1) (X:l1.length<=c1) (h:fh.f k b i l1=some r):
  Calls Tryz.prog 93 #[.agg #[.int .i64 b,.slice l i.length m],.slice T l1.length c1] w fun e w'=>e= .returned (.int .i64 r)/\Below w.heap.size w w':=by
 have a0:=Tryz.underlying24;have F:=zA U;have G:=zA V;clear U V;have Y:=zA W;have a1:=zA X;clear W X;have a:=zA (al w.heap.size w);unfold fh.f at h;have H:=h;clear h;obtain⟨⟨Z,y⟩,I,H⟩:=zo H;dsimp only at H;by_cases c4:y=0
 ·rw[if_pos c4] at H
  obtain⟨aa,ab⟩:=br c4;clear c4;by_cases z:Z=true
  ·subst z
   replace H:=zi H;have B:=zA H;clear H;go_enter Tryz.func93,Tryz.ntmps93
   go_wp2_with (first|((with_reducible refine aH (N:=2) rfl ?_);refine zX 2 #[.int .i64 b,.slice l i.length m] 24 ?_;intro J hg w6 n hb;have j:=zA (n);have ad:=zG a hg;have ag:=zG a hg;replace a:=zS a hb;clear hb n hg;obtain⟨ap,ar,av,aB⟩:=au j)|((with_reducible refine aC (f:=113) rfl ?_);refine zL (some 12) Tryz.func113 #[.agg #[.int .i64 b,.slice l i.length m]] ?_;(with_reducible refine(cD.calls k b _ _ i true y _ ?af ?ah I.out).mono ?_);(case af=>exact Kd.aq F.out zB);(case ah=>exact G.out);rintro e w8 ⟨rfl,hb⟩;refine⟨_,rfl,?_⟩;replace j:=zb j hb;replace a:=zS a hb;(try clear hb)))
   go_loopg [22] k (fun kq v22 w'=>∃(g:Int),v22= .int .i64 g/\Aside0 (fh.l0 kq l1 (l1.length:Int) g b i=some r)/\Aside0 (kq<=k)/\Aside0 (w'.heap[J]? =some (.cells #[.int .i64 b,(.slice l i.length m)] 24 (0,0)))/\Aside0 (Below w.heap.size w w'))
   case atStart=>exact⟨(0),zT,B,⟨aI _⟩,⟨zK j⟩,⟨zB⟩⟩
   case round=>
    clear B;clear aa ab ap ar av aB;obtain⟨g,rfl,K,am,j,a⟩:=hrel;cases gk with
    |zero=>exact absurd K.out (by simp[fh.l0])
    |succ L=>
     have H:=K.out;clear K;simp only[fh.l0] at H;by_cases s:g<(l1.length:Int)
     ·rw[if_pos s] at H
      have aF:=ay s;clear s;by_cases D:0<=g
      ·rw[if_pos D] at H
       have a4:=ay D;clear D;by_cases E:g<(l1.length:Int)
       ·rw[if_pos E] at H
        have a5:=ay E;clear E;obtain⟨M,an,H⟩:=zo H;by_cases u:M=0
        ·rw[if_pos u] at H
         obtain⟨aL,aO⟩:=br u;clear u;have B:=zA H;clear H;have o:0<=(g:Int):=ax ‹_›;have p:g<(l1.length:Int):=ax ‹_›;obtain⟨aP,O,P,Q,q,v,x⟩:=fT Y.out g o p;cases Q;replace q:=(a.out.cell (a8 w _ q)).trans q;have R:=zA x;have S:=zA v;clear x v;replace o:=eq_true o;replace p:=eq_true p;obtain⟨a9,be,bf,bg⟩:=au j;go_wp2_with (first|((with_reducible refine aC (f:=87) rfl ?_);refine zL (some 29) Tryz.func87 #[.slice O (aZ l1 g).length P,.int .i64 b] ?_;(with_reducible refine(bz.calls L _ _ (aZ l1 g) b M _ ?af ?ah an.out).mono ?_);(case af=>exact Kd.aq R.out zB);(case ah=>exact S.out);rintro e w' ⟨rfl,⟨nd,rfl⟩⟩;refine⟨_,rfl,?_⟩))
         go_roundg L
         case measure=>have:=am.out;omega
         case rel=>exact⟨(wrap64 (g+1)),zT,B,⟨by have:=am.out;omega⟩,⟨zK j⟩,⟨zB⟩⟩
        ·rw[if_neg u] at H
         obtain⟨aL,aO⟩:=bG u;obtain rfl:=aE H;have o:0<=(g:Int):=ax ‹_›;have p:g<(l1.length:Int):=ax ‹_›;obtain⟨aP,O,P,Q,q,v,x⟩:=fT Y.out g o p;cases Q;replace q:=(a.out.cell (a8 w _ q)).trans q;have R:=zA x;have S:=zA v;clear x v;replace o:=eq_true o;replace p:=eq_true p;obtain⟨bi,bk,bn,bo⟩:=au j;go_wp2_with (first|((with_reducible refine aC (f:=87) rfl ?_);refine zL (some 29) Tryz.func87 #[.slice O (aZ l1 g).length P,.int .i64 b] ?_;(with_reducible refine(bz.calls L _ _ (aZ l1 g) b M _ ?af ?ah an.out).mono ?_);(case af=>exact Kd.aq R.out zB);(case ah=>exact S.out);rintro e w' ⟨rfl,⟨nd,rfl⟩⟩;refine⟨_,rfl,?_⟩))
         go_ret;exact⟨zE,zB⟩
       ·rw[if_neg E] at H
        exact absurd H (by simp)
      ·rw[if_neg D] at H
       exact absurd H (by simp)
     ·rw[if_neg s] at H
      have aF:=a6 s;clear s;obtain rfl:=aE H;go_wp2;go_ret;exact⟨zE,zB⟩
  ·replace z:=Bool.eq_false_iff.mpr z
   subst z;replace H:=zj H;obtain rfl:=aE H;go_enter Tryz.func93,Tryz.ntmps93
   go_wp2_with (first|((with_reducible refine aH (N:=2) rfl ?_);refine zX 2 #[.int .i64 b,.slice l i.length m] 24 ?_;intro J hg bv n hb;have j:=zA (n);have ad:=zG a hg;have ag:=zG a hg;replace a:=zS a hb;clear hb n hg;obtain⟨bw,bx,b0,b1⟩:=au j)|((with_reducible refine aC (f:=113) rfl ?_);refine zL (some 12) Tryz.func113 #[.agg #[.int .i64 b,.slice l i.length m]] ?_;(with_reducible refine(cD.calls k b _ _ i false y _ ?af ?ah I.out).mono ?_);(case af=>exact Kd.aq F.out zB);(case ah=>exact G.out);rintro e b2 ⟨rfl,hb⟩;refine⟨_,rfl,?_⟩;replace j:=zb j hb;replace a:=zS a hb;(try clear hb)))
   go_ret;exact⟨zE,zB⟩
 ·rw[if_neg c4] at H
  obtain⟨aa,ab⟩:=bG c4;obtain rfl:=aE H;go_enter Tryz.func93,Tryz.ntmps93
  go_wp2_with (first|((with_reducible refine aH (N:=2) rfl ?_);refine zX 2 #[.int .i64 b,.slice l i.length m] 24 ?_;intro J hg b3 n hb;have j:=zA (n);have ad:=zG a hg;have ag:=zG a hg;replace a:=zS a hb;clear hb n hg;obtain⟨b4,b5,b6,b_⟩:=au j)|((with_reducible refine aC (f:=113) rfl ?_);refine zL (some 12) Tryz.func113 #[.agg #[.int .i64 b,.slice l i.length m]] ?_;(with_reducible refine(cD.calls k b _ _ i Z y _ ?af ?ah I.out).mono ?_);(case af=>exact Kd.aq F.out zB);(case ah=>exact G.out);rintro e b' ⟨rfl,hb⟩;refine⟨_,rfl,?_⟩;replace j:=zb j hb;replace a:=zS a hb;(try clear hb)))
  go_ret;exact⟨zE,zB⟩
def d_.f (k:Nat) (b:Int) (e:List (S83)):Option (Int):=(cD.f k b e).bind fun a=>(if a.2=0 then(if a.1=true then(some 0) else(some 13)) else(some a.2))
theorem d_.mono:∀a0 a k,aj (d_.f k a0 a) (d_.f (k+1) a0 a):=by
 intro a0 a k;unfold d_.f;with_reducible repeat' first|exact cD.mono _ _ _|exact aj.refl _|exact aj.none _|refine aj.ite ?_ ?_|refine aj.bind ?_ (fun _=>?_)
theorem d_.calls (k:Nat) (g:Int) (j:Option Addr) (l:Nat) (b:List (S83)) (r:Int) (w:World) (q:Kd.C aN w j b.length b) (s:b.length<=l) (h:d_.f k g b=some r):
  Calls Tryz.prog 55 #[.agg #[.int .i64 g,.slice j b.length l]] w fun e w'=>e= .returned (.int .i64 r)/\Below w.heap.size w w':=by
 have B:=Tryz.underlying24;have n:=zA q;have o:=zA s;clear q s;have a:=zA (al w.heap.size w);unfold d_.f at h;have H:=h;clear h;obtain⟨⟨t198,t199⟩,p,H⟩:=zo H;dsimp only at H;by_cases c3:t199=0
 ·rw[if_pos c3] at H
  obtain⟨y,z⟩:=br c3;clear c3;by_cases c4:t198=true
  ·subst c4
   replace H:=zi H;obtain rfl:=aE H;go_enter Tryz.func55,Tryz.ntmps55
   go_wp2_with (first|((with_reducible refine aH (N:=1) rfl ?_);refine zX 1 #[.int .i64 g,.slice j b.length l] 24 ?_;intro u hg D m hb;have i:=zA (m);have v:=zG a hg;have x:=zG a hg;replace a:=zS a hb;clear hb m hg;obtain⟨E,F,G,I⟩:=au i)|((with_reducible refine aC (f:=113) rfl ?_);refine zL (some 7) Tryz.func113 #[.agg #[.int .i64 g,.slice j b.length l]] ?_;(with_reducible refine(cD.calls k g _ _ b true t199 _ ?af ?ah p.out).mono ?_);(case af=>exact Kd.aq n.out zB);(case ah=>exact o.out);rintro e J ⟨rfl,hb⟩;refine⟨_,rfl,?_⟩;replace i:=zb i hb;replace a:=zS a hb;(try clear hb)))
   go_ret;exact⟨zE,zB⟩
  ·replace c4:=Bool.eq_false_iff.mpr c4
   subst c4;replace H:=zj H;obtain rfl:=aE H;go_enter Tryz.func55,Tryz.ntmps55
   go_wp2_with (first|((with_reducible refine aH (N:=1) rfl ?_);refine zX 1 #[.int .i64 g,.slice j b.length l] 24 ?_;intro u hg K m hb;have i:=zA (m);have v:=zG a hg;have x:=zG a hg;replace a:=zS a hb;clear hb m hg;obtain⟨L,M,O,P⟩:=au i)|((with_reducible refine aC (f:=113) rfl ?_);refine zL (some 7) Tryz.func113 #[.agg #[.int .i64 g,.slice j b.length l]] ?_;(with_reducible refine(cD.calls k g _ _ b false t199 _ ?af ?ah p.out).mono ?_);(case af=>exact Kd.aq n.out zB);(case ah=>exact o.out);rintro e Q ⟨rfl,hb⟩;refine⟨_,rfl,?_⟩;replace i:=zb i hb;replace a:=zS a hb;(try clear hb)))
   go_ret;exact⟨zE,zB⟩
 ·rw[if_neg c3] at H
  obtain⟨y,z⟩:=bG c3;obtain rfl:=aE H;go_enter Tryz.func55,Tryz.ntmps55
  go_wp2_with (first|((with_reducible refine aH (N:=1) rfl ?_);refine zX 1 #[.int .i64 g,.slice j b.length l] 24 ?_;intro u hg gV m hb;have i:=zA (m);have v:=zG a hg;have x:=zG a hg;replace a:=zS a hb;clear hb m hg;obtain⟨R,S,T,U⟩:=au i)|((with_reducible refine aC (f:=113) rfl ?_);refine zL (some 7) Tryz.func113 #[.agg #[.int .i64 g,.slice j b.length l]] ?_;(with_reducible refine(cD.calls k g _ _ b t198 t199 _ ?af ?ah p.out).mono ?_);(case af=>exact Kd.aq n.out zB);(case ah=>exact o.out);rintro e V ⟨rfl,hb⟩;refine⟨_,rfl,?_⟩;replace i:=zb i hb;replace a:=zS a hb;(try clear hb)))
  go_ret;exact⟨zE,zB⟩
theorem qS {n:Nat} {E:List S83} (e:E.length<=1000) (b:cJ n E=0) (hp:partsOf E n=1):Ev (fun k=>cD.f k n E) (true,(0:Int)):=by
 obtain⟨h1,i,a⟩:=gK b;unfold cD.f;have hg:=nT (n:Int) E e;rw[b] at hg;refine Ev.bind hg ?_;have g:lO (n:Int) E=true:=by
  unfold lO;rw[ay (by omega),Bool.true_and];refine List.all_eq_true.2 fun x h=>?_
  have:=a.ok x h;simp[bX] at this⊢;omega
 simp only[if_true,if_pos g,aQ];rw[show decide (bZ (aK E) n=1)=true from ay ((tj (by omega) (lH a.db)).2 ((kE (by omega) a).1 hp))];exact Ev.const _
theorem nj {l:List Int} {n:Nat} (h1:1<=n) (a:n<=12) (b:l.length=n) (hb:∀v:Nat,v<n-> -1048576<=rd l v/\rd l v<=1048576):fO l n=0:=qz.2 ⟨by omega,by omega,by omega,fun v e=>hb v (by omega)⟩
theorem Eu {n q:Nat} {E:List S83} {d:List Int} (h:dP n q E d) (b:cJ n E=0):Ev (fun k=>jd.f k n E q d) 0:=by
 unfold jd.f;have h1:=h.q;refine Ev.bind (qS h.len b ((kE h.n1 h.right).2 h.conn)) ?_;simp only[if_true,if_neg (show ¬(q:Int)<0 by omega),if_neg (show ¬(q:Int)>=(n:Int) by omega)];refine Ev.bind (a:=(0:Int)) ?_ (Ev.const _);have:=kJ d n (by have:=h.dl;have:=h.n12;omega);rw[nj h.n1 h.n12 h.dl (fun v e=>by have:=h.d v e;omega)] at this;exact this
theorem Ew {n q:Nat} {E:List S83} {d:List Int} (h:dP n q E d) (a:cJ n E=0):∃s,Ev (fun k=>j9.f k n E q d) (dw n E d s,s,(0:Int))/\s.length=n/\eA n q (timesOf E) (fun v=>rd d (v:Nat)) (fun v=>rd (dw n E d s) (v:Nat)) (fun v=>rd s (v:Nat)):=by
 obtain⟨s,h1,b,e⟩:=Cc h.right h.conn h.q d;refine⟨s,?_,b,e⟩;unfold j9.f;refine Ev.bind (Eu h a) ?_;simp only[if_true,if_pos (h.ok a),aQ];exact Ev.bind h1 (Ev.const _)
theorem wh {n:Nat} {E:List S83} {d:List Int} (h:dP n 0 E d) (a:cJ n E=0):∃s,Ev (fun k=>je.f k n E d) (decide (rd (dw n E d s) 0>=0),dw n E d s,s,(0:Int))/\s.length=n/\eA n 0 (timesOf E) (fun v=>rd d (v:Nat)) (fun v=>rd (dw n E d s) (v:Nat)) (fun v=>rd s (v:Nat)):=by
 obtain⟨s,h1,b,e⟩:=Ew h a;refine⟨s,?_,b,e⟩;unfold je.f;refine Ev.bind h1 ?_;have:=h.n1;simp only[if_true,if_pos (show (0:Int)<((dw n E d s).length:Int) by rw[qA];omega)];exact Ev.const _
theorem Ex {n:Nat} {E:List S83} {d:List Int} (h:dP n 0 E d) (b:cJ n E=0):Ev (fun k=>fh.f k n E [d]) 0:=by
 unfold fh.f;refine Ev.bind (qS h.len b ((kE h.n1 h.right).2 h.conn)) ?_;simp only[if_true];refine Ev.of_succ ?_;simp only[fh.l0,List.length_singleton,if_pos (show (0:Int)<((1:Nat):Int) by decide),if_pos (show (0:Int)<=0 by decide),lZ,nc];have a:=kJ d n (by have:=h.dl;have:=h.n12;omega);rw[nj h.n1 h.n12 h.dl (fun v e=>by have:=h.d v e;omega)] at a;refine Ev.bind a ?_;simp only[if_true];refine Ev.of_succ ?_;simp only[fh.l0,if_neg (show ¬(1:Int)<((1:Nat):Int) by decide)];exact Ev.const _
theorem Ey {n:Nat} {E:List S83} {d s:List Int} (h:dP n 0 E d) (b:eA n 0 (timesOf E) (fun v=>rd d (v:Nat)) (fun v=>rd (dw n E d s) (v:Nat)) (fun v=>rd s (v:Nat))):rd (dw n E d s) 0>=0↔T.b9 n (timesOf E) (fun v=>rd d (v:Nat)):=by
 have g:=h.q;have he:T.bQ n (timesOf E) (fun v=>rd d (v:Nat)) (fun v=>rd (dw n E d s) (v:Nat)):=⟨_,b.eq⟩;have e:=T.mE h.right.wt g b.red;constructor
 ·intro a
  exact(e.2 a).fs he.symm
 ·intro a
  exact e.1 (a.fs he)
section
namespace Small
variable {n q:Nat} {E:List S83}
end Small
end
section
attribute [local go_sem] Oper.semAt_some
def eH (d:List Int):Nat->Int
 |0=>0
 |k+1=>eH d k+rd d k
theorem qT {d:List Int} {n:Nat} (hd:∀v:Nat,v<n-> -1048576<=rd d v/\rd d v<=1048576):∀k,k<=n-> -(k*1048576)<=eH d k/\eH d k<=k*1048576
 |0,_=>by simp[eH]
 |k+1,h=>by
  have h1:=qT hd k (by omega);have a:=hd k (by omega);unfold eH;omega
theorem Ez (A0:Option Addr) (c0 n:Nat) (d:List Int) (w:World) (b:Kd.C (Kd.int .i64) w A0 d.length d) (p:d.length<=c0) (a:d.length=n) (K:1<=n) (hn:n<=12) (hd:∀v:Nat,v<n-> -1048576<=rd d v/\rd d v<=1048576):
  Calls Tryz.prog 148 #[.slice A0 n c0] w fun e w'=>e= .returned (.tuple #[.int .i64 (eH d n),.int .i64 0])/\Below w.heap.size w w':=by
 obtain⟨k,hk⟩:=(DW d (by omega)).get;rw[show qO d=0 from qz.2 ⟨by omega,by omega,rfl,fun v l=>hd v (by omega)⟩] at hk;have q:=zA hk;have g:=qR w 26 b p;rw[a] at g;have r:=zA g;have s:=zA b;have u:=zA hd;have z:=zA a;have B:=zA (qT hd);clear hk b hd g a;go_enter Tryz.func148,Tryz.ntmps148
 go_wp2_with (go_at_call 118;refine(bK.calls k (some ⟨w.heap.size,0,none⟩) 1 [d] 0 _ r.out (by simp) q.out).mono ?_;rintro e w1 ⟨rfl,⟨m,rfl⟩⟩)
 have h:=zA (b8 (ao (al w.heap.size w) (.cells #[.slice A0 n c0] 26)) m);generalize (w.alloc (.cells #[.slice A0 n c0] 26)).drewN m=W1 at h⊢;go_loopg [5,16] (n) (fun D E F wr=>∃v:Nat,v<=n/\F= .int .i64 v/\E= .int .i64 (eH d v)/\Aside0 (Below w.heap.size w wr)/\Aside0 (D=n-v))
 case atStart=>exact⟨0,by omega,rfl,rfl,h,⟨rfl⟩⟩
 case round=>
  clear h;obtain⟨v,l,rfl,rfl,i,G⟩:=hrel;by_cases H:v<n
  ·have L:(0:Int)<=(v:Int):=by omega
   have M:(v:Int)<(n:Int):=by omega
   have a:=z.out;obtain⟨N,I,o⟩:=Kd.bT (Kd.aq s.out i.out) (v:Int) (by omega) (by omega);subst I;rw[aQ] at o;have h1:=u.out v H;have J:=B.out v l;have j:=zA (show eH d (v+1)=eH d v+rd d v from rfl);clear a;generalize rd d v=x at o h1 j;generalize eH d v=y at J j⊢;go_wp2;go_roundg (n- (v+1))
   case measure=>rw[G.out];omega
   case rel=>exact⟨v+1,by omega,by go_num,by rw[j.out],i,⟨rfl⟩⟩
  ·obtain rfl:n=v:=by omega
   go_wp2;go_ret2;exact⟨rfl,i.out⟩
end
end Go.Proofs.YtffdiakgjakngaaGreat.P


namespace Go.Proofs.YtffdiakgjakngaaGreat.P
open Go.RowKit Go.Maps Go.Proofs.YtffdiakgjakngaaGreatW.PrintWords Go.Proofs.YtffdiakgjakngaaGreatW.PrintLast Go.Proofs.YtffdiakgjakngaaGreatW.PrintMore
set_option linter.unusedVariables false
set_option linter.unusedSimpArgs false
set_option maxHeartbeats 8000000
set_option maxRecDepth 100000
section
theorem wj {α:Type} (f:α->α):∀(l:List α) (j:Nat) (e:α),l[j]? =some e->l.modify j f=l.set j (f e)
 |[],j,e,h=>by simp at h
 |x::l,0,e,h=>by
  obtain rfl:x=e:=by simpa using h
  rfl
 |x::l,j+1,e,h=>by
  have:=wj f l j e (by simpa using h);simp[this]
def ec (l:List Int):Value:=.agg (l.map (Value.int .i64)).toArray
def l5 (l:List Int):Prop:=l.length=12/\∀x∈l, -1000000<=x/\x<=1000000
theorem ka:WideMaps.KeyLaw Tryz.prog 172:=deep_law (m:=2) (by decide) (by kernel_rfl) (by kernel_rfl) (by kernel_rfl)
theorem mapM_some {α β:Type} {f:α->Option β}:∀{l:List α},(∀x∈l,∃y,f x=some y)->∃ys,l.mapM f=some ys
 |[],_=>⟨[],rfl⟩
 |x::l,h=>by
  obtain⟨y,a⟩:=h x (List.mem_cons_self ..);obtain⟨ys,b⟩:=mapM_some (l:=l) (fun z e=>h z (List.mem_cons_of_mem _ e));exact⟨y::ys,by rw[List.mapM_cons,a,b];rfl⟩
theorem qU:Tryz.prog.underlying 172=some (.array 12 3):=by kernel_rfl
theorem wk:Tryz.prog.cellsOf 172=12:=by kernel_rfl
theorem EA:Tryz.prog.cellsOf 3=1:=by kernel_rfl
theorem EB:Tryz.prog.keyType 172=true:=by kernel_rfl
theorem EC:∃m,Tryz.prog.types.size=m+1:=⟨Tryz.prog.types.size-1,by
 have h:decide (0<Tryz.prog.types.size)=true:=by kernel_rfl
 have a:=ax h;omega⟩
theorem oV {l:List Int} (h:l5 l):∃s,keyOf Tryz.prog 172 (ec l)=some s:=by
 unfold keyOf;rw[qU];have hf:(ec l).formed Tryz.prog 172=true:=by
  unfold ec Value.formed;rw[qU,wk];simp[h.1]
 simp only[EB,hf,Bool.and_self,if_true];obtain⟨m,hm⟩:=EC;rw[hm];unfold Program.keyLits;rw[qU];have b:(ec l).cells.toList=l.map (Value.int .i64):=by simp[ec,Value.cells]
 rw[b];dsimp only;rw[wk,EA];simp only[List.length_map,h.1,if_true];obtain⟨ys,g⟩:=mapM_some (f:=fun i=>Tryz.prog.keyLits (m+1) 3 (List.take 1 (List.drop (i*1) (l.map (Value.int .i64))))) (l:=List.range 12) (fun i hi=>by
  have hi:=List.mem_range.1 hi;have a:i<l.length:=by rw[h.1];exact hi
  have e:List.take 1 (List.drop (i*1) (l.map (Value.int .i64)))=[Value.int .i64 l[i]]:=by
   rw[Nat.mul_one,List.drop_eq_getElem_cons (by simpa using a)];simp
  have hb:=h.2 l[i] (List.getElem_mem a);refine⟨[.int .i64 l[i]],?_⟩;show Tryz.prog.keyLits (m+1) 3 (List.take 1 (List.drop (i*1) (l.map (Value.int .i64))))=_
  rw[e];unfold Program.keyLits;rw[Tryz.underlying3];simp only[true_and];rw[if_pos (WalkArith.wf_i64 (by omega))])
 rw[g];exact⟨_,rfl⟩
theorem ED {a b:List Int} (h:ec a=ec b):a=b:=by
 unfold ec at h;injection h with h
 have e:=congrArg Array.toList h;simp only at e;have key:∀a b:List Int,a.map (Value.int .i64)=b.map (Value.int .i64)->a=b:=by
  intro a;induction a with
  |nil=>intro b h;cases b with|nil=>rfl|cons y b=>simp at h
  |cons x a g=>
   intro b h;cases b with
   |nil=>simp at h
   |cons y b=>
    simp only[List.map_cons,List.cons.injEq,Value.int.injEq,true_and] at h;rw[h.1,g b h.2]
 exact key a b e
def dS (G:List Int->Int->Prop) (w:World) (b:Nat):Prop:=∃es clock,w.heap[b]? =some (.map es clock)/\(∀e∈es.toList,∃l x,e.key=ec l/\e.val= .int .i64 x/\l5 l/\G l x)/\(es.toList.map fun e=>e.key).Pairwise (· ≠ ·)
namespace dS
variable {G:List Int->Int->Prop} {w w':World} {b:Nat}
theorem lt (h:dS G w b):b<w.heap.size:=by
 obtain⟨es,c,h, -⟩:=h;exact az h
theorem iK (h:dS G w b) (hk:w'.heap[b]? =w.heap[b]?):dS G w' b:=by
 obtain⟨es,c,h1,a,e⟩:=h;exact⟨es,c,hk.trans h1,a,e⟩
theorem below (h:dS G w b) (hb:Below w.heap.size w w'):dS G w' b:=h.iK (hb.block b h.lt)
theorem alloc (h:dS G w b) (o:Obj):dS G (w.alloc o) b:=h.below (ao (al _ _) o)
theorem hZ (h:dS G w b) (p:Addr) (v:Value) (hp:b≠p.block):dS G (w.setCell p v) b:=h.iK (Below.heap_setCell _ _ _ _ hp)
theorem made (w:World):dS G (w.alloc (.map #[] 0)) w.heap.size:=⟨#[],0,bl w _,fun e he=>by simp at he,by simp⟩
theorem look (h:dS G w b) (y:∀w,(zeroValue 3).run Tryz.prog w= .ok (.int .i64 0) w) {l:List Int} (o:l5 l):
  (∃x,G l x/\∀w':World,w'.heap[b]? =w.heap[b]? ->(Instr.lookup 169 (.map (some b)) (ec l) true).run Tryz.prog w'= .ok (.tuple #[.int .i64 x,.bool true]) w')\/(∀w':World,w'.heap[b]? =w.heap[b]? ->(Instr.lookup 169 (.map (some b)) (ec l) true).run Tryz.prog w'= .ok (.tuple #[.int .i64 0,.bool false]) w'):=by
 obtain⟨es,c,hb,r,p⟩:=h;have u:∀e∈es.toList,∃l,keyOf Tryz.prog 172 e.key=some l:=fun e he=>by
  obtain⟨l,x,hk, -,o, -⟩:=r e he;rw[hk];exact oV o
 obtain⟨s,n⟩:=oV o;by_cases hex:∃(j:Nat) (e:MapEntry),es.toList[j]? =some e/\e.key=ec l
 ·left
  obtain⟨j,e,i,hk⟩:=hex;obtain⟨l',x,a,z,D,B⟩:=r e (List.mem_of_getElem? i);obtain rfl:=ED (a.symm.trans hk);refine⟨x,B,fun w' q=>?_⟩;rcases ka.find w' n es.toList u with⟨h1,v⟩|⟨k,e',h1,g,a⟩
  ·exact absurd hk (v e (List.mem_of_getElem? i))
  ·have C:e'=e:=by
    have l1:=(List.getElem?_eq_some_iff.1 i).1;have l2:=(List.getElem?_eq_some_iff.1 g).1;have g1:=(List.getElem?_eq_some_iff.1 i).2;have g2:=(List.getElem?_eq_some_iff.1 g).2;rw[List.pairwise_iff_getElem] at p;rcases Nat.lt_trichotomy j k with m|m|m
    ·have:=p j k (by simpa using l1) (by simpa using l2) m
     simp only[List.getElem_map,g1,g2] at this;exact absurd (hk.trans a.symm) this
    ·subst m
     rw[i] at g;exact(aE g).symm
    ·have:=p k j (by simpa using l2) (by simpa using l1) m
     simp only[List.getElem_map,g1,g2] at this;exact absurd (a.trans hk.symm) this
   subst C;simp[Instr.lookup,run_underlying Tryz.underlying169,MapKept.run_getObj_map (q.trans hb),ka.check w' _ n,h1,z,Result.andThen]
 ·right
  intro w' q;rcases ka.find w' n es.toList u with⟨h1,v⟩|⟨k,e',h1,g,a⟩
  ·simp[Instr.lookup,run_underlying Tryz.underlying169,MapKept.run_getObj_map (q.trans hb),ka.check w' _ n,h1,y,Result.andThen]
  ·exact absurd ⟨k,e',g,a⟩ hex
theorem store (h:dS G w b) {l:List Int} {x:Int} (a:l5 l) (o:G l x):
  ∃w',(Instr.mapUpdate 169 (.map (some b)) (ec l) (.int .i64 x)).run Tryz.prog w= .ok () w'/\dS G w' b/\w.grownBy w' (some b):=by
 obtain⟨es,c,hb,n,p⟩:=h;have u:∀e∈es.toList,∃l,keyOf Tryz.prog 172 e.key=some l:=fun e he=>by
  obtain⟨l,x,hk, -,a, -⟩:=n e he;rw[hk];exact oV a
 obtain⟨s,g⟩:=oV a;have q:=az hb;rcases ka.find w g es.toList u with⟨h1,v⟩|⟨j,e,h1,m,hk⟩
 ·refine⟨w.putObj b (.map (es.push ⟨ec l,.int .i64 x,c⟩) (c+1)),?_,⟨_,_,World.putObj_heap_same q,fun e he=>?_,?_⟩,?_⟩
  ·simp[Instr.mapUpdate,run_underlying Tryz.underlying169,MapKept.run_getObj_map hb,ka.check w _ g,h1,MapKept.run_setObj_map _ hb,Result.andThen,World.putObj]
  ·simp only[Array.toList_push,List.mem_append,List.mem_singleton] at he
   rcases he with he|rfl
   ·exact n e he
   ·exact⟨l,x,rfl,rfl,a,o⟩
  ·simp only[Array.toList_push,List.map_append,List.map_cons,List.map_nil]
   refine List.pairwise_append.2 ⟨p,by simp,fun k hk k' y=>?_⟩;obtain rfl:=List.mem_singleton.1 y;obtain⟨e,he,rfl⟩:=List.mem_map.1 hk;exact v e he
  ·exact grownBy_putObj' w b _
 ·have z:j<es.toList.length:=(List.getElem?_eq_some_iff.1 m).1
  have B:es[j]? =some e:=by simpa using m
  have r:(es.modify j (fun e'=>{e' with key:=ec l,val:=.int .i64 x})).toList=es.toList.set j {e with key:=ec l,val:=.int .i64 x}:=by rw[Array.toList_modify,wj _ _ _ _ m]
  refine⟨w.putObj b (.map (es.modify j (fun e'=>{e' with key:=ec l,val:=.int .i64 x})) c),?_,⟨_,_,World.putObj_heap_same q,fun e' he=>?_,?_⟩,?_⟩
  ·simp[Instr.mapUpdate,run_underlying Tryz.underlying169,MapKept.run_getObj_map hb,ka.check w _ g,h1,B,hk,ka.stays w g,MapKept.run_setObj_map _ hb,Result.andThen,World.putObj]
  ·rw[r] at he
   rcases List.mem_or_eq_of_mem_set he with he|rfl
   ·exact n e' he
   ·exact⟨l,x,rfl,rfl,a,o⟩
  ·rw[r]
   have:(es.toList.set j {e with key:=ec l,val:=.int .i64 x}).map (fun e=>e.key)=es.toList.map (fun e=>e.key):=by
    rw[List.map_set];refine List.ext_getElem (by simp) fun i D a2=>?_
    rw[List.getElem_set];split
    ·rename_i C
     subst C;have:es.toList[j]=e:=by
      have:=bP z;rw[m] at this;exact(aE this).symm
     simp only[List.getElem_map,this];exact hk.symm
    ·rfl
   rw[this];exact p
  ·exact grownBy_putObj' w b _
theorem len (h:dS G w b) (ty:TypeId):∃m:Nat,(Builtin.len_ #[169] ty #[.map (some b)]).run Tryz.prog w= .ok (.int .i64 m) w/\∃a:List (List Int),a.length=m/\a.Pairwise (· ≠ ·)/\∀l∈a,∃x,G l x:=by
 obtain⟨es,c,hb,j,n⟩:=h;refine⟨es.size,by simp[Builtin.len_,run_underlying Tryz.underlying169,MapKept.run_getObj_map hb,goInt,Result.andThen],?_⟩;have key:∀L:List MapEntry,(∀e∈L,∃l x,e.key=ec l/\e.val= .int .i64 x/\l5 l/\G l x)->(L.map fun e=>e.key).Pairwise (· ≠ ·)->∃a:List (List Int),a.length=L.length/\a.map ec=L.map (fun e=>e.key)/\a.Pairwise (· ≠ ·)/\∀l∈a,∃x,G l x:=by
  intro L;induction L with
  |nil=>intro _ _;exact⟨[],rfl,rfl,List.Pairwise.nil,fun l o=>by cases o⟩
  |cons e L p=>
   intro h i;obtain⟨l,x,hk, -, -,q⟩:=h e (List.mem_cons_self ..);rw[List.map_cons,List.pairwise_cons] at i;obtain⟨a,i1,i2,i3,i4⟩:=p (fun e he=>h e (List.mem_cons_of_mem _ he)) i.2;refine⟨l::a,by simp[i1],by simp[i2,hk],List.pairwise_cons.2 ⟨fun k g r=>?_,i3⟩,fun k g=>?_⟩
   ·subst r
    refine i.1 (ec l) ?_ hk;rw[<-i2];exact List.mem_map.2 ⟨l,g,rfl⟩
   ·rcases List.mem_cons.1 g with rfl|g
    ·exact⟨x,q⟩
    ·exact i4 k g
 obtain⟨a,i1, -,i3,i4⟩:=key es.toList j n;exact⟨a,by simpa using i1,i3,i4⟩
end dS
end
end Go.Proofs.YtffdiakgjakngaaGreat.P
namespace Go.Proofs.YtffdiakgjakngaaGreat.P
open Go.RowKit Go.Proofs.YtffdiakgjakngaaGreatW.PrintWords Go.Proofs.YtffdiakgjakngaaGreatW.PrintLast Go.Proofs.YtffdiakgjakngaaGreatW.PrintMore
set_option linter.unusedVariables false
set_option linter.unusedSimpArgs false
set_option maxHeartbeats 8000000
set_option maxRecDepth 100000
section
attribute [local go_sem] Oper.semAt_some jk jl jm jn
theorem oW (d:List Int):∀n,eH d n=T.sN (fun v=>rd d (v:Nat)) n
 |0=>rfl
 |n+1=>by
  show eH d n+_=T.sN _ n+_
  rw[oW d n]
def gh (W:World) (a:Nat) (n:Nat) (A0:Option Addr) (E:List S83) (c0:Nat) (g:Int) (b:Nat):Prop:=W.heap[a]? =some (.cells #[.int .i64 n,.slice A0 E.length c0,.int .i64 g,.map (some b)] 171 (0,0))
def eW (a:Nat) (W W':World):Prop:=Below a W W'/\∀k,k<W.heap.size->k≠a->W'.heap[k]? =W.heap[k]?
theorem eW.l6 {a:Nat} {W W':World} (h:Below W.heap.size W W') (hm:a<=W.heap.size):eW a W W':=⟨h.mono hm,fun k hk _=>h.block k hk⟩
theorem eW.trans {a:Nat} {A B C:World} (h:eW a A B) (b:eW a B C):eW a A C:=⟨h.1.trans b.1,fun k hk e=>(b.2 k (Nat.lt_of_lt_of_le hk h.1.size) e).trans (h.2 k hk e)⟩
theorem eW.wm {a:Nat} {W W':World} (h:eW a W W') {k:Nat} {cs:Array Value} {t:TypeId} (hk:W.heap[k]? =some (.cells cs t (0,0))) (b:k≠a):W'.heap[k]? =some (.cells cs t (0,0)):=(h.2 k (az hk) b).trans hk
structure qV (n:Nat) (E:List S83) (g:Int):Prop where
 n1:1<=n
 n12:n<=12
 right:bt n E
 conn:fw n E
 len:E.length<=1000
 val:T.sN (T.val n (timesOf E)) n<=19
 gen:T.IsGenus n (timesOf E) g
 g0: -100<=g/\g<=100
 wu:∀d:List Int,dP n 0 E d->∃k s,je.f k n E d=some (decide (rd (dw n E d s) 0>=0),dw n E d s,s,0)/\j8 n E 0 d s=true
 bY:∀a:List (List Int),a.Pairwise (· ≠ ·)->(∀l∈a,∃x,jA n (timesOf E) g l x)->a.length<16384
def oX (n:Nat) (d:List Int):Prop:=d.length=n/\∀v:Nat,v<n-> -200<=rd d v/\rd d v<=200
def qW (n:Nat) (t:Nat->Nat->Int) (g:Int) (d:List Int) (a:Nat) (W:World) (e:Ending) (W':World):Prop:=∃r:Int,e= .returned (.tuple #[.int .i64 r,.int .i64 0])/\Rk n t d r/\dS (jA n t g) W' a/\eW a W W'
theorem wv (n:Nat) (A0:Option Addr) (c0:Nat) (E:List S83) (g:Int) (q i:Nat) (w0:World) (g3:Kd.C aN w0 A0 E.length E) (er:E.length<=c0) (hG:qV n E g) (g4:w0.heap.size<=i)
  (d:List Int) (A:Option Addr) (c:Nat) (W:World) (hd:oX n d) (ih:0<=eH d n->∀(d':List Int) (A':Option Addr) (c':Nat) (W':World),oX n d'->eH d' n<eH d n->Below w0.heap.size w0 W'->gh W' q n A0 E c0 g i->dS (jA n (timesOf E) g) W' i->Kd.C (Kd.int .i64) W' A' d'.length d'->d'.length<=c'->Calls Tryz.prog 95 #[.pointer (some ⟨q,0,none⟩),.slice A' n c'] W' (qW n (timesOf E) g d' i W')) (hB:Below w0.heap.size w0 W) (hF:gh W q n A0 E c0 g i) (hM:dS (jA n (timesOf E) g) W i) (ak:q≠i) (hC:Kd.C (Kd.int .i64) W A d.length d) (hc:d.length<=c):
  Calls Tryz.prog 95 #[.pointer (some ⟨q,0,none⟩),.slice A n c] W (qW n (timesOf E) g d i W):=by
  have IH:=zA ih;have X:=zA hG;have HD:=zA hd;have HB:=zA hB;have HF:=zA hF;have HM:=zA hM;have HC:=zA hC;have c7:=zA hc;have e1:=hG.n1;have b6:=hG.n12;have e2:=hG.g0;have h8:=Tryz.underlying171;have hu:=Tryz.underlying24;have g6:=hM.lt;have h9:=az hF;have e3:=zA (qT (n:=n) (d:=d) (fun v Q=>by have:=hd.2 v Q;omega) n (aI n));have e4:=zA (oW d n);clear ih hG hd hB hF hM hC hc;go_enter Tryz.func95,Tryz.ntmps95
  go_wp2_with fail
  refine(Ez A c n d W HC.out c7.out HD.out.1 e1 b6 (fun v Q=>by have:=HD.out.2 v Q;omega)).mono ?_;rintro e w1 ⟨rfl,hb⟩;have b_:=zA hb;have b':=zA (show gh w1 q n A0 E c0 g i from aJ HF.out hb);have ap:=zA (HM.out.below hb);clear hb;have ca:=zA (a7 HB.out b_.out);have cb:=zA (eW.l6 b_.out (Nat.le_of_lt g6));have y2:w1.cell? ⟨q,2,none⟩=some (.int .i64 g):=(ai b'.out 2).trans rfl;have y0:w1.cell? ⟨q,0,none⟩=some (.int .i64 n):=(ai b'.out 0).trans rfl;have y1:w1.cell? ⟨q,1,none⟩=some (.slice A0 E.length c0):=(ai b'.out 1).trans rfl;have Z:0<n:=by omega
  have aa:=zA X.out.right.wt;have e5:=zA (X.out.right.conn X.out.conn);have hb:=e3.out;have bw:Aside0 (eH d n=T.sN (fun v=>rd d (v:Nat)) n):=e4;generalize g7:eH d n=S at hb IH bw⊢;have g8: -20000000<=S:=by omega
  have g9:S<=20000000:=by omega
  clear g7 hb e3 e4;by_cases e6:S<0
  ·have P:Aside0 (Rk n (timesOf E) d (-1)):=⟨uC aa.out Z (fun hw=>by have:=hw.bh aa.out;rw[<-bw.out] at this;omega)⟩
   have g':decide (S<0)=true:=ay e6;go_wp2;go_ret2;exact⟨-1,rfl,P.out,ap.out,cb.out⟩
  have g':decide (S<0)=false:=a6 e6;by_cases cc:2*g-2<S
  ·have P:Aside0 (Rk n (timesOf E) d (S-g)):=⟨by rw[bw.out];exact Ce aa.out e5.out Z X.out.gen (by rw[<-bw.out];exact cc)⟩
   have ha:decide (2*g-2<S)=true:=ay cc;obtain⟨he,hf⟩:=e2;go_wp2;go_ret2;exact⟨S-g,rfl,P.out,ap.out,cb.out⟩
  have ha:decide (2*g-2<S)=false:=a6 cc;obtain⟨he,hf⟩:=e2;obtain⟨kW,s,e',hs⟩:=X.out.wu d ⟨e1,b6,Z,X.out.len,X.out.right,X.out.conn,X.out.val,HD.out.1,HD.out.2⟩;have cd:=(mS X.out.right).1 hs;have ce:=zA cd.2;have Y:=zA (qA n E d s);have bx:=zA e';have fn:=zA (Kd.aq g3 ca.out);have fo:=zA (Kd.aq HC.out b_.out);have c8:=zA (eA.bound aa.out e5.out Z b6 X.out.val HD.out.2 cd.2);have b0:Aside0 (T.bQ n (timesOf E) (fun v=>rd d (v:Nat)) (fun v=>rd (dw n E d s) (v:Nat))):=⟨⟨_,cd.2.eq⟩⟩;have hg:=zA HD.out.1;clear e' hs cd;generalize dw n E d s=cl at ce Y bx c8 b0;have hh:=hg.out;subst hh;cases aO:decide (rd cl 0>=0) with
  |false=>
   have aP:¬0<=rd cl (0:Nat):=by simpa using aO
   have P:Aside0 (Rk d.length (timesOf E) d (-1)):=⟨uC aa.out Z (fun hw=>aP ((T.mE aa.out Z ce.out.red).1 (hw.fs b0.out)))⟩;rw[aO] at bx;clear aO aP;go_wp2_with (go_at_call 14;refine(je.calls kW d.length A0 c0 E A c d false cl s 0 _ fn.out er fo.out c7.out bx.out).mono ?_;rintro e w2 ⟨v1,v2,rfl,aS,c9,ad⟩;have cf:=zA (cb.out.trans (eW.l6 ad (Nat.le_of_lt ap.out.lt)));have a0:=zA (ap.out.below ad);clear aS c9 ad)
   go_ret2;exact⟨-1,rfl,P.out,a0.out,cf.out⟩
  |true=>
   have aP:0<=rd cl (0:Nat):=by simpa using aO
   have hl:Aside0 (T.b9 d.length (timesOf E) (fun v=>rd cl (v:Nat))):=⟨(T.mE aa.out Z ce.out.red).2 aP⟩;have hm:=zA aP;rw[aO] at bx;clear aO aP;go_wp2_with (go_at_call 14;refine(je.calls kW d.length A0 c0 E A c d true cl s 0 _ fn.out er fo.out c7.out bx.out).mono ?_;rintro e w2 ⟨v1,v2,rfl,aS,c9,ad⟩;obtain⟨l,cr,rfl,ii,im, -⟩:=Kd.fC aS (by rw[Y.out];omega);rw[Y.out] at aS⊢;have ch:=zA (Kd.ba aS (ok':=fun _=>True) (fun _ _=>trivial));have cf:=zA (cb.out.trans (eW.l6 ad (Nat.le_of_lt ap.out.lt)));have a0:=zA (ap.out.below ad);have fq:=zA (a7 ca.out ad);have fr:=zA (show gh w2 q d.length A0 E c0 g i from aJ b'.out ad);have io:=ad.size;clear aS c9 ad)
   obtain⟨qs,ft,dk⟩:∃qs:List Int,qs=jb cl/\qs.length=12:=⟨_,rfl,Ch (by rw[Y.out];exact b6)⟩;have HQ:=zA ft;have fv:=Kd.aG ch.out;have hn:=zA fv.2.2;rw[run_copy_row _ (w2.alloc (.cells #[.int .i64 0,.int .i64 0,.int .i64 0,.int .i64 0,.int .i64 0,.int .i64 0,.int .i64 0,.int .i64 0,.int .i64 0,.int .i64 0,.int .i64 0,.int .i64 0] 172)) 25 26 3 3 w2.heap.size 0 12 12 ⟨l,0,none⟩ d.length cr _ 172 (cl.map (Value.int .i64)) Tryz.underlying25 (by kernel_rfl) (bl w2 _) (by rw[List.length_map,Y.out];show d.length=min d.length 12;omega) (fun j v hj=>by
    obtain⟨dl,hp⟩:=List.getElem?_eq_some_iff.1 hj;rw[List.length_map] at dl;have h:=(Kd.bW 0 (Kd.aM ch.out (.cells #[.int .i64 0,.int .i64 0,.int .i64 0,.int .i64 0,.int .i64 0,.int .i64 0,.int .i64 0,.int .i64 0,.int .i64 0,.int .i64 0,.int .i64 0,.int .i64 0] 172)) (j:Int) (by omega) (by rw[Y.out] at dl;omega)).1;rw[aQ] at h;rw[add_plain,h,<-hp];simp[bV,bb,bP dl]) (by rw[List.length_map,Y.out];simp;omega) (fun v Q=>by obtain⟨x, -,rfl⟩:=List.mem_map.1 Q;rfl)]
   have hq:∃z B D F G H I J K M N O:Int,qs=[z,B,D,F,G,H,I,J,K,M,N,O]:=by
    match qs,dk with
    |[z,B,D,F,G,H,I,J,K,M,N,O],_=>exact⟨_,_,_,_,_,_,_,_,_,_,_,_,rfl⟩
   obtain⟨z,B,D,F,G,H,I,J,K,M,N,O,hk⟩:=hq;rw[show ((#[.int .i64 0,.int .i64 0,.int .i64 0,.int .i64 0,.int .i64 0,.int .i64 0,.int .i64 0,.int .i64 0,.int .i64 0,.int .i64 0,.int .i64 0,.int .i64 0]:Array Value).toList.take 0++cl.map (Value.int .i64)++(#[.int .i64 0,.int .i64 0,.int .i64 0,.int .i64 0,.int .i64 0,.int .i64 0,.int .i64 0,.int .i64 0,.int .i64 0,.int .i64 0,.int .i64 0,.int .i64 0]:Array Value).toList.drop (0+(cl.map (Value.int .i64)).length)).toArray=#[.int .i64 z,.int .i64 B,.int .i64 D,.int .i64 F,.int .i64 G,.int .i64 H,.int .i64 I,.int .i64 J,.int .i64 K,.int .i64 M,.int .i64 N,.int .i64 O] from by
    rw[show (#[.int .i64 0,.int .i64 0,.int .i64 0,.int .i64 0,.int .i64 0,.int .i64 0,.int .i64 0,.int .i64 0,.int .i64 0,.int .i64 0,.int .i64 0,.int .i64 0]:Array Value).toList=List.replicate 12 (Value.int .i64 0) from rfl,List.take_zero,List.nil_append,List.length_map,Nat.zero_add,List.drop_replicate];have h:qs.map (Value.int .i64)=cl.map (Value.int .i64)++List.replicate (12-cl.length) (Value.int .i64 0):=by rw[HQ.out,jb,List.map_append,List.map_replicate]
    rw[<-h,hk];rfl]
   have ds:=zA hk;have U:=zA (setRow_heap (w2.alloc (.cells #[.int .i64 0,.int .i64 0,.int .i64 0,.int .i64 0,.int .i64 0,.int .i64 0,.int .i64 0,.int .i64 0,.int .i64 0,.int .i64 0,.int .i64 0,.int .i64 0] 172)) w2.heap.size _ #[.int .i64 z,.int .i64 B,.int .i64 D,.int .i64 F,.int .i64 G,.int .i64 H,.int .i64 I,.int .i64 J,.int .i64 K,.int .i64 M,.int .i64 N,.int .i64 O] _ _ (bl w2 _));have ar:=zA (below_setRow (g:=w2.heap.size) (ao (al w2.heap.size w2) (.cells #[.int .i64 0,.int .i64 0,.int .i64 0,.int .i64 0,.int .i64 0,.int .i64 0,.int .i64 0,.int .i64 0,.int .i64 0,.int .i64 0,.int .i64 0,.int .i64 0] 172)) (aI _) #[.int .i64 z,.int .i64 B,.int .i64 D,.int .i64 F,.int .i64 G,.int .i64 H,.int .i64 I,.int .i64 J,.int .i64 K,.int .i64 M,.int .i64 N,.int .i64 O]);clear hk ft fv;rw[Result.andThen_ok];generalize (w2.alloc (.cells #[.int .i64 0,.int .i64 0,.int .i64 0,.int .i64 0,.int .i64 0,.int .i64 0,.int .i64 0,.int .i64 0,.int .i64 0,.int .i64 0,.int .i64 0,.int .i64 0] 172)).setRow w2.heap.size #[.int .i64 z,.int .i64 B,.int .i64 D,.int .i64 F,.int .i64 G,.int .i64 H,.int .i64 I,.int .i64 J,.int .i64 K,.int .i64 M,.int .i64 N,.int .i64 O]=y at U ar⊢;rw[Oper.upon_value];have f0:=zA (a7 fq.out ar.out);have dv:=zA (show gh y q d.length A0 E c0 g i from aJ fr.out ar.out);have a1:=zA (a0.out.below ar.out);have d0:=zA (cf.out.trans (eW.l6 ar.out (Nat.le_of_lt a0.out.lt)));have f1:=zA (Kd.cR ch.out ar.out);have f2:l≠i:=by have:=ap.out.lt;omega
   have f4:w2.heap.size≠i:=by have:=a0.out.lt;omega
   have d1:l≠w2.heap.size:=by omega
   clear fq fr a0 cf ch ar hn;have f5:Aside0 (l5 qs):=⟨⟨dk,fun x hx=>by
    rw[HQ.out,jb] at hx;rcases List.mem_append.1 hx with hx|hx
    ·obtain⟨v,Q,rfl⟩:=List.getElem_of_mem hx
     have h:=c8.out v (by rw[<-Y.out];exact Q);have e:rd cl (v:Int)=cl[v]:=by simp[rd,bb,bP Q]
     rw[e] at h;omega
    ·rw[List.eq_of_mem_replicate hx];omega⟩⟩
   have d2:=a1.out.look pR f5.out;rw[ds.out] at d2;have x0:y.cell? ⟨w2.heap.size,0,none⟩=some (.int .i64 z):=(ai U.out 0).trans rfl;have x1:y.cell? ⟨w2.heap.size,1,none⟩=some (.int .i64 B):=(ai U.out 1).trans rfl;have x2:y.cell? ⟨w2.heap.size,2,none⟩=some (.int .i64 D):=(ai U.out 2).trans rfl;have x3:y.cell? ⟨w2.heap.size,3,none⟩=some (.int .i64 F):=(ai U.out 3).trans rfl;have x4:y.cell? ⟨w2.heap.size,4,none⟩=some (.int .i64 G):=(ai U.out 4).trans rfl;have x5:y.cell? ⟨w2.heap.size,5,none⟩=some (.int .i64 H):=(ai U.out 5).trans rfl;have x6:y.cell? ⟨w2.heap.size,6,none⟩=some (.int .i64 I):=(ai U.out 6).trans rfl;have x7:y.cell? ⟨w2.heap.size,7,none⟩=some (.int .i64 J):=(ai U.out 7).trans rfl;have x8:y.cell? ⟨w2.heap.size,8,none⟩=some (.int .i64 K):=(ai U.out 8).trans rfl;have x9:y.cell? ⟨w2.heap.size,9,none⟩=some (.int .i64 M):=(ai U.out 9).trans rfl;have bf:y.cell? ⟨w2.heap.size,10,none⟩=some (.int .i64 N):=(ai U.out 10).trans rfl;have bg:y.cell? ⟨w2.heap.size,11,none⟩=some (.int .i64 O):=(ai U.out 11).trans rfl;have f3:y.cell? ⟨q,3,none⟩=some (.map (some i)):=(ai dv.out 3).trans rfl;have b1:ec [z,B,D,F,G,H,I,J,K,M,N,O]= .agg #[.int .i64 z,.int .i64 B,.int .i64 D,.int .i64 F,.int .i64 G,.int .i64 H,.int .i64 I,.int .i64 J,.int .i64 K,.int .i64 M,.int .i64 N,.int .i64 O]:=rfl;rw[b1] at d2;clear b1 dk;rcases d2 with⟨x,hx,b2⟩|b2
   ·have d3:∀m,(Instr.lookup 169 (.map (some i)) (.agg #[.int .i64 z,.int .i64 B,.int .i64 D,.int .i64 F,.int .i64 G,.int .i64 H,.int .i64 I,.int .i64 J,.int .i64 K,.int .i64 M,.int .i64 N,.int .i64 O]) true).run Tryz.prog (y.drewN m)= .ok (.tuple #[.int .i64 x,.bool true]) (y.drewN m):=fun m=>b2 _ rfl
    have hr:Aside0 (Rk d.length (timesOf E) d x):=⟨by
     obtain⟨c',ht,f6,hy, -⟩:=hx;rw[<-ds.out,HQ.out] at f6;obtain rfl:=Ci Y.out ht f6;exact T.bM.fs b0.out.symm hy⟩
    clear b2 hx;go_wp2_with fail
    go_quiet (fail)
    clear d3 x0 x1 x2 x3 x4 x5 x6 x7 x8 x9 bf bg f3;have bi:=zA (a1.out.below (b8 (al _ _) nq));have b3:=zA (d0.out.trans (eW.l6 (b8 (al _ _) nq) (Nat.le_of_lt a1.out.lt)));go_wp2;go_ret2;exact⟨x,rfl,hr.out,bi.out,b3.out⟩
   ·have d3:∀m,(Instr.lookup 169 (.map (some i)) (.agg #[.int .i64 z,.int .i64 B,.int .i64 D,.int .i64 F,.int .i64 G,.int .i64 H,.int .i64 I,.int .i64 J,.int .i64 K,.int .i64 M,.int .i64 N,.int .i64 O]) true).run Tryz.prog (y.drewN m)= .ok (.tuple #[.int .i64 0,.bool false]) (y.drewN m):=fun m=>b2 _ rfl
    clear b2;go_wp2_with fail
    go_quiet (fail)
    clear d3 x0 x1 x2 x3 x4 x5 x6 x7 x8 x9 bf bg f3;have av:=b8 (al y.heap.size y) nq;have bi:=zA (a1.out.below av);have b3:=zA (d0.out.trans (eW.l6 av (Nat.le_of_lt a1.out.lt)));have cj:=zA (show gh (y.drewN nq) q d.length A0 E c0 g i from aJ dv.out av);have d4:=zA (Kd.cR f1.out av);have d5:=zA (a7 f0.out av);have ck:=zA (aJ U.out av);clear av a1 d0 dv f1 f0 U;generalize y.drewN nq=W4 at bi b3 cj d4 d5 ck⊢;obtain⟨ml,hlen,ks,hE,f7,f8⟩:=bi.out.len 3;have hH:=X.out.bY ks f7 f8;have ip:((ml:Int)==16384)=false:=by simp;omega
    have f3:W4.cell? ⟨q,3,none⟩=some (.map (some i)):=(ai cj.out 3).trans rfl;clear hE f7 f8 hH;have f9:T.sN (fun v=>rd cl (v:Nat)) d.length=S:=by rw[bw.out];exact T.bQ.bh aa.out b0.out
    have co:Aside0 (∀v:Nat,v<d.length->0<=rd cl v):=⟨fun v Q=>by
     by_cases e:v=0
     ·subst e;exact hm.out
     ·exact(c8.out v Q).2.2.2.2 e |>.1⟩
    have f':Aside0 (∀v:Nat,v<d.length->rd cl v<=198):=⟨fun v Q=>by
     have h:=T.gI (f:=fun v=>rd cl (v:Nat)) Q co.out;have h2:rd cl (v:Nat)<=T.sN (fun v=>rd cl (v:Nat)) d.length:=h;omega⟩
    have d6:=zA f9;clear f9;go_wp2;clear hlen f3;generalize d7:w2.heap.size=o at f4 d1 ck⊢;have it:=Nat.le_of_eq d7;have iv:=Nat.le_of_eq d7.symm;clear d7;have i0:(d.length:Int)<=12:=by omega
    go_loopg [81,14] (d.length) (fun kq vv lv wr=>∃(v:Nat) (L:Int),v<=d.length/\vv= .int .i64 v/\lv= .int .i64 L/\ -20000000<=L/\L<=20000000/\Aside0 (∀u,u<v->∀k,T.bM d.length (timesOf E) (fun w=>rd cl (w:Nat)-T.one u w) k->L<=k+1)/\Aside0 (L=S\/∃u,u<v/\∃k,T.bM d.length (timesOf E) (fun w=>rd cl (w:Nat)-T.one u w) k/\L=k+1)/\Aside0 ((Kd.int .i64).R 3 wr w1.heap.size (fun _=>True) (.slice (some ⟨l,0,none⟩) d.length cr) cl)/\Aside0 (dS (jA d.length (timesOf E) g) wr i)/\Aside0 (eW i W wr)/\Aside0 (Below w0.heap.size w0 wr)/\Aside0 (gh wr q d.length A0 E c0 g i)/\Aside0 (wr.heap[o]? =some (.cells #[.int .i64 z,.int .i64 B,.int .i64 D,.int .i64 F,.int .i64 G,.int .i64 H,.int .i64 I,.int .i64 J,.int .i64 K,.int .i64 M,.int .i64 N,.int .i64 O] 172 (0,0)))/\Aside0 (kq=d.length-v))
    case atStart=>exact⟨0,S,by omega,rfl,rfl,g8,g9,⟨fun u hu=>by omega⟩,⟨.inl rfl⟩,d4,bi,b3,d5,cj,ck,⟨rfl⟩⟩
    case round=>
     clear d4 bi b3 d5 cj ck;obtain⟨v,L,Q,rfl,rfl,hL,hN,d8,gb,HR,HM,HK,gc,HF,V,hO⟩:=hrel;by_cases b4:v<d.length
     ·have i1:(0:Int)<=(v:Int):=by omega
      have i2:(v:Int)<(d.length:Int):=by omega
      have d9:=Y.out;obtain⟨z1,z2⟩:=Kd.bW 0 HR.out (v:Int) (by omega) (by omega);rw[aQ] at z1 z2;replace z1:wr.cell? ⟨l,v,none⟩=some (.int .i64 (rd cl v)):=z1;have hP:=co.out v b4;have hQ:=f'.out v b4;have P:=Kd.dh HR.out (v:Int) (rd cl v-1);rw[aQ] at P;have bn:=zA P.1;have cx:=zA (show gh (wr.setCell ⟨l,v,none⟩ (.int .i64 (rd cl v-1))) q d.length A0 E c0 g i from aD HF.out (by show q≠l;have:=HF.out;intro e;subst e;have h2:=(Kd.gw HR.out q rfl);obtain⟨cs,b5⟩:=h2;rw[gh,b5] at this;injection this with h;injection h with _ h _;exact absurd h (by decide)) _);have ea:=zA (HM.out.hZ ⟨l,v,none⟩ (.int .i64 (rd cl v-1)) (fun e=>f2 e.symm));have eb:=zA (aD (p:=⟨l,v,none⟩) V.out (fun e=>d1 e.symm) (.int .i64 (rd cl v-1)));have c1:=zA (Below.setCell (p:=⟨l,v,none⟩) gc.out (by show w0.heap.size<=l;have:=ca.out.size;omega) (.int .i64 (rd cl v-1)));have i3:W.heap.size<=l:=by have:=b_.out.size;omega
      have ed:Aside0 (eW i W (wr.setCell ⟨l,v,none⟩ (.int .i64 (rd cl v-1)))):=⟨Below.setCell (p:=⟨l,v,none⟩) HK.out.1 (by show i<=l;omega) _,fun k hk ak=>(Below.heap_setCell _ _ _ _ (by show k≠l;omega)).trans (HK.out.2 k hk ak)⟩;have c2:∀u,u<d.length->rd (cl.set v (rd cl v-1)) (u:Nat)=rd cl u-T.one v u:=Cf d9 b4;have gd:eH (cl.set v (rd cl v-1)) d.length=S-1:=by
       rw[oW,T.bI c2,T.da,d6.out,T.fu b4]
      have ge:=zA (IH.out (by omega) (cl.set v (rd cl v-1)) (some ⟨l,0,none⟩) cr _ ⟨by rw[List.length_set];exact d9,fun u hu=>by
       rw[c2 u hu];have a:=co.out u hu;have b:=f'.out u hu;unfold T.one;split<;>omega⟩ (by omega) c1.out cx.out ea.out (Kd.aG bn.out).2.2 (by have h:=(Kd.aG bn.out);rw[<-h.1];exact h.2.1))
      have gf:=zA c2;have gg:=zA (Cg (c:=cl) (v:=v) (by omega) (rd cl v-1));have hR:=zA (show (cl.set v (rd cl v-1)).length=cl.length from by rw[List.length_set]);clear P c2 d9 HR HM HK gc HF V;generalize gi:rd cl v=xv at z1 hP hQ gd bn cx ea eb c1 ed ge gg hR gf;have i4:=zA gi;clear gi;go_wp2_with fail
      refine ge.out.mono ?_;rintro e w6 ⟨r,rfl,c4,gl,bo⟩;have i5: -1<=r:=c4.1;have eg:Aside0 (T.bM d.length (timesOf E) (fun w=>rd cl (w:Nat)-T.one v w) r):=⟨mT (fun u hu=>(gf.out u hu).symm) c4⟩;have i6:r<=S:=by
       by_cases e0:0<=r
       ·have h:=T.bM.mF aa.out Z c4 e0
        rw[<-oW,gd] at h;omega
       ·omega
      clear c4;have ek:=zA (Kd.ba (ok':=fun _=>True) (Kd.fj (Kd.gz rfl bn.out) (fun k hk=>bo.2 k (by obtain⟨cs,b5⟩:=Kd.gw bn.out k hk.symm;exact az b5) (by have:=aE (show some l=some k from hk.symm);omega))) (fun _ _=>trivial));have gm:=zA (show gh w6 q d.length A0 E c0 g i from bo.wm cx.out ak);have hV:=zA (bo.wm eb.out f4);have hW:=zA (show Below w0.heap.size w0 w6 from c1.out.trans (bo.1.mono g4));have gn:=zA (ed.out.trans bo);have hX:=zA gl;clear gl bo bn cx eb c1 ed ea;obtain⟨z3,z4⟩:=Kd.bW 0 ek.out (v:Int) (by omega) (by omega);rw[aQ] at z3 z4;have go:bV 0 (cl.set v (xv-1)) (v:Int)=xv-1:=jx _ _ _ (by rw[Y.out];exact b4);rw[go] at z3;have P:=Kd.dh ek.out (v:Int) xv;rw[aQ,gg.out] at P;have gp:=zA P.1;clear P go;have gq:=zA (show gh (w6.setCell ⟨l,v,none⟩ (.int .i64 xv)) q d.length A0 E c0 g i from aD gm.out (by show q≠l;have:=gm.out;intro e;subst e;have h2:=(Kd.gw ek.out q rfl);obtain⟨cs,b5⟩:=h2;rw[gh,b5] at this;injection this with h;injection h with _ h _;exact absurd h (by decide)) _);have gs:=zA (hX.out.hZ ⟨l,v,none⟩ (.int .i64 xv) (fun e=>f2 e.symm));have gt:=zA (aD (p:=⟨l,v,none⟩) hV.out (fun e=>d1 e.symm) (.int .i64 xv));have gx:=zA (Below.setCell (p:=⟨l,v,none⟩) hW.out (by show w0.heap.size<=l;have:=ca.out.size;omega) (.int .i64 xv));have g1:Aside0 (eW i W (w6.setCell ⟨l,v,none⟩ (.int .i64 xv))):=⟨Below.setCell (p:=⟨l,v,none⟩) gn.out.1 (by show i<=l;omega) _,fun k hk ak=>(Below.heap_setCell _ _ _ _ (by show k≠l;omega)).trans (gn.out.2 k hk ak)⟩;go_wp2
      all_goals
       go_roundg (d.length- (v+1))
       case measure=>rw[hO.out];omega
      case rel=>exact⟨v+1,r+1,by omega,by go_num,rfl,by omega,by omega,⟨fun u hu k hk=>by
       by_cases e:u=v
       ·subst e
        have:=T.bM.unique Z hk eg.out;omega
       ·have:=d8.out u (by omega) k hk
        omega⟩,⟨.inr ⟨v,by omega,r,eg.out,rfl⟩⟩,gp,gs,g1,gx,gq,gt,⟨rfl⟩⟩
      exact⟨v+1,L,by omega,by go_num,rfl,hL,hN,⟨fun u hu k hk=>by
       by_cases e:u=v
       ·subst e
        have:=T.bM.unique Z hk eg.out;omega
       ·exact d8.out u (by omega) k hk⟩,⟨gb.out.imp id (fun⟨u,hu,h⟩=>⟨u,by omega,h⟩)⟩,gp,gs,g1,gx,gq,gt,⟨rfl⟩⟩
     ·obtain rfl:v=d.length:=by omega
      have P:Aside0 (Rk d.length (timesOf E) cl L):=⟨Cd aa.out Z hl.out d8.out (by rw[d6.out];exact gb.out)⟩;have hY:Aside0 (Rk d.length (timesOf E) d L):=⟨T.bM.fs b0.out.symm P.out⟩;have h1:Aside0 (jA d.length (timesOf E) g qs L):=⟨cl,Y.out,HQ.out,P.out,co.out,fun v Q h0=>T.nZ aa.out ce.out.red.2 Q h0,by rw[d6.out];simpa using cc⟩;obtain⟨w9,el,g2,em⟩:=dS.store (HM.out.iK (w':=wr.drew) rfl) f5.out h1.out;have x0:wr.cell? ⟨o,0,none⟩=some (.int .i64 z):=(ai V.out 0).trans rfl;have x1:wr.cell? ⟨o,1,none⟩=some (.int .i64 B):=(ai V.out 1).trans rfl;have x2:wr.cell? ⟨o,2,none⟩=some (.int .i64 D):=(ai V.out 2).trans rfl;have x3:wr.cell? ⟨o,3,none⟩=some (.int .i64 F):=(ai V.out 3).trans rfl;have x4:wr.cell? ⟨o,4,none⟩=some (.int .i64 G):=(ai V.out 4).trans rfl;have x5:wr.cell? ⟨o,5,none⟩=some (.int .i64 H):=(ai V.out 5).trans rfl;have x6:wr.cell? ⟨o,6,none⟩=some (.int .i64 I):=(ai V.out 6).trans rfl;have x7:wr.cell? ⟨o,7,none⟩=some (.int .i64 J):=(ai V.out 7).trans rfl;have x8:wr.cell? ⟨o,8,none⟩=some (.int .i64 K):=(ai V.out 8).trans rfl;have x9:wr.cell? ⟨o,9,none⟩=some (.int .i64 M):=(ai V.out 9).trans rfl;have bf:wr.cell? ⟨o,10,none⟩=some (.int .i64 N):=(ai V.out 10).trans rfl;have bg:wr.cell? ⟨o,11,none⟩=some (.int .i64 O):=(ai V.out 11).trans rfl;have f3:wr.cell? ⟨q,3,none⟩=some (.map (some i)):=(ai HF.out 3).trans rfl;rw[ds.out] at el;have b1:ec [z,B,D,F,G,H,I,J,K,M,N,O]= .agg #[.int .i64 z,.int .i64 B,.int .i64 D,.int .i64 F,.int .i64 G,.int .i64 H,.int .i64 I,.int .i64 J,.int .i64 K,.int .i64 M,.int .i64 N,.int .i64 O]:=rfl;rw[b1] at el;have h5:=zA g2;have h6:=HM.out.lt;have h7:Aside0 (eW i W w9):=⟨⟨Below.grown (gW HK.out.1) em (Nat.le_of_lt h6) (fun k e=>by cases e;exact aI _),fun k hk ak=>(em.block k (Nat.lt_of_lt_of_le hk (HK.out.1.size)) (fun e=>ak (aE e))).trans (HK.out.2 k hk ak)⟩⟩;clear g2 em b1;go_wp2_with fail
      refine wp_region_still_tail 6 (by kernel_rfl) (by kernel_rfl) ?_;simp only[List.take_succ_cons,List.take_zero,List.drop_succ_cons,List.drop_zero];repeat still_step
      refine wpStill_nil ?_;change wpList _ _ _ _ _ wr.drew
      replace x0:wr.drew.cell? ⟨o,0,none⟩=some (.int .i64 z):=x0;replace x1:wr.drew.cell? ⟨o,1,none⟩=some (.int .i64 B):=x1;replace x2:wr.drew.cell? ⟨o,2,none⟩=some (.int .i64 D):=x2;replace x3:wr.drew.cell? ⟨o,3,none⟩=some (.int .i64 F):=x3;replace x4:wr.drew.cell? ⟨o,4,none⟩=some (.int .i64 G):=x4;replace x5:wr.drew.cell? ⟨o,5,none⟩=some (.int .i64 H):=x5;replace x6:wr.drew.cell? ⟨o,6,none⟩=some (.int .i64 I):=x6;replace x7:wr.drew.cell? ⟨o,7,none⟩=some (.int .i64 J):=x7;replace x8:wr.drew.cell? ⟨o,8,none⟩=some (.int .i64 K):=x8;replace x9:wr.drew.cell? ⟨o,9,none⟩=some (.int .i64 M):=x9;replace bf:wr.drew.cell? ⟨o,10,none⟩=some (.int .i64 N):=bf;replace bg:wr.drew.cell? ⟨o,11,none⟩=some (.int .i64 O):=bg;replace f3:wr.drew.cell? ⟨q,3,none⟩=some (.map (some i)):=f3;generalize wr.drew=wd at x0 x1 x2 x3 x4 x5 x6 x7 x8 x9 bf bg f3 el⊢;go_wp2;go_ret2;exact⟨L,rfl,hY.out,h5.out,h7.out⟩
theorem wx (n:Nat) (A0:Option Addr) (c0:Nat) (E:List S83) (g:Int) (b a:Nat) (w0:World) (e:Kd.C aN w0 A0 E.length E) (i:E.length<=c0) (j:qV n E g) (k:w0.heap.size<=a) (l:b≠a):
  ∀(m:Nat) (d:List Int) (A:Option Addr) (c:Nat) (W:World),oX n d->eH d n<m->Below w0.heap.size w0 W->gh W b n A0 E c0 g a->dS (jA n (timesOf E) g) W a->Kd.C (Kd.int .i64) W A d.length d->d.length<=c->
   Calls Tryz.prog 95 #[.pointer (some ⟨b,0,none⟩),.slice A n c] W (qW n (timesOf E) g d a W)
 |0,d,A,c,W,hd,r,o,hF,p,hC,q=>wv n A0 c0 E g b a w0 e i j k d A c W hd (fun h=>by omega) o hF p l hC q
 |m+1,d,A,c,W,hd,r,o,hF,p,hC,q=>wv n A0 c0 E g b a w0 e i j k d A c W hd (fun h d' A' s W' u B v w x y z=>wx n A0 c0 E g b a w0 e i j k l m d' A' s W' u (by omega) v w x y z) o hF p l hC q
end
end Go.Proofs.YtffdiakgjakngaaGreat.P
namespace Go.Proofs.YtffdiakgjakngaaGreat.P
open Go.RowKit Go.Maps Go.Proofs.YtffdiakgjakngaaGreatW.PrintWords Go.Proofs.YtffdiakgjakngaaGreatW.PrintLast Go.Proofs.YtffdiakgjakngaaGreatW.PrintMore
set_option linter.unusedVariables false
set_option linter.unusedSimpArgs false
set_option maxHeartbeats 8000000
set_option maxRecDepth 100000
section
attribute [local go_sem] Oper.semAt_some
theorem EE (G:List Int->Int->Prop) (k n:Nat) (A0:Option Addr) (c0:Nat) (E:List S83) (n' g:Int) (a:List S83) (w:World) (m:Kd.C aN w A0 E.length E) (v:E.length<=c0) (o:eU.f k n E=some (n',a,0)) (p:eT.f k n' a=some (g,0)):
  Calls Tryz.prog 94 #[.agg #[.int .i64 n,.slice A0 E.length c0]] w fun e w'=>∃h b,e= .returned (.tuple #[.pointer (some ⟨h,0,none⟩),.int .i64 0])/\gh w' h n A0 E c0 g b/\dS G w' b/\h≠b/\w.heap.size<=b/\Below w.heap.size w w':=by
 have hu:=Tryz.underlying24;have J:=Tryz.underlying171;have x:=zA o;have y:=zA p;have z:=zA m;clear o p m;go_enter Tryz.func94,Tryz.ntmps94
 have q:=bl w (.cells #[.int .i64 n,.slice A0 E.length c0] 24);go_wp2_with (go_at_call 30;refine(eU.calls k n A0 c0 E n' a 0 _ (Kd.bE z.out _) v x.out).mono ?_;rintro e w1 ⟨v1,rfl,i,j⟩;obtain⟨B,c1,rfl⟩:=Kd.bm i;have r:=zA (Kd.aG i);have D:=zA (a7 (ao (al w.heap.size w) _) j);have F:=zA (aJ q j);clear i j)
 refine(eT.calls k n' B c1 a g 0 _ (Kd.bE r.out.2.2 _) r.out.2.1 y.out).mono ?_;rintro e w2 ⟨rfl,l⟩;have s:=zA (aJ (aw F.out _) l);have u:=zA (a7 (ao D.out _) l);have K:w2.cell? ⟨w.heap.size,0,none⟩=some (.int .i64 n):=(ai s.out 0).trans rfl;have L:w2.cell? ⟨w.heap.size,1,none⟩=some (.slice A0 E.length c0):=(ai s.out 1).trans rfl;have aY:=u.out.size;clear l q;have M:=@run_makeMap Tryz.prog;go_wp2_with fail
 have H:=ao (al w2.heap.size w2) (.map #[] 0);have I:=ao H (.cells #[.int .i64 n,.slice A0 E.length c0,.int .i64 g,.map (some w2.heap.size)] 171);go_ret2;refine⟨_,w2.heap.size,rfl,?_,(dS.made w2).alloc _,by omega,by omega,a7 u.out I⟩;have:=bl (w2.alloc (.map #[] 0)) (.cells #[.int .i64 n,.slice A0 E.length c0,.int .i64 g,.map (some w2.heap.size)] 171);rw[show (w2.alloc (.map #[] 0)).heap.size=w2.heap.size+1 from by simp] at this;exact this
noncomputable def wy (n:Nat) (t:Nat->Nat->Int) (d:List Int):Int:=@Classical.epsilon Int ⟨0⟩ fun r=>Rk n t d r
theorem wz {n:Nat} {t:Nat->Nat->Int} {d:List Int} (hn:0<n) {r:Int} (h:Rk n t d r):wy n t d=r:=
 T.bM.unique hn (@Classical.epsilon_spec_aux Int ⟨0⟩ (fun r=>Rk n t d r) ⟨r,h⟩) h
noncomputable def dy.f (k:Nat) (N:Int) (E:List S83) (d:List Int):Option (Int×Int):=
 (fh.f k N E [d]).bind fun e=>if e=0 then(if fY N E 0 d=true then((eU.f k N E).bind fun p=>if p.2.2=0 then((eT.f k p.1 p.2.1).bind fun g=>if g.2=0 then(if T.sN (T.can N.toNat (timesOf E)) N.toNat=2*g.1-2 then some (wy N.toNat (timesOf E) d,0) else none) else none) else none) else none) else some (0,e)
theorem EF (k:Nat) (N:Int) (A0:Option Addr) (c0:Nat) (E:List S83) (a:Option Addr) (c2:Nat) (d:List Int) (t:Int) (w:World) (j:Kd.C aN w A0 E.length E) (l:E.length<=c0) (g:Kd.C (Kd.int .i64) w a d.length d) (h:d.length<=c2)
  (hg:fh.f k N E [d]=some t) (i:t≠0):
  Calls Tryz.prog 41 #[.agg #[.int .i64 N,.slice A0 E.length c0],.slice a d.length c2] w fun e w'=>e= .returned (.tuple #[.int .i64 0,.int .i64 t])/\Below w.heap.size w w':=by
 have hu:=Tryz.underlying24;have m:=zA hg;have n:=zA g;have o:=zA h;have q:(t != 0)=true:=by simpa using i
 clear hg i g h;go_enter Tryz.func41,Tryz.ntmps41
 have b:=qR (w.alloc (.cells #[.int .i64 N,.slice A0 E.length c0] 24)) 26 (Kd.bE n.out _) o.out;rw[show (w.alloc (.cells #[.int .i64 N,.slice A0 E.length c0] 24)).heap.size=w.heap.size+1 from by simp] at b;go_wp2_with fail
 refine(fh.calls k N A0 c0 E (some ⟨w.heap.size+1,0,none⟩) 1 [d] t _ (Kd.bE (Kd.bE j _) _) l b (aI 1) m.out).mono ?_;rintro e w1 ⟨rfl,hb⟩;have p:=zA (a7 (ao (ao (al w.heap.size w) (.cells #[.int .i64 N,.slice A0 E.length c0] 24)) (.cells #[.slice a d.length c2] 26)) hb);clear hb b;go_wp2;go_ret2;exact⟨rfl,p.out⟩
theorem EG {n:Nat} {t:Nat->Nat->Int} (a:T.Wt n t) (hn:n<=12) (e:T.sN (T.val n t) n<=19) {g:Int} (hg:T.IsGenus n t g): -100<=g/\g<=100:=by
 have h1:T.sN (T.can n t) n=T.sN (T.val n t) n-2*n:=by
  have key:∀m:Nat,T.sN (T.can n t) m=T.sN (T.val n t) m-2*m:=by
   intro m;induction m with
   |zero=>simp[T.sN]
   |succ m b=>
    show T.sN (T.can n t) m+T.can n t m=T.sN (T.val n t) m+T.val n t m-_
    rw[b];unfold T.can;omega
  exact key n
 have h:T.sN (T.can n t) n=2*g-2:=hg;have i:0<=T.sN (T.val n t) n:=T.dm fun v _=>T.dm fun u _=>a.pos v u
 omega
theorem EH {n:Nat} {E:List S83} {d:List Int} {g:Int} (h:dP n 0 E d) (e:cJ n E=0) (hg:T.IsGenus n (timesOf E) g):qV n E g where
 n1:=h.n1
 n12:=h.n12
 right:=h.right
 conn:=h.conn
 len:=h.len
 val:=h.val
 gen:=hg
 g0:=EG h.right.wt h.n12 h.val hg
 wu:=fun d' b=>by
  obtain⟨s,h1,a,i⟩:=wh b e;obtain⟨k,hk⟩:=h1.get;exact⟨k,s,hk,(mS b.right).2 ⟨a,i⟩⟩
 bY:=fun j h1 a=>Cn h.right.wt h.n1 hg h.val j h1 a
theorem EI (k n:Nat) (A0:Option Addr) (c0:Nat) (E:List S83) (a:Option Addr) (c2:Nat) (d:List Int) (n' g:Int) (h:List S83) (w:World) (i:Kd.C aN w A0 E.length E) (j:E.length<=c0) (p:Kd.C (Kd.int .i64) w a d.length d) (q:d.length<=c2)
  (hg:fh.f k n E [d]=some 0) (b:dP n 0 E d) (s:cJ n E=0) (u:eU.f k n E=some (n',h,0)) (v:eT.f k n' h=some (g,0)) (J:T.IsGenus n (timesOf E) g):
  Calls Tryz.prog 41 #[.agg #[.int .i64 n,.slice A0 E.length c0],.slice a d.length c2] w fun e w'=>∃r,e= .returned (.tuple #[.int .i64 r,.int .i64 0])/\Rk n (timesOf E) d r/\Below w.heap.size w w':=by
 have hu:=Tryz.underlying24;have K:=zA hg;have L:=zA u;have M:=zA v;have x:=zA p;have y:=zA q;have N:=zA (EH b s J);have O:Aside0 (oX n d):=⟨b.dl,b.d⟩;have P:=zA b.dl;clear hg u v p q b s;have z:=bl w (.cells #[.int .i64 n,.slice A0 E.length c0] 24);have l:=qR (w.alloc (.cells #[.int .i64 n,.slice A0 E.length c0] 24)) 26 (Kd.bE x.out _) y.out;rw[show (w.alloc (.cells #[.int .i64 n,.slice A0 E.length c0] 24)).heap.size=w.heap.size+1 from by simp] at l;go_enter Tryz.func41,Tryz.ntmps41
 go_wp2_with fail
 refine(fh.calls k n A0 c0 E (some ⟨w.heap.size+1,0,none⟩) 1 [d] 0 _ (Kd.bE (Kd.bE i _) _) j l (aI 1) K.out).mono ?_;rintro e w1 ⟨rfl,hb⟩;have B:=zA (aJ (aw z (.cells #[.slice a d.length c2] 26)) hb);have m:=zA (a7 (ao (ao (al w.heap.size w) (.cells #[.int .i64 n,.slice A0 E.length c0] 24)) (.cells #[.slice a d.length c2] 26)) hb);have Y:w1.cell? ⟨w.heap.size,0,none⟩=some (.int .i64 n):=(ai B.out 0).trans rfl;have Z:w1.cell? ⟨w.heap.size,1,none⟩=some (.slice A0 E.length c0):=(ai B.out 1).trans rfl;clear hb l z;go_wp2_with fail
 refine(EE (jA n (timesOf E) g) k n A0 c0 E n' g h w1 (Kd.aq i m.out) j L.out M.out).mono ?_;rintro e w2 ⟨Q,D,rfl,hF,F,R,aa,G⟩;have o:=zA (a7 m.out G);have S:=zA hF;have U:=zA F;have H:w.heap.size<=D:=by have:=m.out.size;omega
 clear hF F G;go_wp2_with fail
 have V:=P.out;subst V;refine(wx d.length A0 c0 E g Q D w i j N.out H R ((eH d d.length).toNat+1) d a c2 w2 O.out (by omega) o.out S.out U.out (Kd.aq x.out o.out) y.out).mono ?_;rintro e w3 ⟨r,rfl,I, -,hk⟩;have W:=zA I;have X:=zA (o.out.trans (hk.1.mono H));clear I hk;go_wp2;go_ret2;exact⟨r,rfl,W.out,X.out⟩
theorem dy.calls (k:Nat) (j:Int) (l:Option Addr) (m:Nat) (b:List (S83)) (o:Option Addr) (c1:Nat) (l1:List Int) (s:Int) (u:Int) (w:World) (v:Kd.C aN w l b.length b) (x:b.length<=m) (y:Kd.C (Kd.int .i64) w o l1.length l1) (z:l1.length<=c1) (h:dy.f k j b l1=some (s,u)):
  Calls Tryz.prog 41 #[.agg #[.int .i64 j,.slice l b.length m],.slice o l1.length c1] w fun e w'=>e= .returned (.tuple #[.int .i64 s,.int .i64 u])/\Below w.heap.size w w':=by
 unfold dy.f at h;obtain⟨e,he,a⟩:=Option.bind_eq_some_iff.1 h;clear h;by_cases q:e=0
 ·subst q
  rw[if_pos rfl] at a;by_cases i:fY j b 0 l1=true
  ·rw[if_pos i] at a
   obtain⟨⟨n',E,F⟩,G,a⟩:=Option.bind_eq_some_iff.1 a;have H:cJ j b=0:=by
    unfold fY at i;rw[Bool.and_eq_true,decide_eq_true_eq] at i;exact i.1.2.2.2.2.2.1
   obtain⟨n,I,rfl,L,hO⟩:=oK i;obtain rfl:I=0:=by omega
   simp only at a;by_cases B:F=0
   ·subst B
    rw[if_pos rfl] at a;obtain⟨⟨g,e2⟩,J,a⟩:=Option.bind_eq_some_iff.1 a;simp only at a;by_cases D:e2=0
    ·subst D
     rw[if_pos rfl] at a;by_cases p:T.sN (T.can (n:Int).toNat (timesOf b)) (n:Int).toNat=2*g-2
     ·rw[if_pos p] at a
      simp only[Option.some.injEq,Prod.mk.injEq,aQ] at a;obtain⟨rfl,rfl⟩:=a;rw[aQ] at p;refine(EI k n l m b o c1 l1 n' g E w v x y z he hO H G J p).mono ?_;rintro e w' ⟨r,rfl,K,hb⟩;rw[wz hO.n1 K];exact⟨rfl,hb⟩
     ·rw[if_neg p] at a;cases a
    ·rw[if_neg D] at a;cases a
   ·rw[if_neg B] at a;cases a
  ·rw[if_neg i] at a;cases a
 ·rw[if_neg q] at a
  simp only[Option.some.injEq,Prod.mk.injEq] at a;obtain⟨rfl,rfl⟩:=a;exact EF k j l m b o c1 l1 e w v x y z he q
end
end Go.Proofs.YtffdiakgjakngaaGreat.P
namespace Go.Proofs.YtffdiakgjakngaaGreat.P
open Go.RowKit Go.Proofs.YtffdiakgjakngaaGreatW.PrintWords Go.Proofs.YtffdiakgjakngaaGreatW.PrintLast Go.Proofs.YtffdiakgjakngaaGreatW.PrintMore
set_option linter.unusedVariables false
set_option linter.unusedSimpArgs false
set_option maxHeartbeats 8000000
set_option maxRecDepth 100000
def dT.f (k:Nat) (a:Int) (b:List (S83)):Option (List Int×Int):=(d_.f k a b).bind fun t231=>(if t231=0 then((iR.f k a b).bind fun t232=>(some (t232,0))) else(some (([]:List Int),t231)))
theorem dT.mono:∀a0 a k,aj (dT.f k a0 a) (dT.f (k+1) a0 a):=by
 intro a0 a k;unfold dT.f;with_reducible repeat' first|exact iR.mono _ _ _|exact d_.mono _ _ _|exact aj.refl _|exact aj.none _|refine aj.ite ?_ ?_|refine aj.bind ?_ (fun _=>?_)
theorem dT.calls (k:Nat) (g:Int) (j:Option Addr) (l:Nat) (b:List (S83)) (p:List Int) (q:Int) (w:World) (r:Kd.C aN w j b.length b) (s:b.length<=l) (h:dT.f k g b=some (p,q)):
  Calls Tryz.prog 35 #[.agg #[.int .i64 g,.slice j b.length l]] w fun e w'=>∃u:Value,e= .returned (.tuple #[u,.int .i64 q])/\Kd.R (Kd.int .i64) 3 w' w.heap.size (fun _=>True) u p/\Below w.heap.size w w':=by
 have I:=Tryz.underlying24;have n:=zA r;have o:=zA s;clear r s;have a:=zA (al w.heap.size w);unfold dT.f at h;have H:=h;clear h;obtain⟨t231,v,H⟩:=zo H;by_cases c3:t231=0
 ·rw[if_pos c3] at H
  obtain⟨y,z⟩:=br c3;clear c3;obtain⟨t232,B,H⟩:=zo H;simp only[Option.some.injEq,Prod.mk.injEq] at H;obtain⟨rfl,rfl⟩:=H;go_enter Tryz.func35,Tryz.ntmps35
  go_wp2_with (first|((with_reducible refine aH (N:=1) rfl ?_);refine zX 1 #[.int .i64 g,.slice j b.length l] 24 ?_;intro D hg J m hb;have i:=zA (m);have E:=zG a hg;have F:=zG a hg;replace a:=zS a hb;clear hb m hg;obtain⟨K,L,M,O⟩:=au i)|((with_reducible refine aC (f:=55) rfl ?_);refine zL (some 6) Tryz.func55 #[.agg #[.int .i64 g,.slice j b.length l]] ?_;(with_reducible refine(d_.calls k g _ _ b t231 _ ?af ?ah v.out).mono ?_);(case af=>exact Kd.aq n.out zB);(case ah=>exact o.out);rintro e P ⟨rfl,hb⟩;refine⟨_,rfl,?_⟩;replace i:=zb i hb;replace a:=zS a hb;(try clear hb);obtain⟨Q,S,T,U⟩:=au i)|((with_reducible refine aC (f:=89) rfl ?_);refine zL (some 11) Tryz.func89 #[.agg #[.int .i64 g,.slice j b.length l]] ?_;(with_reducible refine(iR.calls k g _ _ b t232 _ ?af ?ah B.out).mono ?_);(case af=>exact Kd.aq n.out zB);(case ah=>exact o.out);rintro e V ⟨v233,rfl,x,hb⟩;refine⟨_,rfl,?_⟩;have G:=zA (Kd.bc x (bs zB));replace i:=zb i hb;replace a:=zS a hb;(try clear hb);(try clear x)))
  go_ret2;exact⟨_,zE,by(with_reducible repeat(first|apply Kd.aM|apply Kd.bB|apply Kd.bq));exact G.out,zB⟩
 ·rw[if_neg c3] at H
  obtain⟨y,z⟩:=bG c3;simp only[Option.some.injEq,Prod.mk.injEq] at H;obtain⟨rfl,rfl⟩:=H;go_enter Tryz.func35,Tryz.ntmps35
  go_wp2_with (first|((with_reducible refine aH (N:=1) rfl ?_);refine zX 1 #[.int .i64 g,.slice j b.length l] 24 ?_;intro D hg W m hb;have i:=zA (m);have E:=zG a hg;have F:=zG a hg;replace a:=zS a hb;clear hb m hg;obtain⟨X,Y,Z,aa⟩:=au i)|((with_reducible refine aC (f:=55) rfl ?_);refine zL (some 6) Tryz.func55 #[.agg #[.int .i64 g,.slice j b.length l]] ?_;(with_reducible refine(d_.calls k g _ _ b t231 _ ?af ?ah v.out).mono ?_);(case af=>exact Kd.aq n.out zB);(case ah=>exact o.out);rintro e ab ⟨rfl,hb⟩;refine⟨_,rfl,?_⟩;replace i:=zb i hb;replace a:=zS a hb;(try clear hb)))
  go_ret2;exact⟨_,zE,by first|exact Kd.dc _ _ _ _ _|exact Kd.gA _ _ _ _ _|exact Kd.V_nil _ _ _ _ _|exact Kd.Q_nil _ _ _ _ _|exact Kd.fQ _ _ _ _ _,zB⟩
def dJ.f (k:Nat) (b:Int) (g:List (S83)) (l1:List Int):Option (List Int×Int):=(dT.f k b g).bind fun a=>(if a.2=0 then((bz.f k l1 b).bind fun t240=>(if t240=0 then((iq.f k a.1 l1).bind fun e=>(some (e.1,e.2))) else(some (([]:List Int),t240)))) else(some (([]:List Int),a.2)))
theorem dJ.mono:∀a0 a a2 k,aj (dJ.f k a0 a a2) (dJ.f (k+1) a0 a a2):=by
 intro a0 a a2 k;unfold dJ.f;with_reducible repeat' first|exact bz.mono _ _ _|exact iq.mono _ _ _|exact dT.mono _ _ _|exact aj.refl _|exact aj.none _|refine aj.ite ?_ ?_|refine aj.bind ?_ (fun _=>?_)
theorem dJ.calls (k:Nat) (b:Int) (l:Option Addr) (m:Nat) (i:List (S83)) (p:Option Addr) (c1:Nat) (l1:List Int) (y:List Int) (z:Int) (w:World) (B:Kd.C aN w l i.length i) (D:i.length<=m) (E:Kd.C (Kd.int .i64) w p l1.length l1) (F:l1.length<=c1) (h:dJ.f k b i l1=some (y,z)):
  Calls Tryz.prog 32 #[.agg #[.int .i64 b,.slice l i.length m],.slice p l1.length c1] w fun e w'=>∃G:Value,e= .returned (.tuple #[G,.int .i64 z])/\Kd.R (Kd.int .i64) 3 w' w.heap.size (fun _=>True) G y/\Below w.heap.size w w':=by
 have Z:=Tryz.underlying24;have r:=zA B;have s:=zA D;clear B D;have u:=zA E;have v:=zA F;clear E F;have a:=zA (al w.heap.size w);unfold dJ.f at h;have H:=h;clear h;obtain⟨⟨t236,t239⟩,x,H⟩:=zo H;dsimp only at H;by_cases c4:t239=0
 ·rw[if_pos c4] at H
  obtain⟨O,P⟩:=br c4;clear c4;obtain⟨t240,I,H⟩:=zo H;by_cases q:t240=0
  ·rw[if_pos q] at H
   obtain⟨Q,S⟩:=br q;clear q;obtain⟨⟨t241,t242⟩,T,H⟩:=zo H;dsimp only at H;simp only[Option.some.injEq,Prod.mk.injEq] at H;obtain⟨rfl,rfl⟩:=H;go_enter Tryz.func32,Tryz.ntmps32
   go_wp2_with (first|((with_reducible refine aH (N:=2) rfl ?_);refine zX 2 #[.int .i64 b,.slice l i.length m] 24 ?_;intro J hg w8 n hb;have g:=zA (n);have K:=zG a hg;have L:=zG a hg;replace a:=zS a hb;clear hb n hg;obtain⟨ab,ad,ag,ak⟩:=au g)|((with_reducible refine aC (f:=35) rfl ?_);refine zL (some 11) Tryz.func35 #[.agg #[.int .i64 b,.slice l i.length m]] ?_;(with_reducible refine(dT.calls k b _ _ i t236 t239 _ ?af ?ah x.out).mono ?_);(case af=>exact Kd.aq r.out zB);(case ah=>exact s.out);rintro e am ⟨M,rfl,j,hb⟩;refine⟨_,rfl,?_⟩;have o:=zA (Kd.bc j (bs zB));replace g:=zb g hb;replace a:=zS a hb;(try clear hb);(try clear j);obtain⟨an,ap,ar,av⟩:=au g)|((with_reducible refine aC (f:=87) rfl ?_);refine zL (some 20) Tryz.func87 #[.slice p l1.length c1,.int .i64 b] ?_;(with_reducible refine(bz.calls k _ _ l1 b t240 _ ?af ?ah I.out).mono ?_);(case af=>exact Kd.aq u.out zB);(case ah=>exact v.out);rintro e w' ⟨rfl,⟨U,rfl⟩⟩;refine⟨_,rfl,?_⟩;obtain⟨V,W,X⟩:=Kd.bm o.out;subst X)|((with_reducible refine aC (f:=16) rfl ?_);refine zL (some 26) Tryz.func16 #[.slice V t236.length W,.slice p l1.length c1] ?_;(with_reducible refine(iq.calls k _ _ t236 _ _ l1 t241 t242 _ ?af ?ah ?aT ?aU T.out).mono ?_);(case af=>exact zC (Kd.aG o.out).2.2);(case ah=>exact(Kd.aG o.out).2.1);(case aT=>exact Kd.aq u.out zB);(case aU=>exact v.out);rintro e aB ⟨aF,rfl,j,hb⟩;refine⟨_,rfl,?_⟩;have Y:=zA (Kd.bc (Kd.bJ j (Kd.a_ (zR o))) (bs zB));replace o:=bN o j hb;replace g:=zb g hb;replace a:=zS a hb;(try clear hb);(try clear j)))
   go_ret2;exact⟨_,zE,by(with_reducible repeat(first|apply Kd.aM|apply Kd.bB|apply Kd.bq));exact Kd.ba Y.out (fun _ hk=>trivial),zB⟩
  ·rw[if_neg q] at H
   obtain⟨Q,S⟩:=bG q;simp only[Option.some.injEq,Prod.mk.injEq] at H;obtain⟨rfl,rfl⟩:=H;go_enter Tryz.func32,Tryz.ntmps32
   go_wp2_with (first|((with_reducible refine aH (N:=2) rfl ?_);refine zX 2 #[.int .i64 b,.slice l i.length m] 24 ?_;intro J hg aL n hb;have g:=zA (n);have K:=zG a hg;have L:=zG a hg;replace a:=zS a hb;clear hb n hg;obtain⟨aO,aP,aS,a0⟩:=au g)|((with_reducible refine aC (f:=35) rfl ?_);refine zL (some 11) Tryz.func35 #[.agg #[.int .i64 b,.slice l i.length m]] ?_;(with_reducible refine(dT.calls k b _ _ i t236 t239 _ ?af ?ah x.out).mono ?_);(case af=>exact Kd.aq r.out zB);(case ah=>exact s.out);rintro e a1 ⟨M,rfl,j,hb⟩;refine⟨_,rfl,?_⟩;have o:=zA (Kd.bc j (bs zB));replace g:=zb g hb;replace a:=zS a hb;(try clear hb);(try clear j);obtain⟨a2,a3,a4,a5⟩:=au g)|((with_reducible refine aC (f:=87) rfl ?_);refine zL (some 20) Tryz.func87 #[.slice p l1.length c1,.int .i64 b] ?_;(with_reducible refine(bz.calls k _ _ l1 b t240 _ ?af ?ah I.out).mono ?_);(case af=>exact Kd.aq u.out zB);(case ah=>exact v.out);rintro e w' ⟨rfl,⟨U,rfl⟩⟩;refine⟨_,rfl,?_⟩))
   go_ret2;exact⟨_,zE,by first|exact Kd.dc _ _ _ _ _|exact Kd.gA _ _ _ _ _|exact Kd.V_nil _ _ _ _ _|exact Kd.Q_nil _ _ _ _ _|exact Kd.fQ _ _ _ _ _,zB⟩
 ·rw[if_neg c4] at H
  obtain⟨O,P⟩:=bG c4;simp only[Option.some.injEq,Prod.mk.injEq] at H;obtain⟨rfl,rfl⟩:=H;go_enter Tryz.func32,Tryz.ntmps32
  go_wp2_with (first|((with_reducible refine aH (N:=2) rfl ?_);refine zX 2 #[.int .i64 b,.slice l i.length m] 24 ?_;intro J hg a9 n hb;have g:=zA (n);have K:=zG a hg;have L:=zG a hg;replace a:=zS a hb;clear hb n hg;obtain⟨be,bf,bg,bi⟩:=au g)|((with_reducible refine aC (f:=35) rfl ?_);refine zL (some 11) Tryz.func35 #[.agg #[.int .i64 b,.slice l i.length m]] ?_;(with_reducible refine(dT.calls k b _ _ i t236 t239 _ ?af ?ah x.out).mono ?_);(case af=>exact Kd.aq r.out zB);(case ah=>exact s.out);rintro e bk ⟨M,rfl,j,hb⟩;refine⟨_,rfl,?_⟩;have o:=zA (Kd.bc j (bs zB));replace g:=zb g hb;replace a:=zS a hb;(try clear hb);(try clear j)))
  go_ret2;exact⟨_,zE,by first|exact Kd.dc _ _ _ _ _|exact Kd.gA _ _ _ _ _|exact Kd.V_nil _ _ _ _ _|exact Kd.Q_nil _ _ _ _ _|exact Kd.fQ _ _ _ _ _,zB⟩
noncomputable def ir.f (k:Nat) (a:Int) (b:List (S83)) (l1:List Int):Option (Int×Int):=(dJ.f k a b l1).bind fun e=>(if e.2=0 then((dy.f k a b l1).bind fun g=>(if g.2=0 then((dy.f k a b e.1).bind fun h=>(if h.2=0 then(some (wrap64 (g.1-h.1),0)) else(some (0,h.2)))) else(some (0,g.2)))) else(some (0,e.2)))
theorem ir.calls (k:Nat) (i:Int) (l:Option Addr) (m:Nat) (g:List (S83)) (p:Option Addr) (c1:Nat) (l1:List Int) (M:Int) (O:Int) (w:World) (P:Kd.C aN w l g.length g) (Q:g.length<=m) (R:Kd.C (Kd.int .i64) w p l1.length l1) (S:l1.length<=c1) (h:ir.f k i g l1=some (M,O)):
  Calls Tryz.prog 27 #[.agg #[.int .i64 i,.slice l g.length m],.slice p l1.length c1] w fun e w'=>e= .returned (.tuple #[.int .i64 M,.int .i64 O])/\Below w.heap.size w w':=by
 have ap:=Tryz.underlying24;have q:=zA P;have r:=zA Q;clear P Q;have u:=zA R;have v:=zA S;clear R S;have a:=zA (al w.heap.size w);unfold ir.f at h;have H:=h;clear h;obtain⟨⟨s,x⟩,B,H⟩:=zo H;dsimp only at H;by_cases c4:x=0
 ·rw[if_pos c4] at H
  obtain⟨V,W⟩:=br c4;clear c4;obtain⟨⟨E,D⟩,F,H⟩:=zo H;dsimp only at H;by_cases y:D=0
  ·rw[if_pos y] at H
   obtain⟨X,Y⟩:=br y;clear y;obtain⟨⟨T,G⟩,U,H⟩:=zo H;dsimp only at H;by_cases z:G=0
   ·rw[if_pos z] at H
    obtain⟨Z,aa⟩:=br z;clear z;simp only[Option.some.injEq,Prod.mk.injEq] at H;obtain⟨rfl,rfl⟩:=H;go_enter Tryz.func27,Tryz.ntmps27
    go_wp2_with (first|((with_reducible refine aH (N:=2) rfl ?_);refine zX 2 #[.int .i64 i,.slice l g.length m] 24 ?_;intro I hg w9 n hb;have b:=zA (n);have J:=zG a hg;have K:=zG a hg;replace a:=zS a hb;clear hb n hg;obtain⟨av,aB,aF,aL⟩:=au b)|((with_reducible refine aC (f:=32) rfl ?_);refine zL (some 13) Tryz.func32 #[.agg #[.int .i64 i,.slice l g.length m],.slice p l1.length c1] ?_;(with_reducible refine(dJ.calls k i _ _ g _ _ l1 s x _ ?af ?ah ?aT ?aU B.out).mono ?_);(case af=>exact Kd.aq q.out zB);(case ah=>exact r.out);(case aT=>exact Kd.aq u.out zB);(case aU=>exact v.out);rintro e gV ⟨L,rfl,o,hb⟩;refine⟨_,rfl,?_⟩;have j:=zA (Kd.bc o (bs zB));replace b:=zb b hb;replace a:=zS a hb;(try clear hb);(try clear o);obtain⟨aO,aP,aS,a0⟩:=au b)|((with_reducible refine aC (f:=41) rfl ?_);refine zL (some 22) Tryz.func41 #[.agg #[.int .i64 i,.slice l g.length m],.slice p l1.length c1] ?_;(with_reducible refine(dy.calls k i _ _ g _ _ l1 E D _ ?af ?ah ?aT ?aU F.out).mono ?_);(case af=>exact Kd.aq q.out zB);(case ah=>exact r.out);(case aT=>exact Kd.aq u.out zB);(case aU=>exact v.out);rintro e a1 ⟨rfl,hb⟩;refine⟨_,rfl,?_⟩;replace j:=bp j hb;replace b:=zb b hb;replace a:=zS a hb;(try clear hb);obtain⟨a2,a3,a4,a5⟩:=au b;obtain⟨ab,ad,ag⟩:=Kd.bm j.out;subst ag)|((with_reducible refine aC (f:=41) rfl ?_);refine zL (some 31) Tryz.func41 #[.agg #[.int .i64 i,.slice l g.length m],.slice ab s.length ad] ?_;(with_reducible refine(dy.calls k i _ _ g _ _ s T G _ ?af ?ah ?aT ?aU U.out).mono ?_);(case af=>exact Kd.aq q.out zB);(case ah=>exact r.out);(case aT=>exact zC (Kd.aG j.out).2.2);(case aU=>exact(Kd.aG j.out).2.1);rintro e a9 ⟨rfl,hb⟩;refine⟨_,rfl,?_⟩;replace j:=bp j hb;replace b:=zb b hb;replace a:=zS a hb;(try clear hb)))
    go_ret2;exact⟨zE,zB⟩
   ·rw[if_neg z] at H
    obtain⟨Z,aa⟩:=bG z;simp only[Option.some.injEq,Prod.mk.injEq] at H;obtain⟨rfl,rfl⟩:=H;go_enter Tryz.func27,Tryz.ntmps27
    go_wp2_with (first|((with_reducible refine aH (N:=2) rfl ?_);refine zX 2 #[.int .i64 i,.slice l g.length m] 24 ?_;intro I hg be n hb;have b:=zA (n);have J:=zG a hg;have K:=zG a hg;replace a:=zS a hb;clear hb n hg;obtain⟨bf,bg,bi,bk⟩:=au b)|((with_reducible refine aC (f:=32) rfl ?_);refine zL (some 13) Tryz.func32 #[.agg #[.int .i64 i,.slice l g.length m],.slice p l1.length c1] ?_;(with_reducible refine(dJ.calls k i _ _ g _ _ l1 s x _ ?af ?ah ?aT ?aU B.out).mono ?_);(case af=>exact Kd.aq q.out zB);(case ah=>exact r.out);(case aT=>exact Kd.aq u.out zB);(case aU=>exact v.out);rintro e bn ⟨L,rfl,o,hb⟩;refine⟨_,rfl,?_⟩;have j:=zA (Kd.bc o (bs zB));replace b:=zb b hb;replace a:=zS a hb;(try clear hb);(try clear o);obtain⟨bo,bv,bw,bx⟩:=au b)|((with_reducible refine aC (f:=41) rfl ?_);refine zL (some 22) Tryz.func41 #[.agg #[.int .i64 i,.slice l g.length m],.slice p l1.length c1] ?_;(with_reducible refine(dy.calls k i _ _ g _ _ l1 E D _ ?af ?ah ?aT ?aU F.out).mono ?_);(case af=>exact Kd.aq q.out zB);(case ah=>exact r.out);(case aT=>exact Kd.aq u.out zB);(case aU=>exact v.out);rintro e b0 ⟨rfl,hb⟩;refine⟨_,rfl,?_⟩;replace j:=bp j hb;replace b:=zb b hb;replace a:=zS a hb;(try clear hb);obtain⟨b1,b2,b3,b4⟩:=au b;obtain⟨ak,am,an⟩:=Kd.bm j.out;subst an)|((with_reducible refine aC (f:=41) rfl ?_);refine zL (some 31) Tryz.func41 #[.agg #[.int .i64 i,.slice l g.length m],.slice ak s.length am] ?_;(with_reducible refine(dy.calls k i _ _ g _ _ s T G _ ?af ?ah ?aT ?aU U.out).mono ?_);(case af=>exact Kd.aq q.out zB);(case ah=>exact r.out);(case aT=>exact zC (Kd.aG j.out).2.2);(case aU=>exact(Kd.aG j.out).2.1);rintro e b5 ⟨rfl,hb⟩;refine⟨_,rfl,?_⟩;replace j:=bp j hb;replace b:=zb b hb;replace a:=zS a hb;(try clear hb)))
    go_ret2;exact⟨zE,zB⟩
  ·rw[if_neg y] at H
   obtain⟨X,Y⟩:=bG y;simp only[Option.some.injEq,Prod.mk.injEq] at H;obtain⟨rfl,rfl⟩:=H;go_enter Tryz.func27,Tryz.ntmps27
   go_wp2_with (first|((with_reducible refine aH (N:=2) rfl ?_);refine zX 2 #[.int .i64 i,.slice l g.length m] 24 ?_;intro I hg b6 n hb;have b:=zA (n);have J:=zG a hg;have K:=zG a hg;replace a:=zS a hb;clear hb n hg;obtain⟨b_,b',ca,cb⟩:=au b)|((with_reducible refine aC (f:=32) rfl ?_);refine zL (some 13) Tryz.func32 #[.agg #[.int .i64 i,.slice l g.length m],.slice p l1.length c1] ?_;(with_reducible refine(dJ.calls k i _ _ g _ _ l1 s x _ ?af ?ah ?aT ?aU B.out).mono ?_);(case af=>exact Kd.aq q.out zB);(case ah=>exact r.out);(case aT=>exact Kd.aq u.out zB);(case aU=>exact v.out);rintro e cc ⟨L,rfl,o,hb⟩;refine⟨_,rfl,?_⟩;have j:=zA (Kd.bc o (bs zB));replace b:=zb b hb;replace a:=zS a hb;(try clear hb);(try clear o);obtain⟨cd,ce,cf,ch⟩:=au b)|((with_reducible refine aC (f:=41) rfl ?_);refine zL (some 22) Tryz.func41 #[.agg #[.int .i64 i,.slice l g.length m],.slice p l1.length c1] ?_;(with_reducible refine(dy.calls k i _ _ g _ _ l1 E D _ ?af ?ah ?aT ?aU F.out).mono ?_);(case af=>exact Kd.aq q.out zB);(case ah=>exact r.out);(case aT=>exact Kd.aq u.out zB);(case aU=>exact v.out);rintro e ci ⟨rfl,hb⟩;refine⟨_,rfl,?_⟩;replace j:=bp j hb;replace b:=zb b hb;replace a:=zS a hb;(try clear hb)))
   go_ret2;exact⟨zE,zB⟩
 ·rw[if_neg c4] at H
  obtain⟨V,W⟩:=bG c4;simp only[Option.some.injEq,Prod.mk.injEq] at H;obtain⟨rfl,rfl⟩:=H;go_enter Tryz.func27,Tryz.ntmps27
  go_wp2_with (first|((with_reducible refine aH (N:=2) rfl ?_);refine zX 2 #[.int .i64 i,.slice l g.length m] 24 ?_;intro I hg cj n hb;have b:=zA (n);have J:=zG a hg;have K:=zG a hg;replace a:=zS a hb;clear hb n hg;obtain⟨ck,cl,co,cq⟩:=au b)|((with_reducible refine aC (f:=32) rfl ?_);refine zL (some 13) Tryz.func32 #[.agg #[.int .i64 i,.slice l g.length m],.slice p l1.length c1] ?_;(with_reducible refine(dJ.calls k i _ _ g _ _ l1 s x _ ?af ?ah ?aT ?aU B.out).mono ?_);(case af=>exact Kd.aq q.out zB);(case ah=>exact r.out);(case aT=>exact Kd.aq u.out zB);(case aU=>exact v.out);rintro e cr ⟨L,rfl,o,hb⟩;refine⟨_,rfl,?_⟩;have j:=zA (Kd.bc o (bs zB));replace b:=zb b hb;replace a:=zS a hb;(try clear hb);(try clear o)))
  go_ret2;exact⟨zE,zB⟩
def bL.l0:Nat->List Int->List Int->Int->Int->Option (Bool)
 |0,_,_,_,_=>none
 |k+1,b,x1,e,a=>if a<e then(if 0<=a then(if a<(b.length:Int) then(if a<(x1.length:Int) then(if(rd b a)=(rd x1 a) then(bL.l0 k b x1 e (wrap64 (a+1))) else(some false)) else(none)) else(none)) else(none)) else(some true)
def bL.f (k:Nat) (l0:List Int) (l1:List Int):Option (Bool):=if(l0.length:Int)=(l1.length:Int) then(bL.l0 k l0 l1 (l0.length:Int) 0) else(some false)
theorem bL.cn:∀k,(∀a b e g,aj (bL.l0 k a b e g) (bL.l0 (k+1) a b e g))
 |0=>fun _ _ _ _ r h=>by simp[bL.l0] at h
 |k+1=>by
  have i:=bL.cn k
  ·intro a b e g
   unfold bL.l0;with_reducible repeat' first|exact i _ _ _ _|exact aj.refl _|exact aj.none _|refine aj.ite ?_ ?_|refine aj.bind ?_ (fun _=>?_)
theorem bL.mono:∀a0 a k,aj (bL.f k a0 a) (bL.f (k+1) a0 a):=by
 intro a0 a k;have b:=bL.cn k;unfold bL.f;with_reducible repeat' first|exact b _ _ _ _|exact aj.refl _|exact aj.none _|refine aj.ite ?_ ?_|refine aj.bind ?_ (fun _=>?_)
theorem bL.calls (k:Nat) (A0:Option Addr) (c0:Nat) (l0:List Int) (v:Option Addr) (c1:Nat) (l1:List Int) (r:Bool) (w:World) (x:Kd.C (Kd.int .i64) w A0 l0.length l0) (y:l0.length<=c0) (z:Kd.C (Kd.int .i64) w v l1.length l1) (B:l1.length<=c1) (h:bL.f k l0 l1=some r):
  Calls Tryz.prog 33 #[.slice A0 l0.length c0,.slice v l1.length c1] w fun e w'=>e= .returned (.bool r)/\aA w w':=by
 have D:=zA x;have U:=zA y;clear x y;have E:=zA z;have V:=zA B;clear z B;unfold bL.f at h;have H:=h;clear h;by_cases c3:(l0.length:Int)=(l1.length:Int)
 ·rw[if_pos c3] at H
  obtain⟨F,G⟩:=br c3;have I:(l0.length==l1.length)=true:=by first|simpa using c3|(simp at c3⊢;omega)
  clear c3;have m:=zA H;clear H;go_enter Tryz.func33,Tryz.ntmps33
  go_wp2;repeat(go_quiet (fail);try go_wp2)
  go_loopg [13] k (fun J L w'=>∃(a:Int),L= .int .i64 a/\Aside0 (bL.l0 J l0 l1 (l0.length:Int) a=some r)/\Aside0 (J<=k)/\aA w w')
  case atStart=>exact⟨(0),zT,m,⟨aI _⟩,by repeat(first|exact aA.refl _|apply aA.step)⟩
  case round=>
   clear m;clear F G I;obtain⟨a,rfl,q,K,⟨m1,rfl⟩⟩:=hrel;cases gk with
   |zero=>exact absurd q.out (by simp[bL.l0])
   |succ M=>
    have H:=q.out;clear q;simp only[bL.l0] at H;by_cases c4:a<(l0.length:Int)
    ·rw[if_pos c4] at H
     have N:=ay c4;clear c4;by_cases n:0<=a
     ·rw[if_pos n] at H
      have W:=ay n;clear n;by_cases o:a<(l0.length:Int)
      ·rw[if_pos o] at H
       have X:=ay o;clear o;by_cases p:a<(l1.length:Int)
       ·rw[if_pos p] at H
        have Y:=ay p;clear p;by_cases l:(rd l0 a)=(rd l1 a)
        ·rw[if_pos l] at H
         obtain⟨O,P⟩:=br l;clear l;have m:=zA H;clear H;have b:0<=(a:Int):=ax ‹_›;have g:a<(l0.length:Int):=ax ‹_›;obtain⟨Q,s,R⟩:=Kd.bT D.out a b g;cases s;replace b:=eq_true b;replace g:=eq_true g;have i:0<=(a:Int):=ax ‹_›;have j:a<(l1.length:Int):=ax ‹_›;obtain⟨S,u,T⟩:=Kd.bT E.out a i j;cases u;replace i:=eq_true i;replace j:=eq_true j;go_wp2;repeat(go_quiet (fail);try go_wp2)
         go_roundg M
         case measure=>have:=K.out;omega
         case rel=>exact⟨(wrap64 (a+1)),zT,m,⟨by have:=K.out;omega⟩,by repeat(first|exact aA.refl _|apply aA.step)⟩
        ·rw[if_neg l] at H
         obtain⟨O,P⟩:=bG l;obtain rfl:=aE H;have b:0<=(a:Int):=ax ‹_›;have g:a<(l0.length:Int):=ax ‹_›;obtain⟨Q,s,R⟩:=Kd.bT D.out a b g;cases s;replace b:=eq_true b;replace g:=eq_true g;have i:0<=(a:Int):=ax ‹_›;have j:a<(l1.length:Int):=ax ‹_›;obtain⟨S,u,T⟩:=Kd.bT E.out a i j;cases u;replace i:=eq_true i;replace j:=eq_true j;go_wp2;repeat(go_quiet (fail);try go_wp2)
         go_ret;exact⟨zT,by repeat(first|exact aA.refl _|apply aA.step)⟩
       ·rw[if_neg p] at H
        exact absurd H (by simp)
      ·rw[if_neg o] at H
       exact absurd H (by simp)
     ·rw[if_neg n] at H
      exact absurd H (by simp)
    ·rw[if_neg c4] at H
     have N:=a6 c4;clear c4;obtain rfl:=aE H;go_wp2;repeat(go_quiet (fail);try go_wp2)
     go_ret;exact⟨zT,by repeat(first|exact aA.refl _|apply aA.step)⟩
 ·rw[if_neg c3] at H
  obtain⟨F,G⟩:=bG c3;have I:(l0.length==l1.length)=false:=by first|simpa using c3|(simp at c3⊢;omega)
  obtain rfl:=aE H;go_enter Tryz.func33,Tryz.ntmps33
  go_wp2;repeat(go_quiet (fail);try go_wp2)
  go_ret;exact⟨zT,by repeat(first|exact aA.refl _|apply aA.step)⟩
theorem qX {n:Nat} {E:List S83} {d:List Int} (h:dP n 0 E d) (a:cJ n E=0) {n' g:Int} {b:List S83} (i:Ev (fun k=>eU.f k n E) (n',b,(0:Int))) (j:Ev (fun k=>eT.f k n' b) (g,(0:Int))) (l:T.IsGenus n (timesOf E) g) {r:Int} (m:Rk n (timesOf E) d r):
  Ev (fun k=>dy.f k n E d) (r,(0:Int)):=by
 unfold dy.f;refine Ev.bind (Ex h a) ?_;have e:=h.ok a;simp only[if_true,aQ];simp only[Int.ofNat_zero] at e;simp only[if_pos e];refine Ev.bind i ?_;simp only[if_true];refine Ev.bind j ?_;have hg:T.sN (T.can n (timesOf E)) n=2*g-2:=l;simp only[if_true,if_pos hg,wz h.n1 m];exact Ev.const _
end Go.Proofs.YtffdiakgjakngaaGreat.P


