/- TopRochUnwinnable answers true whatever the input (text 16 of 19): own walks and plain laws; no conditions. -/
import Derived.Test.YtffdiakgjakngaaGreatRoch15
namespace Go.Proofs.YtffdiakgjakngaaGreat.P
open Go.RowKit Go.Proofs.YtffdiakgjakngaaGreatW.PrintWords Go.Proofs.YtffdiakgjakngaaGreatW.PrintLast Go.Proofs.YtffdiakgjakngaaGreatW.PrintMore
set_option linter.unusedVariables false
set_option linter.unusedSimpArgs false
set_option maxHeartbeats 8000000
set_option maxRecDepth 100000
def fF.f (k:Nat) (o:Int) (I:List (S83)):Option (Int×(List (S83))×Int):=(cD.f k o I 50).bind fun j=>(some (j.1,j.2.1,j.2.2))
theorem fF.mono:∀j o k,ah (fF.f k j o) (fF.f (k+1) j o):=by
 intro j o k
 unfold fF.f
 repeat' first
   |(with_reducible exact cD.mono _ _ _ _)
   |(with_reducible exact ah.refl _)
   |(with_reducible exact ah.none _)
   |(with_reducible refine ah.ite ?_ ?_)
   |(with_reducible refine ah.bind ?_ (fun _=>?_))
   |exact cD.mono _ _ _ _
   |exact ah.none _
   |refine ah.ite ?_ ?_
   |refine ah.bind ?_ (fun _=>?_)
theorem fF.calls (k:Nat) (U:Int) (ab:Option Addr) (ad:Nat) (j:List (S83)) (r1:Int) (r2:List (S83)) (r3:Int) (w:World) (aS:Kd.C aG w ab j.length j) (a0:j.length<=ad) (h:fF.f k U j=some (r1,r2,r3)):
  Calls Tryz.prog 30 #[.agg #[.int .i64 U,.slice ab j.length ad]] w fun e w'=>∃a1:Value,e= .returned (.tuple #[.agg #[.int .i64 r1,a1],.int .i64 r3])∧Kd.R aG 83 w' w.heap.size (fun _=>True) a1 r2∧Below w.heap.size w w':=by
 have b5:=Tryz.underlying24
 have bo:=Aside0.mk aS
 have bw:=Aside0.mk a0
 clear aS a0
 have I:=Aside0.mk (Below.refl w.heap.size w)
 have H:((cD.f k U j 50).bind fun aP=>(some (aP.1,aP.2.1,aP.2.2)))=some (r1,r2,r3):=h
 clear h
 replace H:=Option.bind_eq_some_iff.mp H
 obtain⟨⟨ag,aL,a2⟩,a3,H⟩:=H
 replace H:(some (ag,aL,a2))=some (r1,r2,r3):=H
 have A2:=Aside0.mk a3
 clear a3
 simp only[Option.some.injEq,Prod.mk.injEq] at H
 obtain⟨rfl,rfl,rfl⟩:=H
 go_enter Tryz.func30,Tryz.ntmps30
 go_wp2_with (first|((with_reducible refine aA (N:=1) rfl ?_);refine zX 1 #[.int .i64 U,.slice ab j.length ad] 24 ?_;intro aO J w3 ak hb;have aa:=Aside0.mk (ak);have b_:=zG I J;have b':=zG I J;replace I:=zS I hb;clear hb ak J)|((with_reducible refine aA (N:=2) rfl ?_);refine zX 2 #[.int .i64 0,.slice none 0 0] 24 ?_;intro an J w4 ak hb;have ar:=Aside0.mk (ak);have cb:=zG I J;have cc:=zG I J;replace I:=zS I hb;have b0:=Aside0.mk ((by rw[J];exact Nat.ne_of_lt (aw (g:=aO) (o:=.cells #[.int .i64 U,.slice ab j.length ad] 24 (0,0)) (zK aa)):aO≠an));have b1:=Aside0.mk ((by rw[J];exact Nat.ne_of_gt (aw (g:=aO) (o:=.cells #[.int .i64 U,.slice ab j.length ad] 24 (0,0)) (zK aa)):an≠aO));replace aa:=zb aa hb;clear hb ak J;have cd:=b0.out;have cf:=b1.out;obtain⟨ch,cj,ck,cl⟩:=ao aa)|((with_reducible refine au (f:=84) rfl ?_);refine zL (some 5) Tryz.func84 #[.agg #[.int .i64 U,.slice ab j.length ad],.int .i64 50] ?_;(with_reducible refine(cD.calls k U _ _ j 50 ag aL a2 _ ?b2 ?b3 A2.out).mono ?_);(case b2=>exact Kd.aj bo.out zB);(case b3=>exact bw.out);rintro e w7 ⟨cr,rfl,bf,hb⟩;refine⟨_,rfl,?_⟩;have bg:=Aside0.mk (Kd.aM bf (aU zB));replace aa:=zb aa hb;replace ar:=zb ar hb;replace I:=zS I hb;(try clear hb);(try clear bf);obtain⟨cv,cx,c0,c1⟩:=ao ar;obtain⟨bk,bn,b4⟩:=Kd.a7 bg.out;subst b4))
 refine bodyPost_ret (nT rfl _ _ an 24 #[.int .i64 ag,.slice bk aL.length bn] (0,0) _ rfl (by refine zk ?_;refine aZ (cs:=#[.int .i64 ag,.slice none 0 0]) ?_ 1 _ rfl;refine zk ?_;refine aZ (cs:=#[.int .i64 0,.slice none 0 0]) ?_ 0 _ rfl;exact zK ar) Tryz.underlying24 rfl (by kernel_rfl)) rfl ?_
 exact⟨_,zE,by(with_reducible repeat(first|apply Kd.aD|apply Kd.bd|apply Kd.a8));exact Kd.aR (Kd.cz (p:=⟨an,1,none⟩) (Kd.cz (p:=⟨an,0,none⟩) (Kd.eM bg.out ar.out (by decide)) (fun _ hk=>hk.2) (.int .i64 ag)) (fun _ hk=>hk.2) (.slice bk aL.length bn)) (fun _ hk=>trivial),zB⟩
end Go.Proofs.YtffdiakgjakngaaGreat.P
namespace Go.Proofs.YtffdiakgjakngaaGreat.P
open Go.RowKit Go.Maps Go.Proofs.YtffdiakgjakngaaGreatW.PrintWords Go.Proofs.YtffdiakgjakngaaGreatW.PrintLast Go.Proofs.YtffdiakgjakngaaGreatW.PrintMore
set_option linter.unusedVariables false
set_option linter.unusedSimpArgs false
set_option maxHeartbeats 8000000
set_option maxRecDepth 100000
section
attribute [local go_sem] Oper.semAt_some
theorem DH (G:List Int->Int->Prop) (k n:Nat) (A0:Option Addr) (c0:Nat) (E:List S83) (n' g:Int) (j:List S83) (w:World) (aa:Kd.C aG w A0 E.length E) (av:E.length<=c0) (hL:fF.f k n E=some (n',j,0)) (hG:fg.f k n' j=some (g,0)):
  Calls Tryz.prog 94 #[.agg #[.int .i64 n,.slice A0 E.length c0]] w fun e w'=>∃I o,e= .returned (.tuple #[.pointer (some ⟨I,0,none⟩),.int .i64 0])∧ff w' I n A0 E c0 g o∧FMap G w' o∧I≠o∧w.heap.size<=o∧Below w.heap.size w w':=by
 have hu:=Tryz.underlying24
 have a2:=Tryz.underlying171
 have HL:=Aside0.mk hL
 have HG:=Aside0.mk hG
 have aL:=Aside0.mk aa
 clear hL hG aa
 go_enter Tryz.func94,Tryz.ntmps94
 have ag:=heap_alloc_new w (.cells #[.int .i64 n,.slice A0 E.length c0] 24)
 go_wp2_with (go_at_call 30;refine(fF.calls k n A0 c0 E n' j 0 _ (Kd.aY aL.out _) av HL.out).mono ?_;rintro e w1 ⟨v1,rfl,J,R⟩;obtain⟨A1,c1,rfl⟩:=Kd.a7 J;have ak:=Aside0.mk (Kd.aC J);have aP:=Aside0.mk (aN (al (Below.refl w.heap.size w) _) R);have aS:=Aside0.mk (aE ag R);clear J R)
 refine(fg.calls k n' A1 c1 j g 0 _ (Kd.aY ak.out.2.2 _) ak.out.2.1 HG.out).mono ?_
 rintro e w2 ⟨rfl,U⟩
 have an:=Aside0.mk (aE (aq aS.out _) U)
 have ar:=Aside0.mk (aN (al aP.out _) U)
 have y0:w2.cell? ⟨w.heap.size,0,none⟩=some (.int .i64 n):=(ai an.out 0).trans rfl
 have y1:w2.cell? ⟨w.heap.size,1,none⟩=some (.slice A0 E.length c0):=(ai an.out 1).trans rfl
 have aK:=ar.out.size
 clear U ag
 have bg:=@run_makeMap Tryz.prog
 go_wp2_with fail
 have a0:=al (Below.refl w2.heap.size w2) (.map #[] 0)
 have a1:=al a0 (.cells #[.int .i64 n,.slice A0 E.length c0,.int .i64 g,.map (some w2.heap.size)] 171)
 go_ret2
 refine⟨_,w2.heap.size,rfl,?_,(FMap.made w2).alloc _,by omega,by omega,aN ar.out a1⟩
 have:=heap_alloc_new (w2.alloc (.map #[] 0)) (.cells #[.int .i64 n,.slice A0 E.length c0,.int .i64 g,.map (some w2.heap.size)] 171)
 rw[show (w2.alloc (.map #[] 0)).heap.size=w2.heap.size+1 from by simp] at this
 exact this
noncomputable def vB (n:Nat) (t:Nat->Nat->Int) (d:List Int):Int:=@Classical.epsilon Int ⟨0⟩ fun r=>Rk n t d r
theorem vC {n:Nat} {t:Nat->Nat->Int} {d:List Int} (j:0<n) {r:Int} (h:Rk n t d r):vB n t d=r:=
 T.bA.unique j (@Classical.epsilon_spec_aux Int ⟨0⟩ (fun r=>Rk n t d r) ⟨r,h⟩) h
noncomputable def cP.f (k:Nat) (N:Int) (E:List S83) (d:List Int):Option (Int×Int):=
 (dH.f k N E [d]).bind fun e=>if e=0 then(if fA N E 0 d=true then((fF.f k N E).bind fun p=>if p.2.2=0 then((fg.f k p.1 p.2.1).bind fun g=>if g.2=0 then(if T.sN (T.can N.toNat (af E)) N.toNat=2*g.1-2 then some (vB N.toNat (af E) d,0) else none) else none) else none) else none) else some (0,e)
theorem DJ (k:Nat) (N:Int) (A0:Option Addr) (c0:Nat) (E:List S83) (j:Option Addr) (c2:Nat) (d:List Int) (t:Int) (w:World) (aa:Kd.C aG w A0 E.length E) (ab:E.length<=c0) (I:Kd.C (Kd.int .i64) w j d.length d) (J:d.length<=c2)
  (R:dH.f k N E [d]=some t) (U:t≠0):
  Calls Tryz.prog 41 #[.agg #[.int .i64 N,.slice A0 E.length c0],.slice j d.length c2] w fun e w'=>e= .returned (.tuple #[.int .i64 0,.int .i64 t])∧Below w.heap.size w w':=by
 have hu:=Tryz.underlying24
 have HG:=Aside0.mk R
 have ag:=Aside0.mk I
 have ak:=Aside0.mk J
 have ar:(t != 0)=true:=by simpa using U
 clear R U I J
 go_enter Tryz.func41,Tryz.ntmps41
 have o:=qu (w.alloc (.cells #[.int .i64 N,.slice A0 E.length c0] 24)) 26 (Kd.aY ag.out _) ak.out
 rw[show (w.alloc (.cells #[.int .i64 N,.slice A0 E.length c0] 24)).heap.size=w.heap.size+1 from by simp] at o
 go_wp2_with fail
 refine(dH.calls k N A0 c0 E (some ⟨w.heap.size+1,0,none⟩) 1 [d] t _ (Kd.aY (Kd.aY aa _) _) ab o (Nat.le_refl 1) HG.out).mono ?_
 rintro e w1 ⟨rfl,hb⟩
 have an:=Aside0.mk (aN (al (al (Below.refl w.heap.size w) (.cells #[.int .i64 N,.slice A0 E.length c0] 24)) (.cells #[.slice j d.length c2] 26)) hb)
 clear hb o
 go_wp2
 go_ret2
 exact⟨rfl,an.out⟩
theorem DK {n:Nat} {t:Nat->Nat->Int} (j:T.Wt n t) (J:n<=12) (R:T.sN (T.val n t) n<=19) {g:Int} (o:T.eA n t g): -100<=g∧g<=100:=by
 have h1:T.sN (T.can n t) n=T.sN (T.val n t) n-2*n:=by
  have key:∀m:Nat,T.sN (T.can n t) m=T.sN (T.val n t) m-2*m:=by
   intro m
   induction m with
   |zero=>simp[T.sN]
   |succ m I=>
    show T.sN (T.can n t) m+T.can n t m=T.sN (T.val n t) m+T.val n t m-_
    rw[I]
    unfold T.can
    omega
  exact key n
 have U:T.sN (T.can n t) n=2*g-2:=o
 have h0:0<=T.sN (T.val n t) n:=T.cQ fun v _=>T.cQ fun u _=>j.pos v u
 omega
theorem DL {n:Nat} {E:List S83} {d:List Int} {g:Int} (h:dF n 0 E d) (hc:b7 n E=0) (j:T.eA n (af E) g):qB n E g where
 n1:=h.n1
 fT:=h.fT
 right:=h.right
 conn:=h.conn
 len:=h.len
 val:=h.val
 gen:=j
 g0:=DK h.right.wt h.fT h.val j
 vw:=fun d' o=>by
  obtain⟨s,h1,h2,I⟩:=qy o hc
  obtain⟨k,hk⟩:=h1.get
  exact⟨k,s,hk,(lZ o.right).2 ⟨h2,I⟩⟩
 bz:=fun J h1 h2=>AV h.right.wt h.n1 j h.val J h1 h2
theorem DM (k n:Nat) (A0:Option Addr) (c0:Nat) (E:List S83) (j:Option Addr) (c2:Nat) (d:List Int) (n' g:Int) (o:List S83) (w:World) (I:Kd.C aG w A0 E.length E) (J:E.length<=c0) (ab:Kd.C (Kd.int .i64) w j d.length d) (ad:d.length<=c2)
  (hg:dH.f k n E [d]=some 0) (hok:dF n 0 E d) (hc:b7 n E=0) (hL:fF.f k n E=some (n',o,0)) (hG:fg.f k n' o=some (g,0)) (a0:T.eA n (af E) g):
  Calls Tryz.prog 41 #[.agg #[.int .i64 n,.slice A0 E.length c0],.slice j d.length c2] w fun e w'=>∃r,e= .returned (.tuple #[.int .i64 r,.int .i64 0])∧Rk n (af E) d r∧Below w.heap.size w w':=by
 have hu:=Tryz.underlying24
 have HG:=Aside0.mk hg
 have HL:=Aside0.mk hL
 have a3:=Aside0.mk hG
 have ar:=Aside0.mk ab
 have av:=Aside0.mk ad
 have bf:=Aside0.mk (DL hok hc a0)
 have bg:Aside0 (nQ n d):=⟨hok.dl,hok.d⟩
 have bk:=Aside0.mk hok.dl
 clear hg hL hG ab ad hok hc
 have aB:=heap_alloc_new w (.cells #[.int .i64 n,.slice A0 E.length c0] 24)
 have R:=qu (w.alloc (.cells #[.int .i64 n,.slice A0 E.length c0] 24)) 26 (Kd.aY ar.out _) av.out
 rw[show (w.alloc (.cells #[.int .i64 n,.slice A0 E.length c0] 24)).heap.size=w.heap.size+1 from by simp] at R
 go_enter Tryz.func41,Tryz.ntmps41
 go_wp2_with fail
 refine(dH.calls k n A0 c0 E (some ⟨w.heap.size+1,0,none⟩) 1 [d] 0 _ (Kd.aY (Kd.aY I _) _) J R (Nat.le_refl 1) HG.out).mono ?_
 rintro e w1 ⟨rfl,hb⟩
 have aF:=Aside0.mk (aE (aq aB (.cells #[.slice j d.length c2] 26)) hb)
 have U:=Aside0.mk (aN (al (al (Below.refl w.heap.size w) (.cells #[.int .i64 n,.slice A0 E.length c0] 24)) (.cells #[.slice j d.length c2] 26)) hb)
 have y0:w1.cell? ⟨w.heap.size,0,none⟩=some (.int .i64 n):=(ai aF.out 0).trans rfl
 have y1:w1.cell? ⟨w.heap.size,1,none⟩=some (.slice A0 E.length c0):=(ai aF.out 1).trans rfl
 clear hb R aB
 go_wp2_with fail
 refine(DH (iI n (af E) g) k n A0 c0 E n' g o w1 (Kd.aj I U.out) J HL.out a3.out).mono ?_
 rintro e w2 ⟨fb,mb,rfl,hF,hM,bo,b5,aO⟩
 have aa:=Aside0.mk (aN U.out aO)
 have HF:=Aside0.mk hF
 have HM:=Aside0.mk hM
 have aP:w.heap.size<=mb:=by have:=U.out.size;omega
 clear hF hM aO
 go_wp2_with fail
 have b0:=bk.out
 subst b0
 refine(vy d.length A0 c0 E g fb mb w I J bf.out aP bo ((dQ d d.length).toNat+1) d j c2 w2 bg.out (by omega) aa.out HF.out HM.out (Kd.aj ar.out aa.out) av.out).mono ?_
 rintro e w3 ⟨r,rfl,aS, -,hk⟩
 have b1:=Aside0.mk aS
 have b2:=Aside0.mk (aa.out.trans (hk.1.mono aP))
 clear aS hk
 go_wp2
 go_ret2
 exact⟨r,rfl,b1.out,b2.out⟩
theorem cP.calls (k:Nat) (I:Int) (J:Option Addr) (R:Nat) (o:List (S83)) (U:Option Addr) (c1:Nat) (l1:List Int) (r1:Int) (r2:Int) (w:World) (ak:Kd.C aG w J o.length o) (an:o.length<=R) (ar:Kd.C (Kd.int .i64) w U l1.length l1) (av:l1.length<=c1) (h:cP.f k I o l1=some (r1,r2)):
  Calls Tryz.prog 41 #[.agg #[.int .i64 I,.slice J o.length R],.slice U l1.length c1] w fun e w'=>e= .returned (.tuple #[.int .i64 r1,.int .i64 r2])∧Below w.heap.size w w':=by
 unfold cP.f at h
 obtain⟨e,he,j⟩:=Option.bind_eq_some_iff.1 h
 clear h
 by_cases e0:e=0
 ·subst e0
  rw[if_pos rfl] at j
  by_cases hok:fA I o 0 l1=true
  ·rw[if_pos hok] at j
   obtain⟨⟨n',E',e1⟩,hL,j⟩:=Option.bind_eq_some_iff.1 j
   have hc:b7 I o=0:=by
    unfold fA at hok
    rw[Bool.and_eq_true,decide_eq_true_eq] at hok
    exact hok.1.2.2.2.2.2.1
   obtain⟨n,q',rfl,hq,hO⟩:=pR hok
   obtain rfl:q'=0:=by omega
   simp only at j
   by_cases aF:e1=0
   ·subst aF
    rw[if_pos rfl] at j
    obtain⟨⟨g,e2⟩,hG,j⟩:=Option.bind_eq_some_iff.1 j
    simp only at j
    by_cases aL:e2=0
    ·subst aL
     rw[if_pos rfl] at j
     by_cases aa:T.sN (T.can (n:Int).toNat (af o)) (n:Int).toNat=2*g-2
     ·rw[if_pos aa] at j
      simp only[Option.some.injEq,Prod.mk.injEq,Int.toNat_natCast] at j
      obtain⟨rfl,rfl⟩:=j
      rw[Int.toNat_natCast] at aa
      refine(DM k n J R o U c1 l1 n' g E' w ak an ar av he hO hc hL hG aa).mono ?_
      rintro e w' ⟨r,rfl,hr,hb⟩
      rw[vC hO.n1 hr]
      exact⟨rfl,hb⟩
     ·rw[if_neg aa] at j;cases j
    ·rw[if_neg aL] at j;cases j
   ·rw[if_neg aF] at j;cases j
  ·rw[if_neg hok] at j;cases j
 ·rw[if_neg e0] at j
  simp only[Option.some.injEq,Prod.mk.injEq] at j
  obtain⟨rfl,rfl⟩:=j
  exact DJ k I J R o U c1 l1 e w ak an ar av he e0
end
end Go.Proofs.YtffdiakgjakngaaGreat.P
namespace Go.Proofs.YtffdiakgjakngaaGreat.P
open Go.RowKit Go.Proofs.YtffdiakgjakngaaGreatW.PrintWords Go.Proofs.YtffdiakgjakngaaGreatW.PrintLast Go.Proofs.YtffdiakgjakngaaGreatW.PrintMore
set_option linter.unusedVariables false
set_option linter.unusedSimpArgs false
set_option maxHeartbeats 8000000
set_option maxRecDepth 100000
def cp.l0:Nat->List Int->Int->Int->Int->List (S83)->Option (Int)
 |0,_,_,_,_,_=>none
 |k+1,o,I,j,J,R=>if j<I then(if 0<=j then(if j<(o.length:Int) then((dW.f J (rd o j)).bind fun t222=>(if t222=true then(cp.l0 k o I (wrap64 (j+1)) J R) else(some 2))) else(none)) else(none)) else(some 0)
def cp.f (k:Nat) (j:Int) (o:List (S83)) (l1:List Int):Option (Int):=(aJ.f k j o).bind fun t220=>(if t220=0 then(cp.l0 k l1 (l1.length:Int) 0 j o) else(some t220))
theorem cp.db:∀k,(∀j o I J R,ah (cp.l0 k j o I J R) (cp.l0 (k+1) j o I J R))
 |0=>fun _ _ _ _ _ r h=>by simp[cp.l0] at h
 |k+1=>by
  have U:=cp.db k
  ·intro j o I J R
   unfold cp.l0
   repeat' first
   |(with_reducible exact U _ _ _ _ _)
   |(with_reducible exact aJ.mono _ _ _)
   |(with_reducible exact ah.refl _)
   |(with_reducible exact ah.none _)
   |(with_reducible refine ah.ite ?_ ?_)
   |(with_reducible refine ah.bind ?_ (fun _=>?_))
   |exact U _ _ _ _ _
   |exact aJ.mono _ _ _
   |exact ah.none _
   |refine ah.ite ?_ ?_
   |refine ah.bind ?_ (fun _=>?_)
theorem cp.mono:∀j o I k,ah (cp.f k j o I) (cp.f (k+1) j o I):=by
 intro j o I k
 have J:=cp.db k
 unfold cp.f
 repeat' first
   |(with_reducible exact J _ _ _ _ _)
   |(with_reducible exact aJ.mono _ _ _)
   |(with_reducible exact ah.refl _)
   |(with_reducible exact ah.none _)
   |(with_reducible refine ah.ite ?_ ?_)
   |(with_reducible refine ah.bind ?_ (fun _=>?_))
   |exact J _ _ _ _ _
   |exact aJ.mono _ _ _
   |exact ah.none _
   |refine ah.ite ?_ ?_
   |refine ah.bind ?_ (fun _=>?_)
theorem cp.calls (k:Nat) (o:Int) (U:Option Addr) (aa:Nat) (I:List (S83)) (A1:Option Addr) (c1:Nat) (l1:List Int) (r:Int) (w:World) (a3:Kd.C aG w U I.length I) (bf:I.length<=aa) (bg:Kd.C (Kd.int .i64) w A1 l1.length l1) (bk:l1.length<=c1) (h:cp.f k o I l1=some r):
  Calls Tryz.prog 203 #[.agg #[.int .i64 o,.slice U I.length aa],.slice A1 l1.length c1] w fun e w'=>e= .returned (.int .i64 r)∧Below w.heap.size w w':=by
 have cr:=Tryz.underlying24
 have bn:=Aside0.mk a3
 have bo:=Aside0.mk bf
 clear a3 bf
 have bw:=Aside0.mk bg
 have cv:=Aside0.mk bk
 clear bg bk
 have J:=Aside0.mk (Below.refl w.heap.size w)
 have H:((aJ.f k o I).bind fun t220=>(if t220=0 then(cp.l0 k l1 (l1.length:Int) 0 o I) else(some t220)))=some r:=h
 clear h
 replace H:=Option.bind_eq_some_iff.mp H
 obtain⟨t220,bx,H⟩:=H
 replace H:(if t220=0 then(cp.l0 k l1 (l1.length:Int) 0 o I) else(some t220))=some r:=H
 have A3:=Aside0.mk bx
 clear bx
 by_cases c4:t220=0
 ·rw[if_pos c4] at H
  have b1:(t220==0)=true:=beq_iff_eq.mpr c4
  have b2:(t220 != 0)=false:=bne_eq_false_iff_eq.mpr c4
  clear c4
  have H':=Aside0.mk H
  clear H
  go_enter Tryz.func203,Tryz.ntmps203
  go_wp2_with (first|((with_reducible refine aA (N:=2) rfl ?_);refine zX 2 #[.int .i64 o,.slice U I.length aa] 24 ?_;intro b3 hg w5 ar hb;have R:=Aside0.mk (ar);have ca:=zG J hg;have cb:=zG J hg;replace J:=zS J hb;clear hb ar hg;obtain⟨cc,cd,cf,ch⟩:=ao R)|((with_reducible refine au (f:=64) rfl ?_);refine zL (some 9) Tryz.func64 #[.agg #[.int .i64 o,.slice U I.length aa]] ?_;(with_reducible refine(aJ.calls k o _ _ I t220 _ ?aO ?aP A3.out).mono ?_);(case aO=>exact Kd.aj bn.out zB);(case aP=>exact bo.out);rintro e w7 ⟨rfl,hb⟩;refine⟨_,rfl,?_⟩;replace R:=zb R hb;replace J:=zS J hb;(try clear hb)))
  go_loopg [15] k (fun kq cj w'=>∃(j:Int),cj= .int .i64 j∧Aside0 (cp.l0 kq l1 (l1.length:Int) j o I=some r)∧Aside0 (kq<=k)∧Aside0 (w'.heap[b3]? =some (.cells #[.int .i64 o,(.slice U I.length aa)] 24 (0,0)))∧Aside0 (Below w.heap.size w w'))
  case atStart=>exact⟨(0),zT,H',⟨Nat.le_refl _⟩,⟨zK R⟩,⟨zB⟩⟩
  case round=>
   clear H'
   try clear c1
   try clear c2
   try clear p2
   try clear c4
   try clear b1
   try clear b2
   try clear c6
   try clear cc
   try clear cd
   try clear cf
   try clear ch
   obtain⟨j,rfl,HA,b5,R,J⟩:=hrel
   cases gk with
   |zero=>exact absurd HA.out (by simp[cp.l0])
   |succ k1=>
    have H:=HA.out
    clear HA
    simp only[cp.l0] at H
    by_cases c8:j<(l1.length:Int)
    ·rw[if_pos c8] at H
     have ck:decide (j<(l1.length:Int))=true:=decide_eq_true c8
     clear c8
     by_cases c9:0<=j
     ·rw[if_pos c9] at H
      have c7:decide (0<=j)=true:=decide_eq_true c9
      clear c9
      by_cases aF:j<(l1.length:Int)
      ·rw[if_pos aF] at H
       have c':decide (j<(l1.length:Int))=true:=decide_eq_true aF
       clear aF
       replace H:=Option.bind_eq_some_iff.mp H
       obtain⟨t222,b_,H⟩:=H
       replace H:(if t222=true then(cp.l0 k1 l1 (l1.length:Int) (wrap64 (j+1)) o I) else(some 2))=some r:=H
       have b':=Aside0.mk b_
       clear b_
       by_cases aL:t222=true
       ·subst aL
        have H1:(cp.l0 k1 l1 (l1.length:Int) (wrap64 (j+1)) o I)=some r:=by rw[if_pos rfl] at H;exact H
        clear H
        have H:=H1
        clear H1
        have H':=Aside0.mk H
        clear H
        have ad:0<=(j:Int):=of_decide_eq_true ‹_›
        have ag:j<(l1.length:Int):=of_decide_eq_true ‹_›
        obtain⟨cl,a1,ak⟩:=Kd.bD bw.out j ad ag
        cases a1
        replace ak:=(J.out.cell (World.block_lt_of_cell? w _ ak)).trans ak
        replace ad:=eq_true ad
        replace ag:=eq_true ag
        obtain⟨dd,ds,dv,ea⟩:=ao R
        go_wp2_with (first|((with_reducible refine au (f:=121) rfl ?_);refine zL (some 22) Tryz.func121 #[.int .i64 o,.int .i64 (rd l1 j)] ?_;(with_reducible refine(dW.calls o (rd l1 j) true _ b'.out).mono ?_);rintro e w' ⟨rfl,⟨nd,rfl⟩⟩;refine⟨_,rfl,?_⟩))
        go_roundg k1
        case measure=>have:=b5.out;omega
        case rel=>exact⟨(wrap64 (j+1)),zT,H',⟨by have:=b5.out;omega⟩,⟨zK R⟩,⟨zB⟩⟩
       ·replace aL:=Bool.eq_false_iff.mpr aL
        subst aL
        have H1:(some 2)=some r:=by rw[if_neg (show ¬(false=true) by decide)] at H;exact H
        clear H
        have H:=H1
        clear H1
        obtain rfl:=Option.some.inj H
        have ad:0<=(j:Int):=of_decide_eq_true ‹_›
        have ag:j<(l1.length:Int):=of_decide_eq_true ‹_›
        obtain⟨cl,a1,ak⟩:=Kd.bD bw.out j ad ag
        cases a1
        replace ak:=(J.out.cell (World.block_lt_of_cell? w _ ak)).trans ak
        replace ad:=eq_true ad
        replace ag:=eq_true ag
        obtain⟨eb,ed,eg,ek⟩:=ao R
        go_wp2_with (first|((with_reducible refine au (f:=121) rfl ?_);refine zL (some 22) Tryz.func121 #[.int .i64 o,.int .i64 (rd l1 j)] ?_;(with_reducible refine(dW.calls o (rd l1 j) false _ b'.out).mono ?_);rintro e w' ⟨rfl,⟨nd,rfl⟩⟩;refine⟨_,rfl,?_⟩))
        go_ret
        exact⟨zE,zB⟩
      ·rw[if_neg aF] at H
       exact absurd H (by simp)
     ·rw[if_neg c9] at H
      exact absurd H (by simp)
    ·rw[if_neg c8] at H
     have ck:decide (j<(l1.length:Int))=false:=decide_eq_false c8
     clear c8
     obtain rfl:=Option.some.inj H
     go_wp2
     go_ret
     exact⟨zE,zB⟩
 ·rw[if_neg c4] at H
  have b1:(t220==0)=false:=beq_eq_false_iff_ne.mpr c4
  have b2:(t220 != 0)=true:=bne_iff_ne.mpr c4
  obtain rfl:=Option.some.inj H
  go_enter Tryz.func203,Tryz.ntmps203
  go_wp2_with (first|((with_reducible refine aA (N:=2) rfl ?_);refine zX 2 #[.int .i64 o,.slice U I.length aa] 24 ?_;intro b3 hg er ar hb;have R:=Aside0.mk (ar);have ca:=zG J hg;have cb:=zG J hg;replace J:=zS J hb;clear hb ar hg;obtain⟨ev,ew,ey,e0⟩:=ao R)|((with_reducible refine au (f:=64) rfl ?_);refine zL (some 9) Tryz.func64 #[.agg #[.int .i64 o,.slice U I.length aa]] ?_;(with_reducible refine(aJ.calls k o _ _ I t220 _ ?aO ?aP A3.out).mono ?_);(case aO=>exact Kd.aj bn.out zB);(case aP=>exact bo.out);rintro e e1 ⟨rfl,hb⟩;refine⟨_,rfl,?_⟩;replace R:=zb R hb;replace J:=zS J hb;(try clear hb)))
  go_ret
  exact⟨zE,zB⟩
def cw.l0:Nat->Int->Int->List (S83)->Int->Int->Option (Int×Int)
 |0,_,_,_,_,_=>none
 |k+1,x1,I,o,J,j=>if j<J then(if 0<=j then(if j<(o.length:Int) then(if((ae o j).f0)=((ae o j).f1) then(cw.l0 k x1 I o J (wrap64 (j+1))) else(if((ae o j).f0)=x1 then(cw.l0 k x1 (wrap64 (I+((ae o j).f2))) o J (wrap64 (j+1))) else(if((ae o j).f1)=x1 then(cw.l0 k x1 (wrap64 (I+((ae o j).f2))) o J (wrap64 (j+1))) else(cw.l0 k x1 I o J (wrap64 (j+1)))))) else(none)) else(none)) else(some (I,0))
def cw.f (k:Nat) (I:Int) (j:List (S83)) (o:Int):Option (Int×Int):=(cp.f k I j (([o]:List Int))).bind fun t227=>(if t227=0 then(cw.l0 k o 0 j (j.length:Int) 0) else(some (0,t227)))
theorem cw.db:∀k,(∀j o I J R,ah (cw.l0 k j o I J R) (cw.l0 (k+1) j o I J R))
 |0=>fun _ _ _ _ _ r h=>by simp[cw.l0] at h
 |k+1=>by
  have U:=cw.db k
  ·intro j o I J R
   unfold cw.l0
   repeat' first
   |(with_reducible exact U _ _ _ _ _)
   |(with_reducible exact cp.mono _ _ _ _)
   |(with_reducible exact ah.refl _)
   |(with_reducible exact ah.none _)
   |(with_reducible refine ah.ite ?_ ?_)
   |(with_reducible refine ah.bind ?_ (fun _=>?_))
   |exact U _ _ _ _ _
   |exact cp.mono _ _ _ _
   |exact ah.none _
   |refine ah.ite ?_ ?_
   |refine ah.bind ?_ (fun _=>?_)
theorem cw.mono:∀j o I k,ah (cw.f k j o I) (cw.f (k+1) j o I):=by
 intro j o I k
 have J:=cw.db k
 unfold cw.f
 repeat' first
   |(with_reducible exact J _ _ _ _ _)
   |(with_reducible exact cp.mono _ _ _ _)
   |(with_reducible exact ah.refl _)
   |(with_reducible exact ah.none _)
   |(with_reducible refine ah.ite ?_ ?_)
   |(with_reducible refine ah.bind ?_ (fun _=>?_))
   |exact J _ _ _ _ _
   |exact cp.mono _ _ _ _
   |exact ah.none _
   |refine ah.ite ?_ ?_
   |refine ah.bind ?_ (fun _=>?_)
theorem cw.calls (k:Nat) (ab:Int) (a3:Option Addr) (an:Nat) (j:List (S83)) (a1:Int) (r1:Int) (r2:Int) (w:World) (c3:Kd.C aG w a3 j.length j) (c5:j.length<=an) (h:cw.f k ab j a1=some (r1,r2)):
  Calls Tryz.prog 186 #[.agg #[.int .i64 ab,.slice a3 j.length an],.int .i64 a1] w fun e w'=>e= .returned (.tuple #[.int .i64 r1,.int .i64 r2])∧Below w.heap.size w w':=by
 have f':=Tryz.underlying24
 have gb:=Tryz.underlying83
 have b2:=Aside0.mk c3
 have c6:=Aside0.mk c5
 clear c3 c5
 have J:=Aside0.mk (Below.refl w.heap.size w)
 have H:((cp.f k ab j (([a1]:List Int))).bind fun t227=>(if t227=0 then(cw.l0 k a1 0 j (j.length:Int) 0) else(some (0,t227))))=some (r1,r2):=h
 clear h
 obtain⟨b4,b5⟩:∃y_:List Int,y_=(([a1]:List Int)):=⟨_,rfl⟩
 replace H:((cp.f k ab j b4).bind fun t227=>(if t227=0 then(cw.l0 k a1 0 j (j.length:Int) 0) else(some (0,t227))))=some (r1,r2):=by first|(rw[b5];with_reducible exact H)|(have cf:=(Option.bind_some _ _).symm.trans H;rw[b5];with_reducible exact cf)|(have cf:=(Option.bind_some _ _).symm.trans H;with_reducible exact cf)|with_reducible exact H|(rw[b5];exact H)|exact H
 have ca:=Aside0.mk b5
 clear b5
 replace H:=Option.bind_eq_some_iff.mp H
 obtain⟨t227,c7,H⟩:=H
 replace H:(if t227=0 then(cw.l0 k a1 0 j (j.length:Int) 0) else(some (0,t227)))=some (r1,r2):=H
 have A3:=Aside0.mk c7
 clear c7
 by_cases c4:t227=0
 ·rw[if_pos c4] at H
  have c9:(t227==0)=true:=beq_iff_eq.mpr c4
  have c':(t227 != 0)=false:=bne_eq_false_iff_eq.mpr c4
  clear c4
  have H':=Aside0.mk H
  clear H
  go_enter Tryz.func186,Tryz.ntmps186
  go_wp2_with (first|((with_reducible refine aA (N:=2) rfl ?_);refine zX 2 #[.int .i64 ab,.slice a3 j.length an] 24 ?_;intro ag R w5 ak hb;have U:=Aside0.mk (ak);have dv:=zG J R;have ea:=zG J R;replace J:=zS J hb;clear hb ak R;obtain⟨eb,ed,eg,ek⟩:=ao U)|((with_reducible refine aA (N:=12) rfl ?_);refine Kd.eY (Kd.int .i64) _ 3 ?R (N:=12) ?hd (xs:=([a1]:List Int)) (inner:=[.int .i64 a1]) (ok:=fun _=>True) (okp:=fun _=>True) ?hr ?hp (fun _ hk=>hk) trivial (Below.refl _ _) (Nat.le_refl _) (by simp) ?_;(case hd=>rfl);(case R=>rfl);(case hr=>first|(go_simp;done)|(go_simp;rfl));(case hp=>exact(aT.one (show Kd.M (Kd.int .i64) _ _ _ a1 [.int .i64 a1] from rfl) (aT.none _ _)));intro er w7 b_ hb ch cj;clear ch cj;(first|rw[<-ca.out] at b_|(simp only[Int.reduceToNat] at b_;rw[<-ca.out] at b_));have aO:=Aside0.mk (Kd.aM b_ (aU zB));replace U:=zb U hb;replace J:=zS J hb;clear hb b_;obtain⟨ev,ew,ey⟩:=Kd.a7 aO.out;subst ey)|((with_reducible refine au (f:=203) rfl ?_);refine zL (some 13) Tryz.func203 #[.agg #[.int .i64 ab,.slice a3 j.length an],.slice ev b4.length ew] ?_;(with_reducible refine(cp.calls k ab _ _ j _ _ b4 t227 _ ?ck ?cl ?cq ?cr A3.out).mono ?_);(case ck=>exact Kd.aj b2.out zB);(case cl=>exact c6.out);(case cq=>exact zC (Kd.aC aO.out).2.2);(case cr=>exact(Kd.aC aO.out).2.1);rintro e gg ⟨rfl,hb⟩;refine⟨_,rfl,?_⟩;replace aO:=bm aO hb;replace U:=zb U hb;replace J:=zS J hb;(try clear hb);obtain⟨e0,e1,e2,e3⟩:=ao U))
  go_loopg [7,20] k (fun kq v7 v20 w'=>∃(bf:Int) (I:Int),v7= .int .i64 bf∧v20= .int .i64 I∧Aside0 (cw.l0 kq a1 bf j (j.length:Int) I=some (r1,r2))∧Aside0 (kq<=k)∧Aside0 (w'.heap[ag]? =some (.cells #[.int .i64 ab,(.slice a3 j.length an)] 24 (0,0)))∧Aside0 (Below w.heap.size w w'))
  case atStart=>exact⟨(0),(0),zT,zT,H',⟨Nat.le_refl _⟩,⟨zK U⟩,⟨zB⟩⟩
  case round=>
   clear H'
   try clear c1
   try clear c2
   try clear p2
   try clear c4
   try clear c9
   try clear c'
   try clear e0
   try clear e1
   try clear eb
   try clear ed
   try clear e2
   try clear e3
   try clear eg
   try clear ek
   obtain⟨bf,I,rfl,rfl,HA,a2,U,J⟩:=hrel
   cases gk with
   |zero=>exact absurd HA.out (by simp[cw.l0])
   |succ k1=>
    have H:=HA.out
    clear HA
    simp only[cw.l0] at H
    by_cases b3:I<(j.length:Int)
    ·rw[if_pos b3] at H
     have e5:decide (I<(j.length:Int))=true:=decide_eq_true b3
     clear b3
     by_cases cc:0<=I
     ·rw[if_pos cc] at H
      have gl:decide (0<=I)=true:=decide_eq_true cc
      clear cc
      by_cases cd:I<(j.length:Int)
      ·rw[if_pos cd] at H
       have gm:decide (I<(j.length:Int))=true:=decide_eq_true cd
       clear cd
       by_cases bg:((ae j I).f0)=((ae j I).f1)
       ·rw[if_pos bg] at H
        have e6:(((ae j I).f0)==((ae j I).f1))=true:=beq_iff_eq.mpr bg
        have e_:(((ae j I).f0) != ((ae j I).f1))=false:=bne_eq_false_iff_eq.mpr bg
        clear bg
        have H':=Aside0.mk H
        clear H
        have ar:0<=(I:Int):=of_decide_eq_true ‹_›
        have av:I<(j.length:Int):=of_decide_eq_true ‹_›
        obtain⟨aP,bk,aB,aF,aL⟩:=dK b2.out I ar av
        cases bk
        replace aB:=(J.out.cell (World.block_lt_of_cell? w _ aB)).trans aB
        replace aF:=(J.out.cell (World.block_lt_of_cell? w _ aF)).trans aF
        replace aL:=(J.out.cell (World.block_lt_of_cell? w _ aL)).trans aL
        replace ar:=eq_true ar
        replace av:=eq_true av
        go_wp2_with (first|((with_reducible refine aA (N:=9) rfl ?_);refine zX 9 #[.int .i64 0,.int .i64 0,.int .i64 0] 83 ?_;intro aS R gp ak hb;have bn:=Aside0.mk (ak);have cx:=zG J R;have c0:=zG J R;replace J:=zS J hb;have ad:=Aside0.mk ((by rw[R];exact Nat.ne_of_lt (aw (g:=ag) (o:=.cells #[.int .i64 ab,.slice (some aP) j.length an] 24 (0,0)) (zK U)):ag≠aS));have bo:=Aside0.mk ((by rw[R];exact Nat.ne_of_gt (aw (g:=ag) (o:=.cells #[.int .i64 ab,.slice (some aP) j.length an] 24 (0,0)) (zK U)):aS≠ag));replace U:=zb U hb;clear hb ak R;have gq:=bo.out;have gr:=ad.out;obtain⟨gx,g0,g1,g2,g3,g4⟩:=bE bn))
        go_roundg k1
        case measure=>have:=a2.out;omega
        case rel=>exact⟨(bf),(wrap64 (I+1)),zT,zT,H',⟨by have:=a2.out;omega⟩,⟨by refine zk ?_;refine ay ?_ ad.out _;refine zk ?_;refine ay ?_ ad.out _;refine zk ?_;refine ay ?_ ad.out _;exact zK U⟩,⟨zB⟩⟩
       ·rw[if_neg bg] at H
        have e6:(((ae j I).f0)==((ae j I).f1))=false:=beq_eq_false_iff_ne.mpr bg
        have e_:(((ae j I).f0) != ((ae j I).f1))=true:=bne_iff_ne.mpr bg
        by_cases bw:((ae j I).f0)=a1
        ·rw[if_pos bw] at H
         have e':(((ae j I).f0)==a1)=true:=beq_iff_eq.mpr bw
         have fb:(((ae j I).f0) != a1)=false:=bne_eq_false_iff_eq.mpr bw
         clear bw
         have H':=Aside0.mk H
         clear H
         have ar:0<=(I:Int):=of_decide_eq_true ‹_›
         have av:I<(j.length:Int):=of_decide_eq_true ‹_›
         obtain⟨aP,bk,aB,aF,aL⟩:=dK b2.out I ar av
         cases bk
         replace aB:=(J.out.cell (World.block_lt_of_cell? w _ aB)).trans aB
         replace aF:=(J.out.cell (World.block_lt_of_cell? w _ aF)).trans aF
         replace aL:=(J.out.cell (World.block_lt_of_cell? w _ aL)).trans aL
         replace ar:=eq_true ar
         replace av:=eq_true av
         go_wp2_with (first|((with_reducible refine aA (N:=9) rfl ?_);refine zX 9 #[.int .i64 0,.int .i64 0,.int .i64 0] 83 ?_;intro aS R g' ak hb;have bn:=Aside0.mk (ak);have cx:=zG J R;have c0:=zG J R;replace J:=zS J hb;have ad:=Aside0.mk ((by rw[R];exact Nat.ne_of_lt (aw (g:=ag) (o:=.cells #[.int .i64 ab,.slice (some aP) j.length an] 24 (0,0)) (zK U)):ag≠aS));have bo:=Aside0.mk ((by rw[R];exact Nat.ne_of_gt (aw (g:=ag) (o:=.cells #[.int .i64 ab,.slice (some aP) j.length an] 24 (0,0)) (zK U)):aS≠ag));replace U:=zb U hb;clear hb ak R;have ha:=bo.out;have hc:=ad.out;obtain⟨hf,hh,hj,hl,hn,ho⟩:=bE bn))
         go_roundg k1
         case measure=>have:=a2.out;omega
         case rel=>exact⟨(wrap64 (bf+((ae j I).f2))),(wrap64 (I+1)),zT,zT,H',⟨by have:=a2.out;omega⟩,⟨by refine zk ?_;refine ay ?_ ad.out _;refine zk ?_;refine ay ?_ ad.out _;refine zk ?_;refine ay ?_ ad.out _;exact zK U⟩,⟨zB⟩⟩
        ·rw[if_neg bw] at H
         have e':(((ae j I).f0)==a1)=false:=beq_eq_false_iff_ne.mpr bw
         have fb:(((ae j I).f0) != a1)=true:=bne_iff_ne.mpr bw
         by_cases bx:((ae j I).f1)=a1
         ·rw[if_pos bx] at H
          have fo:(((ae j I).f1)==a1)=true:=beq_iff_eq.mpr bx
          have fq:(((ae j I).f1) != a1)=false:=bne_eq_false_iff_eq.mpr bx
          clear bx
          have H':=Aside0.mk H
          clear H
          have ar:0<=(I:Int):=of_decide_eq_true ‹_›
          have av:I<(j.length:Int):=of_decide_eq_true ‹_›
          obtain⟨aP,bk,aB,aF,aL⟩:=dK b2.out I ar av
          cases bk
          replace aB:=(J.out.cell (World.block_lt_of_cell? w _ aB)).trans aB
          replace aF:=(J.out.cell (World.block_lt_of_cell? w _ aF)).trans aF
          replace aL:=(J.out.cell (World.block_lt_of_cell? w _ aL)).trans aL
          replace ar:=eq_true ar
          replace av:=eq_true av
          go_wp2_with (first|((with_reducible refine aA (N:=9) rfl ?_);refine zX 9 #[.int .i64 0,.int .i64 0,.int .i64 0] 83 ?_;intro aS R hq ak hb;have bn:=Aside0.mk (ak);have cx:=zG J R;have c0:=zG J R;replace J:=zS J hb;have ad:=Aside0.mk ((by rw[R];exact Nat.ne_of_lt (aw (g:=ag) (o:=.cells #[.int .i64 ab,.slice (some aP) j.length an] 24 (0,0)) (zK U)):ag≠aS));have bo:=Aside0.mk ((by rw[R];exact Nat.ne_of_gt (aw (g:=ag) (o:=.cells #[.int .i64 ab,.slice (some aP) j.length an] 24 (0,0)) (zK U)):aS≠ag));replace U:=zb U hb;clear hb ak R;have hs:=bo.out;have ht:=ad.out;obtain⟨hv,hx,hy,hz,hA,hB⟩:=bE bn))
          go_roundg k1
          case measure=>have:=a2.out;omega
          case rel=>exact⟨(wrap64 (bf+((ae j I).f2))),(wrap64 (I+1)),zT,zT,H',⟨by have:=a2.out;omega⟩,⟨by refine zk ?_;refine ay ?_ ad.out _;refine zk ?_;refine ay ?_ ad.out _;refine zk ?_;refine ay ?_ ad.out _;exact zK U⟩,⟨zB⟩⟩
         ·rw[if_neg bx] at H
          have fo:(((ae j I).f1)==a1)=false:=beq_eq_false_iff_ne.mpr bx
          have fq:(((ae j I).f1) != a1)=true:=bne_iff_ne.mpr bx
          have H':=Aside0.mk H
          clear H
          have ar:0<=(I:Int):=of_decide_eq_true ‹_›
          have av:I<(j.length:Int):=of_decide_eq_true ‹_›
          obtain⟨aP,bk,aB,aF,aL⟩:=dK b2.out I ar av
          cases bk
          replace aB:=(J.out.cell (World.block_lt_of_cell? w _ aB)).trans aB
          replace aF:=(J.out.cell (World.block_lt_of_cell? w _ aF)).trans aF
          replace aL:=(J.out.cell (World.block_lt_of_cell? w _ aL)).trans aL
          replace ar:=eq_true ar
          replace av:=eq_true av
          go_wp2_with (first|((with_reducible refine aA (N:=9) rfl ?_);refine zX 9 #[.int .i64 0,.int .i64 0,.int .i64 0] 83 ?_;intro aS R hD ak hb;have bn:=Aside0.mk (ak);have cx:=zG J R;have c0:=zG J R;replace J:=zS J hb;have ad:=Aside0.mk ((by rw[R];exact Nat.ne_of_lt (aw (g:=ag) (o:=.cells #[.int .i64 ab,.slice (some aP) j.length an] 24 (0,0)) (zK U)):ag≠aS));have bo:=Aside0.mk ((by rw[R];exact Nat.ne_of_gt (aw (g:=ag) (o:=.cells #[.int .i64 ab,.slice (some aP) j.length an] 24 (0,0)) (zK U)):aS≠ag));replace U:=zb U hb;clear hb ak R;have hE:=bo.out;have hG:=ad.out;obtain⟨hH,hI,hJ,hK,hL,hM⟩:=bE bn))
          go_roundg k1
          case measure=>have:=a2.out;omega
          case rel=>exact⟨(bf),(wrap64 (I+1)),zT,zT,H',⟨by have:=a2.out;omega⟩,⟨by refine zk ?_;refine ay ?_ ad.out _;refine zk ?_;refine ay ?_ ad.out _;refine zk ?_;refine ay ?_ ad.out _;exact zK U⟩,⟨zB⟩⟩
      ·rw[if_neg cd] at H
       exact absurd H (by simp)
     ·rw[if_neg cc] at H
      exact absurd H (by simp)
    ·rw[if_neg b3] at H
     have e5:decide (I<(j.length:Int))=false:=decide_eq_false b3
     clear b3
     simp only[Option.some.injEq,Prod.mk.injEq] at H
     obtain⟨rfl,rfl⟩:=H
     go_wp2
     go_ret2
     exact⟨zE,zB⟩
 ·rw[if_neg c4] at H
  have c9:(t227==0)=false:=beq_eq_false_iff_ne.mpr c4
  have c':(t227 != 0)=true:=bne_iff_ne.mpr c4
  simp only[Option.some.injEq,Prod.mk.injEq] at H
  obtain⟨rfl,rfl⟩:=H
  go_enter Tryz.func186,Tryz.ntmps186
  go_wp2_with (first|((with_reducible refine aA (N:=2) rfl ?_);refine zX 2 #[.int .i64 ab,.slice a3 j.length an] 24 ?_;intro ag R hN ak hb;have U:=Aside0.mk (ak);have dv:=zG J R;have ea:=zG J R;replace J:=zS J hb;clear hb ak R;obtain⟨hO,hP,hQ,hR⟩:=ao U)|((with_reducible refine aA (N:=12) rfl ?_);refine Kd.eY (Kd.int .i64) _ 3 ?R (N:=12) ?hd (xs:=([a1]:List Int)) (inner:=[.int .i64 a1]) (ok:=fun _=>True) (okp:=fun _=>True) ?hr ?hp (fun _ hk=>hk) trivial (Below.refl _ _) (Nat.le_refl _) (by simp) ?_;(case hd=>rfl);(case R=>rfl);(case hr=>first|(go_simp;done)|(go_simp;rfl));(case hp=>exact(aT.one (show Kd.M (Kd.int .i64) _ _ _ a1 [.int .i64 a1] from rfl) (aT.none _ _)));intro er hT b' hb ch cj;clear ch cj;(first|rw[<-ca.out] at b'|(simp only[Int.reduceToNat] at b';rw[<-ca.out] at b'));have aO:=Aside0.mk (Kd.aM b' (aU zB));replace U:=zb U hb;replace J:=zS J hb;clear hb b';obtain⟨fr,ft,fv⟩:=Kd.a7 aO.out;subst fv)|((with_reducible refine au (f:=203) rfl ?_);refine zL (some 13) Tryz.func203 #[.agg #[.int .i64 ab,.slice a3 j.length an],.slice fr b4.length ft] ?_;(with_reducible refine(cp.calls k ab _ _ j _ _ b4 t227 _ ?ck ?cl ?cq ?cr A3.out).mono ?_);(case ck=>exact Kd.aj b2.out zB);(case cl=>exact c6.out);(case cq=>exact zC (Kd.aC aO.out).2.2);(case cr=>exact(Kd.aC aO.out).2.1);rintro e hV ⟨rfl,hb⟩;refine⟨_,rfl,?_⟩;replace aO:=bm aO hb;replace U:=zb U hb;replace J:=zS J hb;(try clear hb)))
  go_ret2
  exact⟨zE,zB⟩
section
attribute [local go_sem] Oper.semAt_some
theorem DN (N:Int) (ev:Value) (w:World):Calls Tryz.prog 143 #[.agg #[.int .i64 N,ev]] w fun e w'=>e= .returned (.func (.func 185) #[] #[.pointer (some ⟨w.heap.size,0,none⟩)])∧w'=w.alloc (.cells #[.int .i64 N,ev] 24):=by
 go_enter Tryz.func143,Tryz.ntmps143
 go_wp2
 go_ret
 exact⟨rfl,rfl⟩
def me (k:Nat) (N:Int) (E:List S83):Nat->Option (List Int)
 |0=>some []
 |v+1=>(me k N E v).bind fun l=>(cw.f k N E (v:Nat)).bind fun p=>some (l++[p.1])
theorem vD (k:Nat) (N:Int) (E:List S83):∀v,ah (me k N E v) (me (k+1) N E v)
 |0=>ah.refl _
 |v+1=>ah.bind (vD k N E v) (fun _=>ah.bind (cw.mono _ _ _ _) (fun _=>ah.refl _))
theorem vE {k:Nat} {N:Int} {E:List S83}:∀{v:Nat} {l:List Int},me k N E v=some l->l.length=v∧∀u:Nat,u<v->∃e,cw.f k N E (u:Nat)=some (rd l u,e)
 |0,l,h=>by injection h with h;subst h;exact⟨rfl,fun u hu=>by omega⟩
 |v+1,l,h=>by
  obtain⟨l',h1,o⟩:=Option.bind_eq_some_iff.1 h
  obtain⟨p,h2,j⟩:=Option.bind_eq_some_iff.1 o
  injection j with j
  subst j
  obtain⟨i1,i2⟩:=vE h1
  refine⟨by simp[i1],fun u hu=>?_⟩
  by_cases e:u=v
  ·subst e
   refine⟨p.2,?_⟩
   rw[h2,show rd (l'++[p.1]) (u:Int)=p.1 by simp[rd,List.getD_eq_getElem?_getD,<-i1]]
  ·obtain⟨e',I⟩:=i2 u (by omega)
   refine⟨e',?_⟩
   rw[I,show rd (l'++[p.1]) (u:Int)=rd l' u by simp[rd,List.getD_eq_getElem?_getD,List.getElem?_append_left (show u<l'.length by omega)]]
def gN (L:List Int) (v:Nat):List (Int×Int):=(List.range v).map fun u:Nat=>((u:Int),rd L u)
theorem vF (L:List Int) (v:Nat):gN L (v+1)=gN L v++[((v:Int),rd L v)]:=by simp[gN,List.range_succ]
def DO (base a:Nat) (X Y:World):Prop:=(base<=X.heap.size->Below base X Y)∧(a<X.heap.size->Y.heap[a]? =X.heap[a]?)
theorem DP (j k n:Nat) (A0:Option Addr) (c0:Nat) (E:List S83) (L:List Int) (w0 W:World) (bf:Kd.C aG w0 A0 E.length E) (bk:E.length<=c0) (hn:n<=1000) (hL:∀u:Nat,u<n->∃e,cw.f k n E (u:Nat)=some (rd L u,e)) (hB:Below w0.heap.size w0 W)
  (R:W.heap[j]? =some (.cells #[.int .i64 n,.slice A0 E.length c0] 24 (0,0))):
  iA (σ:=Unit) Fence.wide 9 Tryz.prog 185 #[.pointer (some ⟨j,0,none⟩)] (fun x:Int×Int=>#[.int .i64 x.1,.int .i64 x.2]) (fun _ W W1=>W1=W) (fun _ A B=>Below A.heap.size A B) (fun _ x A B=>(∃v:Nat,v<n∧x=((v:Int),rd L v))∧Below A.heap.size A B)
   (fun _ X Y=>DO w0.heap.size j X Y)
   (fun _ xs W'=>xs=gN L n) (fun _ _ _=>True) (fun pre=>pre.length<=n) W:=by
 intro lp J Jx ar av aB aF
 have bn:=Aside0.mk ar
 have cj:=Aside0.mk av
 have hY:=Aside0.mk aF
 have HL:=Aside0.mk hL
 have aL:=aB () W rfl
 clear ar av aB aF hL
 have hu:=Tryz.underlying24
 refine callsIn_of_wp Tryz.func185 rfl trivial ?_ rfl
 simp only[Tryz.ntmps185,List.size_toArray,List.length_cons,List.length_nil,Nat.reduceAdd,Nat.reduceSub,Array.replicate_succ,Array.replicate_zero,List.push_toArray,List.append_toArray,List.nil_append,List.cons_append]
 have U:W.cell? ⟨j,0,none⟩=some (.int .i64 n):=(ai R 0).trans rfl
 have o:=Aside0.mk R
 clear R
 gi_wp2
 clear U
 gi_loopg [8] (n) (fun kq i wr=>∃v:Nat,i= .int .i64 v∧v<=n∧Aside0 (J () (gN L v) wr)∧Aside0 (wr.heap[j]? =some (.cells #[.int .i64 n,.slice A0 E.length c0] 24 (0,0)))∧Aside0 (Below w0.heap.size w0 wr)∧Aside0 (kq=n-v))
 case atStart=>exact⟨0,rfl,Nat.zero_le _,⟨aL⟩,o,⟨hB⟩,⟨rfl⟩⟩
 case round=>
  clear aL hB o
  obtain⟨v,rfl,hv,HJ,o,HB,HK⟩:=hrel
  by_cases aO:v<n
  ·have cl:(0:Int)<=(v:Int):=by omega
   have cq:(v:Int)<(n:Int):=by omega
   obtain⟨ev,aP⟩:=HL.out v aO
   have HV:=Aside0.mk aP
   have b4:=Aside0.mk (vF L v)
   have U:wr.cell? ⟨j,0,none⟩=some (.int .i64 n):=(ai o.out 0).trans rfl
   have b1:wr.cell? ⟨j,1,none⟩=some (.slice A0 E.length c0):=(ai o.out 1).trans rfl
   clear aP
   gi_wp2_with (refine⟨trivial,?_⟩;gi_at_call 186;refine(callsIn_wide.2 (cw.calls k n A0 c0 E v (rd L v) ev _ (Kd.aj bf HB.out) bk HV.out)).mono ?_;rintro e w3 ⟨rfl,I⟩;have b_:=Aside0.mk (bn.out () _ _ _ HJ.out I);have aS:=Aside0.mk (aN HB.out I);have a0:=Aside0.mk (aE o.out I);obtain⟨fn,tmps,cr,cv,hy,a1⟩:=hY.out () (gN L v) ((v:Int),rd L v) _ _ b_.out ⟨⟨v,aO,rfl⟩,Below.refl _ _⟩ (by show (gN L v).length<=n;simp[gN];omega);have b':=Aside0.mk a1;simp only at hy;clear a1 I HJ HB o U b1)
   refine b'.out.mono ?_
   rintro e W3 (⟨rfl,a2,ag⟩|⟨rfl,a3⟩)
   ·have ca:=Aside0.mk a2
    have cb:=Aside0.mk ((ag.2 (aw a0.out)).trans a0.out)
    have cc:=Aside0.mk (aS.out.trans (ag.1 aS.out.size))
    clear a2 ag hy
    gi_wp2
    gi_roundg (n- (v+1))
    case measure=>rw[HK.out];omega
    case rel=>exact⟨v+1,by go_num,by omega,⟨by rw[b4.out];exact ca.out⟩,cb,cc,⟨rfl⟩⟩
   ·have cd:=Aside0.mk a3
    clear a3 hy
    gi_wp2
    refine bodyPost_ret (results_none rfl _ _ _) rfl ?_
    exact⟨⟨_,rfl⟩,.inr ⟨(),_,trivial,cd.out⟩⟩
  ·obtain rfl:n=v:=by omega
   gi_wp2
   go_end0
   exact⟨⟨_,rfl⟩,.inl ⟨(),_,rfl,HJ.out⟩⟩
def kb (L:List Int) (n v:Nat):List Int:=(List.range n).map fun u:Nat=>if u<v then wrap64 (rd L u-2) else 0
theorem DQ {L:List Int} {n v:Nat} (j:v<n):(kb L n v).set v (wrap64 (rd L v-2))=kb L n (v+1):=by
 unfold kb
 refine List.ext_getElem (by simp) fun i h1 h2=>?_
 rw[List.getElem_set]
 simp only[List.getElem_map,List.getElem_range]
 by_cases e:v=i
 ·subst e;simp
 ·rw[if_neg e]
  by_cases h:i<v
  ·rw[if_pos h,if_pos (by omega)]
  ·rw[if_neg h,if_neg (by omega)]
def gO (n:Nat) (pre:List (Int×Int)):List Int:=pre.foldl (fun l x=>l.set x.1.toNat (wrap64 (x.2-2))) (List.replicate n 0)
theorem vG (n:Nat) (pre:List (Int×Int)) (x:Int×Int):gO n (pre++[x])=(gO n pre).set x.1.toNat (wrap64 (x.2-2)):=by simp[gO,List.foldl_append]
theorem DR (n:Nat) (pre:List (Int×Int)):(gO n pre).length=n:=by
 unfold gO
 have:∀(pre:List (Int×Int)) (l:List Int),(pre.foldl (fun l x=>l.set x.1.toNat (wrap64 (x.2-2))) l).length=l.length:=by
  intro pre
  induction pre with
  |nil=>intro l;rfl
  |cons x pre j=>intro l;rw[List.foldl_cons,j];simp
 rw[this];simp
theorem vH (L:List Int) (n:Nat):∀v,v<=n->gO n (gN L v)=kb L n v
 |0,_=>by
  unfold kb
  refine List.ext_getElem (by simp[gO,gN]) fun i h1 h2=>?_
  simp[gO,gN]
 |v+1,h=>by
  rw[vF,vG,vH L n v (by omega)]
  simp only[Int.toNat_natCast]
  exact DQ (by omega)
def fG.f (k:Nat) (N:Int) (E:List S83):Option (List Int):=if 1<=N∧N<=1000 then(me k N E N.toNat).bind fun l=>some (kb l N.toNat N.toNat) else none
theorem fG.mono:∀j o k,ah (fG.f k j o) (fG.f (k+1) j o):=by
 intro N E k
 unfold fG.f
 exact ah.ite (ah.bind (vD _ _ _ _) (fun _=>ah.refl _)) (ah.refl _)
theorem DS (k n:Nat) (A0:Option Addr) (c0:Nat) (E:List S83) (L:List Int) (w:World) (b4:Kd.C aG w A0 E.length E) (b5:E.length<=c0) (c7:1<=n) (hn:n<=1000) (hL:∀u:Nat,u<n->∃e,cw.f k n E (u:Nat)=some (rd L u,e)):
  Calls Tryz.prog 89 #[.agg #[.int .i64 n,.slice A0 E.length c0]] w fun e w'=>∃go co,e= .returned (.slice (some ⟨go,0,none⟩) n co)∧(Kd.int .i64).R 3 w' w.heap.size (fun _=>True) (.slice (some ⟨go,0,none⟩) n co) (kb L n n)∧Below w.heap.size w w':=by
 have hu:=Tryz.underlying24
 have HL:=Aside0.mk hL
 have c8:(0:Int)<=(n:Int):=by omega
 obtain⟨I,b',aO⟩:=kM 26 Tryz.underlying26 n hn
 have HZ:=Aside0.mk aO
 clear hL aO
 refine(callsIn_wide (n:=10)).1 ?_
 refine callsIn_of_wp_marks Tryz.func89 rfl trivial ?_ rfl
 simp only[Tryz.ntmps89,List.size_toArray,List.length_cons,List.length_nil,Nat.reduceAdd,Nat.reduceSub,Array.replicate_succ,Array.replicate_zero,List.push_toArray,List.append_toArray,List.nil_append,List.cons_append]
 gi_wp2_with (first|(refine⟨trivial,?_⟩;gi_at_call 143;refine(callsIn_wide.2 (DN n _ _)).mono ?_;rintro e w3 ⟨rfl,rfl⟩))
 have hX:=heap_alloc_new ((w.alloc (.cells #[.int .i64 n,.slice A0 E.length c0] 24)).alloc (.cells I 3)) (.cells #[.slice (some ⟨w.heap.size+1,0,none⟩) n n] 26)
 have hG:=heap_alloc_new (((w.alloc (.cells #[.int .i64 n,.slice A0 E.length c0] 24)).alloc (.cells I 3)).alloc (.cells #[.slice (some ⟨w.heap.size+1,0,none⟩) n n] 26)) (.cells #[.int .i64 n,.slice A0 E.length c0] 24)
 have hS:=HZ.out (w.alloc (.cells #[.int .i64 n,.slice A0 E.length c0] 24)) (fun _=>True) trivial
 simp only[World.size_alloc] at hX hG hS
 have aS:=Aside0.mk (aq hX (.cells #[.int .i64 n,.slice A0 E.length c0] 24))
 have a0:=Aside0.mk hG
 have an:=Aside0.mk (al (al (al (al (Below.refl w.heap.size w) (.cells #[.int .i64 n,.slice A0 E.length c0] 24)) (.cells I 3)) (.cells #[.slice (some ⟨w.heap.size+1,0,none⟩) n n] 26)) (.cells #[.int .i64 n,.slice A0 E.length c0] 24))
 have a2:Aside0 ((Kd.int .i64).R 3 ((((w.alloc (.cells #[.int .i64 n,.slice A0 E.length c0] 24)).alloc (.cells I 3)).alloc (.cells #[.slice (some ⟨w.heap.size+1,0,none⟩) n n] 26)).alloc (.cells #[.int .i64 n,.slice A0 E.length c0] 24)) w.heap.size (fun _=>True) (.slice (some ⟨w.heap.size+1,0,none⟩) n n) (gO n [])):=⟨Kd.aM (Kd.aD (Kd.aD hS _) _) (by omega)⟩
 have ca:=Nat.le_of_eq (show ((((w.alloc (.cells #[.int .i64 n,.slice A0 E.length c0] 24)).alloc (.cells I 3)).alloc (.cells #[.slice (some ⟨w.heap.size+1,0,none⟩) n n] 26)).alloc (.cells #[.int .i64 n,.slice A0 E.length c0] 24)).heap.size=w.heap.size+4 by simp)
 have cb:=Nat.le_of_eq (show w.heap.size+4=((((w.alloc (.cells #[.int .i64 n,.slice A0 E.length c0] 24)).alloc (.cells I 3)).alloc (.cells #[.slice (some ⟨w.heap.size+1,0,none⟩) n n] 26)).alloc (.cells #[.int .i64 n,.slice A0 E.length c0] 24)).heap.size by simp)
 clear hX hG hS HZ b'
 generalize (((w.alloc (.cells #[.int .i64 n,.slice A0 E.length c0] 24)).alloc (.cells I 3)).alloc (.cells #[.slice (some ⟨w.heap.size+1,0,none⟩) n n] 26)).alloc (.cells #[.int .i64 n,.slice A0 E.length c0] 24)=J at aS a0 an a2 ca cb⊢
 refine iB (σ:=Unit) (α:=Int×Int) (F:=Fence.wide) (n:=10) rfl (by decide) (gf:=185) (lb:=#[.pointer (some ⟨w.heap.size+1+1+1,0,none⟩)]) rfl trivial (enters_of Tryz.func185 (by kernel_rfl) rfl)
  (fun o=>DP (w.heap.size+1+1+1) k n A0 c0 E L w _ b4 b5 hn HL.out (al (al an.out _) _) (aq (aq a0.out _) _)) (fun _=>rfl)
  (fun _=>True) ?cc ?st ?ar
  (fun _ pre W=>J.heap.size<=W.heap.size∧(Kd.int .i64).R 3 W w.heap.size (fun _=>True) (.slice (some ⟨w.heap.size+1,0,none⟩) n n) (gO n pre)∧W.heap[w.heap.size+1+1]? =some (.cells #[.slice (some ⟨w.heap.size+1,0,none⟩) n n] 26 (0,0))∧Below w.heap.size w W) (fun _ _ _ _=>False)
  ?is (fun _ _ _ _ _ _ h _=>h) ?ib (fun _ _ _ _ _ h _=>h) ?kt ?h0 ?a1 ?assign ?body ?done (fun _ _ _ _ _ _ _ h=>h.elim)
 case assign=>
  intro l x W K hK
  gi_wp2
  exact hK
 case cc=>
  intro o s W1 h
  exact⟨trivial,by rw[h];exact bJ.refl _ _⟩
 case st=>intro s A B _ h;exact cH h
 case ar=>intro s x A B _ h;exact cH h.2
 case is=>
  rintro s pre A B _ ⟨U,h1,h2,h3⟩ ab
  exact⟨Nat.le_trans U ab.size,Kd.bY h1 ab,aE h2 ab,aN h3 ab⟩
 case ib=>
  rintro s pre A B ⟨U,h1,h2,h3⟩ hb
  exact⟨by rw[hb.size];exact U,dr h1 hb,hb.cells h2,h3.trans (hb.below w.heap.size (by omega))⟩
 case kt=>
  intro s A B C D ad a3 bf
  refine⟨fun aK=>((ad.below w.heap.size (by omega)).trans (a3.1 (by rw[ad.size];exact aK))).trans (bf.below w.heap.size (by omega)),fun ck=>?_⟩
  have bg:w.heap.size+1+1+1≠J.heap.size+1:=by omega
  exact(bf.heap _ bg).trans ((a3.2 (by rw[ad.size];exact ck)).trans (ad.heap _ bg))
 case h0=>
  rintro o s W1 rfl
  exact⟨by simp;omega,Kd.aD (Kd.aD a2.out _) _,aq (aq aS.out _) _,al (al an.out _) _⟩
 case body=>
  rintro l s' pre ⟨xv,xy⟩ Wb Wc W _ ⟨U,i1,i2,i3⟩ ⟨⟨v,dv,hx⟩,aa⟩ cq j
  injection hx with cr cv
  subst cr
  have I1:=Aside0.mk (dr (Kd.bY i1 aa) j)
  have I2:=Aside0.mk (j.cells (aE i2 aa))
  have I3:=Aside0.mk ((aN i3 aa).trans (j.below w.heap.size (by omega)))
  have c1:J.heap.size<=W.heap.size:=by have:=j.size;have:=aa.size;omega
  have c2:=Aside0.mk (vG n pre ((v:Int),xy))
  have ea:=Aside0.mk (DR n pre)
  clear i1 i2 i3 aa j cq U cv
  have z1:=dN I2.out
  obtain⟨z2,z3⟩:=Kd.bB 0 I1.out (v:Int) (by omega) (by omega)
  rw[Int.toNat_natCast] at z2 z3
  generalize bl 0 (gO n pre) (v:Int)=z at z2
  replace z2:W.cell? ⟨w.heap.size+1,v,none⟩=some (.int .i64 z):=z2
  have eb:(0:Int)<=(v:Int):=by omega
  have ed:(v:Int)<(n:Int):=by omega
  have HP:=Kd.cL I1.out (v:Int) (wrap64 (xy-2))
  rw[Int.toNat_natCast] at HP
  have c4:=Aside0.mk HP.1
  clear HP
  gi_wp2
  refine⟨eQ _ _ (by omega),⟨fun _=>Below.setCell (p:=⟨w.heap.size+1,v,none⟩) (Below.refl _ _) (by show w.heap.size<=w.heap.size+1;omega) _,fun _=>Below.heap_setCell _ _ _ _ (by show w.heap.size+1+1+1≠w.heap.size+1;omega)⟩,by simpa using c1,?_,ay I2.out (by show w.heap.size+1+1≠w.heap.size+1;omega) _,Below.setCell (p:=⟨w.heap.size+1,v,none⟩) I3.out (by show w.heap.size<=w.heap.size+1;omega) _⟩
  rw[c2.out]
  exact c4.out
 case done=>
  rintro s' xs W W' _ rfl ⟨U,i1,i2,i3⟩ j bw
  have b1:=Aside0.mk (dr i1 j)
  have b2:=Aside0.mk (j.cells i2)
  have b3:=Aside0.mk (i3.trans (j.below w.heap.size (by omega)))
  have bx:=Aside0.mk bw
  clear i1 i2 i3 bw
  have hc:=dN b2.out
  gi_wp2_with fail
  have b0:Bk J.heap.size W' (W'.putObj J.heap.size (.deferred none)):=⟨_,_,bx.out,rfl,rfl⟩
  have h1:=b1.out
  rw[vH L n n (Nat.le_refl _)] at h1
  exact jk (D:=J.heap.size) rfl bx.out (results_tmp rfl _ _ _) ⟨_,_,rfl,dr h1 b0,b3.out.trans (b0.below w.heap.size (by omega))⟩
theorem fG.calls (k:Nat) (o:Int) (I:Option Addr) (J:Nat) (j:List (S83)) (r:List Int) (w:World) (ab:Kd.C aG w I j.length j) (ad:j.length<=J) (h:fG.f k o j=some r):
  Calls Tryz.prog 89 #[.agg #[.int .i64 o,.slice I j.length J]] w fun e w'=>∃U:Value,e= .returned (U)∧Kd.R (Kd.int .i64) 3 w' w.heap.size (fun _=>True) U r∧Below w.heap.size w w':=by
 unfold fG.f at h
 by_cases hN:1<=o∧o<=1000
 ·rw[if_pos hN] at h
  obtain⟨n,rfl⟩:=Int.eq_ofNat_of_zero_le (show 0<=o by omega)
  obtain⟨L,h1,h2⟩:=Option.bind_eq_some_iff.1 h
  simp only[Int.toNat_natCast] at h1 h2
  injection h2 with h2
  subst h2
  refine(DS k n I J j L w ab ad (by omega) (by omega) (vE h1).2).mono ?_
  rintro e w' ⟨go,co,rfl,hR,hB⟩
  exact⟨_,rfl,hR,hB⟩
 ·rw[if_neg hN] at h;cases h
end
def dw.f (k:Nat) (j:Int) (o:List (S83)):Option (List Int×Int):=(ei.f k j o).bind fun t231=>(if t231=0 then((fG.f k j o).bind fun t232=>(some (t232,0))) else(some (([]:List Int),t231)))
theorem dw.mono:∀j o k,ah (dw.f k j o) (dw.f (k+1) j o):=by
 intro j o k
 unfold dw.f
 repeat' first
   |(with_reducible exact fG.mono _ _ _)
   |(with_reducible exact ei.mono _ _ _)
   |(with_reducible exact ah.refl _)
   |(with_reducible exact ah.none _)
   |(with_reducible refine ah.ite ?_ ?_)
   |(with_reducible refine ah.bind ?_ (fun _=>?_))
   |exact fG.mono _ _ _
   |exact ei.mono _ _ _
   |exact ah.none _
   |refine ah.ite ?_ ?_
   |refine ah.bind ?_ (fun _=>?_)
theorem dw.calls (k:Nat) (I:Int) (U:Option Addr) (aa:Nat) (j:List (S83)) (r1:List Int) (r2:Int) (w:World) (aF:Kd.C aG w U j.length j) (aL:j.length<=aa) (h:dw.f k I j=some (r1,r2)):
  Calls Tryz.prog 35 #[.agg #[.int .i64 I,.slice U j.length aa]] w fun e w'=>∃aO:Value,e= .returned (.tuple #[aO,.int .i64 r2])∧Kd.R (Kd.int .i64) 3 w' w.heap.size (fun _=>True) aO r1∧Below w.heap.size w w':=by
 have bw:=Tryz.underlying24
 have av:=Aside0.mk aF
 have aB:=Aside0.mk aL
 clear aF aL
 have o:=Aside0.mk (Below.refl w.heap.size w)
 have H:((ei.f k I j).bind fun t231=>(if t231=0 then((fG.f k I j).bind fun t232=>(some (t232,0))) else(some (([]:List Int),t231))))=some (r1,r2):=h
 clear h
 replace H:=Option.bind_eq_some_iff.mp H
 obtain⟨t231,aP,H⟩:=H
 replace H:(if t231=0 then((fG.f k I j).bind fun t232=>(some (t232,0))) else(some (([]:List Int),t231)))=some (r1,r2):=H
 have A2:=Aside0.mk aP
 clear aP
 by_cases c3:t231=0
 ·rw[if_pos c3] at H
  have a2:(t231==0)=true:=beq_iff_eq.mpr c3
  have a3:(t231 != 0)=false:=bne_eq_false_iff_eq.mpr c3
  clear c3
  replace H:=Option.bind_eq_some_iff.mp H
  obtain⟨t232,a0,H⟩:=H
  replace H:(some (t232,0))=some (r1,r2):=H
  have A4:=Aside0.mk a0
  clear a0
  simp only[Option.some.injEq,Prod.mk.injEq] at H
  obtain⟨rfl,rfl⟩:=H
  go_enter Tryz.func35,Tryz.ntmps35
  go_wp2_with (first|((with_reducible refine aA (N:=1) rfl ?_);refine zX 1 #[.int .i64 I,.slice U j.length aa] 24 ?_;intro bg hg w5 ak hb;have J:=Aside0.mk (ak);have bk:=zG o hg;have bn:=zG o hg;replace o:=zS o hb;clear hb ak hg;obtain⟨b0,b1,b2,b3⟩:=ao J)|((with_reducible refine au (f:=55) rfl ?_);refine zL (some 6) Tryz.func55 #[.agg #[.int .i64 I,.slice U j.length aa]] ?_;(with_reducible refine(ei.calls k I _ _ j t231 _ ?an ?ar A2.out).mono ?_);(case an=>exact Kd.aj av.out zB);(case ar=>exact aB.out);rintro e w7 ⟨rfl,hb⟩;refine⟨_,rfl,?_⟩;replace J:=zb J hb;replace o:=zS o hb;(try clear hb);obtain⟨b5,b_,b',ca⟩:=ao J)|((with_reducible refine au (f:=89) rfl ?_);refine zL (some 11) Tryz.func89 #[.agg #[.int .i64 I,.slice U j.length aa]] ?_;(with_reducible refine(fG.calls k I _ _ j t232 _ ?an ?ar A4.out).mono ?_);(case an=>exact Kd.aj av.out zB);(case ar=>exact aB.out);rintro e w9 ⟨cc,rfl,a1,hb⟩;refine⟨_,rfl,?_⟩;have bo:=Aside0.mk (Kd.aM a1 (aU zB));replace J:=zb J hb;replace o:=zS o hb;(try clear hb);(try clear a1)))
  go_ret2
  exact⟨_,zE,by(with_reducible repeat(first|apply Kd.aD|apply Kd.bd|apply Kd.a8));exact bo.out,zB⟩
 ·rw[if_neg c3] at H
  have a2:(t231==0)=false:=beq_eq_false_iff_ne.mpr c3
  have a3:(t231 != 0)=true:=bne_iff_ne.mpr c3
  simp only[Option.some.injEq,Prod.mk.injEq] at H
  obtain⟨rfl,rfl⟩:=H
  go_enter Tryz.func35,Tryz.ntmps35
  go_wp2_with (first|((with_reducible refine aA (N:=1) rfl ?_);refine zX 1 #[.int .i64 I,.slice U j.length aa] 24 ?_;intro bg hg cd ak hb;have J:=Aside0.mk (ak);have bk:=zG o hg;have bn:=zG o hg;replace o:=zS o hb;clear hb ak hg;obtain⟨cf,ch,cj,ck⟩:=ao J)|((with_reducible refine au (f:=55) rfl ?_);refine zL (some 6) Tryz.func55 #[.agg #[.int .i64 I,.slice U j.length aa]] ?_;(with_reducible refine(ei.calls k I _ _ j t231 _ ?an ?ar A2.out).mono ?_);(case an=>exact Kd.aj av.out zB);(case ar=>exact aB.out);rintro e cl ⟨rfl,hb⟩;refine⟨_,rfl,?_⟩;replace J:=zb J hb;replace o:=zS o hb;(try clear hb)))
  go_ret2
  exact⟨_,zE,by first|exact Kd.cE _ _ _ _ _|exact Kd.fs _ _ _ _ _|exact Kd.V_nil _ _ _ _ _|exact Kd.Q_nil _ _ _ _ _|exact Kd.eZ _ _ _ _ _,zB⟩
def fh.f (k:Nat) (o:Int) (J:List (S83)) (l1:List Int):Option (List Int×Int):=(dw.f k o J).bind fun j=>(if j.2=0 then((aW.f k l1 o).bind fun t240=>(if t240=0 then((dG.f k j.1 l1).bind fun I=>(some (I.1,I.2))) else(some (([]:List Int),t240)))) else(some (([]:List Int),j.2)))
theorem fh.mono:∀j o I k,ah (fh.f k j o I) (fh.f (k+1) j o I):=by
 intro j o I k
 unfold fh.f
 repeat' first
   |(with_reducible exact aW.mono _ _ _)
   |(with_reducible exact dG.mono _ _ _)
   |(with_reducible exact dw.mono _ _ _)
   |(with_reducible exact ah.refl _)
   |(with_reducible exact ah.none _)
   |(with_reducible refine ah.ite ?_ ?_)
   |(with_reducible refine ah.bind ?_ (fun _=>?_))
   |exact aW.mono _ _ _
   |exact dG.mono _ _ _
   |exact dw.mono _ _ _
   |exact ah.none _
   |refine ah.ite ?_ ?_
   |refine ah.bind ?_ (fun _=>?_)
theorem fh.calls (k:Nat) (o:Int) (ag:Option Addr) (ak:Nat) (I:List (S83)) (A1:Option Addr) (c1:Nat) (l1:List Int) (r1:List Int) (r2:Int) (w:World) (bf:Kd.C aG w ag I.length I) (bg:I.length<=ak) (bk:Kd.C (Kd.int .i64) w A1 l1.length l1) (bn:l1.length<=c1) (h:fh.f k o I l1=some (r1,r2)):
  Calls Tryz.prog 32 #[.agg #[.int .i64 o,.slice ag I.length ak],.slice A1 l1.length c1] w fun e w'=>∃bo:Value,e= .returned (.tuple #[bo,.int .i64 r2])∧Kd.R (Kd.int .i64) 3 w' w.heap.size (fun _=>True) bo r1∧Below w.heap.size w w':=by
 have cr:=Tryz.underlying24
 have aP:=Aside0.mk bf
 have aS:=Aside0.mk bg
 clear bf bg
 have a0:=Aside0.mk bk
 have a1:=Aside0.mk bn
 clear bk bn
 have j:=Aside0.mk (Below.refl w.heap.size w)
 have H:((dw.f k o I).bind fun a2=>(if a2.2=0 then((aW.f k l1 o).bind fun t240=>(if t240=0 then((dG.f k a2.1 l1).bind fun an=>(some (an.1,an.2))) else(some (([]:List Int),t240)))) else(some (([]:List Int),a2.2))))=some (r1,r2):=h
 clear h
 replace H:=Option.bind_eq_some_iff.mp H
 obtain⟨⟨t236,t239⟩,bw,H⟩:=H
 replace H:(if t239=0 then((aW.f k l1 o).bind fun t240=>(if t240=0 then((dG.f k t236 l1).bind fun an=>(some (an.1,an.2))) else(some (([]:List Int),t240)))) else(some (([]:List Int),t239)))=some (r1,r2):=H
 have A3:=Aside0.mk bw
 clear bw
 by_cases c4:t239=0
 ·rw[if_pos c4] at H
  have b_:(t239==0)=true:=beq_iff_eq.mpr c4
  have b':(t239 != 0)=false:=bne_eq_false_iff_eq.mpr c4
  clear c4
  replace H:=Option.bind_eq_some_iff.mp H
  obtain⟨t240,bx,H⟩:=H
  replace H:(if t240=0 then((dG.f k t236 l1).bind fun an=>(some (an.1,an.2))) else(some (([]:List Int),t240)))=some (r1,r2):=H
  have A5:=Aside0.mk bx
  clear bx
  by_cases c6:t240=0
  ·rw[if_pos c6] at H
   have ca:(t240==0)=true:=beq_iff_eq.mpr c6
   have cb:(t240 != 0)=false:=bne_eq_false_iff_eq.mpr c6
   clear c6
   replace H:=Option.bind_eq_some_iff.mp H
   obtain⟨⟨t241,t242⟩,b1,H⟩:=H
   replace H:(some (t241,t242))=some (r1,r2):=H
   have A7:=Aside0.mk b1
   clear b1
   simp only[Option.some.injEq,Prod.mk.injEq] at H
   obtain⟨rfl,rfl⟩:=H
   go_enter Tryz.func32,Tryz.ntmps32
   go_wp2_with (first|((with_reducible refine aA (N:=2) rfl ?_);refine zX 2 #[.int .i64 o,.slice ag I.length ak] 24 ?_;intro b2 hg w8 ar hb;have J:=Aside0.mk (ar);have b3:=zG j hg;have b4:=zG j hg;replace j:=zS j hb;clear hb ar hg;obtain⟨cx,c0,c2,c3⟩:=ao J)|((with_reducible refine au (f:=35) rfl ?_);refine zL (some 11) Tryz.func35 #[.agg #[.int .i64 o,.slice ag I.length ak]] ?_;(with_reducible refine(dw.calls k o _ _ I t236 t239 _ ?ab ?ad A3.out).mono ?_);(case ab=>exact Kd.aj aP.out zB);(case ad=>exact aS.out);rintro e c5 ⟨b5,rfl,U,hb⟩;refine⟨_,rfl,?_⟩;have av:=Aside0.mk (Kd.aM U (aU zB));replace J:=zb J hb;replace j:=zS j hb;(try clear hb);(try clear U);obtain⟨c7,c8,c9,c'⟩:=ao J)|((with_reducible refine au (f:=87) rfl ?_);refine zL (some 20) Tryz.func87 #[.slice A1 l1.length c1,.int .i64 o] ?_;(with_reducible refine(aW.calls k _ _ l1 o t240 _ ?ab ?ad A5.out).mono ?_);(case ab=>exact Kd.aj a0.out zB);(case ad=>exact a1.out);rintro e w' ⟨rfl,⟨nd,rfl⟩⟩;refine⟨_,rfl,?_⟩;obtain⟨cf,ch,cj⟩:=Kd.a7 av.out;subst cj)|((with_reducible refine au (f:=16) rfl ?_);refine zL (some 26) Tryz.func16 #[.slice cf t236.length ch,.slice A1 l1.length c1] ?_;(with_reducible refine(dG.calls k _ _ t236 _ _ l1 t241 t242 _ ?ab ?ad ?ck ?cl A7.out).mono ?_);(case ab=>exact zC (Kd.aC av.out).2.2);(case ad=>exact(Kd.aC av.out).2.1);(case ck=>exact Kd.aj a0.out zB);(case cl=>exact a1.out);rintro e dd ⟨ds,rfl,U,hb⟩;refine⟨_,rfl,?_⟩;have cq:=Aside0.mk (Kd.aM (Kd.dy U (Kd.bq (zR av))) (aU zB));replace av:=fu av U hb;replace J:=zb J hb;replace j:=zS j hb;(try clear hb);(try clear U)))
   go_ret2
   exact⟨_,zE,by(with_reducible repeat(first|apply Kd.aD|apply Kd.bd|apply Kd.a8));exact Kd.aR cq.out (fun _ hk=>trivial),zB⟩
  ·rw[if_neg c6] at H
   have ca:(t240==0)=false:=beq_eq_false_iff_ne.mpr c6
   have cb:(t240 != 0)=true:=bne_iff_ne.mpr c6
   simp only[Option.some.injEq,Prod.mk.injEq] at H
   obtain⟨rfl,rfl⟩:=H
   go_enter Tryz.func32,Tryz.ntmps32
   go_wp2_with (first|((with_reducible refine aA (N:=2) rfl ?_);refine zX 2 #[.int .i64 o,.slice ag I.length ak] 24 ?_;intro b2 hg dv ar hb;have J:=Aside0.mk (ar);have b3:=zG j hg;have b4:=zG j hg;replace j:=zS j hb;clear hb ar hg;obtain⟨ea,eb,ed,eg⟩:=ao J)|((with_reducible refine au (f:=35) rfl ?_);refine zL (some 11) Tryz.func35 #[.agg #[.int .i64 o,.slice ag I.length ak]] ?_;(with_reducible refine(dw.calls k o _ _ I t236 t239 _ ?ab ?ad A3.out).mono ?_);(case ab=>exact Kd.aj aP.out zB);(case ad=>exact aS.out);rintro e ek ⟨b5,rfl,U,hb⟩;refine⟨_,rfl,?_⟩;have av:=Aside0.mk (Kd.aM U (aU zB));replace J:=zb J hb;replace j:=zS j hb;(try clear hb);(try clear U);obtain⟨er,ev,ew,ey⟩:=ao J)|((with_reducible refine au (f:=87) rfl ?_);refine zL (some 20) Tryz.func87 #[.slice A1 l1.length c1,.int .i64 o] ?_;(with_reducible refine(aW.calls k _ _ l1 o t240 _ ?ab ?ad A5.out).mono ?_);(case ab=>exact Kd.aj a0.out zB);(case ad=>exact a1.out);rintro e w' ⟨rfl,⟨nd,rfl⟩⟩;refine⟨_,rfl,?_⟩))
   go_ret2
   exact⟨_,zE,by first|exact Kd.cE _ _ _ _ _|exact Kd.fs _ _ _ _ _|exact Kd.V_nil _ _ _ _ _|exact Kd.Q_nil _ _ _ _ _|exact Kd.eZ _ _ _ _ _,zB⟩
 ·rw[if_neg c4] at H
  have b_:(t239==0)=false:=beq_eq_false_iff_ne.mpr c4
  have b':(t239 != 0)=true:=bne_iff_ne.mpr c4
  simp only[Option.some.injEq,Prod.mk.injEq] at H
  obtain⟨rfl,rfl⟩:=H
  go_enter Tryz.func32,Tryz.ntmps32
  go_wp2_with (first|((with_reducible refine aA (N:=2) rfl ?_);refine zX 2 #[.int .i64 o,.slice ag I.length ak] 24 ?_;intro b2 hg e0 ar hb;have J:=Aside0.mk (ar);have b3:=zG j hg;have b4:=zG j hg;replace j:=zS j hb;clear hb ar hg;obtain⟨e1,e2,e3,e4⟩:=ao J)|((with_reducible refine au (f:=35) rfl ?_);refine zL (some 11) Tryz.func35 #[.agg #[.int .i64 o,.slice ag I.length ak]] ?_;(with_reducible refine(dw.calls k o _ _ I t236 t239 _ ?ab ?ad A3.out).mono ?_);(case ab=>exact Kd.aj aP.out zB);(case ad=>exact aS.out);rintro e e5 ⟨b5,rfl,U,hb⟩;refine⟨_,rfl,?_⟩;have av:=Aside0.mk (Kd.aM U (aU zB));replace J:=zb J hb;replace j:=zS j hb;(try clear hb);(try clear U)))
  go_ret2
  exact⟨_,zE,by first|exact Kd.cE _ _ _ _ _|exact Kd.fs _ _ _ _ _|exact Kd.V_nil _ _ _ _ _|exact Kd.Q_nil _ _ _ _ _|exact Kd.eZ _ _ _ _ _,zB⟩
noncomputable def fi.f (k:Nat) (j:Int) (o:List (S83)) (l1:List Int):Option (Int×Int):=(fh.f k j o l1).bind fun I=>(if I.2=0 then((cP.f k j o l1).bind fun J=>(if J.2=0 then((cP.f k j o I.1).bind fun R=>(if R.2=0 then(some (wrap64 (J.1-R.1),0)) else(some (0,R.2)))) else(some (0,J.2)))) else(some (0,I.2)))
theorem fi.calls (k:Nat) (I:Int) (ag:Option Addr) (ak:Nat) (o:List (S83)) (A1:Option Addr) (c1:Nat) (l1:List Int) (r1:Int) (r2:Int) (w:World) (b':Kd.C aG w ag o.length o) (ca:o.length<=ak) (cb:Kd.C (Kd.int .i64) w A1 l1.length l1) (cc:l1.length<=c1) (h:fi.f k I o l1=some (r1,r2)):
  Calls Tryz.prog 27 #[.agg #[.int .i64 I,.slice ag o.length ak],.slice A1 l1.length c1] w fun e w'=>e= .returned (.tuple #[.int .i64 r1,.int .i64 r2])∧Below w.heap.size w w':=by
 have c':=Tryz.underlying24
 have aS:=Aside0.mk b'
 have a0:=Aside0.mk ca
 clear b' ca
 have a2:=Aside0.mk cb
 have a3:=Aside0.mk cc
 clear cb cc
 have j:=Aside0.mk (Below.refl w.heap.size w)
 have H:((fh.f k I o l1).bind fun b0=>(if b0.2=0 then((cP.f k I o l1).bind fun bf=>(if bf.2=0 then((cP.f k I o b0.1).bind fun ar=>(if ar.2=0 then(some (wrap64 (bf.1-ar.1),0)) else(some (0,ar.2)))) else(some (0,bf.2)))) else(some (0,b0.2))))=some (r1,r2):=h
 clear h
 replace H:=Option.bind_eq_some_iff.mp H
 obtain⟨⟨aL,av⟩,cd,H⟩:=H
 replace H:(if av=0 then((cP.f k I o l1).bind fun bf=>(if bf.2=0 then((cP.f k I o aL).bind fun ar=>(if ar.2=0 then(some (wrap64 (bf.1-ar.1),0)) else(some (0,ar.2)))) else(some (0,bf.2)))) else(some (0,av)))=some (r1,r2):=H
 have A3:=Aside0.mk cd
 clear cd
 by_cases c4:av=0
 ·rw[if_pos c4] at H
  have ck:(av==0)=true:=beq_iff_eq.mpr c4
  have cl:(av != 0)=false:=bne_eq_false_iff_eq.mpr c4
  clear c4
  replace H:=Option.bind_eq_some_iff.mp H
  obtain⟨⟨bw,aO⟩,cf,H⟩:=H
  replace H:(if aO=0 then((cP.f k I o aL).bind fun ar=>(if ar.2=0 then(some (wrap64 (bw-ar.1),0)) else(some (0,ar.2)))) else(some (0,aO)))=some (r1,r2):=H
  have A5:=Aside0.mk cf
  clear cf
  by_cases c6:aO=0
  ·rw[if_pos c6] at H
   have cq:(aO==0)=true:=beq_iff_eq.mpr c6
   have cr:(aO != 0)=false:=bne_eq_false_iff_eq.mpr c6
   clear c6
   replace H:=Option.bind_eq_some_iff.mp H
   obtain⟨⟨b2,a1⟩,ch,H⟩:=H
   replace H:(if a1=0 then(some (wrap64 (bw-b2),0)) else(some (0,a1)))=some (r1,r2):=H
   have A7:=Aside0.mk ch
   clear ch
   by_cases c8:a1=0
   ·rw[if_pos c8] at H
    have cv:(a1==0)=true:=beq_iff_eq.mpr c8
    have cx:(a1 != 0)=false:=bne_eq_false_iff_eq.mpr c8
    clear c8
    simp only[Option.some.injEq,Prod.mk.injEq] at H
    obtain⟨rfl,rfl⟩:=H
    go_enter Tryz.func27,Tryz.ntmps27
    go_wp2_with (first|((with_reducible refine aA (N:=2) rfl ?_);refine zX 2 #[.int .i64 I,.slice ag o.length ak] 24 ?_;intro b3 hg w9 aB hb;have J:=Aside0.mk (aB);have b4:=zG j hg;have b5:=zG j hg;replace j:=zS j hb;clear hb aB hg;obtain⟨ds,dv,ea,eb⟩:=ao J)|((with_reducible refine au (f:=32) rfl ?_);refine zL (some 13) Tryz.func32 #[.agg #[.int .i64 I,.slice ag o.length ak],.slice A1 l1.length c1] ?_;(with_reducible refine(fh.calls k I _ _ o _ _ l1 aL av _ ?U ?aa ?ab ?ad A3.out).mono ?_);(case U=>exact Kd.aj aS.out zB);(case aa=>exact a0.out);(case ab=>exact Kd.aj a2.out zB);(case ad=>exact a3.out);rintro e fE ⟨b_,rfl,aF,hb⟩;refine⟨_,rfl,?_⟩;have R:=Aside0.mk (Kd.aM aF (aU zB));replace J:=zb J hb;replace j:=zS j hb;(try clear hb);(try clear aF);obtain⟨ed,eg,ek,er⟩:=ao J)|((with_reducible refine au (f:=41) rfl ?_);refine zL (some 22) Tryz.func41 #[.agg #[.int .i64 I,.slice ag o.length ak],.slice A1 l1.length c1] ?_;(with_reducible refine(cP.calls k I _ _ o _ _ l1 bw aO _ ?U ?aa ?ab ?ad A5.out).mono ?_);(case U=>exact Kd.aj aS.out zB);(case aa=>exact a0.out);(case ab=>exact Kd.aj a2.out zB);(case ad=>exact a3.out);rintro e ev ⟨rfl,hb⟩;refine⟨_,rfl,?_⟩;replace R:=bm R hb;replace J:=zb J hb;replace j:=zS j hb;(try clear hb);obtain⟨ew,ey,e0,e1⟩:=ao J;obtain⟨c0,c2,c3⟩:=Kd.a7 R.out;subst c3)|((with_reducible refine au (f:=41) rfl ?_);refine zL (some 31) Tryz.func41 #[.agg #[.int .i64 I,.slice ag o.length ak],.slice c0 aL.length c2] ?_;(with_reducible refine(cP.calls k I _ _ o _ _ aL b2 a1 _ ?U ?aa ?ab ?ad A7.out).mono ?_);(case U=>exact Kd.aj aS.out zB);(case aa=>exact a0.out);(case ab=>exact zC (Kd.aC R.out).2.2);(case ad=>exact(Kd.aC R.out).2.1);rintro e e2 ⟨rfl,hb⟩;refine⟨_,rfl,?_⟩;replace R:=bm R hb;replace J:=zb J hb;replace j:=zS j hb;(try clear hb)))
    go_ret2
    exact⟨zE,zB⟩
   ·rw[if_neg c8] at H
    have cv:(a1==0)=false:=beq_eq_false_iff_ne.mpr c8
    have cx:(a1 != 0)=true:=bne_iff_ne.mpr c8
    simp only[Option.some.injEq,Prod.mk.injEq] at H
    obtain⟨rfl,rfl⟩:=H
    go_enter Tryz.func27,Tryz.ntmps27
    go_wp2_with (first|((with_reducible refine aA (N:=2) rfl ?_);refine zX 2 #[.int .i64 I,.slice ag o.length ak] 24 ?_;intro b3 hg e3 aB hb;have J:=Aside0.mk (aB);have b4:=zG j hg;have b5:=zG j hg;replace j:=zS j hb;clear hb aB hg;obtain⟨e4,e5,e6,e_⟩:=ao J)|((with_reducible refine au (f:=32) rfl ?_);refine zL (some 13) Tryz.func32 #[.agg #[.int .i64 I,.slice ag o.length ak],.slice A1 l1.length c1] ?_;(with_reducible refine(fh.calls k I _ _ o _ _ l1 aL av _ ?U ?aa ?ab ?ad A3.out).mono ?_);(case U=>exact Kd.aj aS.out zB);(case aa=>exact a0.out);(case ab=>exact Kd.aj a2.out zB);(case ad=>exact a3.out);rintro e e' ⟨b_,rfl,aF,hb⟩;refine⟨_,rfl,?_⟩;have R:=Aside0.mk (Kd.aM aF (aU zB));replace J:=zb J hb;replace j:=zS j hb;(try clear hb);(try clear aF);obtain⟨fb,fo,fq,fr⟩:=ao J)|((with_reducible refine au (f:=41) rfl ?_);refine zL (some 22) Tryz.func41 #[.agg #[.int .i64 I,.slice ag o.length ak],.slice A1 l1.length c1] ?_;(with_reducible refine(cP.calls k I _ _ o _ _ l1 bw aO _ ?U ?aa ?ab ?ad A5.out).mono ?_);(case U=>exact Kd.aj aS.out zB);(case aa=>exact a0.out);(case ab=>exact Kd.aj a2.out zB);(case ad=>exact a3.out);rintro e ft ⟨rfl,hb⟩;refine⟨_,rfl,?_⟩;replace R:=bm R hb;replace J:=zb J hb;replace j:=zS j hb;(try clear hb);obtain⟨fv,f',gb,gd⟩:=ao J;obtain⟨c5,c7,c9⟩:=Kd.a7 R.out;subst c9)|((with_reducible refine au (f:=41) rfl ?_);refine zL (some 31) Tryz.func41 #[.agg #[.int .i64 I,.slice ag o.length ak],.slice c5 aL.length c7] ?_;(with_reducible refine(cP.calls k I _ _ o _ _ aL b2 a1 _ ?U ?aa ?ab ?ad A7.out).mono ?_);(case U=>exact Kd.aj aS.out zB);(case aa=>exact a0.out);(case ab=>exact zC (Kd.aC R.out).2.2);(case ad=>exact(Kd.aC R.out).2.1);rintro e gf ⟨rfl,hb⟩;refine⟨_,rfl,?_⟩;replace R:=bm R hb;replace J:=zb J hb;replace j:=zS j hb;(try clear hb)))
    go_ret2
    exact⟨zE,zB⟩
  ·rw[if_neg c6] at H
   have cq:(aO==0)=false:=beq_eq_false_iff_ne.mpr c6
   have cr:(aO != 0)=true:=bne_iff_ne.mpr c6
   simp only[Option.some.injEq,Prod.mk.injEq] at H
   obtain⟨rfl,rfl⟩:=H
   go_enter Tryz.func27,Tryz.ntmps27
   go_wp2_with (first|((with_reducible refine aA (N:=2) rfl ?_);refine zX 2 #[.int .i64 I,.slice ag o.length ak] 24 ?_;intro b3 hg gg aB hb;have J:=Aside0.mk (aB);have b4:=zG j hg;have b5:=zG j hg;replace j:=zS j hb;clear hb aB hg;obtain⟨gi,gl,gm,gp⟩:=ao J)|((with_reducible refine au (f:=32) rfl ?_);refine zL (some 13) Tryz.func32 #[.agg #[.int .i64 I,.slice ag o.length ak],.slice A1 l1.length c1] ?_;(with_reducible refine(fh.calls k I _ _ o _ _ l1 aL av _ ?U ?aa ?ab ?ad A3.out).mono ?_);(case U=>exact Kd.aj aS.out zB);(case aa=>exact a0.out);(case ab=>exact Kd.aj a2.out zB);(case ad=>exact a3.out);rintro e gq ⟨b_,rfl,aF,hb⟩;refine⟨_,rfl,?_⟩;have R:=Aside0.mk (Kd.aM aF (aU zB));replace J:=zb J hb;replace j:=zS j hb;(try clear hb);(try clear aF);obtain⟨gr,gx,g0,g1⟩:=ao J)|((with_reducible refine au (f:=41) rfl ?_);refine zL (some 22) Tryz.func41 #[.agg #[.int .i64 I,.slice ag o.length ak],.slice A1 l1.length c1] ?_;(with_reducible refine(cP.calls k I _ _ o _ _ l1 bw aO _ ?U ?aa ?ab ?ad A5.out).mono ?_);(case U=>exact Kd.aj aS.out zB);(case aa=>exact a0.out);(case ab=>exact Kd.aj a2.out zB);(case ad=>exact a3.out);rintro e g2 ⟨rfl,hb⟩;refine⟨_,rfl,?_⟩;replace R:=bm R hb;replace J:=zb J hb;replace j:=zS j hb;(try clear hb)))
   go_ret2
   exact⟨zE,zB⟩
 ·rw[if_neg c4] at H
  have ck:(av==0)=false:=beq_eq_false_iff_ne.mpr c4
  have cl:(av != 0)=true:=bne_iff_ne.mpr c4
  simp only[Option.some.injEq,Prod.mk.injEq] at H
  obtain⟨rfl,rfl⟩:=H
  go_enter Tryz.func27,Tryz.ntmps27
  go_wp2_with (first|((with_reducible refine aA (N:=2) rfl ?_);refine zX 2 #[.int .i64 I,.slice ag o.length ak] 24 ?_;intro b3 hg g3 aB hb;have J:=Aside0.mk (aB);have b4:=zG j hg;have b5:=zG j hg;replace j:=zS j hb;clear hb aB hg;obtain⟨g4,g',ha,hc⟩:=ao J)|((with_reducible refine au (f:=32) rfl ?_);refine zL (some 13) Tryz.func32 #[.agg #[.int .i64 I,.slice ag o.length ak],.slice A1 l1.length c1] ?_;(with_reducible refine(fh.calls k I _ _ o _ _ l1 aL av _ ?U ?aa ?ab ?ad A3.out).mono ?_);(case U=>exact Kd.aj aS.out zB);(case aa=>exact a0.out);(case ab=>exact Kd.aj a2.out zB);(case ad=>exact a3.out);rintro e hf ⟨b_,rfl,aF,hb⟩;refine⟨_,rfl,?_⟩;have R:=Aside0.mk (Kd.aM aF (aU zB));replace J:=zb J hb;replace j:=zS j hb;(try clear hb);(try clear aF)))
  go_ret2
  exact⟨zE,zB⟩
def b9.l0:Nat->List Int->List Int->Int->Int->Option (Bool)
 |0,_,_,_,_=>none
 |k+1,o,x1,I,j=>if j<I then(if 0<=j then(if j<(o.length:Int) then(if j<(x1.length:Int) then(if(rd o j)=(rd x1 j) then(b9.l0 k o x1 I (wrap64 (j+1))) else(some false)) else(none)) else(none)) else(none)) else(some true)
def b9.f (k:Nat) (l0:List Int) (l1:List Int):Option (Bool):=if(l0.length:Int)=(l1.length:Int) then(b9.l0 k l0 l1 (l0.length:Int) 0) else(some false)
theorem b9.db:∀k,(∀j o I J,ah (b9.l0 k j o I J) (b9.l0 (k+1) j o I J))
 |0=>fun _ _ _ _ r h=>by simp[b9.l0] at h
 |k+1=>by
  have R:=b9.db k
  ·intro j o I J
   unfold b9.l0
   repeat' first
   |(with_reducible exact R _ _ _ _)
   |(with_reducible exact ah.refl _)
   |(with_reducible exact ah.none _)
   |(with_reducible refine ah.ite ?_ ?_)
   |(with_reducible refine ah.bind ?_ (fun _=>?_))
   |exact R _ _ _ _
   |exact ah.none _
   |refine ah.ite ?_ ?_
   |refine ah.bind ?_ (fun _=>?_)
theorem b9.mono:∀j o k,ah (b9.f k j o) (b9.f (k+1) j o):=by
 intro j o k
 have I:=b9.db k
 unfold b9.f
 repeat' first
   |(with_reducible exact I _ _ _ _)
   |(with_reducible exact ah.refl _)
   |(with_reducible exact ah.none _)
   |(with_reducible refine ah.ite ?_ ?_)
   |(with_reducible refine ah.bind ?_ (fun _=>?_))
   |exact I _ _ _ _
   |exact ah.none _
   |refine ah.ite ?_ ?_
   |refine ah.bind ?_ (fun _=>?_)
theorem b9.calls (k:Nat) (A0:Option Addr) (c0:Nat) (l0:List Int) (A1:Option Addr) (c1:Nat) (l1:List Int) (r:Bool) (w:World) (aB:Kd.C (Kd.int .i64) w A0 l0.length l0) (aF:l0.length<=c0) (aL:Kd.C (Kd.int .i64) w A1 l1.length l1) (aO:l1.length<=c1) (h:b9.f k l0 l1=some r):
  Calls Tryz.prog 33 #[.slice A0 l0.length c0,.slice A1 l1.length c1] w fun e w'=>e= .returned (.bool r)∧ax w w':=by
 have aP:=Aside0.mk aB
 have b3:=Aside0.mk aF
 clear aB aF
 have aS:=Aside0.mk aL
 have b4:=Aside0.mk aO
 clear aL aO
 have H:(if(l0.length:Int)=(l1.length:Int) then(b9.l0 k l0 l1 (l0.length:Int) 0) else(some false))=some r:=h
 clear h
 by_cases c3:(l0.length:Int)=(l1.length:Int)
 ·rw[if_pos c3] at H
  have a0:((l0.length:Int)==(l1.length:Int))=true:=beq_iff_eq.mpr c3
  have a1:((l0.length:Int) != (l1.length:Int))=false:=bne_eq_false_iff_eq.mpr c3
  have a2:(l0.length==l1.length)=true:=by first|simpa using c3|(simp at c3⊢;omega)
  clear c3
  have H':=Aside0.mk H
  clear H
  go_enter Tryz.func33,Tryz.ntmps33
  go_wp2
  repeat(go_quiet (fail);try go_wp2)
  go_loopg [13] k (fun kq bg w'=>∃(j:Int),bg= .int .i64 j∧Aside0 (b9.l0 kq l0 l1 (l0.length:Int) j=some r)∧Aside0 (kq<=k)∧ax w w')
  case atStart=>exact⟨(0),zT,H',⟨Nat.le_refl _⟩,by repeat(first|exact ax.refl _|apply ax.step)⟩
  case round=>
   clear H'
   try clear c1
   try clear p2
   try clear c3
   try clear a0
   try clear a1
   try clear a2
   obtain⟨j,rfl,HA,bf,⟨m1,rfl⟩⟩:=hrel
   cases gk with
   |zero=>exact absurd HA.out (by simp[b9.l0])
   |succ k1=>
    have H:=HA.out
    clear HA
    simp only[b9.l0] at H
    by_cases c4:j<(l0.length:Int)
    ·rw[if_pos c4] at H
     have bn:decide (j<(l0.length:Int))=true:=decide_eq_true c4
     clear c4
     by_cases c5:0<=j
     ·rw[if_pos c5] at H
      have b':decide (0<=j)=true:=decide_eq_true c5
      clear c5
      by_cases c6:j<(l0.length:Int)
      ·rw[if_pos c6] at H
       have ca:decide (j<(l0.length:Int))=true:=decide_eq_true c6
       clear c6
       by_cases c7:j<(l1.length:Int)
       ·rw[if_pos c7] at H
        have cb:decide (j<(l1.length:Int))=true:=decide_eq_true c7
        clear c7
        by_cases o:(rd l0 j)=(rd l1 j)
        ·rw[if_pos o] at H
         have bo:((rd l0 j)==(rd l1 j))=true:=beq_iff_eq.mpr o
         have bw:((rd l0 j) != (rd l1 j))=false:=bne_eq_false_iff_eq.mpr o
         clear o
         have H':=Aside0.mk H
         clear H
         have I:0<=(j:Int):=of_decide_eq_true ‹_›
         have J:j<(l0.length:Int):=of_decide_eq_true ‹_›
         obtain⟨bx,an,b0⟩:=Kd.bD aP.out j I J
         cases an
         replace I:=eq_true I
         replace J:=eq_true J
         have R:0<=(j:Int):=of_decide_eq_true ‹_›
         have U:j<(l1.length:Int):=of_decide_eq_true ‹_›
         obtain⟨b1,ar,b2⟩:=Kd.bD aS.out j R U
         cases ar
         replace R:=eq_true R
         replace U:=eq_true U
         go_wp2
         repeat(go_quiet (fail);try go_wp2)
         go_roundg k1
         case measure=>have:=bf.out;omega
         case rel=>exact⟨(wrap64 (j+1)),zT,H',⟨by have:=bf.out;omega⟩,by repeat(first|exact ax.refl _|apply ax.step)⟩
        ·rw[if_neg o] at H
         have bo:((rd l0 j)==(rd l1 j))=false:=beq_eq_false_iff_ne.mpr o
         have bw:((rd l0 j) != (rd l1 j))=true:=bne_iff_ne.mpr o
         obtain rfl:=Option.some.inj H
         have I:0<=(j:Int):=of_decide_eq_true ‹_›
         have J:j<(l0.length:Int):=of_decide_eq_true ‹_›
         obtain⟨bx,an,b0⟩:=Kd.bD aP.out j I J
         cases an
         replace I:=eq_true I
         replace J:=eq_true J
         have R:0<=(j:Int):=of_decide_eq_true ‹_›
         have U:j<(l1.length:Int):=of_decide_eq_true ‹_›
         obtain⟨b1,ar,b2⟩:=Kd.bD aS.out j R U
         cases ar
         replace R:=eq_true R
         replace U:=eq_true U
         go_wp2
         repeat(go_quiet (fail);try go_wp2)
         go_ret
         exact⟨zT,by repeat(first|exact ax.refl _|apply ax.step)⟩
       ·rw[if_neg c7] at H
        exact absurd H (by simp)
      ·rw[if_neg c6] at H
       exact absurd H (by simp)
     ·rw[if_neg c5] at H
      exact absurd H (by simp)
    ·rw[if_neg c4] at H
     have bn:decide (j<(l0.length:Int))=false:=decide_eq_false c4
     clear c4
     obtain rfl:=Option.some.inj H
     go_wp2
     repeat(go_quiet (fail);try go_wp2)
     go_ret
     exact⟨zT,by repeat(first|exact ax.refl _|apply ax.step)⟩
 ·rw[if_neg c3] at H
  have a0:((l0.length:Int)==(l1.length:Int))=false:=beq_eq_false_iff_ne.mpr c3
  have a1:((l0.length:Int) != (l1.length:Int))=true:=bne_iff_ne.mpr c3
  have a2:(l0.length==l1.length)=false:=by first|simpa using c3|(simp at c3⊢;omega)
  obtain rfl:=Option.some.inj H
  go_enter Tryz.func33,Tryz.ntmps33
  go_wp2
  repeat(go_quiet (fail);try go_wp2)
  go_ret
  exact⟨zT,by repeat(first|exact ax.refl _|apply ax.step)⟩
end Go.Proofs.YtffdiakgjakngaaGreat.P

