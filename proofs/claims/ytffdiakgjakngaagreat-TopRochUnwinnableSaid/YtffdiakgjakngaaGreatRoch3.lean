/- TopRochUnwinnable answers true whatever the input (text 3 of 19): own walks and plain laws; no conditions. -/
import Derived.Test.YtffdiakgjakngaaGreatRoch2
namespace Go.Proofs.YtffdiakgjakngaaGreat.P
open Go.RowKit Go.Proofs.YtffdiakgjakngaaGreatW.PrintWords Go.Proofs.YtffdiakgjakngaaGreatW.PrintLast Go.Proofs.YtffdiakgjakngaaGreatW.PrintMore
set_option linter.unusedVariables false
set_option linter.unusedSimpArgs false
set_option maxHeartbeats 8000000
set_option maxRecDepth 100000
mutual
def aJ.j0:Nat->Bool->Int->List (S83)->Option (Int)
 |0,_,_,_=>none
 |k+1,o,I,j=>if o=true then(some 2) else(aJ.l0 k j (j.length:Int) 0 I j (-1) (-1))
def aJ.l0:Nat->List (S83)->Int->Int->Int->List (S83)->Int->Int->Option (Int)
 |0,_,_,_,_,_,_,_=>none
 |k+1,o,J,j,I,R,U,aa=>if j<J then(if 0<=j then(if j<(o.length:Int) then((dW.f I ((ae o j).f0)).bind fun t216=>(if t216=true then((dW.f I ((ae o j).f1)).bind fun t217=>(if t217=true then(if((ae o j).f2)<1 then(aJ.j2 k o J j true I R U aa ((ae o j).f0) ((ae o j).f1) ((ae o j).f2) ((ae o j).f0) ((ae o j).f1)) else(aJ.j2 k o J j (decide (((ae o j).f2)>50)) I R U aa ((ae o j).f0) ((ae o j).f1) ((ae o j).f2) ((ae o j).f0) ((ae o j).f1))) else(aJ.j2 k o J j true I R U aa ((ae o j).f0) ((ae o j).f1) ((ae o j).f2) ((ae o j).f0) ((ae o j).f1)))) else(aJ.j2 k o J j true I R U aa ((ae o j).f0) ((ae o j).f1) ((ae o j).f2) ((ae o j).f0) ((ae o j).f1)))) else(none)) else(none)) else(some 0)
def aJ.j2:Nat->List (S83)->Int->Int->Bool->Int->List (S83)->Int->Int->Int->Int->Int->Int->Int->Option (Int)
 |0,_,_,_,_,_,_,_,_,_,_,_,_,_=>none
 |k+1,I,J,R,U,aa,ab,ad,ag,ak,an,ar,j,o=>if U=true then(some 2) else(if ak>an then(some 9) else((cA.f k ad ag j o).bind fun t218=>(if t218>=0 then(some 9) else(aJ.l0 k I J (wrap64 (R+1)) aa ab j o))))
end
def aJ.f (k:Nat) (j:Int) (o:List (S83)):Option (Int):=if j<1 then(aJ.j0 k true j o) else(aJ.j0 k (decide (j>12)) j o)
theorem aJ.db:∀k,(∀j o I,ah (aJ.j0 k j o I) (aJ.j0 (k+1) j o I))∧(∀j o I J R U y6,ah (aJ.l0 k j o I J R U y6) (aJ.l0 (k+1) j o I J R U y6))∧(∀j o I J R U y6 y7 y8 y9 av aB aF,ah (aJ.j2 k j o I J R U y6 y7 y8 y9 av aB aF) (aJ.j2 (k+1) j o I J R U y6 y7 y8 y9 av aB aF))
 |0=>⟨fun _ _ _ r h=>by simp[aJ.j0] at h,fun _ _ _ _ _ _ _ r h=>by simp[aJ.l0] at h,fun _ _ _ _ _ _ _ _ _ _ _ _ _ r h=>by simp[aJ.j2] at h⟩
 |k+1=>by
  obtain⟨ab,ad,ag⟩:=aJ.db k
  refine⟨?_,?_,?_⟩
  ·intro j o I
   unfold aJ.j0
   repeat' first
   |(with_reducible exact ab _ _ _)
   |(with_reducible exact ad _ _ _ _ _ _ _)
   |(with_reducible exact ag _ _ _ _ _ _ _ _ _ _ _ _ _)
   |(with_reducible exact cA.mono _ _ _ _ _)
   |(with_reducible exact ah.refl _)
   |(with_reducible exact ah.none _)
   |(with_reducible refine ah.ite ?_ ?_)
   |(with_reducible refine ah.bind ?_ (fun _=>?_))
   |exact ab _ _ _
   |exact ad _ _ _ _ _ _ _
   |exact ag _ _ _ _ _ _ _ _ _ _ _ _ _
   |exact cA.mono _ _ _ _ _
   |exact ah.none _
   |refine ah.ite ?_ ?_
   |refine ah.bind ?_ (fun _=>?_)
  ·intro j o I J R U y6
   unfold aJ.l0
   repeat' first
   |(with_reducible exact ab _ _ _)
   |(with_reducible exact ad _ _ _ _ _ _ _)
   |(with_reducible exact ag _ _ _ _ _ _ _ _ _ _ _ _ _)
   |(with_reducible exact cA.mono _ _ _ _ _)
   |(with_reducible exact ah.refl _)
   |(with_reducible exact ah.none _)
   |(with_reducible refine ah.ite ?_ ?_)
   |(with_reducible refine ah.bind ?_ (fun _=>?_))
   |exact ab _ _ _
   |exact ad _ _ _ _ _ _ _
   |exact ag _ _ _ _ _ _ _ _ _ _ _ _ _
   |exact cA.mono _ _ _ _ _
   |exact ah.none _
   |refine ah.ite ?_ ?_
   |refine ah.bind ?_ (fun _=>?_)
  ·intro j o I J R U y6 y7 y8 y9 av aB aF
   unfold aJ.j2
   repeat' first
   |(with_reducible exact ab _ _ _)
   |(with_reducible exact ad _ _ _ _ _ _ _)
   |(with_reducible exact ag _ _ _ _ _ _ _ _ _ _ _ _ _)
   |(with_reducible exact cA.mono _ _ _ _ _)
   |(with_reducible exact ah.refl _)
   |(with_reducible exact ah.none _)
   |(with_reducible refine ah.ite ?_ ?_)
   |(with_reducible refine ah.bind ?_ (fun _=>?_))
   |exact ab _ _ _
   |exact ad _ _ _ _ _ _ _
   |exact ag _ _ _ _ _ _ _ _ _ _ _ _ _
   |exact cA.mono _ _ _ _ _
   |exact ah.none _
   |refine ah.ite ?_ ?_
   |refine ah.bind ?_ (fun _=>?_)
theorem aJ.mono:∀j o k,ah (aJ.f k j o) (aJ.f (k+1) j o):=by
 intro j o k
 obtain⟨I,J,R⟩:=aJ.db k
 unfold aJ.f
 repeat' first
   |(with_reducible exact I _ _ _)
   |(with_reducible exact J _ _ _ _ _ _ _)
   |(with_reducible exact R _ _ _ _ _ _ _ _ _ _ _ _ _)
   |(with_reducible exact cA.mono _ _ _ _ _)
   |(with_reducible exact ah.refl _)
   |(with_reducible exact ah.none _)
   |(with_reducible refine ah.ite ?_ ?_)
   |(with_reducible refine ah.bind ?_ (fun _=>?_))
   |exact I _ _ _
   |exact J _ _ _ _ _ _ _
   |exact R _ _ _ _ _ _ _ _ _ _ _ _ _
   |exact cA.mono _ _ _ _ _
   |exact ah.none _
   |refine ah.ite ?_ ?_
   |refine ah.bind ?_ (fun _=>?_)
theorem aJ.calls (k:Nat) (J:Int) (bx:Option Addr) (aP:Nat) (j:List (S83)) (r:Int) (w:World) (gg:Kd.C aG w bx j.length j) (gi:j.length<=aP) (h:aJ.f k J j=some r):
  Calls Tryz.prog 64 #[.agg #[.int .i64 J,.slice bx j.length aP]] w fun e w'=>e= .returned (.int .i64 r)∧Below w.heap.size w w':=by
 have ib:=Tryz.underlying24
 have ih:=Tryz.underlying116
 have im:=Tryz.underlying83
 have gl:=Aside0.mk gg
 have iv:=Aside0.mk gi
 have HB:=Aside0.mk (Below.refl w.heap.size w)
 have H:(if J<1 then(aJ.j0 k true J j) else(aJ.j0 k (decide (J>12)) J j))=some r:=h
 have gm:=Aside0.mk H
 go_enter Tryz.func64,Tryz.ntmps64
 go_upto_region 1 with (first|((with_reducible refine aA (N:=1) rfl ?_);refine zX 1 #[.int .i64 J,.slice bx j.length aP] 24 ?_;intro av hg w3 a2 hb;have R:=Aside0.mk (a2);have jj:=zG HB hg;have j1:=zG HB hg;replace HB:=zS HB hb;clear hb a2 hg))
 (try simp only[Act.put,List.setIfInBounds_toArray,List.set_cons_zero,List.set_cons_succ])
 go_cut [14] (fun gp wc=>∃(kq:Nat) (cv:Bool),gp= .bool cv∧Aside0 (aJ.j0 kq cv J j=some r)∧Aside0 (kq<=k)∧Aside0 (wc.heap[av]? =some (.cells #[.int .i64 J,(.slice bx j.length aP)] 24 (0,0)))∧Aside0 (Below w.heap.size w wc))
 case first=>
  have H:=gm.out
  by_cases c4:J<1
  ·rw[if_pos c4] at H
   have b0:decide (J<1)=true:=decide_eq_true c4
   (first|rw[b0]|(simp only[aV,aX];rw[b0])|skip)
   have H':=Aside0.mk H
   obtain⟨ev,ew,ey,e0⟩:=ao R
   go_wp2
   go_meet
   case rel=>exact⟨_,(true),zT,H',⟨by first|omega|exact Nat.le_refl _⟩,⟨zK R⟩,⟨zB⟩⟩
  ·rw[if_neg c4] at H
   have b0:decide (J<1)=false:=decide_eq_false c4
   (first|rw[b0]|(simp only[aV,aX];rw[b0])|skip)
   have H':=Aside0.mk H
   obtain⟨e1,e2,e3,e4⟩:=ao R
   go_wp2
   go_meet
   case rel=>exact⟨_,(decide (J>12)),zT,H',⟨by first|omega|exact Nat.le_refl _⟩,⟨zK R⟩,⟨zB⟩⟩
 case rest=>
  obtain⟨kq,cv,rfl,HA,b_,R,HB⟩:=hcut
  cases kq with
  |zero=>exact absurd HA.out (by simp[aJ.j0])
  |succ eb=>
   have H:=HA.out
   simp only[aJ.j0] at H
   by_cases c7:cv=true
   ·subst c7
    have H1:(some 2)=some r:=by rw[if_pos rfl] at H;exact H
    have H:=H1
    obtain rfl:=Option.some.inj H
    go_wp2
    go_ret
    exact⟨zE,zB⟩
   ·replace c7:=Bool.eq_false_iff.mpr c7
    subst c7
    have H1:(aJ.l0 eb j (j.length:Int) 0 J j (-1) (-1))=some r:=by rw[if_neg (show ¬(false=true) by decide)] at H;exact H
    have H:=H1
    clear H1
    have H':=Aside0.mk H
    clear H
    go_wp2_with (first|((with_reducible refine aA (N:=3) rfl ?_);refine zX 3 #[.int .i64 0,.int .i64 0] 116 ?_;intro aS hg w8 a2 hb;have ag:=Aside0.mk (a2);have j_:=zG HB hg;have j':=zG HB hg;replace HB:=zS HB hb;have a3:=Aside0.mk ((by rw[hg];exact Nat.ne_of_lt (aw (g:=av) (o:=.cells #[.int .i64 J,.slice bx j.length aP] 24 (0,0)) (zK R)):av≠aS));have b1:=Aside0.mk ((by rw[hg];exact Nat.ne_of_gt (aw (g:=av) (o:=.cells #[.int .i64 J,.slice bx j.length aP] 24 (0,0)) (zK R)):aS≠av));replace R:=zb R hb;clear hb a2 hg;have kd:=b1.out;have kk:=a3.out;obtain⟨e5,e6,e_,e'⟩:=ao ag;obtain⟨fb,fo,fq,fr⟩:=ao R))
    go_loopg [19] eb (fun kq gq w'=>∃(I:Int) (aa:Int) (U:Int),gq= .int .i64 I∧Aside0 (aJ.l0 kq j (j.length:Int) I J j aa U=some r)∧Aside0 (kq<=eb)∧Aside0 (w'.heap[av]? =some (.cells #[.int .i64 J,(.slice bx j.length aP)] 24 (0,0)))∧Aside0 (w'.heap[aS]? =some (.cells #[.int .i64 aa,.int .i64 U] 116 (0,0)))∧Aside0 (Below w.heap.size w w'))
    case atStart=>exact⟨(0),((-1)),((-1)),zT,H',⟨Nat.le_refl _⟩,⟨by refine zk ?_;refine ay ?_ a3.out _;refine zk ?_;refine ay ?_ a3.out _;exact zK R⟩,⟨by refine zk ?_;refine aZ (cs:=#[.int .i64 (-1),.int .i64 0]) ?_ 1 _ rfl;refine zk ?_;refine aZ (cs:=#[.int .i64 0,.int .i64 0]) ?_ 0 _ rfl;exact zK ag⟩,⟨zB⟩⟩
    case round=>
     clear H'
     try clear p2
     try clear c4
     try clear b0
     try clear c6
     try clear c7
     try clear c9
     try clear e5
     try clear e6
     try clear fb
     try clear fo
     try clear ev
     try clear ew
     try clear e1
     try clear e2
     try clear e_
     try clear e'
     try clear fq
     try clear fr
     try clear ey
     try clear e0
     try clear e3
     try clear e4
     try clear p2
     obtain⟨I,aa,U,rfl,HA,ca,R,ag,HB⟩:=hrel
     cases gk with
     |zero=>exact absurd HA.out (by simp[aJ.l0])
     |succ k2=>
      have H:=HA.out
      clear HA
      simp only[aJ.l0] at H
      by_cases b2:I<(j.length:Int)
      ·rw[if_pos b2] at H
       have ft:decide (I<(j.length:Int))=true:=decide_eq_true b2
       clear b2
       by_cases ck:0<=I
       ·rw[if_pos ck] at H
        have g0:decide (0<=I)=true:=decide_eq_true ck
        clear ck
        by_cases cl:I<(j.length:Int)
        ·rw[if_pos cl] at H
         have g1:decide (I<(j.length:Int))=true:=decide_eq_true cl
         clear cl
         have eg:=Aside0.mk H
         clear H
         have cx:0<=(I:Int):=of_decide_eq_true ‹_›
         have c0:I<(j.length:Int):=of_decide_eq_true ‹_›
         obtain⟨cb,g2,c8,c',dd⟩:=dK gl.out I cx c0
         cases g2
         replace c8:=(HB.out.cell (World.block_lt_of_cell? w _ c8)).trans c8
         replace c':=(HB.out.cell (World.block_lt_of_cell? w _ c')).trans c'
         replace dd:=(HB.out.cell (World.block_lt_of_cell? w _ dd)).trans dd
         replace cx:=eq_true cx
         replace c0:=eq_true c0
         go_upto_region 8 with (first|((with_reducible refine aA (N:=5) rfl ?_);refine zX 5 #[.int .i64 0,.int .i64 0,.int .i64 0] 83 ?_;intro bk hg km a2 hb;have ak:=Aside0.mk (a2);have ks:=zG HB hg;have kt:=zG HB hg;replace HB:=zS HB hb;have an:=Aside0.mk ((by rw[hg];exact Nat.ne_of_lt (aw (g:=av) (o:=.cells #[.int .i64 J,.slice (some cb) j.length aP] 24 (0,0)) (zK R)):av≠bk));have bn:=Aside0.mk ((by rw[hg];exact Nat.ne_of_gt (aw (g:=av) (o:=.cells #[.int .i64 J,.slice (some cb) j.length aP] 24 (0,0)) (zK R)):bk≠av));replace R:=zb R hb;have ar:=Aside0.mk ((by rw[hg];exact Nat.ne_of_lt (aw (g:=aS) (o:=.cells #[.int .i64 aa,.int .i64 U] 116 (0,0)) (zK ag)):aS≠bk));have bo:=Aside0.mk ((by rw[hg];exact Nat.ne_of_gt (aw (g:=aS) (o:=.cells #[.int .i64 aa,.int .i64 U] 116 (0,0)) (zK ag)):bk≠aS));replace ag:=zb ag hb;clear hb a2 hg;have kv:=bn.out;have kW:=an.out;have k0:=bo.out;have k1:=ar.out;obtain⟨g3,g4,g',ha,hc,hf⟩:=bE ak)|((with_reducible refine aA (N:=6) rfl ?_);refine zX 6 #[.int .i64 0,.int .i64 0] 116 ?_;intro b3 hg k3 a2 hb;have a0:=Aside0.mk (a2);have k4:=zG HB hg;have k5:=zG HB hg;replace HB:=zS HB hb;have aO:=Aside0.mk ((by rw[hg];exact Nat.ne_of_lt (aw (g:=av) (o:=.cells #[.int .i64 J,.slice (some cb) j.length aP] 24 (0,0)) (by refine zk ?_;refine ay ?_ an.out _;refine zk ?_;refine ay ?_ an.out _;refine zk ?_;refine ay ?_ an.out _;exact zK R)):av≠b3));have b4:=Aside0.mk ((by rw[hg];exact Nat.ne_of_gt (aw (g:=av) (o:=.cells #[.int .i64 J,.slice (some cb) j.length aP] 24 (0,0)) (by refine zk ?_;refine ay ?_ an.out _;refine zk ?_;refine ay ?_ an.out _;refine zk ?_;refine ay ?_ an.out _;exact zK R)):b3≠av));replace R:=Aside0.mk (aE (g:=av) (o:=.cells #[.int .i64 J,.slice (some cb) j.length aP] 24 (0,0)) (by refine zk ?_;refine ay ?_ an.out _;refine zk ?_;refine ay ?_ an.out _;refine zk ?_;refine ay ?_ an.out _;exact zK R) hb);have bf:=Aside0.mk ((by rw[hg];exact Nat.ne_of_lt (aw (g:=aS) (o:=.cells #[.int .i64 aa,.int .i64 U] 116 (0,0)) (by refine zk ?_;refine ay ?_ ar.out _;refine zk ?_;refine ay ?_ ar.out _;refine zk ?_;refine ay ?_ ar.out _;exact zK ag)):aS≠b3));have ek:=Aside0.mk ((by rw[hg];exact Nat.ne_of_gt (aw (g:=aS) (o:=.cells #[.int .i64 aa,.int .i64 U] 116 (0,0)) (by refine zk ?_;refine ay ?_ ar.out _;refine zk ?_;refine ay ?_ ar.out _;refine zk ?_;refine ay ?_ ar.out _;exact zK ag)):b3≠aS));replace ag:=Aside0.mk (aE (g:=aS) (o:=.cells #[.int .i64 aa,.int .i64 U] 116 (0,0)) (by refine zk ?_;refine ay ?_ ar.out _;refine zk ?_;refine ay ?_ ar.out _;refine zk ?_;refine ay ?_ ar.out _;exact zK ag) hb);have aF:=Aside0.mk ((by rw[hg];exact Nat.ne_of_lt (aw (g:=bk) (o:=.cells #[.int .i64 ((ae j I).f0),.int .i64 ((ae j I).f1),.int .i64 ((ae j I).f2)] 83 (0,0)) (by refine zk ?_;refine aZ (cs:=#[.int .i64 ((ae j I).f0),.int .i64 ((ae j I).f1),.int .i64 0]) ?_ 2 _ rfl;refine zk ?_;refine aZ (cs:=#[.int .i64 ((ae j I).f0),.int .i64 0,.int .i64 0]) ?_ 1 _ rfl;refine zk ?_;refine aZ (cs:=#[.int .i64 0,.int .i64 0,.int .i64 0]) ?_ 0 _ rfl;exact zK ak)):bk≠b3));have bw:=Aside0.mk ((by rw[hg];exact Nat.ne_of_gt (aw (g:=bk) (o:=.cells #[.int .i64 ((ae j I).f0),.int .i64 ((ae j I).f1),.int .i64 ((ae j I).f2)] 83 (0,0)) (by refine zk ?_;refine aZ (cs:=#[.int .i64 ((ae j I).f0),.int .i64 ((ae j I).f1),.int .i64 0]) ?_ 2 _ rfl;refine zk ?_;refine aZ (cs:=#[.int .i64 ((ae j I).f0),.int .i64 0,.int .i64 0]) ?_ 1 _ rfl;refine zk ?_;refine aZ (cs:=#[.int .i64 0,.int .i64 0,.int .i64 0]) ?_ 0 _ rfl;exact zK ak)):b3≠bk));replace ak:=Aside0.mk (aE (g:=bk) (o:=.cells #[.int .i64 ((ae j I).f0),.int .i64 ((ae j I).f1),.int .i64 ((ae j I).f2)] 83 (0,0)) (by refine zk ?_;refine aZ (cs:=#[.int .i64 ((ae j I).f0),.int .i64 ((ae j I).f1),.int .i64 0]) ?_ 2 _ rfl;refine zk ?_;refine aZ (cs:=#[.int .i64 ((ae j I).f0),.int .i64 0,.int .i64 0]) ?_ 1 _ rfl;refine zk ?_;refine aZ (cs:=#[.int .i64 0,.int .i64 0,.int .i64 0]) ?_ 0 _ rfl;exact zK ak) hb);clear hb a2 hg;have k6:=b4.out;have k7:=aO.out;have k8:=ek.out;have k9:=bf.out;have k_:=bw.out;have la:=aF.out;obtain⟨hh,hj,hk,hl⟩:=ao a0))
         (try simp only[Act.put,List.setIfInBounds_toArray,List.set_cons_zero,List.set_cons_succ])
         go_cut [28] (fun hn wc=>∃(kq:Nat) (ds:Bool),hn= .bool ds∧Aside0 (aJ.j2 kq j (j.length:Int) I ds J j aa U ((ae j I).f0) ((ae j I).f1) ((ae j I).f2) ((ae j I).f0) ((ae j I).f1)=some r)∧Aside0 (kq<=k2)∧Aside0 (wc.heap[av]? =some (.cells #[.int .i64 J,(.slice (some cb) j.length aP)] 24 (0,0)))∧Aside0 (wc.heap[aS]? =some (.cells #[.int .i64 aa,.int .i64 U] 116 (0,0)))∧Aside0 (wc.heap[bk]? =some (.cells #[.int .i64 ((ae j I).f0),.int .i64 ((ae j I).f1),.int .i64 ((ae j I).f2)] 83 (0,0)))∧Aside0 (wc.heap[b3]? =some (.cells #[.int .i64 ((ae j I).f0),.int .i64 ((ae j I).f1)] 116 (0,0)))∧Aside0 (Below w.heap.size w wc))
         case first=>
          have H:=eg.out
          clear eg
          replace H:=Option.bind_eq_some_iff.mp H
          obtain⟨t216,fv,H⟩:=H
          replace H:(if t216=true then((dW.f J ((ae j I).f1)).bind fun t217=>(if t217=true then(if((ae j I).f2)<1 then(aJ.j2 k2 j (j.length:Int) I true J j aa U ((ae j I).f0) ((ae j I).f1) ((ae j I).f2) ((ae j I).f0) ((ae j I).f1)) else(aJ.j2 k2 j (j.length:Int) I (decide (((ae j I).f2)>50)) J j aa U ((ae j I).f0) ((ae j I).f1) ((ae j I).f2) ((ae j I).f0) ((ae j I).f1))) else(aJ.j2 k2 j (j.length:Int) I true J j aa U ((ae j I).f0) ((ae j I).f1) ((ae j I).f2) ((ae j I).f0) ((ae j I).f1)))) else(aJ.j2 k2 j (j.length:Int) I true J j aa U ((ae j I).f0) ((ae j I).f1) ((ae j I).f2) ((ae j I).f0) ((ae j I).f1)))=some r:=H
          have dv:=Aside0.mk fv
          clear fv
          by_cases cq:t216=true
          ·subst cq
           have H1:((dW.f J ((ae j I).f1)).bind fun t217=>(if t217=true then(if((ae j I).f2)<1 then(aJ.j2 k2 j (j.length:Int) I true J j aa U ((ae j I).f0) ((ae j I).f1) ((ae j I).f2) ((ae j I).f0) ((ae j I).f1)) else(aJ.j2 k2 j (j.length:Int) I (decide (((ae j I).f2)>50)) J j aa U ((ae j I).f0) ((ae j I).f1) ((ae j I).f2) ((ae j I).f0) ((ae j I).f1))) else(aJ.j2 k2 j (j.length:Int) I true J j aa U ((ae j I).f0) ((ae j I).f1) ((ae j I).f2) ((ae j I).f0) ((ae j I).f1))))=some r:=by rw[if_pos rfl] at H;exact H
           clear H
           have H:=H1
           clear H1
           replace H:=Option.bind_eq_some_iff.mp H
           obtain⟨t217,f',H⟩:=H
           replace H:(if t217=true then(if((ae j I).f2)<1 then(aJ.j2 k2 j (j.length:Int) I true J j aa U ((ae j I).f0) ((ae j I).f1) ((ae j I).f2) ((ae j I).f0) ((ae j I).f1)) else(aJ.j2 k2 j (j.length:Int) I (decide (((ae j I).f2)>50)) J j aa U ((ae j I).f0) ((ae j I).f1) ((ae j I).f2) ((ae j I).f0) ((ae j I).f1))) else(aJ.j2 k2 j (j.length:Int) I true J j aa U ((ae j I).f0) ((ae j I).f1) ((ae j I).f2) ((ae j I).f0) ((ae j I).f1)))=some r:=H
           have er:=Aside0.mk f'
           clear f'
           by_cases cr:t217=true
           ·subst cr
            have H1:(if((ae j I).f2)<1 then(aJ.j2 k2 j (j.length:Int) I true J j aa U ((ae j I).f0) ((ae j I).f1) ((ae j I).f2) ((ae j I).f0) ((ae j I).f1)) else(aJ.j2 k2 j (j.length:Int) I (decide (((ae j I).f2)>50)) J j aa U ((ae j I).f0) ((ae j I).f1) ((ae j I).f2) ((ae j I).f0) ((ae j I).f1)))=some r:=by rw[if_pos rfl] at H;exact H
            clear H
            have H:=H1
            clear H1
            by_cases b5:((ae j I).f2)<1
            ·rw[if_pos b5] at H
             have cc:decide (((ae j I).f2)<1)=true:=decide_eq_true b5
             clear b5
             (first|rw[cc]|(simp only[aV,aX];rw[cc])|skip)
             have H':=Aside0.mk H
             clear H
             have lb:=a3.out
             have ld:=b1.out
             have lg:=an.out
             have lj:=bn.out
             have lk:=aO.out
             have lo:=b4.out
             obtain⟨ho,hq,hr,hs⟩:=ao R
             have lp:=bo.out
             have lv:=ar.out
             have l1:=aF.out
             have l2:=bw.out
             obtain⟨ht,hv,hx,hy,hz,hA⟩:=bE ak
             go_wp2_with (first|((with_reducible refine au (f:=121) rfl ?_);refine zL (some 33) Tryz.func121 #[.int .i64 J,.int .i64 ((ae j I).f0)] ?_;(with_reducible refine(dW.calls J ((ae j I).f0) true _ dv.out).mono ?_);rintro e w' ⟨rfl,⟨nd,rfl⟩⟩;refine⟨_,rfl,?_⟩)|(go_at_call 121;(with_reducible refine(dW.calls J ((ae j I).f1) true _ er.out).mono ?_);rintro e w' ⟨rfl,⟨nd,rfl⟩⟩))
             go_meet
             case rel=>exact⟨_,(true),zT,H',⟨by have:=b_.out;have:=ca.out;first|omega|exact Nat.le_refl _⟩,⟨by refine zk ?_;refine ay ?_ aO.out _;refine zk ?_;refine ay ?_ aO.out _;exact zK R⟩,⟨by refine zk ?_;refine ay ?_ bf.out _;refine zk ?_;refine ay ?_ bf.out _;exact zK ag⟩,⟨by refine zk ?_;refine ay ?_ aF.out _;refine zk ?_;refine ay ?_ aF.out _;exact zK ak⟩,⟨by refine zk ?_;refine aZ (cs:=#[.int .i64 ((ae j I).f0),.int .i64 0]) ?_ 1 _ rfl;refine zk ?_;refine aZ (cs:=#[.int .i64 0,.int .i64 0]) ?_ 0 _ rfl;exact zK a0⟩,⟨zB⟩⟩
            ·rw[if_neg b5] at H
             have cc:decide (((ae j I).f2)<1)=false:=decide_eq_false b5
             clear b5
             (first|rw[cc]|(simp only[aV,aX];rw[cc])|skip)
             have H':=Aside0.mk H
             clear H
             have l3:=a3.out
             have l':=b1.out
             have mb:=an.out
             have ml:=bn.out
             have mn:=aO.out
             have mv:=b4.out
             obtain⟨hB,hD,hE,hG⟩:=ao R
             have mx:=bo.out
             have m0:=ar.out
             have m1:=aF.out
             have m2:=bw.out
             obtain⟨hH,hI,hJ,hK,hL,hM⟩:=bE ak
             go_wp2_with (first|((with_reducible refine au (f:=121) rfl ?_);refine zL (some 33) Tryz.func121 #[.int .i64 J,.int .i64 ((ae j I).f0)] ?_;(with_reducible refine(dW.calls J ((ae j I).f0) true _ dv.out).mono ?_);rintro e w' ⟨rfl,⟨nd,rfl⟩⟩;refine⟨_,rfl,?_⟩)|(go_at_call 121;(with_reducible refine(dW.calls J ((ae j I).f1) true _ er.out).mono ?_);rintro e w' ⟨rfl,⟨nd,rfl⟩⟩))
             go_meet
             case rel=>exact⟨_,(decide (((ae j I).f2)>50)),zT,H',⟨by have:=b_.out;have:=ca.out;first|omega|exact Nat.le_refl _⟩,⟨by refine zk ?_;refine ay ?_ aO.out _;refine zk ?_;refine ay ?_ aO.out _;exact zK R⟩,⟨by refine zk ?_;refine ay ?_ bf.out _;refine zk ?_;refine ay ?_ bf.out _;exact zK ag⟩,⟨by refine zk ?_;refine ay ?_ aF.out _;refine zk ?_;refine ay ?_ aF.out _;exact zK ak⟩,⟨by refine zk ?_;refine aZ (cs:=#[.int .i64 ((ae j I).f0),.int .i64 0]) ?_ 1 _ rfl;refine zk ?_;refine aZ (cs:=#[.int .i64 0,.int .i64 0]) ?_ 0 _ rfl;exact zK a0⟩,⟨zB⟩⟩
           ·replace cr:=Bool.eq_false_iff.mpr cr
            subst cr
            have H1:(aJ.j2 k2 j (j.length:Int) I true J j aa U ((ae j I).f0) ((ae j I).f1) ((ae j I).f2) ((ae j I).f0) ((ae j I).f1))=some r:=by rw[if_neg (show ¬(false=true) by decide)] at H;exact H
            clear H
            have H:=H1
            clear H1
            have H':=Aside0.mk H
            clear H
            have m3:=a3.out
            have m4:=b1.out
            have m8:=an.out
            have m':=bn.out
            have nb:=aO.out
            have nr:=b4.out
            obtain⟨hN,hO,hP,hQ⟩:=ao R
            have nu:=bo.out
            have nv:=ar.out
            have nw:=aF.out
            have nx:=bw.out
            obtain⟨hR,hT,hV,hW,hX,hY⟩:=bE ak
            go_wp2_with (first|((with_reducible refine au (f:=121) rfl ?_);refine zL (some 33) Tryz.func121 #[.int .i64 J,.int .i64 ((ae j I).f0)] ?_;(with_reducible refine(dW.calls J ((ae j I).f0) true _ dv.out).mono ?_);rintro e w' ⟨rfl,⟨nd,rfl⟩⟩;refine⟨_,rfl,?_⟩)|(go_at_call 121;(with_reducible refine(dW.calls J ((ae j I).f1) false _ er.out).mono ?_);rintro e w' ⟨rfl,⟨nd,rfl⟩⟩))
            go_meet
            case rel=>exact⟨_,(true),zT,H',⟨by have:=b_.out;have:=ca.out;first|omega|exact Nat.le_refl _⟩,⟨by refine zk ?_;refine ay ?_ aO.out _;refine zk ?_;refine ay ?_ aO.out _;exact zK R⟩,⟨by refine zk ?_;refine ay ?_ bf.out _;refine zk ?_;refine ay ?_ bf.out _;exact zK ag⟩,⟨by refine zk ?_;refine ay ?_ aF.out _;refine zk ?_;refine ay ?_ aF.out _;exact zK ak⟩,⟨by refine zk ?_;refine aZ (cs:=#[.int .i64 ((ae j I).f0),.int .i64 0]) ?_ 1 _ rfl;refine zk ?_;refine aZ (cs:=#[.int .i64 0,.int .i64 0]) ?_ 0 _ rfl;exact zK a0⟩,⟨zB⟩⟩
          ·replace cq:=Bool.eq_false_iff.mpr cq
           subst cq
           have H1:(aJ.j2 k2 j (j.length:Int) I true J j aa U ((ae j I).f0) ((ae j I).f1) ((ae j I).f2) ((ae j I).f0) ((ae j I).f1))=some r:=by rw[if_neg (show ¬(false=true) by decide)] at H;exact H
           clear H
           have H:=H1
           clear H1
           have H':=Aside0.mk H
           clear H
           have n0:=a3.out
           have n1:=b1.out
           have n2:=an.out
           have n3:=bn.out
           have n4:=aO.out
           have n5:=b4.out
           obtain⟨h0,h1,h2,h3⟩:=ao R
           have n_:=bo.out
           have n':=ar.out
           have ob:=aF.out
           have oc:=bw.out
           obtain⟨h4,h5,h6,h7,h8,h9⟩:=bE ak
           go_wp2_with (first|((with_reducible refine au (f:=121) rfl ?_);refine zL (some 33) Tryz.func121 #[.int .i64 J,.int .i64 ((ae j I).f0)] ?_;(with_reducible refine(dW.calls J ((ae j I).f0) false _ dv.out).mono ?_);rintro e w' ⟨rfl,⟨nd,rfl⟩⟩;refine⟨_,rfl,?_⟩))
           go_meet
           case rel=>exact⟨_,(true),zT,H',⟨by have:=b_.out;have:=ca.out;first|omega|exact Nat.le_refl _⟩,⟨by refine zk ?_;refine ay ?_ aO.out _;refine zk ?_;refine ay ?_ aO.out _;exact zK R⟩,⟨by refine zk ?_;refine ay ?_ bf.out _;refine zk ?_;refine ay ?_ bf.out _;exact zK ag⟩,⟨by refine zk ?_;refine ay ?_ aF.out _;refine zk ?_;refine ay ?_ aF.out _;exact zK ak⟩,⟨by refine zk ?_;refine aZ (cs:=#[.int .i64 ((ae j I).f0),.int .i64 0]) ?_ 1 _ rfl;refine zk ?_;refine aZ (cs:=#[.int .i64 0,.int .i64 0]) ?_ 0 _ rfl;exact zK a0⟩,⟨zB⟩⟩
         case rest=>
          clear eg
          try clear c1
          try clear c2
          try clear p2
          try clear q2
          try clear oi
          try clear c3
          try clear c4
          try clear b0
          try clear c5
          try clear c6
          try clear c7
          try clear c9
          try clear b2
          try clear ft
          try clear ck
          try clear g0
          try clear cl
          try clear g1
          try clear oo
          try clear oq
          try clear ov
          try clear ox
          try clear oy
          try clear oz
          try clear o0
          try clear o1
          try clear cq
          try clear cr
          try clear b5
          try clear cc
          try clear o2
          try clear o3
          try clear o4
          try clear o'
          try clear pb
          try clear pe
          try clear pj
          try clear ps
          try clear p0
          try clear p1
          try clear p3
          try clear p6
          try clear p7
          try clear p8
          try clear qn
          try clear qs
          try clear qv
          try clear qx
          try clear q0
          try clear q1
          try clear e5
          try clear e6
          try clear fb
          try clear fo
          try clear g3
          try clear g4
          try clear g'
          try clear hh
          try clear hj
          try clear ho
          try clear hq
          try clear ht
          try clear hv
          try clear hx
          try clear hB
          try clear hD
          try clear hH
          try clear hI
          try clear hJ
          try clear hN
          try clear hO
          try clear hR
          try clear hT
          try clear hV
          try clear h0
          try clear h1
          try clear h4
          try clear h5
          try clear h6
          try clear ev
          try clear ew
          try clear e1
          try clear e2
          try clear e_
          try clear e'
          try clear fq
          try clear fr
          try clear ha
          try clear hc
          try clear hf
          try clear hk
          try clear hl
          try clear hr
          try clear hs
          try clear hy
          try clear hz
          try clear hA
          try clear hE
          try clear hG
          try clear hK
          try clear hL
          try clear hM
          try clear hP
          try clear hQ
          try clear hW
          try clear hX
          try clear hY
          try clear h2
          try clear h3
          try clear h7
          try clear h8
          try clear h9
          try clear ey
          try clear e0
          try clear e3
          try clear e4
          try clear c8
          try clear c'
          try clear dd
          try clear p2
          try clear cx
          try clear c0
          obtain⟨kq,ds,rfl,HA,gb,R,ag,ak,a0,HB⟩:=hcut
          cases kq with
          |zero=>exact absurd HA.out (by simp[aJ.j2])
          |succ cf=>
           have H:=HA.out
           clear HA
           simp only[aJ.j2] at H
           by_cases ea:ds=true
           ·subst ea
            have H1:(some 2)=some r:=by rw[if_pos rfl] at H;exact H
            clear H
            have H:=H1
            clear H1
            obtain rfl:=Option.some.inj H
            go_wp2
            go_ret
            exact⟨zE,zB⟩
           ·replace ea:=Bool.eq_false_iff.mpr ea
            subst ea
            have H1:(if((ae j I).f0)>((ae j I).f1) then(some 9) else((cA.f cf aa U ((ae j I).f0) ((ae j I).f1)).bind fun t218=>(if t218>=0 then(some 9) else(aJ.l0 cf j (j.length:Int) (wrap64 (I+1)) J j ((ae j I).f0) ((ae j I).f1)))))=some r:=by rw[if_neg (show ¬(false=true) by decide)] at H;exact H
            clear H
            have H:=H1
            clear H1
            by_cases ch:((ae j I).f0)>((ae j I).f1)
            ·rw[if_pos ch] at H
             have h_:decide (((ae j I).f1)<((ae j I).f0))=true:=decide_eq_true ch
             clear ch
             obtain rfl:=Option.some.inj H
             have q3:=bn.out
             have q4:=an.out
             have q5:=bo.out
             have q7:=ar.out
             have q8:=aF.out
             have q':=bw.out
             obtain⟨ra,rb,rm,rq,rv,r0⟩:=bE ak
             go_wp2
             go_ret
             exact⟨zE,zB⟩
            ·rw[if_neg ch] at H
             have h_:decide (((ae j I).f1)<((ae j I).f0))=false:=decide_eq_false ch
             clear ch
             replace H:=Option.bind_eq_some_iff.mp H
             obtain⟨t218,gd,H⟩:=H
             replace H:(if t218>=0 then(some 9) else(aJ.l0 cf j (j.length:Int) (wrap64 (I+1)) J j ((ae j I).f0) ((ae j I).f1)))=some r:=H
             have gf:=Aside0.mk gd
             clear gd
             by_cases cj:t218>=0
             ·rw[if_pos cj] at H
              have h':decide (0<=t218)=true:=decide_eq_true cj
              clear cj
              obtain rfl:=Option.some.inj H
              have r1:=bn.out
              have r2:=an.out
              have r3:=bo.out
              have r4:=ar.out
              have r5:=aF.out
              have r':=bw.out
              obtain⟨sc,sf,si,sq,sv,sz⟩:=bE ak
              have sN:=b1.out
              have s0:=a3.out
              have s3:=bf.out
              have s4:=ek.out
              obtain⟨s5,s',tm,ts⟩:=ao ag
              have tv:=b4.out
              have uv:=aO.out
              obtain⟨va,vb,vc,vl⟩:=ao a0
              go_wp2_with (first|(go_at_call 122;(with_reducible refine(cA.calls cf aa U ((ae j I).f0) ((ae j I).f1) t218 _ gf.out).mono ?_);rintro e vs ⟨rfl,hb⟩;replace R:=zb R hb;replace ag:=zb ag hb;replace ak:=zb ak hb;replace a0:=zb a0 hb;replace HB:=zS HB hb;(try clear hb)))
              go_ret
              exact⟨zE,zB⟩
             ·rw[if_neg cj] at H
              have h':decide (0<=t218)=false:=decide_eq_false cj
              clear cj
              have H':=Aside0.mk H
              clear H
              have vv:=bn.out
              have v3:=an.out
              have v5:=bo.out
              have v7:=ar.out
              have v8:=aF.out
              have v9:=bw.out
              obtain⟨v',wb,wo,wq,w0,w1⟩:=bE ak
              have w2:=b1.out
              have w4:=a3.out
              have w5:=bf.out
              have w6:=ek.out
              obtain⟨w7,w9,xa,xb⟩:=ao ag
              have xl:=b4.out
              have xq:=aO.out
              obtain⟨xv,xy,x0,x1⟩:=ao a0
              go_wp2_with (first|(go_at_call 122;(with_reducible refine(cA.calls cf aa U ((ae j I).f0) ((ae j I).f1) t218 _ gf.out).mono ?_);rintro e x2 ⟨rfl,hb⟩;replace R:=zb R hb;replace ag:=zb ag hb;replace ak:=zb ak hb;replace a0:=zb a0 hb;replace HB:=zS HB hb;(try clear hb);obtain⟨x3,x4,x5,x6⟩:=ao a0;obtain⟨x7,x8,x9,x'⟩:=ao ag))
              go_roundg cf
              case measure=>have:=b_.out;have:=ca.out;have:=gb.out;omega
              case rel=>exact⟨(wrap64 (I+1)),(((ae j I).f0)),(((ae j I).f1)),zT,H',⟨by have:=b_.out;have:=ca.out;have:=gb.out;omega⟩,⟨by refine zk ?_;refine ay ?_ a3.out _;refine zk ?_;refine ay ?_ a3.out _;exact zK R⟩,⟨by refine zk ?_;refine aZ (cs:=#[.int .i64 ((ae j I).f0),.int .i64 U]) ?_ 1 _ rfl;refine zk ?_;refine aZ (cs:=#[.int .i64 aa,.int .i64 U]) ?_ 0 _ rfl;exact zK ag⟩,⟨zB⟩⟩
        ·rw[if_neg cl] at H
         exact absurd H (by simp)
       ·rw[if_neg ck] at H
        exact absurd H (by simp)
      ·rw[if_neg b2] at H
       have ft:decide (I<(j.length:Int))=false:=decide_eq_false b2
       clear b2
       obtain rfl:=Option.some.inj H
       go_wp2
       go_ret
       exact⟨zE,zB⟩
def b6 (N:Int) (x:S83):Bool:=decide (0<=x.f0∧x.f0<N∧0<=x.f1∧x.f1<N∧1<=x.f2∧x.f2<=50)
def dm (N:Int) (j o:Int) (x:S83):Int:=if b6 N x=false then 2 else if x.f0<j∨x.f0=j∧x.f1<=o∨x.f0>x.f1 then 9 else 0
def gj (N:Int):Int->Int->List S83->Int
 |_,_,[]=>0
 |j,o,x::E=>if dm N j o x=0 then gj N x.f0 x.f1 E else dm N j o x
def b7 (N:Int) (E:List S83):Int:=if N<1∨N>12 then 2 else gj N (-1) (-1) E
theorem oK {E:List S83} {i:Nat} (h:i<E.length):E.drop i=ae E i::E.drop (i+1):=by
 rw[List.drop_eq_getElem_cons h]
 simp[ae,List.getD_eq_getElem?_getD,List.getElem?_eq_getElem h]
theorem yf (N v:Int):dW.f N v=some (decide (0<=v∧v<N)):=by
 unfold dW.f
 by_cases h:v>=0
 ·rw[if_pos h];congr 1;simp[show 0<=v from h]
 ·rw[if_neg h];congr 1;simp;omega
theorem yg (a b:Int):gh.f a b=some (if a<b then -1 else if a>b then 1 else 0):=by
 unfold gh.f dL.f
 simp only[bne_self_eq_false,Option.bind_some,Bool.false_eq_true,if_false]
 split
 ·rfl
 ·split<;>rfl
theorem yh (a b:Int):Ev (fun k=>bZ.f k [a,b]) (if a=0 then b else a):=by
 unfold bZ.f
 refine Ev.of_succ ?_
 simp only[bZ.l0,List.length_cons,List.length_nil,rd]
 by_cases j:a=0
 ·subst j
  refine Ev.of_succ ?_
  simp only[bZ.l0,List.length_cons,List.length_nil,rd,wrap64]
  simp
  by_cases hb:b=0
  ·subst hb
   refine Ev.of_succ ?_
   simp[bZ.l0,wrap64]
   exact Ev.const _
  ·simp[hb];exact Ev.const _
 ·simp[j];exact Ev.const _
theorem yi (a b c d:Int):Ev (fun k=>cA.f k a b c d) (if a<c then -1 else if a>c then 1 else if b<d then -1 else if b>d then 1 else 0):=by
 unfold cA.f
 simp only[yg,Option.bind_some]
 refine Ev.bind (yh _ _) ?_
 have e:(if(if a<c then(-1:Int) else if a>c then 1 else 0)=0 then(if b<d then(-1:Int) else if b>d then 1 else 0) else(if a<c then(-1:Int) else if a>c then 1 else 0))=(if a<c then -1 else if a>c then 1 else if b<d then -1 else if b>d then 1 else 0):=by
  by_cases h1:a<c
  ·simp[h1]
  ·by_cases h2:a>c
   ·simp[h1,h2]
   ·simp[h1,h2]
 rw[e]
 exact Ev.const _
theorem r7 (N:Int) (E:List S83) (U:E.length<=1000):∀(m i:Nat) (j o:Int),i+m=E.length->Ev (fun k=>aJ.l0 k E E.length i N E j o) (gj N j o (E.drop i))
 |0,i,j,o,hi=>by
  refine Ev.of_succ ?_
  simp only[aJ.l0,if_neg (show ¬((i:Int)<(E.length:Int)) by omega)]
  rw[List.drop_eq_nil_of_le (by omega)]
  exact Ev.const _
 |m+1,i,j,o,hi=>by
  have R:=r7 N E U m (i+1) (ae E i).f0 (ae E i).f1 (by omega)
  refine Ev.of_succ ?_
  simp only[aJ.l0,if_pos (show (i:Int)<(E.length:Int) by omega),if_pos (show (0:Int)<=(i:Int) by omega),yf,Option.bind_some]
  rw[oK (by omega),gj]
  generalize hx:ae E i=x at R⊢
  have key:∀b:Bool,b= !b6 N x->Ev (fun k=>aJ.j2 k E E.length i b N E j o x.f0 x.f1 x.f2 x.f0 x.f1) (if dm N j o x=0 then gj N x.f0 x.f1 (E.drop (i+1)) else dm N j o x):=by
   rintro b rfl
   refine Ev.of_succ ?_
   simp only[aJ.j2]
   cases hok:b6 N x with
   |false=>simp[dm,hok];exact Ev.const _
   |true=>
    simp only[Bool.not_true,Bool.false_eq_true,if_false]
    by_cases J:x.f0>x.f1
    ·have e:dm N j o x=9:=by simp[dm,hok,J]
     rw[e];simp only[if_pos J];exact Ev.const _
    ·simp only[if_neg J]
     refine Ev.bind (yi _ _ _ _) ?_
     by_cases hc:x.f0<j∨x.f0=j∧x.f1<=o
     ·have e:dm N j o x=9:=by
       unfold dm
       rw[hok,if_neg (by decide),if_pos (by rcases hc with h|h;exact .inl h;exact .inr (.inl h))]
      rw[e]
      have I:(if j<x.f0 then(-1:Int) else if j>x.f0 then 1 else if o<x.f1 then -1 else if o>x.f1 then 1 else 0)>=0:=by
       rw[if_neg (by omega)]
       split
       ·decide
       ·rw[if_neg (by omega)];split<;>decide
      simp only[if_pos I];exact Ev.const _
     ·have e:dm N j o x=0:=by
       unfold dm
       rw[hok,if_neg (by decide),if_neg (by omega)]
      rw[e]
      have I:¬(if j<x.f0 then(-1:Int) else if j>x.f0 then 1 else if o<x.f1 then -1 else if o>x.f1 then 1 else 0)>=0:=by
       split
       ·decide
       ·rw[if_neg (by omega),if_pos (by omega)];decide
      simp only[if_neg I,dA (show i<=1000000 by omega),if_true]
      exact R
  by_cases h0:0<=x.f0∧x.f0<N
  ·simp only[decide_eq_true h0,if_true]
   by_cases h1:0<=x.f1∧x.f1<N
   ·simp only[decide_eq_true h1,if_true]
    by_cases h2:x.f2<1
    ·simp only[if_pos h2]
     exact key true (by simp[b6];omega)
    ·simp only[if_neg h2]
     exact key _ (by unfold b6;by_cases I:x.f2>50<;>simp[I]<;>omega)
   ·simp only[decide_eq_false h1,Bool.false_eq_true,if_false]
    exact key true (by simp[b6];omega)
  ·simp only[decide_eq_false h0,Bool.false_eq_true,if_false]
   exact key true (by simp[b6];omega)
theorem oL (N:Int) (E:List S83) (j:E.length<=1000):Ev (fun k=>aJ.f k N E) (b7 N E):=by
 unfold aJ.f b7
 have key:∀b:Bool,b=decide (N<1∨N>12)->Ev (fun k=>aJ.j0 k b N E) (if N<1∨N>12 then 2 else gj N (-1) (-1) E):=by
  rintro b rfl
  refine Ev.of_succ ?_
  simp only[aJ.j0]
  by_cases h:N<1∨N>12
  ·simp[h];exact Ev.const _
  ·simp only[decide_eq_false h,Bool.false_eq_true,if_false,if_neg h]
   have:=r7 N E j E.length 0 (-1) (-1) (by omega)
   simpa using this
 by_cases h:N<1
 ·simp only[if_pos h];exact key true (by simp[h])
 ·simp only[if_neg h];exact key _ (by simp[h])
theorem yj (N:Int) (E:List S83) (v:Int):eu.f N E v=some (decide (0<=v∧v<N)):=by
 unfold eu.f
 by_cases h:v>=0
 ·rw[if_pos h];congr 1;simp[show 0<=v from h]
 ·rw[if_neg h];congr 1;simp;omega
def gn (E:List S83) (i:Nat):Int:=if i=0 then -1 else(ae E (i-1:Nat)).f0
def gu (E:List S83) (i:Nat):Int:=if i=0 then -1 else(ae E (i-1:Nat)).f1
theorem yk {i:Nat} (h:(i:Int)<9223372036854775807):wrap64 ((i:Int)+1)=((i+1:Nat):Int):=by unfold wrap64;omega
theorem yl (N:Int) (E:List S83) (I:E.length<=9223372036854775807) (i:Nat) (hi:i<E.length):Ev (fun k=>bT.f k N E i) (dm N (gn E i) (gu E i) (ae E i)):=by
 unfold bT.f
 simp only[if_pos (show (0:Int)<=(i:Int) by omega),if_pos (show (i:Int)<(E.length:Int) by omega),yj,Option.bind_some]
 generalize J:ae E i=x
 have key:∀b:Bool,b= !b6 N x->Ev (fun k=>bT.j0 k i b N E x.f0 x.f1 x.f2) (dm N (gn E i) (gu E i) x):=by
  rintro b rfl
  refine Ev.of_succ ?_
  simp only[bT.j0]
  cases hok:b6 N x with
  |false=>simp[dm,hok];exact Ev.const _
  |true=>
   simp only[Bool.not_true,Bool.false_eq_true,if_false]
   have R:0<=x.f0:=by simp[b6] at hok;omega
   by_cases o:x.f0>x.f1
   ·have e:dm N (gn E i) (gu E i) x=9:=by simp[dm,hok,o]
    rw[e];simp only[if_pos o];exact Ev.const _
   ·simp only[if_neg o]
    by_cases h0:i=0
    ·subst h0
     have e:dm N (gn E 0) (gu E 0) x=0:=by
      unfold dm gn gu
      rw[hok,if_neg (by decide),if_neg (by simp;omega)]
     rw[e];simp;exact Ev.const _
    ·simp only[if_pos (show (i:Int)>0 by omega),show wrap64 ((i:Int)-1)=((i-1:Nat):Int) by unfold wrap64;omega,if_pos (show (0:Int)<=((i-1:Nat):Int) by omega),if_pos (show ((i-1:Nat):Int)<(E.length:Int) by omega)]
     unfold gn gu
     rw[if_neg h0,if_neg h0]
     generalize ae E (i-1:Nat)=y
     unfold dm
     rw[hok,if_neg (show ¬(true=false) by decide)]
     by_cases h1:x.f0<y.f0
     ·simp only[if_pos h1];rw[if_pos (.inl h1)];exact Ev.const _
     ·simp only[if_neg h1]
      by_cases h2:x.f0=y.f0
      ·simp only[if_pos h2]
       by_cases j:x.f1<=y.f1
       ·simp only[if_pos j];rw[if_pos (.inr (.inl ⟨h2,j⟩))];exact Ev.const _
       ·simp only[if_neg j];rw[if_neg (by omega)];exact Ev.const _
      ·simp only[if_neg h2];rw[if_neg (by omega)];exact Ev.const _
 by_cases h0:0<=x.f0∧x.f0<N
 ·simp only[decide_eq_true h0,if_true]
  by_cases h1:0<=x.f1∧x.f1<N
  ·simp only[decide_eq_true h1,if_true]
   by_cases h2:x.f2<1
   ·simp only[if_pos h2]
    exact key true (by simp[b6];omega)
   ·simp only[if_neg h2]
    exact key _ (by unfold b6;by_cases j:x.f2>50<;>simp[j]<;>omega)
  ·simp only[decide_eq_false h1,Bool.false_eq_true,if_false]
   exact key true (by simp[b6];omega)
 ·simp only[decide_eq_false h0,Bool.false_eq_true,if_false]
  exact key true (by simp[b6];omega)
theorem r8 (N:Int) (E:List S83) (j:E.length<=9223372036854775807):∀(m i:Nat),i+m=E.length->Ev (fun k=>bU.l0 k i N E) (gj N (gn E i) (gu E i) (E.drop i))
 |0,i,hi=>by
  refine Ev.of_succ ?_
  simp only[bU.l0,if_neg (show ¬((i:Int)<(E.length:Int)) by omega)]
  rw[List.drop_eq_nil_of_le (by omega)]
  exact Ev.const _
 |m+1,i,hi=>by
  have o:=r8 N E j m (i+1) (by omega)
  refine Ev.of_succ ?_
  simp only[bU.l0,if_pos (show (i:Int)<(E.length:Int) by omega)]
  rw[oK (by omega),gj]
  refine Ev.bind (yl N E j i (by omega)) ?_
  have I:gn E (i+1)=(ae E i).f0:=by simp[gn]
  have J:gu E (i+1)=(ae E i).f1:=by simp[gu]
  rw[I,J] at o
  by_cases h:dm N (gn E i) (gu E i) (ae E i)=0
  ·simp only[if_pos h,yk (show (i:Int)<9223372036854775807 by omega)];exact o
  ·simp only[if_neg h];exact Ev.const _
theorem r9 (N:Int) (E:List S83) (j:E.length<=9223372036854775807):Ev (fun k=>bU.f k N E) (b7 N E):=by
 unfold bU.f b7
 have key:∀b:Bool,b=decide (N<1∨N>12)->Ev (fun k=>bU.j0 k b N E) (if N<1∨N>12 then 2 else gj N (-1) (-1) E):=by
  rintro b rfl
  refine Ev.of_succ ?_
  simp only[bU.j0]
  by_cases h:N<1∨N>12
  ·simp[h];exact Ev.const _
  ·simp only[decide_eq_false h,Bool.false_eq_true,if_false,if_neg h]
   have:=r8 N E j E.length 0 (by omega)
   simpa [gn,gu] using this
 by_cases h:N<1
 ·simp only[if_pos h];exact key true (by simp[h])
 ·simp only[if_neg h];exact key _ (by simp[h])
end Go.Proofs.YtffdiakgjakngaaGreat.P
namespace Go.Proofs.YtffdiakgjakngaaGreat.T
set_option linter.unusedVariables false
set_option linter.unusedSimpArgs false
set_option maxHeartbeats 8000000
set_option maxRecDepth 100000
def sN (f:Nat->Int):Nat->Int
 |0=>0
 |n+1=>sN f n+f n
theorem dX (f:Nat->Int) (n:Nat):sN f (n+1)=sN f n+f n:=rfl
theorem bh {f g:Nat->Int}:∀{n:Nat},(∀u,u<n->f u=g u)->sN f n=sN g n
 |0,_=>rfl
 |n+1,h=>by rw[dX,dX,bh (n:=n) (fun u hu=>h u (by omega)),h n (by omega)]
theorem cm {f g:Nat->Int}:∀{n:Nat},(∀u,u<n->f u<=g u)->sN f n<=sN g n
 |0,_=>Int.le_refl _
 |n+1,h=>by
  have h1:=cm (n:=n) (fun u hu=>h u (by omega))
  have h2:=h n (by omega)
  rw[dX,dX];omega
theorem jM:∀(n:Nat),sN (fun _=>0) n=0
 |0=>rfl
 |n+1=>by rw[dX,jM n];rfl
theorem fO {f:Nat->Int} {n:Nat} (h:∀u,u<n->f u=0):sN f n=0:=(bh h).trans (jM n)
theorem cQ {f:Nat->Int} {n:Nat} (h:∀u,u<n->0<=f u):0<=sN f n:=by
 have:=cm (f:=fun _=>0) (g:=f) (n:=n) h
 rw[jM] at this;exact this
theorem dn (f g:Nat->Int):∀n:Nat,sN (fun v=>f v+g v) n=sN f n+sN g n
 |0=>rfl
 |n+1=>by rw[dX,dX,dX,dn f g n];omega
theorem cM (f g:Nat->Int):∀n:Nat,sN (fun v=>f v-g v) n=sN f n-sN g n
 |0=>rfl
 |n+1=>by rw[dX,dX,dX,cM f g n];omega
theorem lH (f:Nat->Int):∀n:Nat,sN (fun v=> -f v) n= -sN f n
 |0=>rfl
 |n+1=>by rw[dX,dX,lH f n];omega
theorem eN (c:Int) (f:Nat->Int):∀n:Nat,sN (fun v=>c*f v) n=c*sN f n
 |0=>by simp[sN]
 |n+1=>by rw[dX,dX,eN c f n,Int.mul_add]
theorem ig (c:Int):∀n:Nat,sN (fun _=>c) n=n*c
 |0=>by simp[sN]
 |n+1=>by rw[dX,ig c n,Int.natCast_add,Int.add_mul];simp
theorem lI (f:Nat->Nat->Int) (m:Nat):∀n:Nat,sN (fun v=>sN (fun u=>f v u) m) n=sN (fun u=>sN (fun v=>f v u) n) m
 |0=>by show (0:Int)=sN (fun u=>0) m;rw[jM]
 |n+1=>by
  rw[dX,lI f m n,<-dn]
  exact bh fun u _=>rfl
theorem ij {f:Nat->Int} {v:Nat}:∀{n:Nat},v<n->(∀u,u<n->u≠v->f u=0)->sN f n=f v
 |0,h,_=>by omega
 |n+1,h,j=>by
  rw[dX]
  by_cases e:v=n
  ·subst e
   rw[fO fun u hu=>j u (by omega) (by omega)];omega
  ·rw[ij (n:=n) (by omega) fun u hu o=>j u (by omega) o,j n (by omega) (fun h=>e h.symm)];omega
theorem fP {f:Nat->Int} {n v:Nat} (j:v<n) (h:∀u,u<n->0<=f u):f v<=sN f n:=by
 have h1:sN (fun u=>if u=v then f v else 0) n=f v:=by
  rw[ij (f:=fun u=>if u=v then f v else 0) j (fun u _ hu=>if_neg hu)]
  exact if_pos rfl
 rw[<-h1]
 refine cm fun u hu=>?_
 show (if u=v then f v else 0)<=f u
 by_cases e:u=v
 ·subst e;rw[if_pos rfl];exact Int.le_refl _
 ·rw[if_neg e];exact h u hu
theorem oM (s:Nat->Int):∀{n:Nat},0<n->∃v,v<n∧∀u,u<n->s u<=s v
 |0,h=>by omega
 |1,_=>⟨0,by omega,fun u hu=>by
   obtain rfl:u=0:=by omega
   exact Int.le_refl _⟩
 |n+2,_=>by
  obtain⟨v,o,h⟩:=oM s (n:=n+1) (by omega)
  by_cases j:s (n+1)<=s v
  ·exact⟨v,by omega,fun u hu=>by
    by_cases e:u=n+1
    ·subst e;exact j
    ·exact h u (by omega)⟩
  ·exact⟨n+1,by omega,fun u hu=>by
    by_cases e:u=n+1
    ·subst e;exact Int.le_refl _
    ·have:=h u (by omega);omega⟩
theorem exists_least {P:Nat->Prop} (f:Nat->Nat) (h:∃v,P v):∃v,P v∧∀u,P u->f v<=f u:=by
 obtain⟨v,j⟩:=h
 have key:∀(k:Nat) (v:Nat),f v<=k->P v->∃v,P v∧∀u,P u->f v<=f u:=by
  intro k
  induction k with
  |zero=>intro v hk j;exact⟨v,j,fun u _=>by omega⟩
  |succ k J=>
   intro v hk j
   by_cases o:∃u,P u∧f u<f v
   ·obtain⟨u,hu,I⟩:=o
    exact J u (by omega) hu
   ·exact⟨v,j,fun u hu=>by
     by_cases I:f u<f v
     ·exact absurd ⟨u,hu,I⟩ o
     ·omega⟩
 exact key (f v) v (Nat.le_refl _) j
theorem ym {P:Nat->Prop} (h:∃k,P k):∃k,P k∧∀j,P j->k<=j:=exists_least id h
structure Wt (n:Nat) (t:Nat->Nat->Int):Prop where
 pos:∀u v,0<=t u v
 sym:∀u v,t u v=t v u
 self:∀v,t v v=0
def aI (n:Nat) (t:Nat->Nat->Int) (s:Nat->Int) (v:Nat):Int:=sN (fun u=>t v u*(s v-s u)) n
theorem jN (n:Nat) (t:Nat->Nat->Int) (s r:Nat->Int) (v:Nat):aI n t (fun u=>s u+r u) v=aI n t s v+aI n t r v:=by
 unfold aI
 rw[<-dn]
 refine bh fun u _=>?_
 rw[<-Int.mul_add];congr 1;show s v+r v- (s u+r u)=_;omega
theorem kA (n:Nat) (t:Nat->Nat->Int) (s:Nat->Int) (v:Nat):aI n t (fun u=> -s u) v= -aI n t s v:=by
 unfold aI
 rw[<-lH]
 refine bh fun u _=>?_
 rw[<-Int.mul_neg];congr 1;show -s v- -s u=_;omega
theorem kB (n:Nat) (t:Nat->Nat->Int) (s r:Nat->Int) (v:Nat):aI n t (fun u=>s u-r u) v=aI n t s v-aI n t r v:=by
 unfold aI
 rw[<-cM]
 refine bh fun u _=>?_
 rw[<-Int.mul_sub];congr 1;show s v-r v- (s u-r u)=_;omega
theorem r_ (n:Nat) (t:Nat->Nat->Int) (c:Int) (s:Nat->Int) (v:Nat):aI n t (fun u=>c*s u) v=c*aI n t s v:=by
 unfold aI
 rw[<-eN]
 refine bh fun u _=>?_
 rw[<-Int.mul_sub,Int.mul_left_comm]
theorem kC {n:Nat} {t:Nat->Nat->Int} {s r:Nat->Int} (h:∀u,u<n->s u=r u) {v:Nat} (j:v<n):aI n t s v=aI n t r v:=by
 unfold aI
 refine bh fun u hu=>?_
 rw[h u hu,h v j]
theorem jc (n:Nat) (t:Nat->Nat->Int) (c:Int) (v:Nat):aI n t (fun _=>c) v=0:=by
 unfold aI
 exact fO fun u _=>by rw[Int.sub_self,Int.mul_zero]
theorem yn {n:Nat} {t:Nat->Nat->Int} (j:Wt n t) (s h:Nat->Int):sN (fun v=>h v*aI n t s v) n=sN (fun v=>s v*aI n t h v) n:=by
 have o:sN (fun v=>h v*aI n t s v) n=sN (fun v=>h v*s v*sN (fun u=>t v u) n) n-sN (fun v=>sN (fun u=>h v*t v u*s u) n) n:=by
  rw[<-cM]
  refine bh fun v _=>?_
  unfold aI
  rw[<-eN,<-eN,<-cM]
  refine bh fun u _=>?_
  rw[Int.mul_sub,Int.mul_sub]
  congr 1
  ·rw[Int.mul_comm (t v u),<-Int.mul_assoc]
  ·rw[<-Int.mul_assoc]
 have e2:sN (fun v=>s v*aI n t h v) n=sN (fun v=>s v*h v*sN (fun u=>t v u) n) n-sN (fun v=>sN (fun u=>s v*t v u*h u) n) n:=by
  rw[<-cM]
  refine bh fun v _=>?_
  unfold aI
  rw[<-eN,<-eN,<-cM]
  refine bh fun u _=>?_
  rw[Int.mul_sub,Int.mul_sub]
  congr 1
  ·rw[Int.mul_comm (t v u),<-Int.mul_assoc]
  ·rw[<-Int.mul_assoc]
 rw[o,e2]
 congr 1
 ·exact bh fun v _=>by rw[Int.mul_comm (h v)]
 ·rw[lI]
  refine bh fun u _=>bh fun v _=>?_
  rw[j.sym v u,Int.mul_comm (h v),Int.mul_comm _ (s u),Int.mul_assoc]
theorem lJ {n:Nat} {t:Nat->Nat->Int} (j:Wt n t) (s:Nat->Int):sN (fun v=>aI n t s v) n=0:=by
 have h:=yn j s (fun _=>1)
 rw[fO (f:=fun v=>s v*aI n t (fun _=>1) v) fun v _=>by rw[jc,Int.mul_zero]] at h
 rw[<-h]
 exact bh fun v _=>by rw[Int.one_mul]
def a_ (n:Nat) (t:Nat->Nat->Int) (D D':Nat->Int):Prop:=∃s:Nat->Int,∀v,v<n->D' v=D v-aI n t s v
theorem a_.refl (n:Nat) (t:Nat->Nat->Int) (D:Nat->Int):a_ n t D D:=⟨fun _=>0,fun v _=>by rw[jc];omega⟩
theorem a_.of_eq {n:Nat} {t:Nat->Nat->Int} {D D':Nat->Int} (h:∀v,v<n->D' v=D v):a_ n t D D':=⟨fun _=>0,fun v j=>by rw[jc,h v j];omega⟩
theorem a_.symm {n:Nat} {t:Nat->Nat->Int} {D D':Nat->Int} (h:a_ n t D D'):a_ n t D' D:=by
 obtain⟨s,h⟩:=h
 exact⟨fun u=> -s u,fun v j=>by rw[kA,h v j];omega⟩
theorem a_.trans {n:Nat} {t:Nat->Nat->Int} {D D' j:Nat->Int} (h:a_ n t D D') (h2:a_ n t D' j):a_ n t D j:=by
 obtain⟨s,h⟩:=h
 obtain⟨r,h2⟩:=h2
 exact⟨fun u=>s u+r u,fun v o=>by rw[jN,h2 v o,h v o];omega⟩
theorem a_.add {n:Nat} {t:Nat->Nat->Int} {D D' F j:Nat->Int} (h:a_ n t D D') (h2:a_ n t F j):a_ n t (fun v=>D v+F v) (fun v=>D' v+j v):=by
 obtain⟨s,h⟩:=h
 obtain⟨r,h2⟩:=h2
 exact⟨fun u=>s u+r u,fun v o=>by show D' v+j v=D v+F v-_;rw[jN,h2 v o,h v o];omega⟩
theorem a_.neg {n:Nat} {t:Nat->Nat->Int} {D D':Nat->Int} (h:a_ n t D D'):a_ n t (fun v=> -D v) (fun v=> -D' v):=by
 obtain⟨s,h⟩:=h
 exact⟨fun u=> -s u,fun v j=>by show -D' v= -D v-_;rw[kA,h v j];omega⟩
theorem a_.ik {n:Nat} {t:Nat->Nat->Int} (j:Wt n t) {D D':Nat->Int} (h:a_ n t D D'):sN D' n=sN D n:=by
 obtain⟨s,h⟩:=h
 rw[bh h,cM,lJ j];omega
def mR (n:Nat) (D:Nat->Int):Prop:=∀v,v<n->0<=D v
def bp (n:Nat) (t:Nat->Nat->Int) (D:Nat->Int):Prop:=∃D',a_ n t D D'∧mR n D'
theorem bp.dB {n:Nat} {t:Nat->Nat->Int} {D D':Nat->Int} (h:a_ n t D D') (hw:bp n t D):bp n t D':=by
 obtain⟨F,h1,h2⟩:=hw
 exact⟨F,h.symm.trans h1,h2⟩
theorem yo {n:Nat} {t:Nat->Nat->Int} {D D':Nat->Int} (h:a_ n t D D'):bp n t D↔bp n t D':=⟨bp.dB h,bp.dB h.symm⟩
theorem bp.mono {n:Nat} {t:Nat->Nat->Int} {D D':Nat->Int} (hw:bp n t D) (h:∀v,v<n->D v<=D' v):bp n t D':=by
 obtain⟨F,⟨s,h1⟩,h2⟩:=hw
 exact⟨fun v=>D' v-aI n t s v,⟨s,fun v _=>rfl⟩,fun v j=>by have:=h2 v j;have:=h1 v j;have:=h v j;show 0<=D' v-aI n t s v;omega⟩
theorem bp.add {n:Nat} {t:Nat->Nat->Int} {D F:Nat->Int} (h1:bp n t D) (h2:bp n t F):bp n t (fun v=>D v+F v):=by
 obtain⟨D',a,b⟩:=h1
 obtain⟨o,c,d⟩:=h2
 exact⟨_,a.add c,fun v j=>by have:=b v j;have:=d v j;show 0<=D' v+o v;omega⟩
theorem bp.mS {n:Nat} {t:Nat->Nat->Int} {D:Nat->Int} (h:mR n D):bp n t D:=⟨D,a_.refl _ _ _,h⟩
theorem bp.ik {n:Nat} {t:Nat->Nat->Int} (j:Wt n t) {D:Nat->Int} (h:bp n t D):0<=sN D n:=by
 obtain⟨D',a,b⟩:=h
 rw[<-a.ik j];exact cQ b
def eO (n:Nat) (t:Nat->Nat->Int) (pos:Nat->Nat) (v:Nat):Int:=sN (fun u=>if pos u<pos v then t v u else 0) n
def val (n:Nat) (t:Nat->Nat->Int) (v:Nat):Int:=sN (fun u=>t v u) n
def nu (n:Nat) (t:Nat->Nat->Int) (pos:Nat->Nat) (v:Nat):Int:=eO n t pos v-1
theorem yp {n:Nat} {t:Nat->Nat->Int} (j:Wt n t) (o:0<n) (pos:Nat->Nat) (s:Nat->Int):∃v,v<n∧nu n t pos v-aI n t s v<0:=by
 obtain⟨m,hm,I⟩:=oM s o
 obtain⟨v,⟨J,U⟩,R⟩:=exists_least (P:=fun v=>v<n∧s v=s m) pos ⟨m,hm,rfl⟩
 refine⟨v,J,?_⟩
 unfold nu eO aI
 have:sN (fun u=>if pos u<pos v then t v u else 0) n<=sN (fun u=>t v u*(s v-s u)) n:=by
  refine cm fun u hu=>?_
  have hp:=j.pos v u
  have aa:=I u hu
  by_cases e:pos u<pos v
  ·show (if pos u<pos v then t v u else 0)<=_
   rw[if_pos e]
   have ab:s u≠s m:=fun h=>by have:=R u ⟨hu,h⟩;omega
   have h1:1<=s v-s u:=by omega
   have:=Int.mul_le_mul_of_nonneg_left h1 hp
   rw[Int.mul_one] at this
   exact this
  ·show (if pos u<pos v then t v u else 0)<=_
   rw[if_neg e]
   exact Int.mul_nonneg hp (by omega)
 omega
theorem oN {n:Nat} {t:Nat->Nat->Int} (o:Wt n t) (I:0<n) (pos:Nat->Nat):¬bp n t (nu n t pos):=by
 rintro⟨D',⟨s,h1⟩,h2⟩
 obtain⟨v,j,h⟩:=yp o I pos s
 have:=h1 v j
 have:=h2 v j
 omega
def gv (n:Nat) (pos:Nat->Nat):Prop:=∀u v,u<n->v<n->pos u=pos v->u=v
theorem sa {n:Nat} {t:Nat->Nat->Int} (o:Wt n t) {pos pos':Nat->Nat} (hi:gv n pos) (hr:∀u v,u<n->v<n->(pos' u<pos' v↔pos v<pos u)) {v:Nat} (j:v<n):eO n t pos v+eO n t pos' v=val n t v:=by
 unfold eO val
 rw[<-dn]
 refine bh fun u hu=>?_
 have h1:=hr u v hu j
 by_cases e:pos u<pos v
 ·rw[if_pos e,if_neg (by rw[h1];omega)];omega
 ·by_cases e2:pos v<pos u
  ·rw[if_neg e,if_pos (h1.2 e2)];omega
  ·rw[if_neg e,if_neg (fun h=>e2 (h1.1 h))]
   have:=hi u v hu j (by omega)
   subst this
   rw[o.self];rfl
theorem sb (n:Nat) (pos:Nat->Nat):∃pos':Nat->Nat,∀u v,u<n->v<n->(pos' u<pos' v↔pos v<pos u):=by
 obtain⟨B,j⟩:∃B,∀u,u<n->pos u<=B:=by
  induction n with
  |zero=>exact⟨0,fun u hu=>by omega⟩
  |succ n o=>
   obtain⟨B,j⟩:=o
   exact⟨max B (pos n),fun u hu=>by
    by_cases e:u=n
    ·subst e;exact Nat.le_max_right _ _
    ·exact Nat.le_trans (j u (by omega)) (Nat.le_max_left _ _)⟩
 refine⟨fun u=>B-pos u,fun u v hu I=>?_⟩
 have:=j u hu
 have:=j v I
 show B-pos u<B-pos v↔_
 omega
theorem yq {n:Nat} {pos pos':Nat->Nat} (hi:gv n pos) (hr:∀u v,u<n->v<n->(pos' u<pos' v↔pos v<pos u)):gv n pos':=by
 intro u v hu j he
 have h1:=hr u v hu j
 have h2:=hr v u j hu
 refine hi u v hu j ?_
 omega
theorem yr {n:Nat} {t:Nat->Nat->Int} (j:Wt n t) {pos pos':Nat->Nat} (hr:∀u v,u<n->v<n->(pos' u<pos' v↔pos v<pos u)):sN (eO n t pos) n=sN (eO n t pos') n:=by
 unfold eO
 rw[lI]
 refine bh fun u hu=>bh fun v o=>?_
 have:=hr v u o hu
 by_cases e:pos u<pos v
 ·rw[if_pos e,if_pos (this.2 e),j.sym]
 ·rw[if_neg e,if_neg (fun h=>e (this.1 h))]
theorem yt {n:Nat} {t:Nat->Nat->Int} (j:Wt n t) {pos:Nat->Nat} (hi:gv n pos):2*sN (eO n t pos) n=sN (val n t) n:=by
 obtain⟨pos',hr⟩:=sb n pos
 have h1:sN (fun v=>eO n t pos v+eO n t pos' v) n=sN (val n t) n:=bh fun v o=>sa j hi hr o
 rw[dn] at h1
 have h2:=yr j hr
 omega
theorem yu {n:Nat} {t:Nat->Nat->Int} (pos:Nat->Nat):sN (nu n t pos) n=sN (eO n t pos) n-n:=by
 have:sN (nu n t pos) n=sN (fun v=>eO n t pos v- (fun _=>(1:Int)) v) n:=rfl
 rw[this,cM,ig];omega
theorem yv {n:Nat} {t:Nat->Nat->Int} (j:Wt n t) {pos pos':Nat->Nat} (hi:gv n pos) (hr:∀u v,u<n->v<n->(pos' u<pos' v↔pos v<pos u)) {v:Nat} (o:v<n):val n t v-2-nu n t pos v=nu n t pos' v:=by
 have:=sa j hi hr o
 unfold nu;omega
def cR (n:Nat) (t:Nat->Nat->Int):Prop:=∀S:Nat->Bool,(∃v,v<n∧S v=true)->(∃v,v<n∧S v=false)->∃u v,u<n∧v<n∧S u=true∧S v=false∧0<t u v
theorem yw {f:Nat->Nat->Int} (h:∀u v,f u v= -f v u) (n:Nat):sN (fun v=>sN (fun u=>f v u) n) n=0:=by
 have h1:=lI f n n
 have h2:sN (fun u=>sN (fun v=>f v u) n) n=sN (fun u=> -sN (fun v=>f u v) n) n:=bh fun u _=>by
  rw[<-lH];exact bh fun v _=>h v u
 rw[h2,lH] at h1
 omega
theorem yx {n:Nat} {t:Nat->Nat->Int} (j:Wt n t) (S:Nat->Bool) (s:Nat->Int):sN (fun v=>if S v=true then aI n t s v else 0) n=sN (fun v=>sN (fun u=>if S v=true∧S u=false then t v u*(s v-s u) else 0) n) n:=by
 have h1:=yw (f:=fun v u=>if S v=true∧S u=true then t v u*(s v-s u) else 0) (fun u v=>by
  by_cases e:S u=true∧S v=true
  ·rw[if_pos e,if_pos ⟨e.2,e.1⟩,j.sym v u,<-Int.mul_neg];congr 1;omega
  ·rw[if_neg e,if_neg (fun h=>e ⟨h.2,h.1⟩)];rfl) n
 have h2:sN (fun v=>if S v=true then aI n t s v else 0) n=sN (fun v=>sN (fun u=>if S v=true∧S u=true then t v u*(s v-s u) else 0) n+sN (fun u=>if S v=true∧S u=false then t v u*(s v-s u) else 0) n) n:=by
  refine bh fun v _=>?_
  show (if S v=true then aI n t s v else 0)=_
  by_cases e:S v=true
  ·rw[if_pos e,<-dn]
   unfold aI
   refine bh fun u _=>?_
   cases hu:S u<;>simp[e]
  ·rw[if_neg e,fO fun u _=>if_neg (fun h=>e h.1),fO fun u _=>if_neg (fun h=>e h.1)];rfl
 rw[h2,dn,h1];omega
theorem yy {n:Nat} {t:Nat->Nat->Int} (j:Wt n t) (S:Nat->Bool) (s:Nat->Int) (M:Int) (hM:0<=M) (J:∀u v,u<n->v<n->S u=true->S v=false->M<=s u-s v) {a b:Nat} (o:a<n) (hb:b<n) (R:S a=true) (U:S b=false) (ab:0<t a b):
  M<=sN (fun v=>if S v=true then aI n t s v else 0) n:=by
 rw[yx j]
 have hp:∀v,v<n->∀u,u<n->0<=(if S v=true∧S u=false then t v u*(s v-s u) else 0):=fun v I u hu=>by
  by_cases e:S v=true∧S u=false
  ·rw[if_pos e]
   have:=J v u I hu e.1 e.2
   exact Int.mul_nonneg (j.pos _ _) (by omega)
  ·rw[if_neg e];exact Int.le_refl _
 have h1:=fP (f:=fun v=>sN (fun u=>if S v=true∧S u=false then t v u*(s v-s u) else 0) n) o (fun v I=>cQ (hp v I))
 have h2:=fP (f:=fun u=>if S a=true∧S u=false then t a u*(s a-s u) else 0) hb (hp a o)
 refine Int.le_trans ?_ (Int.le_trans h2 h1)
 show M<=(if S a=true∧S b=false then t a b*(s a-s b) else 0)
 rw[if_pos ⟨R,U⟩]
 have h3:=J a b o hb R U
 have h4:=Int.mul_le_mul (show (1:Int)<=t a b by omega) h3 hM (j.pos _ _)
 omega
def bz (S:Nat->Bool):Nat->Nat
 |0=>0
 |n+1=>bz S n+if S n=true then 1 else 0
theorem il (S:Nat->Bool):∀n,bz S n<=n
 |0=>Nat.le_refl _
 |n+1=>by have:=il S n;unfold bz;split<;>omega
theorem lK {S T:Nat->Bool}:∀{n:Nat},(∀v,v<n->S v=true->T v=true)->bz S n<=bz T n
 |0,_=>Nat.le_refl _
 |n+1,h=>by
  have h1:=lK (n:=n) (fun v j=>h v (by omega))
  have h2:=h n (by omega)
  unfold bz
  cases hS:S n with
  |true=>rw[h2 hS];simp;exact h1
  |false=>simp only[Bool.false_eq_true,if_false];split<;>omega
theorem mT {S T:Nat->Bool} {w:Nat}:∀{n:Nat},(∀v,v<n->S v=true->T v=true)->w<n->S w=false->T w=true->bz S n<bz T n
 |0,_,h,_,_=>by omega
 |n+1,h,hw,hS,j=>by
  by_cases e:w=n
  ·subst e
   have h1:=lK (n:=w) (fun v o=>h v (by omega))
   unfold bz;rw[hS,j];simp;omega
  ·have h1:=mT (n:=n) (fun v o=>h v (by omega)) (by omega) hS j
   have h2:=h n (by omega)
   unfold bz
   cases I:S n with
   |true=>rw[h2 I];simp;omega
   |false=>simp only[Bool.false_eq_true,if_false];split<;>omega
theorem oO {S:Nat->Bool}:∀{n:Nat},n<=bz S n->∀v,v<n->S v=true
 |0,_,v,j=>by omega
 |n+1,h,v,j=>by
  have h1:=il S n
  unfold bz at h
  by_cases e:S n=true
  ·rw[if_pos e] at h
   by_cases e2:v=n
   ·subst e2;exact e
   ·exact oO (n:=n) (by omega) v (by omega)
  ·rw[if_neg e] at h;omega
theorem yz {S:Nat->Bool} {w n:Nat} (hw:w<n) (hS:S w=true):1<=bz S n:=by
 have:=mT (S:=fun _=>false) (T:=S) (n:=n) (fun v _ h=>by cases h) hw rfl hS
 omega
theorem oP:∀n:Nat,bz (fun _=>true) n=n
 |0=>rfl
 |n+1=>by unfold bz;rw[oP n];simp
theorem iZ {n:Nat} {t:Nat->Nat->Int} (ht:Wt n t) (hc:cR n t) {b:Nat->Int} {v0:Nat} (h0:v0<n) (ag:b v0<=0) {M:Int} (hM:0<=M)
  (h:∀x:Int,0<=x->sN (fun v=>if decide (x<b v)=true then aI n t b v else 0) n<=M):∀v,v<n->b v<=n*M:=by
 have step:∀j:Nat,j+1<=bz (fun v=>decide (b v<=j*M)) n∨n<=bz (fun v=>decide (b v<=j*M)) n:=by
  intro j
  induction j with
  |zero=>
   left
   exact yz h0 (by simp;exact ag)
  |succ j I=>
   have J:(((j+1:Nat):Int))*M=j*M+M:=by rw[Int.natCast_add,Int.add_mul];simp
   have U:∀v,v<n->decide (b v<=(j:Int)*M)=true->decide (b v<=((j+1:Nat):Int)*M)=true:=fun v _ o=>by
    have:=of_decide_eq_true o
    exact decide_eq_true (by rw[J];omega)
   by_cases R:n<=bz (fun v=>decide (b v<=j*M)) n
   ·right;exact Nat.le_trans R (lK U)
   ·rcases I with I|I
    ·left
     by_cases hx:∃w,w<n∧(j:Int)*M<b w∧b w<=j*M+M
     ·obtain⟨w,hw,a0,a1⟩:=hx
      have:=mT (S:=fun v=>decide (b v<=j*M)) (T:=fun v=>decide (b v<=((j+1:Nat):Int)*M)) U hw (decide_eq_false (by omega)) (decide_eq_true (by rw[J];omega))
      omega
     ·exfalso
      have ak:0<=(j:Int)*M:=Int.mul_nonneg (by omega) hM
      have hex:∃v,v<n∧decide ((j:Int)*M<b v)=true:=by
       refine Classical.byContradiction fun an=>R ?_
       have ar:∀v,v<n->decide (b v<=(j:Int)*M)=true:=fun v o=>by
        by_cases e:b v<=(j:Int)*M
        ·exact decide_eq_true e
        ·exact absurd ⟨v,o,decide_eq_true (by omega)⟩ an
       have h2:=oP n
       have h3:=lK (S:=fun _=>true) (T:=fun v=>decide (b v<=(j:Int)*M)) (n:=n) (fun v o _=>ar v o)
       omega
      obtain⟨a,c,ha,aB,aF,aL,aO⟩:=hc (fun v=>decide ((j:Int)*M<b v)) hex ⟨v0,h0,decide_eq_false (by omega)⟩
      have h1:=yy ht (fun v=>decide ((j:Int)*M<b v)) b (M+1) (by omega) (fun u v hu o aP aS=>by
       have J:=of_decide_eq_true aP
       have e2:=of_decide_eq_false aS
       have e3:¬(b u<=j*M+M):=fun h=>hx ⟨u,hu,J,h⟩
       omega) ha aB aF aL aO
      have h2:=h _ ak
      omega
    ·exact absurd I R
 intro v o
 have h1:=step n
 have h2:=il (fun v=>decide (b v<=(n:Int)*M)) n
 have h3:n<=bz (fun v=>decide (b v<=(n:Int)*M)) n:=by omega
 exact of_decide_eq_true (oO h3 v o)
theorem sd {α:Type} {P:α->Prop} (f:α->Nat) (B:Nat) (h:∃a,P a) (o:∀a,P a->f a<=B):∃a,P a∧∀c,P c->f c<=f a:=by
 obtain⟨a,j⟩:=h
 have key:∀(k:Nat) (a:α),B-f a<=k->P a->∃a,P a∧∀c,P c->f c<=f a:=by
  intro k
  induction k with
  |zero=>intro a hk j;exact⟨a,j,fun c hc=>by have:=o c hc;have:=o a j;omega⟩
  |succ k J=>
   intro a hk j
   by_cases I:∃c,P c∧f a<f c
   ·obtain⟨c,hc,R⟩:=I
    have:=o c hc
    exact J c (by omega) hc
   ·exact⟨a,j,fun c hc=>by
     by_cases e:f a<f c
     ·exact absurd ⟨c,hc,e⟩ I
     ·omega⟩
 exact key _ a (Nat.le_refl _) j
def one (w:Nat) (v:Nat):Int:=if v=w then 1 else 0
theorem se {n:Nat} {t:Nat->Nat->Int} (j:Wt n t) {w:Nat} (hw:w<n):aI n t (one w) w=val n t w:=by
 unfold aI val
 refine bh fun u _=>?_
 unfold one
 by_cases e:u=w
 ·subst e;rw[j.self];simp
 ·rw[if_pos rfl,if_neg e];simp
theorem sg {n:Nat} {t:Nat->Nat->Int} {w v:Nat} (hw:w<n) (j:v≠w):aI n t (one w) v= -t v w:=by
 unfold aI
 rw[ij (v:=w) hw]
 ·unfold one;rw[if_neg j,if_pos rfl];omega
 ·intro u _ hu
  unfold one;rw[if_neg j,if_neg hu];simp
theorem e8 {n w:Nat} (hw:w<n):sN (one w) n=1:=by
 rw[ij (f:=one w) hw (fun u _ hu=>if_neg hu)];exact if_pos rfl
theorem yA {n:Nat} {t:Nat->Nat->Int} (o:Wt n t) (hc:cR n t) {q:Nat} (hq:q<n) (D:Nat->Int):∃D',a_ n t D D'∧∀v,v<n->v≠q->0<=D' v:=by
 let P:(Nat->Int)->Prop:=fun b=>b q=0∧(∀v,v<n->0<=b v)∧∀v,v<n->0<b v->D v+aI n t b v<=val n t v-1
 have J:∀v,0<=val n t v:=fun v=>cQ fun u _=>o.pos v u
 have U:∀b,P b->∀v,v<n->b v<=n*(sN (val n t) n+sN (fun v=>((D v).natAbs:Int)) n):=by
  rintro b ⟨h1,h2,R⟩
  refine iZ o hc hq (by omega) ?_ ?_
  ·have I:0<=sN (val n t) n:=cQ fun v _=>J v
   have h5:0<=sN (fun v=>((D v).natAbs:Int)) n:=cQ fun v _=>by omega
   omega
  ·intro x hx
   have I:sN (fun v=>if decide (x<b v)=true then aI n t b v else 0) n<=sN (fun v=>val n t v+((D v).natAbs:Int)) n:=cm fun v j=>by
    show (if decide (x<b v)=true then aI n t b v else 0)<=_
    by_cases e:x<b v
    ·rw[if_pos (decide_eq_true e)]
     have:=R v j (by omega)
     omega
    ·rw[if_neg (by simpa using e)]
     have:=J v
     omega
   rw[dn] at I
   exact I
 obtain⟨b,hb,aa⟩:=sd (P:=P) (fun b=>(sN b n).toNat) (sN (fun _=>n*(sN (val n t) n+sN (fun v=>((D v).natAbs:Int)) n)) n).toNat ⟨fun _=>0,rfl,fun _ _=>Int.le_refl _,fun v _ (h:(0:Int)<0)=>by omega⟩ (fun b hb=>by
  have h1:=cm (n:=n) (fun v j=>U b hb v j)
  have h2:=cQ (f:=b) (n:=n) hb.2.1
  show (sN b n).toNat<=_
  omega)
 refine⟨fun v=>D v+aI n t b v,⟨fun u=> -b u,fun v _=>by show D v+aI n t b v=_;rw[kA];omega⟩,fun v j ab=>?_⟩
 show 0<=D v+aI n t b v
 refine Classical.byContradiction fun ar=>?_
 have hP:P (fun u=>b u+one v u):=by
  refine⟨by show b q+one v q=0;rw[hb.1];unfold one;rw[if_neg (fun h=>ab h.symm)];rfl,fun u hu=>by have:=hb.2.1 u hu;show 0<=b u+one v u;unfold one;split<;>omega,fun u hu ag=>?_⟩
  rw[jN]
  by_cases e:u=v
  ·subst e;rw[se o j];omega
  ·rw[sg j e]
   have h0:b u+one v u=b u:=by unfold one;rw[if_neg e];omega
   have:=hb.2.2 u hu (by have:0<b u+one v u:=ag;omega)
   have:=o.pos u v
   omega
 have h1:=aa (fun u=>b u+one v u) hP
 have h2:sN (fun u=>b u+one v u) n=sN b n+1:=by rw[dn,e8 j]
 have R:=cQ (f:=b) (n:=n) hb.2.1
 have I:(sN (fun u=>b u+one v u) n).toNat<=(sN b n).toNat:=h1
 omega
def jO (n:Nat) (t:Nat->Nat->Int) (q:Nat) (c:Nat->Int):Prop:=∀S:Nat->Bool,(∃v,v<n∧S v=true)->S q=false->∃v,v<n∧S v=true∧c v<sN (fun u=>if S u=false then t v u else 0) n
def iq (n:Nat) (t:Nat->Nat->Int) (q:Nat) (c:Nat->Int):Prop:=(∀v,v<n->v≠q->0<=c v)∧jO n t q c
def ind (S:Nat->Bool) (v:Nat):Int:=if S v=true then 1 else 0
theorem oQ {n:Nat} {t:Nat->Nat->Int} (S:Nat->Bool) (v:Nat):aI n t (ind S) v=if S v=true then sN (fun u=>if S u=false then t v u else 0) n else -sN (fun u=>if S u=true then t v u else 0) n:=by
 unfold aI
 by_cases e:S v=true
 ·rw[if_pos e]
  refine bh fun u _=>?_
  unfold ind
  cases hu:S u<;>simp[e]
 ·rw[if_neg e,<-lH]
  refine bh fun u _=>?_
  unfold ind
  cases hu:S u<;>simp[e]
theorem oR {n:Nat} {t:Nat->Nat->Int} (I:Wt n t) (hc:cR n t) {q:Nat} (hq:q<n) (D:Nat->Int):∃c,a_ n t D c∧iq n t q c:=by
 obtain⟨j,R,U⟩:=yA I hc hq D
 let P:(Nat->Int)->Prop:=fun b=>b q=0∧(∀v,v<n->0<=b v)∧∀v,v<n->v≠q->0<=j v-aI n t b v
 have aa:∀b,P b->∀v,v<n->b v<=n*sN (fun v=>((j v).natAbs:Int)) n:=by
  rintro b ⟨h1,h2,J⟩
  refine iZ I hc hq (by omega) (cQ fun v _=>by omega) ?_
  intro x hx
  refine cm fun v o=>?_
  show (if decide (x<b v)=true then aI n t b v else 0)<=((j v).natAbs:Int)
  by_cases e:x<b v
  ·rw[if_pos (decide_eq_true e)]
   have:=J v o (fun ab=>by subst ab;omega)
   omega
  ·rw[if_neg (by simpa using e)];omega
 obtain⟨b,hb,ad⟩:=sd (P:=P) (fun b=>(sN b n).toNat) (sN (fun _=>n*sN (fun v=>((j v).natAbs:Int)) n) n).toNat ⟨fun _=>0,rfl,fun _ _=>Int.le_refl _,fun v o h=>by rw[jc];have:=U v o h;omega⟩ (fun b hb=>by
  have h1:=cm (n:=n) (fun v o=>aa b hb v o)
  have h2:=cQ (f:=b) (n:=n) hb.2.1
  show (sN b n).toNat<=_
  omega)
 refine⟨fun v=>j v-aI n t b v,R.trans ⟨b,fun v _=>rfl⟩,hb.2.2,fun S hS ag=>?_⟩
 refine Classical.byContradiction fun ak=>?_
 have an:∀v,v<n->S v=true->sN (fun u=>if S u=false then t v u else 0) n<=j v-aI n t b v:=fun v o ar=>by
  refine Classical.byContradiction fun h=>ak ⟨v,o,ar,?_⟩
  show j v-aI n t b v<_
  omega
 have hP:P (fun u=>b u+ind S u):=by
  refine⟨by show b q+ind S q=0;rw[hb.1];unfold ind;rw[ag];simp,fun u hu=>by have:=hb.2.1 u hu;show 0<=b u+ind S u;unfold ind;split<;>omega,fun u hu aB=>?_⟩
  rw[jN,oQ]
  by_cases e:S u=true
  ·rw[if_pos e];have:=an u hu e;omega
  ·rw[if_neg e]
   have:=hb.2.2 u hu aB
   have:0<=sN (fun w=>if S w=true then t u w else 0) n:=cQ fun w _=>by
    show 0<=(if S w=true then t u w else 0)
    have:=I.pos u w
    split<;>omega
   omega
 obtain⟨w,hw,aF⟩:=hS
 have h1:=ad (fun u=>b u+ind S u) hP
 have h2:sN (fun u=>b u+ind S u) n=sN b n+sN (ind S) n:=dn _ _ _
 have J:=cQ (f:=b) (n:=n) hb.2.1
 have h5:=fP (f:=ind S) hw (fun u _=>by unfold ind;split<;>omega)
 have h6:ind S w=1:=by unfold ind;rw[if_pos aF]
 have h4:(sN (fun u=>b u+ind S u) n).toNat<=(sN b n).toNat:=h1
 omega
theorem oS {n:Nat} {t:Nat->Nat->Int} (J:Wt n t) (hc:cR n t) {q:Nat} (hq:q<n) {c I:Nat->Int} (h:iq n t q c) (R:∀v,v<n->v≠q->0<=I v) {s:Nat->Int} (U:∀v,v<n->I v=c v-aI n t s v):∀v,v<n->s v<=s q:=by
 obtain⟨m,hm,o⟩:=oM s (show 0<n by omega)
 by_cases e:s q=s m
 ·intro v j;rw[e];exact o v j
 ·exfalso
  have ag:=o q hq
  obtain⟨v,j,aa,ak⟩:=h.2 (fun v=>decide (s v=s m)) ⟨m,hm,by simp⟩ (by simpa using e)
  have ab:s v=s m:=of_decide_eq_true aa
  have ad:v≠q:=fun h=>by subst h;exact e ab
  have h1:=R v j ad
  rw[U v j] at h1
  have h2:sN (fun u=>if decide (s u=s m)=false then t v u else 0) n<=aI n t s v:=by
   unfold aI
   refine cm fun u hu=>?_
   show (if decide (s u=s m)=false then t v u else 0)<=t v u*(s v-s u)
   have hp:=J.pos v u
   have hle:=o u hu
   by_cases e2:s u=s m
   ·rw[if_neg (by simp[e2])]
    exact Int.mul_nonneg hp (by omega)
   ·rw[if_pos (by simpa using e2)]
    have:=Int.mul_le_mul_of_nonneg_left (show (1:Int)<=s v-s u by omega) hp
    omega
  omega
theorem yB {n:Nat} {t:Nat->Nat->Int} (J:Wt n t) (hc:cR n t) {q:Nat} (hq:q<n) {c o:Nat->Int} (h:iq n t q c) (R:iq n t q o) (he:a_ n t c o):∀v,v<n->o v=c v:=by
 obtain⟨s,I⟩:=he
 have h1:=oS J hc hq h R.1 I
 have h2:=oS J hc hq R h.1 (s:=fun u=> -s u) (fun v j=>by rw[kA,I v j];omega)
 intro v j
 have:aI n t s v=0:=by
  unfold aI
  refine fO fun u hu=>?_
  have a:=h1 u hu
  have b:=h2 u hu
  have c:=h1 v j
  have d:=h2 v j
  rw[show s v-s u=0 by omega,Int.mul_zero]
 rw[I v j,this];omega
end Go.Proofs.YtffdiakgjakngaaGreat.T

