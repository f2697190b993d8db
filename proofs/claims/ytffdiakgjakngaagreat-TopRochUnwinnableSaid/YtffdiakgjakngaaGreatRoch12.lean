/- TopRochUnwinnable answers true whatever the input (text 12 of 19): own walks and plain laws; no conditions. -/
import Derived.Test.YtffdiakgjakngaaGreatRoch11
namespace Go.Proofs.YtffdiakgjakngaaGreat.P
open Go.RowKit Go.Proofs.YtffdiakgjakngaaGreatW.PrintWords Go.Proofs.YtffdiakgjakngaaGreatW.PrintLast Go.Proofs.YtffdiakgjakngaaGreatW.PrintMore
set_option linter.unusedVariables false
set_option linter.unusedSimpArgs false
set_option maxHeartbeats 8000000
set_option maxRecDepth 100000
def b8.j0:Nat->List Int->Int->Bool->Int->List (S83)->Option (Bool)
 |0,_,_,_,_,_=>none
 |k+1,x1,x2,I,j,o=>if I=true then(some false) else((eW.f k j o x1).bind fun t156=>(if t156=0 then((dO.f k j o x1).bind fun t157=>(if t157=true then((ee.f k x1).bind fun t158=>(some (decide (t158<=x2)))) else(some false))) else(some true)))
def b8.f (k:Nat) (j:Int) (o:List (S83)) (l1:List Int) (I:Int):Option (Bool):=(jv.f k j o).bind fun t155=>(if t155=true then(b8.j0 k l1 I (decide ((l1.length:Int)>100)) j o) else(b8.j0 k l1 I true j o))
theorem b8.calls (k:Nat) (o:Int) (ad:Option Addr) (ag:Nat) (j:List (S83)) (A1:Option Addr) (c1:Nat) (l1:List Int) (a2:Int) (r:Bool) (w:World) (bw:Kd.C aG w ad j.length j) (bx:j.length<=ag) (b0:Kd.C (Kd.int .i64) w A1 l1.length l1) (b1:l1.length<=c1) (h:b8.f k o j l1 a2=some r):
  Calls Tryz.prog 79 #[.agg #[.int .i64 o,.slice ad j.length ag],.slice A1 l1.length c1,.int .i64 a2] w fun e w'=>e= .returned (.bool r)∧Below w.heap.size w w':=by
 have c2:=Tryz.underlying24
 have ar:=Aside0.mk bw
 have av:=Aside0.mk bx
 clear bw bx
 have aF:=Aside0.mk b0
 have aL:=Aside0.mk b1
 clear b0 b1
 have J:=Aside0.mk (Below.refl w.heap.size w)
 have H:((jv.f k o j).bind fun t155=>(if t155=true then(b8.j0 k l1 a2 (decide ((l1.length:Int)>100)) o j) else(b8.j0 k l1 a2 true o j)))=some r:=h
 clear h
 have bf:=Aside0.mk H
 clear H
 go_enter Tryz.func79,Tryz.ntmps79
 go_upto_region 1 with (first|((with_reducible refine aA (N:=3) rfl ?_);(try(refine dk (by rfl) ?_;dsimp only));refine zX 3 #[.int .i64 o,.slice ad j.length ag] 24 ?_;intro cb hg w5 b2 hb;have I:=Aside0.mk (b2);have c5:=zG J hg;have c6:=zG J hg;replace J:=zS J hb;clear hb b2 hg))
 (try simp only[Act.put,List.setIfInBounds_toArray,List.set_cons_zero,List.set_cons_succ])
 go_cut [14] (fun cc wc=>∃(kq:Nat) (a0:Bool),cc= .bool a0∧Aside0 (b8.j0 kq l1 a2 a0 o j=some r)∧Aside0 (kq<=k)∧Aside0 (wc.heap[cb]? =some (.cells #[.int .i64 o,(.slice ad j.length ag)] 24 (0,0)))∧Aside0 (Below w.heap.size w wc))
 case first=>
  have H:=bf.out
  clear bf
  replace H:=Option.bind_eq_some_iff.mp H
  obtain⟨t155,b3,H⟩:=H
  replace H:(if t155=true then(b8.j0 k l1 a2 (decide ((l1.length:Int)>100)) o j) else(b8.j0 k l1 a2 true o j))=some r:=H
  have A6:=Aside0.mk b3
  clear b3
  by_cases c7:t155=true
  ·subst c7
   have H1:(b8.j0 k l1 a2 (decide ((l1.length:Int)>100)) o j)=some r:=by rw[if_pos rfl] at H;exact H
   clear H
   have H:=H1
   clear H1
   have H':=Aside0.mk H
   clear H
   obtain⟨cd,cf,ch,cj⟩:=ao I
   go_wp2_with (first|((with_reducible refine au (f:=44) rfl ?_);refine zL (some 8) Tryz.func44 #[.agg #[.int .i64 o,.slice ad j.length ag]] ?_;(with_reducible refine(jv.calls k o _ _ j true _ ?R ?U A6.out).mono ?_);(case R=>exact Kd.aj ar.out zB);(case U=>exact av.out);rintro e w9 ⟨rfl,hb⟩;refine⟨_,rfl,?_⟩;replace I:=zb I hb;replace J:=zS J hb;(try clear hb)))
   go_meet
   case rel=>exact⟨_,(decide ((l1.length:Int)>100)),zT,H',⟨by first|omega|exact Nat.le_refl _⟩,⟨zK I⟩,⟨zB⟩⟩
  ·replace c7:=Bool.eq_false_iff.mpr c7
   subst c7
   have H1:(b8.j0 k l1 a2 true o j)=some r:=by rw[if_neg (show ¬(false=true) by decide)] at H;exact H
   clear H
   have H:=H1
   clear H1
   have H':=Aside0.mk H
   clear H
   obtain⟨ck,cl,cq,cr⟩:=ao I
   go_wp2_with (first|((with_reducible refine au (f:=44) rfl ?_);refine zL (some 8) Tryz.func44 #[.agg #[.int .i64 o,.slice ad j.length ag]] ?_;(with_reducible refine(jv.calls k o _ _ j false _ ?R ?U A6.out).mono ?_);(case R=>exact Kd.aj ar.out zB);(case U=>exact av.out);rintro e fE ⟨rfl,hb⟩;refine⟨_,rfl,?_⟩;replace I:=zb I hb;replace J:=zS J hb;(try clear hb)))
   go_meet
   case rel=>exact⟨_,(true),zT,H',⟨by first|omega|exact Nat.le_refl _⟩,⟨zK I⟩,⟨zB⟩⟩
 case rest=>
  clear bf
  try clear c1
  try clear p2
  try clear c4
  try clear c7
  try clear ck
  try clear cl
  try clear cd
  try clear cf
  try clear cq
  try clear cr
  try clear ch
  try clear cj
  obtain⟨kq,a0,rfl,HA,c',I,J⟩:=hcut
  cases kq with
  |zero=>exact absurd HA.out (by simp[b8.j0])
  |succ ab=>
   have H:=HA.out
   clear HA
   simp only[b8.j0] at H
   by_cases a1:a0=true
   ·subst a1
    have H1:(some false)=some r:=by rw[if_pos rfl] at H;exact H
    clear H
    have H:=H1
    clear H1
    obtain rfl:=Option.some.inj H
    go_wp2
    go_ret
    exact⟨zE,zB⟩
   ·replace a1:=Bool.eq_false_iff.mpr a1
    subst a1
    have H1:((eW.f ab o j l1).bind fun t156=>(if t156=0 then((dO.f ab o j l1).bind fun t157=>(if t157=true then((ee.f ab l1).bind fun t158=>(some (decide (t158<=a2)))) else(some false))) else(some true)))=some r:=by rw[if_neg (show ¬(false=true) by decide)] at H;exact H
    clear H
    have H:=H1
    clear H1
    replace H:=Option.bind_eq_some_iff.mp H
    obtain⟨t156,b5,H⟩:=H
    replace H:(if t156=0 then((dO.f ab o j l1).bind fun t157=>(if t157=true then((ee.f ab l1).bind fun t158=>(some (decide (t158<=a2)))) else(some false))) else(some true))=some r:=H
    have bo:=Aside0.mk b5
    clear b5
    by_cases aB:t156=0
    ·rw[if_pos aB] at H
     have cv:(t156==0)=true:=beq_iff_eq.mpr aB
     have cx:(t156 != 0)=false:=bne_eq_false_iff_eq.mpr aB
     clear aB
     replace H:=Option.bind_eq_some_iff.mp H
     obtain⟨t157,b_,H⟩:=H
     replace H:(if t157=true then((ee.f ab l1).bind fun t158=>(some (decide (t158<=a2)))) else(some false))=some r:=H
     have b':=Aside0.mk b_
     clear b_
     by_cases a3:t157=true
     ·subst a3
      have H1:((ee.f ab l1).bind fun t158=>(some (decide (t158<=a2))))=some r:=by rw[if_pos rfl] at H;exact H
      clear H
      have H:=H1
      clear H1
      replace H:=Option.bind_eq_some_iff.mp H
      obtain⟨t158,ca,H⟩:=H
      replace H:(some (decide (t158<=a2)))=some r:=H
      have c0:=Aside0.mk ca
      clear ca
      obtain rfl:=Option.some.inj H
      obtain⟨dd,ds,dv,ea⟩:=ao I
      go_wp2_with (first|((with_reducible refine au (f:=80) rfl ?_);refine zL (some 17) Tryz.func80 #[.agg #[.int .i64 o,.slice ad j.length ag],.slice A1 l1.length c1] ?_;(with_reducible refine(eW.calls ab o _ _ j _ _ l1 t156 _ ?R ?U ?ak ?an bo.out).mono ?_);(case R=>exact Kd.aj ar.out zB);(case U=>exact av.out);(case ak=>exact Kd.aj aF.out zB);(case an=>exact aL.out);rintro e eb ⟨rfl,hb⟩;refine⟨_,rfl,?_⟩;replace I:=zb I hb;replace J:=zS J hb;(try clear hb);obtain⟨ed,eg,ek,er⟩:=ao I)|(go_at_call 38;(with_reducible refine(dO.calls ab o _ _ j _ _ l1 true _ ?R ?U ?ak ?an b'.out).mono ?_);(case R=>exact Kd.aj ar.out zB);(case U=>exact av.out);(case ak=>exact Kd.aj aF.out zB);(case an=>exact aL.out);rintro e ev ⟨rfl,hb⟩;replace I:=zb I hb;replace J:=zS J hb;(try clear hb))|(go_at_call 22;(with_reducible refine(ee.calls ab _ _ l1 t158 _ ?R ?U c0.out).mono ?_);(case R=>exact Kd.aj aF.out zB);(case U=>exact aL.out);rintro e w' ⟨rfl,⟨nd,rfl⟩⟩))
      go_ret
      exact⟨zE,zB⟩
     ·replace a3:=Bool.eq_false_iff.mpr a3
      subst a3
      have H1:(some false)=some r:=by rw[if_neg (show ¬(false=true) by decide)] at H;exact H
      clear H
      have H:=H1
      clear H1
      obtain rfl:=Option.some.inj H
      obtain⟨ey,e0,e1,e2⟩:=ao I
      go_wp2_with (first|((with_reducible refine au (f:=80) rfl ?_);refine zL (some 17) Tryz.func80 #[.agg #[.int .i64 o,.slice ad j.length ag],.slice A1 l1.length c1] ?_;(with_reducible refine(eW.calls ab o _ _ j _ _ l1 t156 _ ?R ?U ?ak ?an bo.out).mono ?_);(case R=>exact Kd.aj ar.out zB);(case U=>exact av.out);(case ak=>exact Kd.aj aF.out zB);(case an=>exact aL.out);rintro e e3 ⟨rfl,hb⟩;refine⟨_,rfl,?_⟩;replace I:=zb I hb;replace J:=zS J hb;(try clear hb);obtain⟨e4,e5,e6,e_⟩:=ao I)|(go_at_call 38;(with_reducible refine(dO.calls ab o _ _ j _ _ l1 false _ ?R ?U ?ak ?an b'.out).mono ?_);(case R=>exact Kd.aj ar.out zB);(case U=>exact av.out);(case ak=>exact Kd.aj aF.out zB);(case an=>exact aL.out);rintro e e' ⟨rfl,hb⟩;replace I:=zb I hb;replace J:=zS J hb;(try clear hb)))
      go_ret
      exact⟨zE,zB⟩
    ·rw[if_neg aB] at H
     have cv:(t156==0)=false:=beq_eq_false_iff_ne.mpr aB
     have cx:(t156 != 0)=true:=bne_iff_ne.mpr aB
     obtain rfl:=Option.some.inj H
     obtain⟨fb,fo,fq,fr⟩:=ao I
     go_wp2_with (first|((with_reducible refine au (f:=80) rfl ?_);refine zL (some 17) Tryz.func80 #[.agg #[.int .i64 o,.slice ad j.length ag],.slice A1 l1.length c1] ?_;(with_reducible refine(eW.calls ab o _ _ j _ _ l1 t156 _ ?R ?U ?ak ?an bo.out).mono ?_);(case R=>exact Kd.aj ar.out zB);(case U=>exact av.out);(case ak=>exact Kd.aj aF.out zB);(case an=>exact aL.out);rintro e ft ⟨rfl,hb⟩;refine⟨_,rfl,?_⟩;replace I:=zb I hb;replace J:=zS J hb;(try clear hb)))
     go_ret
     exact⟨zE,zB⟩
def eF.l0:Nat->Int->Int->Int->Int->List (S83)->Option (Int)
 |0,_,_,_,_,_=>none
 |k+1,x1,I,j,o,J=>if j<o then(if j=x1 then(eF.l0 k x1 I (wrap64 (j+1)) o J) else((cS.f k o J j x1).bind fun t160=>(eF.l0 k x1 (wrap64 (I+t160)) (wrap64 (j+1)) o J))) else(some I)
def eF.f (k:Nat) (j:Int) (o:List (S83)) (I:Int):Option (Int):=eF.l0 k I 0 0 j o
theorem eF.calls (k:Nat) (o:Int) (ag:Option Addr) (ak:Nat) (I:List (S83)) (J:Int) (r:Int) (w:World) (aF:Kd.C aG w ag I.length I) (aL:I.length<=ak) (h:eF.f k o I J=some r):
  Calls Tryz.prog 144 #[.agg #[.int .i64 o,.slice ag I.length ak],.int .i64 J] w fun e w'=>e= .returned (.int .i64 r)∧Below w.heap.size w w':=by
 have b0:=Tryz.underlying24
 have a0:=Aside0.mk aF
 have a2:=Aside0.mk aL
 clear aF aL
 have U:=Aside0.mk (Below.refl w.heap.size w)
 have H:(eF.l0 k J 0 0 o I)=some r:=h
 clear h
 have H':=Aside0.mk H
 clear H
 go_enter Tryz.func144,Tryz.ntmps144
 go_wp2_with (first|((with_reducible refine aA (N:=2) rfl ?_);refine zX 2 #[.int .i64 o,.slice ag I.length ak] 24 ?_;intro a3 hg w3 aO hb;have R:=Aside0.mk (aO);have b1:=zG U hg;have b2:=zG U hg;replace U:=zS U hb;clear hb aO hg))
 go_loopg [5,6] k (fun kq v5 v6 w'=>∃(ad:Int) (j:Int),v5= .int .i64 ad∧v6= .int .i64 j∧Aside0 (eF.l0 kq J ad j o I=some r)∧Aside0 (kq<=k)∧Aside0 (w'.heap[a3]? =some (.cells #[.int .i64 o,(.slice ag I.length ak)] 24 (0,0)))∧Aside0 (Below w.heap.size w w'))
 case atStart=>exact⟨(0),(0),zT,zT,H',⟨Nat.le_refl _⟩,⟨zK R⟩,⟨zB⟩⟩
 case round=>
  clear H'
  try clear c1
  try clear p2
  obtain⟨ad,j,rfl,rfl,HA,an,R,U⟩:=hrel
  cases gk with
  |zero=>exact absurd HA.out (by simp[eF.l0])
  |succ k1=>
   have H:=HA.out
   clear HA
   simp only[eF.l0] at H
   by_cases c4:j<o
   ·rw[if_pos c4] at H
    have bg:decide (j<o)=true:=decide_eq_true c4
    clear c4
    by_cases c5:j=J
    ·rw[if_pos c5] at H
     have bk:(j==J)=true:=beq_iff_eq.mpr c5
     have bn:(j != J)=false:=bne_eq_false_iff_eq.mpr c5
     clear c5
     have H':=Aside0.mk H
     clear H
     obtain⟨b4,b5,b_,b'⟩:=ao R
     go_wp2
     go_roundg k1
     case measure=>have:=an.out;omega
     case rel=>exact⟨(ad),(wrap64 (j+1)),zT,zT,H',⟨by have:=an.out;omega⟩,⟨zK R⟩,⟨zB⟩⟩
    ·rw[if_neg c5] at H
     have bk:(j==J)=false:=beq_eq_false_iff_ne.mpr c5
     have bn:(j != J)=true:=bne_iff_ne.mpr c5
     replace H:=Option.bind_eq_some_iff.mp H
     obtain⟨t160,aS,H⟩:=H
     replace H:(eF.l0 k1 J (wrap64 (ad+t160)) (wrap64 (j+1)) o I)=some r:=H
     have A7:=Aside0.mk aS
     clear aS
     have H':=Aside0.mk H
     clear H
     obtain⟨ca,cb,cc,cd⟩:=ao R
     go_wp2_with (first|((with_reducible refine au (f:=147) rfl ?_);refine zL (some 20) Tryz.func147 #[.agg #[.int .i64 o,.slice ag I.length ak],.int .i64 j,.int .i64 J] ?_;(with_reducible refine(cS.calls k1 o _ _ I j J t160 _ ?bw ?bx A7.out).mono ?_);(case bw=>exact Kd.aj a0.out zB);(case bx=>exact a2.out);rintro e w9 ⟨rfl,hb⟩;refine⟨_,rfl,?_⟩;replace R:=zb R hb;replace U:=zS U hb;(try clear hb)))
     go_roundg k1
     case measure=>have:=an.out;omega
     case rel=>exact⟨(wrap64 (ad+t160)),(wrap64 (j+1)),zT,zT,H',⟨by have:=an.out;omega⟩,⟨zK R⟩,⟨zB⟩⟩
   ·rw[if_neg c4] at H
    have bg:decide (j<o)=false:=decide_eq_false c4
    clear c4
    obtain rfl:=Option.some.inj H
    obtain⟨ch,cj,ck,cl⟩:=ao R
    go_wp2
    go_ret
    exact⟨zE,zB⟩
def ef.l0:Nat->List Int->Int->Int->List (S83)->Option (List Int)
 |0,_,_,_,_=>none
 |k+1,x3,x4,j,o=>if x4<j then((eF.f k j o x4).bind fun t162=>(if x3.length<17592186044416 then(ef.l0 k (x3++[wrap64 (t162-2)]) (wrap64 (x4+1)) j o) else(none))) else(some x3)
def ef.f (k:Nat) (j:Int) (o:List (S83)):Option (List Int):=ef.l0 k ([]:List Int) 0 j o
theorem ef.calls (k:Nat) (j:Int) (ag:Option Addr) (ak:Nat) (o:List (S83)) (r:List Int) (w:World) (a3:Kd.C aG w ag o.length o) (bf:o.length<=ak) (h:ef.f k j o=some r):
  Calls Tryz.prog 90 #[.agg #[.int .i64 j,.slice ag o.length ak]] w fun e w'=>∃bg:Value,e= .returned (bg)∧Kd.R (Kd.int .i64) 3 w' w.heap.size (fun _=>True) bg r∧Below w.heap.size w w':=by
 have cv:=Tryz.underlying24
 have b0:=Aside0.mk a3
 have b1:=Aside0.mk bf
 clear a3 bf
 have U:=Aside0.mk (Below.refl w.heap.size w)
 have H:(ef.l0 k ([]:List Int) 0 j o)=some r:=h
 clear h
 have H':=Aside0.mk H
 clear H
 go_enter Tryz.func90,Tryz.ntmps90
 go_wp2_with (first|((with_reducible refine aA (N:=1) rfl ?_);refine zX 1 #[.int .i64 j,.slice ag o.length ak] 24 ?_;intro b2 hg w2 bk hb;have J:=Aside0.mk (bk);have cx:=zG U hg;have c0:=zG U hg;replace U:=zS U hb;clear hb bk hg))
 go_loopg [3,4] k (fun kq v3 v4 w'=>∃(aa:List Int) (I:Int),v4= .int .i64 I∧Aside0 (ef.l0 kq aa I j o=some r)∧Aside0 (kq<=k)∧Aside0 (Kd.R (Kd.int .i64) 3 w' w.heap.size (fun _=>True) v3 aa)∧Aside0 (w'.heap[b2]? =some (.cells #[.int .i64 j,(.slice ag o.length ak)] 24 (0,0)))∧Aside0 (Below w.heap.size w w'))
 case atStart=>exact⟨(([]:List Int)),(0),zT,H',⟨Nat.le_refl _⟩,⟨by first|exact Kd.cE _ _ _ _ _|exact Kd.fs _ _ _ _ _|exact Kd.V_nil _ _ _ _ _|exact Kd.Q_nil _ _ _ _ _|exact Kd.eZ _ _ _ _ _⟩,⟨zK J⟩,⟨zB⟩⟩
 case round=>
  clear H'
  try clear p2
  obtain⟨aa,I,rfl,HA,bo,ad,J,U⟩:=hrel
  cases gk with
  |zero=>exact absurd HA.out (by simp[ef.l0])
  |succ k1=>
   have H:=HA.out
   clear HA
   simp only[ef.l0] at H
   by_cases c3:I<j
   ·rw[if_pos c3] at H
    have b4:decide (I<j)=true:=decide_eq_true c3
    clear c3
    replace H:=Option.bind_eq_some_iff.mp H
    obtain⟨t162,bw,H⟩:=H
    replace H:(if aa.length<17592186044416 then(ef.l0 k1 (aa++[wrap64 (t162-2)]) (wrap64 (I+1)) j o) else(none))=some r:=H
    have A4:=Aside0.mk bw
    clear bw
    by_cases c5:aa.length<17592186044416
    ·rw[if_pos c5] at H
     have b_:=Aside0.mk c5
     clear c5
     obtain⟨bx,an⟩:∃y_:List Int,y_=(aa++[wrap64 (t162-2)]):=⟨_,rfl⟩
     replace H:(ef.l0 k1 bx (wrap64 (I+1)) j o)=some r:=by first|(rw[an];with_reducible exact H)|(have a2:=(Option.bind_some _ _).symm.trans H;rw[an];with_reducible exact a2)|(have a2:=(Option.bind_some _ _).symm.trans H;with_reducible exact a2)|with_reducible exact H|(rw[an];exact H)|exact H
     have ca:=Aside0.mk an
     clear an
     have H':=Aside0.mk H
     clear H
     obtain⟨c2,c4,c6,c7⟩:=ao J
     go_wp2_with (first|((with_reducible refine au (f:=144) rfl ?_);refine zL (some 14) Tryz.func144 #[.agg #[.int .i64 j,.slice ag o.length ak],.int .i64 I] ?_;(with_reducible refine(eF.calls k1 j _ _ o I t162 _ ?cb ?cc A4.out).mono ?_);(case cb=>exact Kd.aj b0.out zB);(case cc=>exact b1.out);rintro e w7 ⟨rfl,hb⟩;refine⟨_,rfl,?_⟩;replace ad:=bm ad hb;replace J:=zb J hb;replace U:=zS U hb;(try clear hb))|((with_reducible refine oE (b:=.append) (xs:=#[.tmp 11,.tmp 16]) rfl ?_);at_builtin;refine Kd.kX (Kd.int .i64) (w0:=w) w.heap.size rfl (.tmp 11) (.tmp 16) 25 3 (.int .i64 0) 8 rfl Tryz.underlying25 fw rfl (by decide) (by omega) u3 aa (wrap64 (t162-2)) [.int .i64 (wrap64 (t162-2))] (fun _=>True) (fun _=>False) rfl rfl ?aP (fun _ hk=>hk.elim) ?aF ?aO ?aB ?aS ?aL ?_;(case aP=>exact rfl);(case aB=>exact zB);(case aF=>exact(fun _ _=>trivial));(case aO=>exact(zR ad));(case aS=>exact(aU zB));(case aL=>have:=b_.out;omega);intro c' w8 ho hb hg cq;rw[<-ca.out] at ho;replace J:=Aside0.mk (cg (zK J) hg (Kd.dj ad.out J.out (by decide)));replace U:=Aside0.mk (hb);have cr:=Aside0.mk (ho);clear ad;clear ho hb hg cq))
     go_roundg k1
     case measure=>have:=bo.out;omega
     case rel=>exact⟨(bx),(wrap64 (I+1)),zT,H',⟨by have:=bo.out;omega⟩,⟨zR cr⟩,⟨zK J⟩,⟨zB⟩⟩
    ·rw[if_neg c5] at H
     exact absurd H (by simp)
   ·rw[if_neg c3] at H
    have b4:decide (I<j)=false:=decide_eq_false c3
    clear c3
    obtain rfl:=Option.some.inj H
    obtain⟨ds,dv,ea,eb⟩:=ao J
    go_wp2
    go_ret
    exact⟨_,zE,by(with_reducible repeat(first|apply Kd.aD|apply Kd.bd|apply Kd.a8));exact ad.out,zB⟩
def cG.l0:Nat->List Int->List Int->Int->List Int->Int->Option (List Int)
 |0,_,_,_,_,_=>none
 |k+1,o,x1,x2,I,j=>if j<(o.length:Int) then(if 0<=j then(if j<(x1.length:Int) then(if j<(I.length:Int) then(cG.l0 k o x1 x2 (I.set (j:Int).toNat (wrap64 ((rd o j)+(wrap64 (x2*(rd x1 j)))))) (wrap64 (j+1))) else(none)) else(none)) else(none)) else(some I)
def cG.f (k:Nat) (l0:List Int) (l1:List Int) (j:Int):Option (List Int):=if 0<=(l0.length:Int) then(if((l0.length:Int):Int).toNat<=35184372088832 then(cG.l0 k l0 l1 j (List.replicate ((l0.length:Int):Int).toNat 0) 0) else(none)) else(none)
def cG.T5:Bool×List (List Nat×List Nat):=(true,[([],[]),([],[]),([],[]),([],[]),([2,3],[2,3]),([4],[4]),([],[]),([],[]),([],[]),([7,8],[7,8]),([9],[9]),([6,10],[6,10]),([5,11],[5,11]),([0,1,0,1,2,3,4,5,6,7,8,9,10,11,12],[0,1]),([13,12,0,1,2,3,4,5,6,7,8,9,10,11,12],[12,13])])
def cG.B5:List Nat:=[0,0,0,0,12,28,0,0,0,384,896,1984,4092,8191,16383]
theorem cG.CM:da .any (opsOf Tryz.f134 5)=cG.T5:=by kernel_rfl
theorem cG.CN:jL cG.T5.2 cG.B5=true:=by kernel_rfl
theorem cG.calls (k:Nat) (A0:Option Addr) (c0:Nat) (l0:List Int) (A1:Option Addr) (c1:Nat) (l1:List Int) (J:Int) (r:List Int) (w:World) (b0:Kd.C (Kd.int .i64) w A0 l0.length l0) (b1:l0.length<=c0) (b2:Kd.C (Kd.int .i64) w A1 l1.length l1) (b3:l1.length<=c1) (h:cG.f k l0 l1 J=some r):
  Calls Tryz.prog 134 #[.slice A0 l0.length c0,.slice A1 l1.length c1,.int .i64 J] w fun e w'=>∃b4:Value,e= .returned (b4)∧Kd.R (Kd.int .i64) 3 w' w.heap.size (fun _=>True) b4 r∧Below w.heap.size w w':=by
 have c2:=Aside0.mk b0
 have e':=Aside0.mk b1
 clear b0 b1
 have c3:=Aside0.mk b2
 have fb:=Aside0.mk b3
 clear b2 b3
 have I:=Aside0.mk (Below.refl w.heap.size w)
 have H:(if 0<=(l0.length:Int) then(if((l0.length:Int):Int).toNat<=35184372088832 then(cG.l0 k l0 l1 J (List.replicate ((l0.length:Int):Int).toNat 0) 0) else(none)) else(none))=some r:=h
 clear h
 by_cases c4:0<=(l0.length:Int)
 ·rw[if_pos c4] at H
  have c6:=eq_true c4
  have c7:decide (0<=(l0.length:Int))=true:=decide_eq_true c4
  clear c4
  by_cases c5:((l0.length:Int):Int).toNat<=35184372088832
  ·rw[if_pos c5] at H
   have c':=eq_true c5
   have dd:decide (((l0.length:Int):Int).toNat<=35184372088832)=true:=decide_eq_true c5
   clear c5
   obtain⟨b5,ak⟩:∃y_:List Int,y_=(List.replicate ((l0.length:Int):Int).toNat 0):=⟨_,rfl⟩
   replace H:(cG.l0 k l0 l1 J b5 0)=some r:=by first|(rw[ak];with_reducible exact H)|(have aa:=(Option.bind_some _ _).symm.trans H;rw[ak];with_reducible exact aa)|(have aa:=(Option.bind_some _ _).symm.trans H;with_reducible exact aa)|with_reducible exact H|(rw[ak];exact H)|exact H
   have b_:=Aside0.mk ak
   clear ak
   have H':=Aside0.mk H
   clear H
   go_enter Tryz.func134,Tryz.ntmps134
   go_wp2_with (first|((with_reducible refine aA (N:=11) rfl ?_);refine Kd.iU (Kd.int .i64) _ 3 rfl (N:=11) rfl 25 _ _ rfl (l0.length:Int) rfl rfl Tryz.underlying25 (.int .i64 0) 8 fw rfl (by decide) (by omega) 0 (ok:=fun _=>True) (okp:=fun _=>True) rfl (fun _ hk=>hk) trivial (of_decide_eq_true ‹_›) (Nat.le_trans (Nat.mul_le_mul_right _ (of_decide_eq_true ‹_› :(l0.length:Int).toNat<=35184372088832)) (by omega)) (Below.refl _ _) (Nat.le_refl _) ?_;intro dv w6 an hb ea eb;clear ea eb;(first|rw[<-b_.out] at an|(simp only[Int.reduceToNat] at an;rw[<-b_.out] at an));have ed:=Aside0.mk (Kd.aM an (aU zB));replace I:=zS I hb;clear hb an))
   go_loopg [8] k (fun kq v8 w'=>∃(ab:List Int) (j:Int),v8= .int .i64 j∧Aside0 (cG.l0 kq l0 l1 J ab j=some r)∧Aside0 (kq<=k)∧Aside0 (Kd.R (Kd.int .i64) 3 w' w.heap.size (fun _=>True) dv ab)∧Aside0 (Below w.heap.size w w'))
   case atStart=>exact⟨(b5),(0),zT,H',⟨Nat.le_refl _⟩,⟨zR ed⟩,⟨zB⟩⟩
   case round=>
    clear H'
    try clear c1
    try clear p2
    try clear c4
    try clear c6
    try clear c7
    try clear c5
    try clear c'
    try clear dd
    obtain⟨ab,j,rfl,HA,ca,U,I⟩:=hrel
    cases gk with
    |zero=>exact absurd HA.out (by simp[cG.l0])
    |succ k1=>
     have H:=HA.out
     clear HA
     simp only[cG.l0] at H
     by_cases c8:j<(l0.length:Int)
     ·rw[if_pos c8] at H
      have ek:decide (j<(l0.length:Int))=true:=decide_eq_true c8
      clear c8
      by_cases c9:0<=j
      ·rw[if_pos c9] at H
       have fr:decide (0<=j)=true:=decide_eq_true c9
       clear c9
       by_cases aO:j<(l1.length:Int)
       ·rw[if_pos aO] at H
        have ft:decide (j<(l1.length:Int))=true:=decide_eq_true aO
        clear aO
        by_cases aP:j<(ab.length:Int)
        ·rw[if_pos aP] at H
         have fv:decide (j<(ab.length:Int))=true:=decide_eq_true aP
         clear aP
         obtain⟨cc,ar⟩:∃y_:List Int,y_=(ab.set (j:Int).toNat (wrap64 ((rd l0 j)+(wrap64 (J*(rd l1 j)))))):=⟨_,rfl⟩
         replace H:(cG.l0 k1 l0 l1 J cc (wrap64 (j+1)))=some r:=by first|(rw[ar];with_reducible exact H)|(have aa:=(Option.bind_some _ _).symm.trans H;rw[ar];with_reducible exact aa)|(have aa:=(Option.bind_some _ _).symm.trans H;with_reducible exact aa)|with_reducible exact H|(rw[ar];exact H)|exact H
         have er:=Aside0.mk ar
         clear ar
         have H':=Aside0.mk H
         clear H
         try go_wp2
         have cd:=Aside0.mk (Kd.a8 U.out)
         have cf:=Aside0.mk (bu I.out)
         clear U
         clear I
         have U:=cd
         have I:=cf
         clear cd cf
         have a3:0<=(j:Int):=of_decide_eq_true ‹_›
         have bf:j<(l0.length:Int):=of_decide_eq_true ‹_›
         obtain⟨ev,ew,av⟩:=Kd.bD c2.out j a3 bf
         have ch:=av
         cases ew
         replace av:=(I.out.cell (World.block_lt_of_cell? w _ av)).trans av
         replace a3:=eq_true a3
         replace bf:=eq_true bf
         have bg:0<=(j:Int):=of_decide_eq_true ‹_›
         have bk:j<(l1.length:Int):=of_decide_eq_true ‹_›
         obtain⟨ey,e0,aB⟩:=Kd.bD c3.out j bg bk
         have cj:=aB
         cases e0
         replace aB:=(I.out.cell (World.block_lt_of_cell? w _ aB)).trans aB
         replace bg:=eq_true bg
         replace bk:=eq_true bk
         have bn:0<=(j:Int):=of_decide_eq_true ‹_›
         have bo:(j:Int)<((ab.length:Int):Int):=of_decide_eq_true ‹_›
         obtain⟨f',gb,ck,cl,e1,gd,cq⟩:=Kd.eH U.out (by omega)
         (first|cases ck|(injection ck with aS e2 e3;(first|subst aS|(injection aS with aS;subst aS));subst e3;clear e2))
         have e4:=Aside0.mk cl
         have e5:=Aside0.mk cq
         clear cl e1 cq
         obtain⟨e6,e_⟩:=Kd.bB 0 U.out (j:Int) bn bo
         replace bn:=eq_true bn
         replace bo:=eq_true bo
         have bw:=Kd.wI U.out (j:Int) (wrap64 ((rd l0 j)+(wrap64 (J*(rd l1 j)))))
         rw[<-er.out] at bw
         have cr:=Aside0.mk bw
         clear bw
         refine mr (n:=15) (S:=fun w'=>w'.cell? (ev.add (j).toNat)=some (.int .i64 (rd l0 j))∧w'.cell? (ey.add (j).toNat)=some (.int .i64 (rd l1 j))) (ds:=[14]) #[false,false,false,false,false,false,false,false,false,false,false,false,false,false,false] (by kernel_rfl) rfl rfl ⟨((I.out.cell (World.block_lt_of_cell? w _ ch)).trans ch),((I.out.cell (World.block_lt_of_cell? w _ cj)).trans cj)⟩ (fun hHeld=>?_);refine mQ cG.CM cG.CN (fun o cv=>?_)
         generalize wr.drew=gf at U I e5 cr e_ e6 av aB hHeld⊢
         refine bR (i:=0) (N:=some 18) (v:=?_) (a':=?_) #[true,false,false,false,false,false,false,false,false,false,false,false,false,false,false] rfl rfl (bS o.out (by kernel_rfl)) (fun _ _ _ h=>h) (Or.inl ⟨by rfl,?_⟩) ?_ ?_
         rotate_left
         ·intro w'
          go_simp
          with_reducible rfl
         rotate_left
         ·simp only[Act.put,List.setIfInBounds_toArray,List.set_cons_zero,List.set_cons_succ,aV,aX]
          rfl
         refine bR (i:=1) (N:=some 19) (v:=?_) (a':=?_) #[true,true,false,false,false,false,false,false,false,false,false,false,false,false,false] rfl rfl (bS o.out (by kernel_rfl)) (fun _ _ _ h=>h) (Or.inl ⟨by rfl,?_⟩) ?_ ?_
         rotate_left
         ·intro w'
          go_simp
          with_reducible rfl
         rotate_left
         ·simp only[Act.put,List.setIfInBounds_toArray,List.set_cons_zero,List.set_cons_succ,aV,aX]
          rfl
         refine bR (i:=2) (N:=some 20) (v:=?_) (a':=?_) #[true,true,true,false,false,false,false,false,false,false,false,false,false,false,false] rfl rfl (bS o.out (by kernel_rfl)) (fun _ _ _ h=>h) (Or.inl ⟨by rfl,?_⟩) ?_ ?_
         rotate_left
         ·intro w'
          go_simp
          with_reducible rfl
         rotate_left
         ·simp only[Act.put,List.setIfInBounds_toArray,List.set_cons_zero,List.set_cons_succ,aV,aX]
          rfl
         refine bR (i:=3) (N:=some 21) (v:=?_) (a':=?_) #[true,true,true,true,false,false,false,false,false,false,false,false,false,false,false] rfl rfl (bS o.out (by kernel_rfl)) (fun _ _ _ h=>h) (Or.inl ⟨by rfl,?_⟩) ?_ ?_
         rotate_left
         ·intro w'
          go_simp
          with_reducible rfl
         rotate_left
         ·simp only[Act.put,List.setIfInBounds_toArray,List.set_cons_zero,List.set_cons_succ,aV,aX]
          rfl
         refine bR (i:=4) (N:=some 22) (v:=?_) (a':=?_) #[true,true,true,true,true,false,false,false,false,false,false,false,false,false,false] rfl rfl (bS o.out (by kernel_rfl)) (fun _ _ _ h=>h) (Or.inl ⟨by rfl,?_⟩) ?_ ?_
         rotate_left
         ·intro w'
          go_simp
          with_reducible rfl
         rotate_left
         ·simp only[Act.put,List.setIfInBounds_toArray,List.set_cons_zero,List.set_cons_succ,aV,aX]
          rfl
         refine bR (i:=6) (N:=some 24) (v:=?_) (a':=?_) #[true,true,true,true,true,false,true,false,false,false,false,false,false,false,false] rfl rfl (bS o.out (by kernel_rfl)) (fun _ _ _ h=>h) (Or.inl ⟨by rfl,?_⟩) ?_ ?_
         rotate_left
         ·intro w'
          go_simp
          with_reducible rfl
         rotate_left
         ·simp only[Act.put,List.setIfInBounds_toArray,List.set_cons_zero,List.set_cons_succ,aV,aX]
          rfl
         refine bR (i:=7) (N:=some 25) (v:=?_) (a':=?_) #[true,true,true,true,true,false,true,true,false,false,false,false,false,false,false] rfl rfl (bS o.out (by kernel_rfl)) (fun _ _ _ h=>h) (Or.inl ⟨by rfl,?_⟩) ?_ ?_
         rotate_left
         ·intro w'
          go_simp
          with_reducible rfl
         rotate_left
         ·simp only[Act.put,List.setIfInBounds_toArray,List.set_cons_zero,List.set_cons_succ,aV,aX]
          rfl
         refine bR (i:=8) (N:=some 26) (v:=?_) (a':=?_) #[true,true,true,true,true,false,true,true,true,false,false,false,false,false,false] rfl rfl (bS o.out (by kernel_rfl)) (fun _ _ _ h=>h) (Or.inl ⟨by rfl,?_⟩) ?_ ?_
         rotate_left
         ·intro w'
          go_simp
          with_reducible rfl
         rotate_left
         ·simp only[Act.put,List.setIfInBounds_toArray,List.set_cons_zero,List.set_cons_succ,aV,aX]
          rfl
         refine bR (i:=9) (N:=some 27) (v:=?_) (a':=?_) #[true,true,true,true,true,false,true,true,true,true,false,false,false,false,false] rfl rfl (bS o.out (by kernel_rfl)) (fun _ _ _ h=>h) (Or.inl ⟨by rfl,?_⟩) ?_ ?_
         rotate_left
         ·intro w'
          go_simp
          with_reducible rfl
         rotate_left
         ·simp only[Act.put,List.setIfInBounds_toArray,List.set_cons_zero,List.set_cons_succ,aV,aX]
          rfl
         refine gR (i:=5) (N:=some 23) (v:=?_) (a':=?_) #[true,true,true,true,true,true,true,true,true,true,false,false,false,false,false] rfl rfl (gS o.out cv.out (by kernel_rfl)) (fun _ _ _ h=>h) (Or.inl ⟨by rfl,?_⟩) hHeld ?_ ?_
         rotate_left
         ·rintro w' ⟨s0,s1⟩
          go_simp
          with_reducible rfl
         rotate_left
         ·simp only[Act.put,List.setIfInBounds_toArray,List.set_cons_zero,List.set_cons_succ,aV,aX]
          rfl
         refine gR (i:=10) (N:=some 28) (v:=?_) (a':=?_) #[true,true,true,true,true,true,true,true,true,true,true,false,false,false,false] rfl rfl (gS o.out cv.out (by kernel_rfl)) (fun _ _ _ h=>h) (Or.inl ⟨by rfl,?_⟩) hHeld ?_ ?_
         rotate_left
         ·rintro w' ⟨s0,s1⟩
          go_simp
          with_reducible rfl
         rotate_left
         ·simp only[Act.put,List.setIfInBounds_toArray,List.set_cons_zero,List.set_cons_succ,aV,aX]
          rfl
         refine bR (i:=11) (N:=some 29) (v:=?_) (a':=?_) #[true,true,true,true,true,true,true,true,true,true,true,true,false,false,false] rfl rfl (bS o.out (by kernel_rfl)) (fun _ _ _ h=>h) (Or.inl ⟨by rfl,?_⟩) ?_ ?_
         rotate_left
         ·intro w'
          go_simp
          with_reducible rfl
         rotate_left
         ·simp only[Act.put,List.setIfInBounds_toArray,List.set_cons_zero,List.set_cons_succ,aV,aX]
          rfl
         refine bR (i:=12) (N:=some 30) (v:=?_) (a':=?_) #[true,true,true,true,true,true,true,true,true,true,true,true,true,false,false] rfl rfl (bS o.out (by kernel_rfl)) (fun _ _ _ h=>h) (Or.inl ⟨by rfl,?_⟩) ?_ ?_
         rotate_left
         ·intro w'
          go_simp
          with_reducible rfl
         rotate_left
         ·simp only[Act.put,List.setIfInBounds_toArray,List.set_cons_zero,List.set_cons_succ,aV,aX]
          rfl
         refine bR (i:=13) (N:=some 31) (v:=?_) (a':=?_) #[true,true,true,true,true,true,true,true,true,true,true,true,true,true,false] rfl rfl (bS o.out (by kernel_rfl)) (fun _ _ _ h=>h) (Or.inl ⟨by rfl,?_⟩) ?_ ?_
         rotate_left
         ·intro w'
          go_simp
          with_reducible rfl
         rotate_left
         ·simp only[Act.put,List.setIfInBounds_toArray,List.set_cons_zero,List.set_cons_succ,aV,aX]
          rfl
         refine wV (i:=14) (N:=none) #[true,true,true,true,true,true,true,true,true,true,true,true,true,true,true] rfl rfl (ie o.out (by kernel_rfl)) (by decide) (fun K hK=>?_)
         refine wX (w1:=?_) (by rfl) rfl ?_ ?_
         rotate_left
         ·go_simp
          rfl
         refine hK.out _ _ ?_
         clear hK K
         refine mw (mP o.out (by kernel_rfl)) ?_
         try go_wp2
         go_roundg k1
         case measure=>have:=ca.out;omega
         case rel=>exact⟨(cc),(wrap64 (j+1)),zT,H',⟨by have:=ca.out;omega⟩,⟨zR cr⟩,⟨by repeat(first|(with_reducible first|exact I.out|apply al|apply bC|apply bu|refine dJ ?_ e4.out)|exact I.out)⟩⟩
        ·rw[if_neg aP] at H
         exact absurd H (by simp)
       ·rw[if_neg aO] at H
        exact absurd H (by simp)
      ·rw[if_neg c9] at H
       exact absurd H (by simp)
     ·rw[if_neg c8] at H
      have ek:decide (j<(l0.length:Int))=false:=decide_eq_false c8
      clear c8
      obtain rfl:=Option.some.inj H
      go_wp2
      go_ret
      exact⟨_,zE,by(with_reducible repeat(first|apply Kd.aD|apply Kd.bd|apply Kd.a8));exact U.out,zB⟩
  ·rw[if_neg c5] at H
   exact absurd H (by simp)
 ·rw[if_neg c4] at H
  exact absurd H (by simp)
def g8.f (k:Nat) (j:Int) (o:List (S83)) (l1:List Int):Option (List Int):=(ef.f k j o).bind fun t173=>((cG.f k t173 l1 (-1)).bind fun t176=>(some t176))
theorem g8.calls (k:Nat) (I:Int) (ab:Option Addr) (ad:Nat) (j:List (S83)) (A1:Option Addr) (c1:Nat) (l1:List Int) (r:List Int) (w:World) (av:Kd.C aG w ab j.length j) (aB:j.length<=ad) (aF:Kd.C (Kd.int .i64) w A1 l1.length l1) (aL:l1.length<=c1) (h:g8.f k I j l1=some r):
  Calls Tryz.prog 81 #[.agg #[.int .i64 I,.slice ab j.length ad],.slice A1 l1.length c1] w fun e w'=>∃aO:Value,e= .returned (aO)∧Kd.R (Kd.int .i64) 3 w' w.heap.size (fun _=>True) aO r∧Below w.heap.size w w':=by
 have b2:=Tryz.underlying24
 have a1:=Aside0.mk av
 have a2:=Aside0.mk aB
 clear av aB
 have a3:=Aside0.mk aF
 have bf:=Aside0.mk aL
 clear aF aL
 have o:=Aside0.mk (Below.refl w.heap.size w)
 have H:((ef.f k I j).bind fun t173=>((cG.f k t173 l1 (-1)).bind fun t176=>(some t176)))=some r:=h
 clear h
 replace H:=Option.bind_eq_some_iff.mp H
 obtain⟨t173,aP,H⟩:=H
 replace H:((cG.f k t173 l1 (-1)).bind fun t176=>(some t176))=some r:=H
 have A3:=Aside0.mk aP
 clear aP
 replace H:=Option.bind_eq_some_iff.mp H
 obtain⟨t176,aS,H⟩:=H
 replace H:(some t176)=some r:=H
 have A4:=Aside0.mk aS
 clear aS
 obtain rfl:=Option.some.inj H
 go_enter Tryz.func81,Tryz.ntmps81
 go_wp2_with (first|((with_reducible refine aA (N:=2) rfl ?_);refine zX 2 #[.int .i64 I,.slice ab j.length ad] 24 ?_;intro b3 hg w5 a0 hb;have aa:=Aside0.mk (a0);have b5:=zG o hg;have b_:=zG o hg;replace o:=zS o hb;clear hb a0 hg;obtain⟨b',ca,cb,cc⟩:=ao aa)|((with_reducible refine au (f:=90) rfl ?_);refine zL (some 6) Tryz.func90 #[.agg #[.int .i64 I,.slice ab j.length ad]] ?_;(with_reducible refine(ef.calls k I _ _ j t173 _ ?an ?ar A3.out).mono ?_);(case an=>exact Kd.aj a1.out zB);(case ar=>exact a2.out);rintro e w7 ⟨cf,rfl,J,hb⟩;refine⟨_,rfl,?_⟩;have U:=Aside0.mk (Kd.aM J (aU zB));replace aa:=zb aa hb;replace o:=zS o hb;(try clear hb);(try clear J);obtain⟨bn,bo,bw⟩:=Kd.a7 U.out;subst bw)|((with_reducible refine au (f:=134) rfl ?_);refine zL (some 8) Tryz.func134 #[.slice bn t173.length bo,.slice A1 l1.length c1,.int .i64 (-1)] ?_;(with_reducible refine(cG.calls k _ _ t173 _ _ l1 (-1) t176 _ ?an ?ar ?bx ?b0 A4.out).mono ?_);(case an=>exact zC (Kd.aC U.out).2.2);(case ar=>exact(Kd.aC U.out).2.1);(case bx=>exact Kd.aj a3.out zB);(case b0=>exact bf.out);rintro e w9 ⟨cj,rfl,J,hb⟩;refine⟨_,rfl,?_⟩;have b1:=Aside0.mk (Kd.aM (Kd.dy J (Kd.bq (zR U))) (aU zB));replace U:=fu U J hb;replace aa:=zb aa hb;replace o:=zS o hb;(try clear hb);(try clear J)))
 go_ret
 exact⟨_,zE,by(with_reducible repeat(first|apply Kd.aD|apply Kd.bd|apply Kd.a8));exact Kd.aR b1.out (fun _ hk=>trivial),zB⟩
def dP.f (k:Nat) (j:Int) (o:List (S83)) (l1:List Int) (I:Int):Option (Bool):=(b8.f k j o l1 I).bind fun t180=>(if t180=true then((eW.f k j o l1).bind fun t181=>(if t181=0 then((g8.f k j o l1).bind fun t182=>((b8.f k j o t182 I).bind fun t185=>(some t185))) else(some true))) else(some false))
def dP.T3:Bool×List (List Nat×List Nat):=(true,[([],[]),([],[]),([0,1],[0,1]),([2],[2]),([3,2],[3]),([4],[4]),([4],[4]),([4],[4]),([6,7,4,4],[4,6,7]),([4],[4]),([5,8,9,8,4],[4,5,8,9]),([4,10],[4,10]),([11,10,0,1,2,3,4,5,6,7,8,9,10,11],[11])])
def dP.B3:List Nat:=[0,0,3,7,15,31,31,31,223,31,1023,2047,4095]
theorem dP.uQ:da .any (opsOf Tryz.f25 3)=dP.T3:=by kernel_rfl
theorem dP.uR:jL dP.T3.2 dP.B3=true:=by kernel_rfl
theorem dP.calls (k:Nat) (J:Int) (ad:Option Addr) (ag:Nat) (I:List (S83)) (A1:Option Addr) (c1:Nat) (l1:List Int) (a2:Int) (r:Bool) (w:World) (bx:Kd.C aG w ad I.length I) (b0:I.length<=ag) (b1:Kd.C (Kd.int .i64) w A1 l1.length l1) (b2:l1.length<=c1) (h:dP.f k J I l1 a2=some r):
  Calls Tryz.prog 25 #[.agg #[.int .i64 J,.slice ad I.length ag],.slice A1 l1.length c1,.int .i64 a2] w fun e w'=>e= .returned (.bool r)∧Below w.heap.size w w':=by
 have c6:=Tryz.underlying24
 have aP:=Aside0.mk bx
 have aS:=Aside0.mk b0
 clear bx b0
 have a1:=Aside0.mk b1
 have a3:=Aside0.mk b2
 clear b1 b2
 have o:=Aside0.mk (Below.refl w.heap.size w)
 have H:((b8.f k J I l1 a2).bind fun t180=>(if t180=true then((eW.f k J I l1).bind fun t181=>(if t181=0 then((g8.f k J I l1).bind fun t182=>((b8.f k J I t182 a2).bind fun t185=>(some t185))) else(some true))) else(some false)))=some r:=h
 clear h
 replace H:=Option.bind_eq_some_iff.mp H
 obtain⟨t180,b3,H⟩:=H
 replace H:(if t180=true then((eW.f k J I l1).bind fun t181=>(if t181=0 then((g8.f k J I l1).bind fun t182=>((b8.f k J I t182 a2).bind fun t185=>(some t185))) else(some true))) else(some false))=some r:=H
 have A4:=Aside0.mk b3
 clear b3
 by_cases c5:t180=true
 ·subst c5
  have H1:((eW.f k J I l1).bind fun t181=>(if t181=0 then((g8.f k J I l1).bind fun t182=>((b8.f k J I t182 a2).bind fun t185=>(some t185))) else(some true)))=some r:=by rw[if_pos rfl] at H;exact H
  clear H
  have H:=H1
  clear H1
  replace H:=Option.bind_eq_some_iff.mp H
  obtain⟨t181,b4,H⟩:=H
  replace H:(if t181=0 then((g8.f k J I l1).bind fun t182=>((b8.f k J I t182 a2).bind fun t185=>(some t185))) else(some true))=some r:=H
  have A6:=Aside0.mk b4
  clear b4
  by_cases c7:t181=0
  ·rw[if_pos c7] at H
   have cj:(t181==0)=true:=beq_iff_eq.mpr c7
   have ck:(t181 != 0)=false:=bne_eq_false_iff_eq.mpr c7
   clear c7
   replace H:=Option.bind_eq_some_iff.mp H
   obtain⟨t182,b_,H⟩:=H
   replace H:((b8.f k J I t182 a2).bind fun t185=>(some t185))=some r:=H
   have A8:=Aside0.mk b_
   clear b_
   replace H:=Option.bind_eq_some_iff.mp H
   obtain⟨t185,b',H⟩:=H
   replace H:(some t185)=some r:=H
   have A9:=Aside0.mk b'
   clear b'
   obtain rfl:=Option.some.inj H
   go_enter Tryz.func25,Tryz.ntmps25
   try go_wp2_with (first|((with_reducible refine aA (N:=3) rfl ?_);refine zX 3 #[.int .i64 J,.slice ad I.length ag] 24 ?_;intro bf hg c8 aO hb;have j:=Aside0.mk (aO);have ca:=zG o hg;have cb:=zG o hg;replace o:=zS o hb;clear hb aO hg;obtain⟨c9,c',dd,dv⟩:=ao j)|((with_reducible refine au (f:=79) rfl ?_);refine zL (some 10) Tryz.func79 #[.agg #[.int .i64 J,.slice ad I.length ag],.slice A1 l1.length c1,.int .i64 a2] ?_;(with_reducible refine(b8.calls k J _ _ I _ _ l1 a2 true _ ?ak ?an ?ar ?av A4.out).mono ?_);(case ak=>exact Kd.aj aP.out zB);(case an=>exact aS.out);(case ar=>exact Kd.aj a1.out zB);(case av=>exact a3.out);rintro e cr ⟨rfl,hb⟩;refine⟨_,rfl,?_⟩;replace j:=zb j hb;replace o:=zS o hb;(try clear hb)))
   have U:=Aside0.mk (eG j.out)
   have aa:=Aside0.mk (bu o.out)
   clear j
   clear o
   have j:=U
   have o:=aa
   clear U aa
   refine mr (n:=13) (S:=fun w'=>w'.cell? ⟨bf,0,none⟩=some (.int .i64 J)∧w'.cell? ⟨bf,1,none⟩=some (.slice ad I.length ag)) (ds:=[]) #[false,false,false,false,false,false,false,false,false,false,false,false,false] (by kernel_rfl) rfl rfl ⟨(ai j.out 0).trans rfl,(ai j.out 1).trans rfl⟩ (fun hHeld=>?_);refine mQ dP.uQ dP.uR (fun R bk=>?_)
   generalize cr.drew=ea at j o hHeld⊢
   refine bR (i:=1) (N:=some 13) (v:=?_) (a':=?_) #[false,true,false,false,false,false,false,false,false,false,false,false,false] rfl rfl (bS R.out (by kernel_rfl)) (fun _ _ _ h=>h) (Or.inl ⟨by rfl,?_⟩) ?_ ?_
   rotate_left
   ·intro w'
    go_simp
    with_reducible rfl
   rotate_left
   ·simp only[Act.put,List.setIfInBounds_toArray,List.set_cons_zero,List.set_cons_succ,aV,aX]
    rfl
   refine gR (i:=0) (N:=some 12) (v:=?_) (a':=?_) #[true,true,false,false,false,false,false,false,false,false,false,false,false] rfl rfl (gS R.out bk.out (by kernel_rfl)) (fun _ _ _ h=>h) (Or.inl ⟨by rfl,?_⟩) hHeld ?_ ?_
   rotate_left
   ·rintro w' ⟨s0,s1⟩
    go_simp
    with_reducible rfl
   rotate_left
   ·simp only[Act.put,List.setIfInBounds_toArray,List.set_cons_zero,List.set_cons_succ,aV,aX]
    rfl
   refine iX (i:=2) (N:=some 14) #[true,true,true,false,false,false,false,false,false,false,false,false,false] rfl rfl (ie R.out (by kernel_rfl)) (by decide) (fun K hK=>?_)
   refine jD Tryz.func80 (by kernel_rfl) rfl #[.agg #[.int .i64 J,.slice ad I.length ag],.slice A1 l1.length c1] (by rfl) rfl rfl (by(try simp only[List.map_toArray,List.map_cons,List.map_nil]);first|done|rfl|(simp only[List.length_drop,List.length_take];rfl)) ?_
   with_reducible refine(eW.calls k J _ _ I _ _ l1 t181 _ ?ak ?an ?ar ?av A6.out).mono ?_
   (case ak=>exact Kd.aj aP.out zB)
   (case an=>exact aS.out)
   (case ar=>exact Kd.aj a1.out zB)
   (case av=>exact a3.out)
   rintro e eb ⟨rfl,hb⟩
   refine⟨_,rfl,?_⟩
   have U:=zb j hb
   have aa:=zS o hb
   clear j
   clear o
   have j:=U
   have o:=aa
   clear U aa
   (try clear hb)
   skip
   skip
   skip
   refine hK.out _ _ ⟨(ai j.out 0).trans rfl,(ai j.out 1).trans rfl⟩ (fun hHeld=>?_)
   clear hK K
   refine iY (a':=?_) ?_ ?_
   rotate_left
   ·show Act.put _ (some 14) _=_
    simp only[Act.put,List.setIfInBounds_toArray,List.set_cons_zero,List.set_cons_succ,aV,aX]
    rfl
   refine bR (i:=3) (N:=some 15) (v:=?_) (a':=?_) #[true,true,true,true,false,false,false,false,false,false,false,false,false] rfl rfl (bS R.out (by kernel_rfl)) (fun _ _ _ h=>h) (Or.inl ⟨by rfl,?_⟩) ?_ ?_
   rotate_left
   ·intro w'
    go_simp
    with_reducible rfl
   rotate_left
   ·simp only[Act.put,List.setIfInBounds_toArray,List.set_cons_zero,List.set_cons_succ,aV,aX]
    rfl
   refine bR (i:=4) (N:=some 16) (v:=?_) (a':=?_) #[true,true,true,true,true,false,false,false,false,false,false,false,false] rfl rfl (bS R.out (by kernel_rfl)) (fun _ _ _ h=>h) (Or.inl ⟨by rfl,?_⟩) ?_ ?_
   rotate_left
   ·intro w'
    go_simp
    with_reducible rfl
   rotate_left
   ·simp only[Act.put,List.setIfInBounds_toArray,List.set_cons_zero,List.set_cons_succ,aV,aX]
    rfl
   refine bR (i:=7) (N:=some 19) (v:=?_) (a':=?_) #[true,true,true,true,true,false,false,true,false,false,false,false,false] rfl rfl (bS R.out (by kernel_rfl)) (fun _ _ _ h=>h) (Or.inl ⟨by rfl,?_⟩) ?_ ?_
   rotate_left
   ·intro w'
    go_simp
    with_reducible rfl
   rotate_left
   ·simp only[Act.put,List.setIfInBounds_toArray,List.set_cons_zero,List.set_cons_succ,aV,aX]
    rfl
   refine bR (i:=9) (N:=some 21) (v:=?_) (a':=?_) #[true,true,true,true,true,false,false,true,false,true,false,false,false] rfl rfl (bS R.out (by kernel_rfl)) (fun _ _ _ h=>h) (Or.inl ⟨by rfl,?_⟩) ?_ ?_
   rotate_left
   ·intro w'
    go_simp
    with_reducible rfl
   rotate_left
   ·simp only[Act.put,List.setIfInBounds_toArray,List.set_cons_zero,List.set_cons_succ,aV,aX]
    rfl
   refine gR (i:=5) (N:=some 17) (v:=?_) (a':=?_) #[true,true,true,true,true,true,false,true,false,true,false,false,false] rfl rfl (gS R.out bk.out (by kernel_rfl)) (fun _ _ _ h=>h) (Or.inl ⟨by rfl,?_⟩) hHeld ?_ ?_
   rotate_left
   ·rintro w' ⟨s0,s1⟩
    go_simp
    with_reducible rfl
   rotate_left
   ·simp only[Act.put,List.setIfInBounds_toArray,List.set_cons_zero,List.set_cons_succ,aV,aX]
    rfl
   refine gR (i:=6) (N:=some 18) (v:=?_) (a':=?_) #[true,true,true,true,true,true,true,true,false,true,false,false,false] rfl rfl (gS R.out bk.out (by kernel_rfl)) (fun _ _ _ h=>h) (Or.inl ⟨by rfl,?_⟩) hHeld ?_ ?_
   rotate_left
   ·rintro w' ⟨s0,s1⟩
    go_simp
    with_reducible rfl
   rotate_left
   ·simp only[Act.put,List.setIfInBounds_toArray,List.set_cons_zero,List.set_cons_succ,aV,aX]
    rfl
   refine iX (i:=8) (N:=some 20) #[true,true,true,true,true,true,true,true,true,true,false,false,false] rfl rfl (ie R.out (by kernel_rfl)) (by decide) (fun K hK=>?_)
   refine jD Tryz.func81 (by kernel_rfl) rfl #[.agg #[.int .i64 J,.slice ad I.length ag],.slice A1 l1.length c1] (by rfl) rfl rfl (by(try simp only[List.map_toArray,List.map_cons,List.map_nil]);first|done|rfl|(simp only[List.length_drop,List.length_take];rfl)) ?_
   with_reducible refine(g8.calls k J _ _ I _ _ l1 t182 _ ?ak ?an ?ar ?av A8.out).mono ?_
   (case ak=>exact Kd.aj aP.out zB)
   (case an=>exact aS.out)
   (case ar=>exact Kd.aj a1.out zB)
   (case av=>exact a3.out)
   rintro e ed ⟨eg,rfl,cc,hb⟩
   refine⟨_,rfl,?_⟩
   have U:=Aside0.mk (Kd.aM cc (aU zB))
   have aa:=zb j hb
   have bn:=zS o hb
   clear j
   clear o
   have bg:=U
   have j:=aa
   have o:=bn
   clear U aa bn
   (try clear hb)
   skip
   skip
   skip
   (try clear cc)
   obtain⟨cv,cx,cd⟩:=Kd.a7 bg.out
   (first|subst cd|(injection cd with cf c0 ch;have c2:=cf.symm;have c3:=ch.symm;clear cf c0 ch;subst c2;subst c3))
   refine hK.out _ _ ⟨(ai j.out 0).trans rfl,(ai j.out 1).trans rfl⟩ (fun hHeld=>?_)
   clear hK K
   refine iY (a':=?_) ?_ ?_
   rotate_left
   ·show Act.put _ (some 20) _=_
    simp only[Act.put,List.setIfInBounds_toArray,List.set_cons_zero,List.set_cons_succ,aV,aX]
    rfl
   refine iX (i:=10) (N:=some 22) #[true,true,true,true,true,true,true,true,true,true,true,false,false] rfl rfl (ie R.out (by kernel_rfl)) (by decide) (fun K hK=>?_)
   refine jD Tryz.func79 (by kernel_rfl) rfl #[.agg #[.int .i64 J,.slice ad I.length ag],.slice cv t182.length cx,.int .i64 a2] (by rfl) rfl rfl (by(try simp only[List.map_toArray,List.map_cons,List.map_nil]);first|done|rfl|(simp only[List.length_drop,List.length_take];rfl)) ?_
   with_reducible refine(b8.calls k J _ _ I _ _ t182 a2 t185 _ ?ak ?an ?ar ?av A9.out).mono ?_
   (case ak=>exact Kd.aj aP.out zB)
   (case an=>exact aS.out)
   (case ar=>exact zC (Kd.aC bg.out).2.2)
   (case av=>exact(Kd.aC bg.out).2.1)
   rintro e ek ⟨rfl,hb⟩
   refine⟨_,rfl,?_⟩
   have U:=bm bg hb
   have aa:=zb j hb
   have bn:=zS o hb
   clear bg
   clear j
   clear o
   have bg:=U
   have j:=aa
   have o:=bn
   clear U aa bn
   (try clear hb)
   skip
   skip
   skip
   refine hK.out _ _ ⟨(ai j.out 0).trans rfl,(ai j.out 1).trans rfl⟩ (fun hHeld=>?_)
   clear hK K
   refine iY (a':=?_) ?_ ?_
   rotate_left
   ·show Act.put _ (some 22) _=_
    simp only[Act.put,List.setIfInBounds_toArray,List.set_cons_zero,List.set_cons_succ,aV,aX]
    rfl
   refine bR (i:=11) (N:=some 23) (v:=?_) (a':=?_) #[true,true,true,true,true,true,true,true,true,true,true,true,false] rfl rfl (bS R.out (by kernel_rfl)) (fun _ _ _ h=>h) (Or.inl ⟨by rfl,?_⟩) ?_ ?_
   rotate_left
   ·intro w'
    go_simp
    with_reducible rfl
   rotate_left
   ·simp only[Act.put,List.setIfInBounds_toArray,List.set_cons_zero,List.set_cons_succ,aV,aX]
    rfl
   refine bR (i:=12) (N:=some 6) (v:=?_) (a':=?_) #[true,true,true,true,true,true,true,true,true,true,true,true,true] rfl rfl (bS R.out (by kernel_rfl)) (fun _ _ _ h=>h) (Or.inl ⟨by rfl,?_⟩) ?_ ?_
   rotate_left
   ·intro w'
    go_simp
    with_reducible rfl
   rotate_left
   ·simp only[Act.put,List.setIfInBounds_toArray,List.set_cons_zero,List.set_cons_succ,aV,aX]
    rfl
   refine mw (mP R.out (by kernel_rfl)) ?_
   try go_wp2
   go_ret
   exact⟨zE,zB⟩
  ·rw[if_neg c7] at H
   have cj:(t181==0)=false:=beq_eq_false_iff_ne.mpr c7
   have ck:(t181 != 0)=true:=bne_iff_ne.mpr c7
   obtain rfl:=Option.some.inj H
   go_enter Tryz.func25,Tryz.ntmps25
   try go_wp2_with (first|((with_reducible refine aA (N:=3) rfl ?_);refine zX 3 #[.int .i64 J,.slice ad I.length ag] 24 ?_;intro bf hg er aO hb;have j:=Aside0.mk (aO);have ca:=zG o hg;have cb:=zG o hg;replace o:=zS o hb;clear hb aO hg;obtain⟨ev,ew,ey,e0⟩:=ao j)|((with_reducible refine au (f:=79) rfl ?_);refine zL (some 10) Tryz.func79 #[.agg #[.int .i64 J,.slice ad I.length ag],.slice A1 l1.length c1,.int .i64 a2] ?_;(with_reducible refine(b8.calls k J _ _ I _ _ l1 a2 true _ ?ak ?an ?ar ?av A4.out).mono ?_);(case ak=>exact Kd.aj aP.out zB);(case an=>exact aS.out);(case ar=>exact Kd.aj a1.out zB);(case av=>exact a3.out);rintro e c4 ⟨rfl,hb⟩;refine⟨_,rfl,?_⟩;replace j:=zb j hb;replace o:=zS o hb;(try clear hb)))
   have U:=Aside0.mk (eG j.out)
   have aa:=Aside0.mk (bu o.out)
   clear j
   clear o
   have j:=U
   have o:=aa
   clear U aa
   refine mr (n:=13) (S:=fun w'=>w'.cell? ⟨bf,0,none⟩=some (.int .i64 J)∧w'.cell? ⟨bf,1,none⟩=some (.slice ad I.length ag)) (ds:=[]) #[false,false,false,false,false,false,false,false,false,false,false,false,false] (by kernel_rfl) rfl rfl ⟨(ai j.out 0).trans rfl,(ai j.out 1).trans rfl⟩ (fun hHeld=>?_);refine mQ dP.uQ dP.uR (fun R bk=>?_)
   generalize c4.drew=e1 at j o hHeld⊢
   refine bR (i:=1) (N:=some 13) (v:=?_) (a':=?_) #[false,true,false,false,false,false,false,false,false,false,false,false,false] rfl rfl (bS R.out (by kernel_rfl)) (fun _ _ _ h=>h) (Or.inl ⟨by rfl,?_⟩) ?_ ?_
   rotate_left
   ·intro w'
    go_simp
    with_reducible rfl
   rotate_left
   ·simp only[Act.put,List.setIfInBounds_toArray,List.set_cons_zero,List.set_cons_succ,aV,aX]
    rfl
   refine gR (i:=0) (N:=some 12) (v:=?_) (a':=?_) #[true,true,false,false,false,false,false,false,false,false,false,false,false] rfl rfl (gS R.out bk.out (by kernel_rfl)) (fun _ _ _ h=>h) (Or.inl ⟨by rfl,?_⟩) hHeld ?_ ?_
   rotate_left
   ·rintro w' ⟨s0,s1⟩
    go_simp
    with_reducible rfl
   rotate_left
   ·simp only[Act.put,List.setIfInBounds_toArray,List.set_cons_zero,List.set_cons_succ,aV,aX]
    rfl
   refine iX (i:=2) (N:=some 14) #[true,true,true,false,false,false,false,false,false,false,false,false,false] rfl rfl (ie R.out (by kernel_rfl)) (by decide) (fun K hK=>?_)
   refine jD Tryz.func80 (by kernel_rfl) rfl #[.agg #[.int .i64 J,.slice ad I.length ag],.slice A1 l1.length c1] (by rfl) rfl rfl (by(try simp only[List.map_toArray,List.map_cons,List.map_nil]);first|done|rfl|(simp only[List.length_drop,List.length_take];rfl)) ?_
   with_reducible refine(eW.calls k J _ _ I _ _ l1 t181 _ ?ak ?an ?ar ?av A6.out).mono ?_
   (case ak=>exact Kd.aj aP.out zB)
   (case an=>exact aS.out)
   (case ar=>exact Kd.aj a1.out zB)
   (case av=>exact a3.out)
   rintro e e2 ⟨rfl,hb⟩
   refine⟨_,rfl,?_⟩
   have U:=zb j hb
   have aa:=zS o hb
   clear j
   clear o
   have j:=U
   have o:=aa
   clear U aa
   (try clear hb)
   skip
   skip
   skip
   refine hK.out _ _ ⟨(ai j.out 0).trans rfl,(ai j.out 1).trans rfl⟩ (fun hHeld=>?_)
   clear hK K
   refine iY (a':=?_) ?_ ?_
   rotate_left
   ·show Act.put _ (some 14) _=_
    simp only[Act.put,List.setIfInBounds_toArray,List.set_cons_zero,List.set_cons_succ,aV,aX]
    rfl
   refine bR (i:=3) (N:=some 15) (v:=?_) (a':=?_) #[true,true,true,true,false,false,false,false,false,false,false,false,false] rfl rfl (bS R.out (by kernel_rfl)) (fun _ _ _ h=>h) (Or.inl ⟨by rfl,?_⟩) ?_ ?_
   rotate_left
   ·intro w'
    go_simp
    with_reducible rfl
   rotate_left
   ·simp only[Act.put,List.setIfInBounds_toArray,List.set_cons_zero,List.set_cons_succ,aV,aX]
    rfl
   refine bR (i:=4) (N:=some 16) (v:=?_) (a':=?_) #[true,true,true,true,true,false,false,false,false,false,false,false,false] rfl rfl (bS R.out (by kernel_rfl)) (fun _ _ _ h=>h) (Or.inl ⟨by rfl,?_⟩) ?_ ?_
   rotate_left
   ·intro w'
    go_simp
    with_reducible rfl
   rotate_left
   ·simp only[Act.put,List.setIfInBounds_toArray,List.set_cons_zero,List.set_cons_succ,aV,aX]
    rfl
   refine bR (i:=5) (N:=some 17) (v:=undef) (a':=?_) #[true,true,true,true,true,true,false,false,false,false,false,false,false] rfl rfl (bS R.out (by kernel_rfl)) (fun _ _ _ h=>h) (Or.inr ⟨by rfl,rfl⟩) ?_ ?_
   rotate_left
   ·simp only[Act.put,List.setIfInBounds_toArray,List.set_cons_zero,List.set_cons_succ,aV,aX]
    rfl
   refine bR (i:=6) (N:=some 18) (v:=undef) (a':=?_) #[true,true,true,true,true,true,true,false,false,false,false,false,false] rfl rfl (bS R.out (by kernel_rfl)) (fun _ _ _ h=>h) (Or.inr ⟨by rfl,rfl⟩) ?_ ?_
   rotate_left
   ·simp only[Act.put,List.setIfInBounds_toArray,List.set_cons_zero,List.set_cons_succ,aV,aX]
    rfl
   refine bR (i:=7) (N:=some 19) (v:=undef) (a':=?_) #[true,true,true,true,true,true,true,true,false,false,false,false,false] rfl rfl (bS R.out (by kernel_rfl)) (fun _ _ _ h=>h) (Or.inr ⟨by rfl,rfl⟩) ?_ ?_
   rotate_left
   ·simp only[Act.put,List.setIfInBounds_toArray,List.set_cons_zero,List.set_cons_succ,aV,aX]
    rfl
   refine bR (i:=8) (N:=some 20) (v:=undef) (a':=?_) #[true,true,true,true,true,true,true,true,true,false,false,false,false] rfl rfl (bS R.out (by kernel_rfl)) (fun _ _ _ h=>h) (Or.inr ⟨by rfl,rfl⟩) ?_ ?_
   rotate_left
   ·simp only[Act.put,List.setIfInBounds_toArray,List.set_cons_zero,List.set_cons_succ,aV,aX]
    rfl
   refine bR (i:=9) (N:=some 21) (v:=undef) (a':=?_) #[true,true,true,true,true,true,true,true,true,true,false,false,false] rfl rfl (bS R.out (by kernel_rfl)) (fun _ _ _ h=>h) (Or.inr ⟨by rfl,rfl⟩) ?_ ?_
   rotate_left
   ·simp only[Act.put,List.setIfInBounds_toArray,List.set_cons_zero,List.set_cons_succ,aV,aX]
    rfl
   refine bR (i:=10) (N:=some 22) (v:=undef) (a':=?_) #[true,true,true,true,true,true,true,true,true,true,true,false,false] rfl rfl (bS R.out (by kernel_rfl)) (fun _ _ _ h=>h) (Or.inr ⟨by rfl,rfl⟩) ?_ ?_
   rotate_left
   ·simp only[Act.put,List.setIfInBounds_toArray,List.set_cons_zero,List.set_cons_succ,aV,aX]
    rfl
   refine bR (i:=11) (N:=some 23) (v:=?_) (a':=?_) #[true,true,true,true,true,true,true,true,true,true,true,true,false] rfl rfl (bS R.out (by kernel_rfl)) (fun _ _ _ h=>h) (Or.inl ⟨by rfl,?_⟩) ?_ ?_
   rotate_left
   ·intro w'
    go_simp
    with_reducible rfl
   rotate_left
   ·simp only[Act.put,List.setIfInBounds_toArray,List.set_cons_zero,List.set_cons_succ,aV,aX]
    rfl
   refine bR (i:=12) (N:=some 6) (v:=?_) (a':=?_) #[true,true,true,true,true,true,true,true,true,true,true,true,true] rfl rfl (bS R.out (by kernel_rfl)) (fun _ _ _ h=>h) (Or.inl ⟨by rfl,?_⟩) ?_ ?_
   rotate_left
   ·intro w'
    go_simp
    with_reducible rfl
   rotate_left
   ·simp only[Act.put,List.setIfInBounds_toArray,List.set_cons_zero,List.set_cons_succ,aV,aX]
    rfl
   refine mw (mP R.out (by kernel_rfl)) ?_
   try go_wp2
   go_ret
   exact⟨zE,zB⟩
 ·replace c5:=Bool.eq_false_iff.mpr c5
  subst c5
  have H1:(some false)=some r:=by rw[if_neg (show ¬(false=true) by decide)] at H;exact H
  clear H
  have H:=H1
  clear H1
  obtain rfl:=Option.some.inj H
  go_enter Tryz.func25,Tryz.ntmps25
  go_wp2_with (first|((with_reducible refine aA (N:=3) rfl ?_);refine zX 3 #[.int .i64 J,.slice ad I.length ag] 24 ?_;intro bf hg e3 aO hb;have j:=Aside0.mk (aO);have ca:=zG o hg;have cb:=zG o hg;replace o:=zS o hb;clear hb aO hg;obtain⟨e4,e5,e6,e_⟩:=ao j)|((with_reducible refine au (f:=79) rfl ?_);refine zL (some 10) Tryz.func79 #[.agg #[.int .i64 J,.slice ad I.length ag],.slice A1 l1.length c1,.int .i64 a2] ?_;(with_reducible refine(b8.calls k J _ _ I _ _ l1 a2 false _ ?ak ?an ?ar ?av A4.out).mono ?_);(case ak=>exact Kd.aj aP.out zB);(case an=>exact aS.out);(case ar=>exact Kd.aj a1.out zB);(case av=>exact a3.out);rintro e e' ⟨rfl,hb⟩;refine⟨_,rfl,?_⟩;replace j:=zb j hb;replace o:=zS o hb;(try clear hb)))
  go_ret
  exact⟨zE,zB⟩
def jw.f (k:Nat) (j:Int) (o:List (S83)) (l1:List Int) (I:Int):Option (Bool):=(fD.f k j o).bind fun t187=>(if t187=0 then((bO.f k l1 j).bind fun t188=>(if t188=0 then((dP.f k j o l1 I).bind fun t189=>(some t189)) else(some false))) else(some false))
theorem jw.calls (k:Nat) (j:Int) (ab:Option Addr) (ad:Nat) (I:List (S83)) (A1:Option Addr) (c1:Nat) (l1:List Int) (a2:Int) (r:Bool) (w:World) (aS:Kd.C aG w ab I.length I) (a0:I.length<=ad) (a1:Kd.C (Kd.int .i64) w A1 l1.length l1) (a3:l1.length<=c1) (h:jw.f k j I l1 a2=some r):
  Calls Tryz.prog 12 #[.agg #[.int .i64 j,.slice ab I.length ad],.slice A1 l1.length c1,.int .i64 a2] w fun e w'=>e= .returned (.bool r)∧Below w.heap.size w w':=by
 have ca:=Tryz.underlying24
 have av:=Aside0.mk aS
 have aB:=Aside0.mk a0
 clear aS a0
 have aF:=Aside0.mk a1
 have aL:=Aside0.mk a3
 clear a1 a3
 have o:=Aside0.mk (Below.refl w.heap.size w)
 have H:((fD.f k j I).bind fun t187=>(if t187=0 then((bO.f k l1 j).bind fun t188=>(if t188=0 then((dP.f k j I l1 a2).bind fun t189=>(some t189)) else(some false))) else(some false)))=some r:=h
 clear h
 replace H:=Option.bind_eq_some_iff.mp H
 obtain⟨t187,bf,H⟩:=H
 replace H:(if t187=0 then((bO.f k l1 j).bind fun t188=>(if t188=0 then((dP.f k j I l1 a2).bind fun t189=>(some t189)) else(some false))) else(some false))=some r:=H
 have A4:=Aside0.mk bf
 clear bf
 by_cases c5:t187=0
 ·rw[if_pos c5] at H
  have b0:(t187==0)=true:=beq_iff_eq.mpr c5
  have b1:(t187 != 0)=false:=bne_eq_false_iff_eq.mpr c5
  clear c5
  replace H:=Option.bind_eq_some_iff.mp H
  obtain⟨t188,bg,H⟩:=H
  replace H:(if t188=0 then((dP.f k j I l1 a2).bind fun t189=>(some t189)) else(some false))=some r:=H
  have A6:=Aside0.mk bg
  clear bg
  by_cases c7:t188=0
  ·rw[if_pos c7] at H
   have b2:(t188==0)=true:=beq_iff_eq.mpr c7
   have b3:(t188 != 0)=false:=bne_eq_false_iff_eq.mpr c7
   clear c7
   replace H:=Option.bind_eq_some_iff.mp H
   obtain⟨t189,bn,H⟩:=H
   replace H:(some t189)=some r:=H
   have A8:=Aside0.mk bn
   clear bn
   obtain rfl:=Option.some.inj H
   go_enter Tryz.func12,Tryz.ntmps12
   go_wp2_with (first|((with_reducible refine aA (N:=3) rfl ?_);refine zX 3 #[.int .i64 j,.slice ab I.length ad] 24 ?_;intro bo R w9 ag hb;have J:=Aside0.mk (ag);have bw:=zG o R;have bx:=zG o R;replace o:=zS o hb;clear hb ag R;obtain⟨cc,cd,cf,ch⟩:=ao J)|((with_reducible refine au (f:=48) rfl ?_);refine zL (some 8) Tryz.func48 #[.agg #[.int .i64 j,.slice ab I.length ad]] ?_;(with_reducible refine(fD.calls k j _ _ I t187 _ ?U ?aa A4.out).mono ?_);(case U=>exact Kd.aj av.out zB);(case aa=>exact aB.out);rintro e fE ⟨rfl,hb⟩;refine⟨_,rfl,?_⟩;replace J:=zb J hb;replace o:=zS o hb;(try clear hb);obtain⟨cj,ck,cl,cq⟩:=ao J)|(go_at_call 42;(with_reducible refine(bO.calls k _ _ l1 j t188 _ ?U ?aa A6.out).mono ?_);(case U=>exact Kd.aj aF.out zB);(case aa=>exact aL.out);rintro e w' ⟨rfl,⟨nd,rfl⟩⟩)|(go_at_call 25;(with_reducible refine(dP.calls k j _ _ I _ _ l1 a2 t189 _ ?U ?aa ?b_ ?b' A8.out).mono ?_);(case U=>exact Kd.aj av.out zB);(case aa=>exact aB.out);(case b_=>exact Kd.aj aF.out zB);(case b'=>exact aL.out);rintro e cr ⟨rfl,hb⟩;replace J:=zb J hb;replace o:=zS o hb;(try clear hb)))
   go_ret
   exact⟨zE,zB⟩
  ·rw[if_neg c7] at H
   have b2:(t188==0)=false:=beq_eq_false_iff_ne.mpr c7
   have b3:(t188 != 0)=true:=bne_iff_ne.mpr c7
   obtain rfl:=Option.some.inj H
   go_enter Tryz.func12,Tryz.ntmps12
   go_wp2_with (first|((with_reducible refine aA (N:=3) rfl ?_);refine zX 3 #[.int .i64 j,.slice ab I.length ad] 24 ?_;intro bo R cv ag hb;have J:=Aside0.mk (ag);have bw:=zG o R;have bx:=zG o R;replace o:=zS o hb;clear hb ag R;obtain⟨cx,c0,c2,c3⟩:=ao J)|((with_reducible refine au (f:=48) rfl ?_);refine zL (some 8) Tryz.func48 #[.agg #[.int .i64 j,.slice ab I.length ad]] ?_;(with_reducible refine(fD.calls k j _ _ I t187 _ ?U ?aa A4.out).mono ?_);(case U=>exact Kd.aj av.out zB);(case aa=>exact aB.out);rintro e c4 ⟨rfl,hb⟩;refine⟨_,rfl,?_⟩;replace J:=zb J hb;replace o:=zS o hb;(try clear hb);obtain⟨c6,c8,c9,c'⟩:=ao J)|(go_at_call 42;(with_reducible refine(bO.calls k _ _ l1 j t188 _ ?U ?aa A6.out).mono ?_);(case U=>exact Kd.aj aF.out zB);(case aa=>exact aL.out);rintro e w' ⟨rfl,⟨nd,rfl⟩⟩))
   go_ret
   exact⟨zE,zB⟩
 ·rw[if_neg c5] at H
  have b0:(t187==0)=false:=beq_eq_false_iff_ne.mpr c5
  have b1:(t187 != 0)=true:=bne_iff_ne.mpr c5
  obtain rfl:=Option.some.inj H
  go_enter Tryz.func12,Tryz.ntmps12
  go_wp2_with (first|((with_reducible refine aA (N:=3) rfl ?_);refine zX 3 #[.int .i64 j,.slice ab I.length ad] 24 ?_;intro bo R dd ag hb;have J:=Aside0.mk (ag);have bw:=zG o R;have bx:=zG o R;replace o:=zS o hb;clear hb ag R;obtain⟨ds,dv,ea,eb⟩:=ao J)|((with_reducible refine au (f:=48) rfl ?_);refine zL (some 8) Tryz.func48 #[.agg #[.int .i64 j,.slice ab I.length ad]] ?_;(with_reducible refine(fD.calls k j _ _ I t187 _ ?U ?aa A4.out).mono ?_);(case U=>exact Kd.aj av.out zB);(case aa=>exact aB.out);rintro e ed ⟨rfl,hb⟩;refine⟨_,rfl,?_⟩;replace J:=zb J hb;replace o:=zS o hb;(try clear hb)))
  go_ret
  exact⟨zE,zB⟩
def CO:List (Int×Int):=(List.range 12).flatMap fun a=>(List.range 12).map fun b:Nat=>(((a:Nat):Int),(b:Int))
theorem uS {N:Int} {E:List S83} (I:N<=12) (h:ba N E):E.length<=144:=by
 have h1:(E.map fun x=>(x.f0,x.f1)).length<=CO.length:=by
  refine pT ?_ (fun p hp=>?_)
  ·rw[List.pairwise_map]
   refine h.order.imp fun {x y} j e=>?_
   injection e with J e2
   unfold jP at j
   omega
  ·obtain⟨x,o,rfl⟩:=List.mem_map.1 hp
   have:=h.ok x o
   simp[b6] at this
   refine List.mem_flatMap.2 ⟨x.f0.toNat,List.mem_range.2 (by omega),List.mem_map.2 ⟨x.f1.toNat,List.mem_range.2 (by omega),?_⟩⟩
   rw[Int.toNat_of_nonneg (by omega),Int.toNat_of_nonneg (by omega)]
 rw[List.length_map] at h1
 exact h1
theorem CP {n:Nat} {f:Nat->Nat->Int} (hf:∀u v,0<=f u v) {x:S83} (h0:0<=x.f0∧x.f0<n) (h1:0<=x.f1∧x.f1<n) (h2:1<=x.f2):
  (∀u v,0<=dc f x u v)∧T.sN (T.val n (dc f x)) n<=T.sN (T.val n f) n+2*x.f2:=by
 unfold dc
 by_cases e:x.f0=x.f1
 ·simp only[if_pos e]
  exact⟨hf,by omega⟩
 ·simp only[if_neg e]
  refine⟨fun u v=>?_,?_⟩
  ·split
   ·omega
   ·split
    ·omega
    ·exact hf u v
  ·have o:x.f0.toNat<n:=by omega
   have hb:x.f1.toNat<n:=by omega
   have j:∀a u,0<=T.one a u:=fun a u=>by unfold T.one;split<;>omega
   have hle:∀u,u<n->T.val n (fun a b=>if a=x.f1.toNat∧b=x.f0.toNat then x.f2 else if a=x.f0.toNat∧b=x.f1.toNat then x.f2 else f a b) u<=T.val n f u+(T.one x.f1.toNat u*x.f2+T.one x.f0.toNat u*x.f2):=fun u hu=>by
    unfold T.val
    have J:T.one x.f1.toNat u*x.f2=T.sN (fun v=>(T.one x.f1.toNat u*x.f2)*T.one x.f0.toNat v) n:=by rw[T.eN,T.e8 o,Int.mul_one]
    have e2:T.one x.f0.toNat u*x.f2=T.sN (fun v=>(T.one x.f0.toNat u*x.f2)*T.one x.f1.toNat v) n:=by rw[T.eN,T.e8 hb,Int.mul_one]
    rw[J,e2,<-T.dn,<-T.dn]
    refine T.cm fun v hv=>?_
    have ab:=hf u v
    have p1:0<=T.one x.f1.toNat u*x.f2*T.one x.f0.toNat v:=Int.mul_nonneg (Int.mul_nonneg (j _ _) (by omega)) (j _ _)
    have p2:0<=T.one x.f0.toNat u*x.f2*T.one x.f1.toNat v:=Int.mul_nonneg (Int.mul_nonneg (j _ _) (by omega)) (j _ _)
    show (if u=x.f1.toNat∧v=x.f0.toNat then x.f2 else if u=x.f0.toNat∧v=x.f1.toNat then x.f2 else f u v)<=_
    split
    ·rename_i c
     have:T.one x.f1.toNat u*x.f2*T.one x.f0.toNat v=x.f2:=by unfold T.one;rw[if_pos c.1,if_pos c.2];omega
     omega
    ·split
     ·rename_i c
      have:T.one x.f0.toNat u*x.f2*T.one x.f1.toNat v=x.f2:=by unfold T.one;rw[if_pos c.1,if_pos c.2];omega
      omega
     ·omega
   have I:=T.cm hle
   rw[T.dn,T.dn] at I
   have R:T.sN (fun u=>T.one x.f1.toNat u*x.f2) n=x.f2:=by
    rw[T.bh (g:=fun u=>x.f2*T.one x.f1.toNat u) (fun u _=>Int.mul_comm _ _),T.eN,T.e8 hb,Int.mul_one]
   have U:T.sN (fun u=>T.one x.f0.toNat u*x.f2) n=x.f2:=by
    rw[T.bh (g:=fun u=>x.f2*T.one x.f0.toNat u) (fun u _=>Int.mul_comm _ _),T.eN,T.e8 o,Int.mul_one]
   rw[R,U] at I
   omega
theorem uT {n:Nat}:∀(E:List S83) (f:Nat->Nat->Int),(∀u v,0<=f u v)->(∀x∈E,b6 n x=true)->T.sN (T.val n (E.foldl dc f)) n<=T.sN (T.val n f) n+2*eV E
 |[],f,_,_=>by simp[eV]
 |x::E,f,hf,h=>by
  have j:=h x (List.mem_cons_self ..)
  simp[b6] at j
  obtain⟨a,b⟩:=CP (n:=n) hf (x:=x) (by omega) (by omega) (by omega)
  have I:=uT E (dc f x) a (fun y o=>h y (List.mem_cons_of_mem _ o))
  rw[List.foldl_cons,eV]
  omega
theorem CQ {n:Nat} {E:List S83} (h:ba n E):T.sN (T.val n (af E)) n<=2*(bW E E.length:Nat):=by
 have h1:=uT (n:=n) E (fun _ _=>0) (fun _ _=>Int.le_refl _) h.ok
 have h2:T.sN (T.val n fun _ _=>0) n=0:=T.fO fun u _=>T.jM n
 have j:=qb h E.length (Nat.le_refl _)
 rw[List.take_length] at j
 unfold af
 omega
def iN (N:Int) (E:List S83):Int:=if b7 N E=0 then(if partsOf E N.toNat=1 then 0 else 13) else b7 N E
theorem ql (N:Int) (E:List S83) (j:E.length<=9223372036854775807):Ev (fun k=>fD.f k N E) (iN N E):=by
 unfold fD.f iN
 refine Ev.bind (r9 N E j) ?_
 by_cases h0:b7 N E=0
 ·obtain⟨h1,o,I⟩:=gy h0
  obtain⟨n,rfl⟩:=Int.eq_ofNat_of_zero_le (show 0<=N by omega)
  have J:=uS o I
  simp only[if_pos h0,Int.toNat_natCast]
  refine Ev.bind (a:=decide (partsOf E n=1)) ?_ ?_
  ·unfold jf.f
   refine Ev.bind (yV E (by omega) n (by omega)) ?_
   rw[show (((partsOf E n:Nat):Int)==1)=decide (partsOf E n=1) by rw[Bool.eq_iff_iff];simp;omega]
   exact Ev.const _
  ·by_cases hp:partsOf E n=1
   ·simp only[decide_eq_true hp,if_true,if_pos hp];exact Ev.const _
   ·simp only[decide_eq_false hp,Bool.false_eq_true,if_false,if_neg hp];exact Ev.const _
 ·simp only[if_neg h0];exact Ev.const _
theorem j8 {N:Int} {E:List S83} (h:iN N E=0):b7 N E=0∧partsOf E N.toNat=1:=by
 unfold iN at h
 by_cases h0:b7 N E=0
 ·rw[if_pos h0] at h
  by_cases hp:partsOf E N.toNat=1
  ·exact⟨h0,hp⟩
  ·rw[if_neg hp] at h;cases h
 ·rw[if_neg h0] at h;exact absurd h h0
def iO (N:Int) (E:List S83):Bool:=decide (E.length<=40∧N<=5∧bW E E.length<=7)
theorem uU {N:Int} {E:List S83} (h0:b7 N E=0):Ev (fun k=>jv.f k N E) (iO N E):=by
 unfold jv.f kR.f iO
 refine Ev.bind (a:=decide (E.length<=40∧N<=5∧bW E E.length<=7)) ?_ (Ev.const _)
 by_cases o:E.length>40
 ·simp only[if_pos (show (E.length:Int)>40 by omega)]
  rw[decide_eq_false (fun h=>by omega)]
  exact Ev.const _
 ·simp only[if_neg (show ¬(E.length:Int)>40 by omega)]
  refine Ev.bind (r9 N E (by omega)) ?_
  simp only[if_pos h0]
  by_cases j:N<=5
  ·simp only[if_pos j,ji.f,(gy h0).2.2.uA (by omega),Option.bind_some,if_true]
   rw[show decide (((bW E E.length:Nat):Int)<=7)=decide (E.length<=40∧N<=5∧bW E E.length<=7) by congr 1;exact propext (by omega)]
   exact Ev.const _
  ·simp only[if_neg j]
   rw[decide_eq_false (fun h=>by omega)]
   exact Ev.const _
def g9 (N:Int) (c:List Int):Int:=if(c.length:Int)=N then dg c else 8
theorem l6 {N:Int} {E:List S83} (h:iN N E=0) (j:E.length<=9223372036854775807) (c:List Int):Ev (fun k=>eW.f k N E c) (g9 N c):=by
 unfold eW.f
 have h2:=gy (j8 h).1
 have h1:=ql N E j
 rw[h] at h1
 refine Ev.bind h1 ?_
 simp only[if_true]
 exact Ev.bind (l5 c N ⟨h2.1,h2.2.1⟩) (Ev.const _)
def j9 (c:List Int):Bool:=c.all fun x=>decide (-100<=x∧x<=100)
theorem qm (c:List Int) (hc:c.length<=1000):∀(m i:Nat),i+m=c.length->Ev (fun k=>dO.l0 k c i) (j9 (c.drop i))
 |0,i,hi=>by
  refine Ev.of_succ ?_
  simp only[dO.l0,if_neg (show ¬((i:Int)<(c.length:Int)) by omega)]
  rw[List.drop_eq_nil_of_le (by omega)]
  exact Ev.const _
 |m+1,i,hi=>by
  have j:=qm c hc m (i+1) (by omega)
  refine Ev.of_succ ?_
  simp only[dO.l0,if_pos (show (i:Int)<(c.length:Int) by omega),if_pos (show (0:Int)<=(i:Int) by omega),dA (show i<=1000000 by omega)]
  rw[nA (by omega)]
  unfold j9 at j⊢
  rw[List.all_cons]
  by_cases h1:rd c i< -100
  ·simp only[if_pos h1]
   rw[decide_eq_false (fun h=>by omega),Bool.false_and]
   exact Ev.const _
  ·simp only[if_neg h1]
   by_cases h2:rd c i>100
   ·simp only[if_pos h2]
    rw[decide_eq_false (fun h=>by omega),Bool.false_and]
    exact Ev.const _
   ·simp only[if_neg h2]
    rw[decide_eq_true (⟨by omega,by omega⟩: -100<=rd c i∧rd c i<=100),Bool.true_and]
    exact j
theorem uV (c:List Int) (hc:c.length<=1000):∀(m i:Nat) (s:Int),i+m=c.length->∃r,Ev (fun k=>ee.l0 k c s i) r
 |0,i,s,hi=>⟨s,by
  refine Ev.of_succ ?_
  simp only[ee.l0,if_neg (show ¬((i:Int)<(c.length:Int)) by omega)]
  exact Ev.const _⟩
 |m+1,i,s,hi=>by
  obtain⟨r,hr⟩:=uV c hc m (i+1) (wrap64 (s+rd c i)) (by omega)
  refine⟨r,Ev.of_succ ?_⟩
  simp only[ee.l0,if_pos (show (i:Int)<(c.length:Int) by omega),if_pos (show (0:Int)<=(i:Int) by omega),dA (show i<=1000000 by omega)]
  exact hr
theorem uW {N:Int} {E:List S83} (h:iN N E=0) (I:E.length<=9223372036854775807) (c:List Int) (J:Int):
  ∃b,Ev (fun k=>b8.f k N E c J) b∧(b=true->iO N E=true∧(g9 N c=0->j9 c=true)):=by
 have o:=gy (j8 h).1
 have key:∀x:Bool,x=true∨x=false∧c.length<=100∧iO N E=true->∃b,Ev (fun k=>b8.j0 k c J x N E) b∧(b=true->iO N E=true∧(g9 N c=0->j9 c=true)):=by
  rintro x (rfl|⟨rfl,hc,hr⟩)
  ·refine⟨false,Ev.of_succ ?_,fun e=>by cases e⟩
   simp only[b8.j0,if_true]
   exact Ev.const _
  ·by_cases h0:g9 N c=0
   ·cases U:j9 c with
    |true=>
     obtain⟨r,aa⟩:=uV c (by omega) c.length 0 0 (by omega)
     refine⟨decide (r<=J),Ev.of_succ ?_,fun _=>⟨hr,fun _=>rfl⟩⟩
     simp only[b8.j0,Bool.false_eq_true,if_false]
     refine Ev.bind (l6 h I c) ?_
     simp only[if_pos h0]
     refine Ev.bind (a:=true) ?_ ?_
     ·unfold dO.f
      simp only[if_neg (show ¬(c.length:Int)>100 by omega)]
      refine Ev.bind (l5 c N ⟨o.1,o.2.1⟩) ?_
      have:=qm c (by omega) c.length 0 (by omega)
      rw[List.drop_zero,U] at this
      have R:(if(c.length:Int)=N then dg c else 8)=0:=h0
      simp only[if_pos R]
      exact this
     ·simp only[if_true]
      refine Ev.bind (a:=r) ?_ (Ev.const _)
      exact aa
    |false=>
     refine⟨false,Ev.of_succ ?_,fun e=>by cases e⟩
     simp only[b8.j0,Bool.false_eq_true,if_false]
     refine Ev.bind (l6 h I c) ?_
     simp only[if_pos h0]
     refine Ev.bind (a:=false) ?_ (by simp only[Bool.false_eq_true,if_false];exact Ev.const _)
     unfold dO.f
     simp only[if_neg (show ¬(c.length:Int)>100 by omega)]
     refine Ev.bind (l5 c N ⟨o.1,o.2.1⟩) ?_
     have:=qm c (by omega) c.length 0 (by omega)
     rw[List.drop_zero,U] at this
     have R:(if(c.length:Int)=N then dg c else 8)=0:=h0
     simp only[if_pos R]
     exact this
   ·refine⟨true,Ev.of_succ ?_,fun _=>⟨hr,fun e=>absurd e h0⟩⟩
    simp only[b8.j0,Bool.false_eq_true,if_false]
    refine Ev.bind (l6 h I c) ?_
    simp only[if_neg h0]
    exact Ev.const _
 unfold b8.f
 cases hr:iO N E with
 |true=>
  have h1:=uU (j8 h).1
  rw[hr] at h1
  obtain⟨b,hb,j⟩:=key (decide ((c.length:Int)>100)) (by by_cases h2:(c.length:Int)>100;exact .inl (decide_eq_true h2);exact .inr ⟨decide_eq_false h2,by omega,hr⟩)
  refine⟨b,Ev.bind h1 ?_,by rw[hr] at j;exact j⟩
  simp only[if_true]
  exact hb
 |false=>
  have h1:=uU (j8 h).1
  rw[hr] at h1
  obtain⟨b,hb,j⟩:=key true (.inl rfl)
  refine⟨b,Ev.bind h1 ?_,by rw[hr] at j;exact j⟩
  simp only[Bool.false_eq_true,if_false]
  exact hb
theorem qo {n:Nat} (o:n<=12) {E:List S83} (j:E.length<=1000) (v:Int):∀(m i:Nat) (s:Int),i+m=n->∃r,Ev (fun k=>eF.l0 k v s i n E) r
 |0,i,s,hi=>⟨s,by
  refine Ev.of_succ ?_
  simp only[eF.l0,if_neg (show ¬((i:Int)<(n:Int)) by omega)]
  exact Ev.const _⟩
 |m+1,i,s,hi=>by
  obtain⟨I,J⟩:=qo o j v m (i+1) s (by omega)
  obtain⟨R,U⟩:=qo o j v m (i+1) (wrap64 (s+cn E i v)) (by omega)
  by_cases e:(i:Int)=v
  ·refine⟨I,Ev.of_succ ?_⟩
   simp only[eF.l0,if_pos (show (i:Int)<(n:Int) by omega),if_pos e,dA (show i<=1000000 by omega)]
   exact J
  ·refine⟨R,Ev.of_succ ?_⟩
   simp only[eF.l0,if_pos (show (i:Int)<(n:Int) by omega),if_neg e,dA (show i<=1000000 by omega)]
   exact Ev.bind (sx n E i v j) U
theorem uX {n:Nat} (j:n<=12) {E:List S83} (I:E.length<=1000):∀(m i:Nat) (o:List Int),i+m=n->o.length=i->∃r:List Int,r.length=n∧Ev (fun k=>ef.l0 k o i n E) r
 |0,i,o,hi,ho=>⟨o,by omega,by
  refine Ev.of_succ ?_
  simp only[ef.l0,if_neg (show ¬((i:Int)<(n:Int)) by omega)]
  exact Ev.const _⟩
 |m+1,i,o,hi,ho=>by
  obtain⟨t,J⟩:=qo j I (i:Int) n 0 0 (by omega)
  obtain⟨r,R,U⟩:=uX j I m (i+1) (o++[wrap64 (t-2)]) (by omega) (by simp[ho])
  refine⟨r,R,Ev.of_succ ?_⟩
  simp only[ef.l0,if_pos (show (i:Int)<(n:Int) by omega),if_pos (show o.length<17592186044416 by omega),dA (show i<=1000000 by omega)]
  exact Ev.bind J U
theorem uY {a b:List Int} (j:a.length<=1000) (hb:a.length<=b.length) (s:Int):∀(m i:Nat) (o:List Int),i+m=a.length->o.length=a.length->∃r:List Int,Ev (fun k=>cG.l0 k a b s o i) r
 |0,i,o,hi,ho=>⟨o,by
  refine Ev.of_succ ?_
  simp only[cG.l0,if_neg (show ¬((i:Int)<(a.length:Int)) by omega)]
  exact Ev.const _⟩
 |m+1,i,o,hi,ho=>by
  obtain⟨r,hr⟩:=uY j hb s m (i+1) (o.set (i:Int).toNat (wrap64 (rd a i+wrap64 (s*rd b i)))) (by omega) (by rw[List.length_set];exact ho)
  refine⟨r,Ev.of_succ ?_⟩
  simp only[cG.l0,if_pos (show (i:Int)<(a.length:Int) by omega),if_pos (show (0:Int)<=(i:Int) by omega),if_pos (show (i:Int)<(b.length:Int) by omega),if_pos (show (i:Int)<(o.length:Int) by omega),dA (show i<=1000000 by omega)]
  exact hr
theorem CT {n:Nat} (j:n<=12) {E:List S83} (I:E.length<=1000) {d:List Int} (hd:d.length=n):∃r,Ev (fun k=>g8.f k n E d) r:=by
 obtain⟨r,R,J⟩:=uX j I n 0 [] (by omega) rfl
 obtain⟨o,ho⟩:=uY (a:=r) (b:=d) (by omega) (by omega) (-1) r.length 0 (List.replicate r.length 0) (by omega) (by simp)
 refine⟨o,?_⟩
 unfold g8.f ef.f
 refine Ev.bind J ?_
 refine Ev.bind (a:=o) ?_ (Ev.const _)
 unfold cG.f
 simp only[if_pos (show (0:Int)<=(r.length:Int) by omega),Int.toNat_natCast,if_pos (show r.length<=35184372088832 by omega)]
 exact ho
theorem CU {N:Int} {E:List S83} (h:iN N E=0) (j:E.length<=9223372036854775807) (d:List Int) (o:Int):
  ∃b,Ev (fun k=>dP.f k N E d o) b∧(b=true->iO N E=true∧(g9 N d=0->j9 d=true)):=by
 obtain⟨b,hb,I⟩:=uW h j d o
 unfold dP.f
 cases J:b with
 |false=>
  subst J
  refine⟨false,Ev.bind hb ?_,fun e=>by cases e⟩
  simp only[Bool.false_eq_true,if_false]
  exact Ev.const _
 |true=>
  subst J
  by_cases h0:g9 N d=0
  ·have R:=gy (j8 h).1
   obtain⟨n,rfl⟩:=Int.eq_ofNat_of_zero_le (show 0<=N by omega)
   have hl:=uS R.2.1 R.2.2
   have hd:d.length=n:=by
    unfold g9 at h0
    by_cases e:(d.length:Int)=(n:Int)
    ·omega
    ·rw[if_neg e] at h0;cases h0
   obtain⟨r,hr⟩:=CT (n:=n) (by omega) (E:=E) (by omega) hd
   obtain⟨U,aa, -⟩:=uW h j r o
   refine⟨U,Ev.bind hb ?_,fun _=>I rfl⟩
   simp only[if_true]
   refine Ev.bind (l6 h j d) ?_
   simp only[if_pos h0]
   exact Ev.bind hr (Ev.bind aa (Ev.const _))
  ·refine⟨true,Ev.bind hb ?_,fun _=>I rfl⟩
   simp only[if_true]
   refine Ev.bind (l6 h j d) ?_
   simp only[if_neg h0]
   exact Ev.const _
structure l7 (n:Nat) (E:List S83) (d:List Int):Prop where
 check:b7 n E=0
 small:∀q,q<n->Small n q E
 val:T.sN (T.val n (af E)) n<=14
 dl:d.length=n
 low:∀v:Nat,v<n-> -100<=rd d v∧rd d v<=100
theorem CV {N:Int} {E:List S83} {d:List Int} (h:iN N E=0) (h0:g9 N d=0) (hr:iO N E=true) (J:j9 d=true):∃n:Nat,N=n∧1<=n∧l7 n E d:=by
 obtain⟨o,j2⟩:=j8 h
 obtain⟨U,g2,j⟩:=gy o
 obtain⟨n,rfl⟩:=Int.eq_ofNat_of_zero_le (show 0<=N by omega)
 rw[Int.toNat_natCast] at j2
 unfold iO at hr
 rw[decide_eq_true_iff] at hr
 have hd:d.length=n:=by
  unfold g9 at h0
  by_cases e:(d.length:Int)=(n:Int)
  ·omega
  ·rw[if_neg e] at h0;cases h0
 refine⟨n,rfl,by omega,o,fun q hq=>⟨j,(iz (by omega) j).1 j2,hr.1,by omega,by omega,hq,by omega⟩,?_,hd,fun v hv=>?_⟩
 ·have:=CQ j
  omega
 ·have R:=List.all_eq_true.1 J
  have I:v<d.length:=by omega
  have:=R d[v] (List.getElem_mem I)
  rw[decide_eq_true_iff] at this
  have e:rd d (v:Int)=d[v]:=by simp[rd,List.getD_eq_getElem?_getD,List.getElem?_eq_getElem I]
  rw[e];exact this
theorem CW (N:Int) (E:List S83) (o:E.length<=9223372036854775807) (d:List Int) (J:Int):∃b,Ev (fun k=>jw.f k N E d J) b∧(b=true->∃n:Nat,N=n∧1<=n∧l7 n E d):=by
 unfold jw.f
 by_cases h:iN N E=0
 ·have h1:=ql N E o
  rw[h] at h1
  have j:=gy (j8 h).1
  by_cases h0:g9 N d=0
  ·obtain⟨b,hb,R⟩:=CU h o d J
   refine⟨b,Ev.bind h1 ?_,fun e=>?_⟩
   ·simp only[if_true]
    refine Ev.bind (l5 d N ⟨j.1,j.2.1⟩) ?_
    have I:(if(d.length:Int)=N then dg d else 8)=0:=h0
    simp only[if_pos I]
    exact Ev.bind hb (Ev.const _)
   ·exact CV h h0 (R e).1 ((R e).2 h0)
  ·refine⟨false,Ev.bind h1 ?_,fun e=>by cases e⟩
   simp only[if_true]
   refine Ev.bind (l5 d N ⟨j.1,j.2.1⟩) ?_
   have I:¬(if(d.length:Int)=N then dg d else 8)=0:=h0
   simp only[if_neg I]
   exact Ev.const _
 ·refine⟨false,Ev.bind (ql N E o) ?_,fun e=>by cases e⟩
  simp only[if_neg h]
  exact Ev.const _
end Go.Proofs.YtffdiakgjakngaaGreat.P

