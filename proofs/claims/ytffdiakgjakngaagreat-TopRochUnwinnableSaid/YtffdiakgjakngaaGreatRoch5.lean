/- TopRochUnwinnable answers true whatever the input (text 5 of 19): own walks and plain laws; no conditions. -/
import Derived.Test.YtffdiakgjakngaaGreatRoch4
namespace Go.Proofs.YtffdiakgjakngaaGreat.P
open Go.RowKit Go.Proofs.YtffdiakgjakngaaGreatW.PrintWords Go.Proofs.YtffdiakgjakngaaGreatW.PrintLast Go.Proofs.YtffdiakgjakngaaGreatW.PrintMore
set_option linter.unusedVariables false
set_option linter.unusedSimpArgs false
set_option maxHeartbeats 8000000
set_option maxRecDepth 100000
mutual
def bc.l0:Nat->List Bool->Int->Int->List (S83)->Option (List Bool)
 |0,_,_,_,_=>none
 |k+1,j,o,I,J=>if o<I then(bc.l1 k j o 0 I J) else(some j)
def bc.l1:Nat->List Bool->Int->Int->Int->List (S83)->Option (List Bool)
 |0,_,_,_,_,_=>none
 |k+1,o,I,J,j,R=>if J<j then(bc.l2 k o I J 0 j R) else(bc.l0 k o (wrap64 (I+1)) j R)
def bc.l2:Nat->List Bool->Int->Int->Int->Int->List (S83)->Option (List Bool)
 |0,_,_,_,_,_,_=>none
 |k+1,I,U,j,o,J,R=>if o<J then(if 0<=j then(if j<(I.length:Int) then(if bl false I j=true then((cS.f k J R j o).bind fun t132=>(if t132>0 then(if 0<=o then(if o<(I.length:Int) then(bc.l2 k (I.set (o:Int).toNat true) U j (wrap64 (o+1)) J R) else(none)) else(none)) else(bc.l2 k I U j (wrap64 (o+1)) J R))) else(bc.l2 k I U j (wrap64 (o+1)) J R)) else(none)) else(none)) else(bc.l1 k I U (wrap64 (j+1)) J R)
end
def bc.f (k:Nat) (j:Int) (J:List (S83)) (o:Int):Option (List Bool):=if 0<=j then(if(j:Int).toNat<=281474976710656 then((some (List.replicate (j:Int).toNat false:List Bool)).bind fun I=>(if 0<=o then(if o<(I.length:Int) then(bc.l0 k (I.set (o:Int).toNat true) 0 j J) else(none)) else(none))) else(none)) else(none)
theorem bc.calls (k:Nat) (j:Int) (bx:Option Addr) (b0:Nat) (U:List (S83)) (a1:Int) (r:List Bool) (w:World) (fv:Kd.C aG w bx U.length U) (f':U.length<=b0) (h:bc.f k j U a1=some r):
  Calls Tryz.prog 131 #[.agg #[.int .i64 j,.slice bx U.length b0],.int .i64 a1] w fun e w'=>∃e0:Value,e= .returned (e0)∧Kd.R Kd.bool 4 w' w.heap.size (fun _=>True) e0 r∧Below w.heap.size w w':=by
 have g1:=Tryz.underlying24
 have e1:=Aside0.mk fv
 have e2:=Aside0.mk f'
 have HB:=Aside0.mk (Below.refl w.heap.size w)
 have H:(if 0<=j then(if(j:Int).toNat<=281474976710656 then((some (List.replicate (j:Int).toNat false:List Bool)).bind fun aS=>(if 0<=a1 then(if a1<(aS.length:Int) then(bc.l0 k (aS.set (a1:Int).toNat true) 0 j U) else(none)) else(none))) else(none)) else(none))=some r:=h
 by_cases c3:0<=j
 ·rw[if_pos c3] at H
  have g2:=eq_true c3
  have g3:decide (0<=j)=true:=decide_eq_true c3
  by_cases c4:(j:Int).toNat<=281474976710656
  ·rw[if_pos c4] at H
   have g4:=eq_true c4
   have g':decide ((j:Int).toNat<=281474976710656)=true:=decide_eq_true c4
   obtain⟨aS,b4⟩:∃y_:List Bool,y_=(List.replicate (j:Int).toNat false):=⟨_,rfl⟩
   replace H:(if 0<=a1 then(if a1<(aS.length:Int) then(bc.l0 k (aS.set (a1:Int).toNat true) 0 j U) else(none)) else(none))=some r:=by first|(rw[b4];with_reducible exact H)|(have a0:=(Option.bind_some _ _).symm.trans H;rw[b4];with_reducible exact a0)|(have a0:=(Option.bind_some _ _).symm.trans H;with_reducible exact a0)|with_reducible exact H|(rw[b4];exact H)|exact H
   have e3:=Aside0.mk b4
   clear b4
   by_cases c5:0<=a1
   ·rw[if_pos c5] at H
    have ha:decide (0<=a1)=true:=decide_eq_true c5
    by_cases c6:a1<(aS.length:Int)
    ·rw[if_pos c6] at H
     have hc:decide (a1<(aS.length:Int))=true:=decide_eq_true c6
     obtain⟨c7,cj⟩:∃y_:List Bool,y_=(aS.set (a1:Int).toNat true):=⟨_,rfl⟩
     replace H:(bc.l0 k c7 0 j U)=some r:=by first|(rw[cj];with_reducible exact H)|(have a0:=(Option.bind_some _ _).symm.trans H;rw[cj];with_reducible exact a0)|(have a0:=(Option.bind_some _ _).symm.trans H;with_reducible exact a0)|with_reducible exact H|(rw[cj];exact H)|exact H
     have gb:=Aside0.mk cj
     have H':=Aside0.mk H
     go_enter Tryz.func131,Tryz.ntmps131
     go_wp2_with (first|((with_reducible refine aA (N:=2) rfl ?_);refine zX 2 #[.int .i64 j,.slice bx U.length b0] 24 ?_;intro c8 hg w8 e4 hb;have I:=Aside0.mk (e4);have hh:=zG HB hg;have hj:=zG HB hg;replace HB:=zS HB hb;clear hb e4 hg;obtain⟨hl,hq,hs,ht⟩:=ao I)|((with_reducible refine aA (N:=11) rfl ?_);refine Kd.iU Kd.bool _ 4 rfl (N:=11) rfl 43 _ _ rfl j rfl rfl Tryz.underlying43 (.bool false) 1 lE rfl (by decide) (by omega) false (ok:=fun _=>True) (okp:=fun _=>True) rfl (fun _ hk=>hk) trivial (of_decide_eq_true ‹_›) (Nat.le_trans (Nat.mul_le_mul_right _ (of_decide_eq_true ‹_› :j.toNat<=281474976710656)) (by omega)) (Below.refl _ _) (Nat.le_refl _) ?_;intro hv e5 ck hb hx hy;(first|rw[<-e3.out] at ck|(simp only[Int.reduceToNat] at ck;rw[<-e3.out] at ck));have bw:=Aside0.mk (Kd.aM ck (aU zB));replace I:=zb I hb;replace HB:=zS HB hb;have p7:0<=(a1:Int):=of_decide_eq_true ‹_›;have q7:(a1:Int)<((aS.length:Int):Int):=of_decide_eq_true ‹_›;obtain⟨aP,b',e6,gd,hz,hA,gf⟩:=Kd.eH bw.out (by omega);(first|cases e6|(injection e6 with cl hB gg;(first|subst cl|(injection cl with cl;subst cl));subst gg));have e_:=Aside0.mk gd;have hD:=Aside0.mk gf;obtain⟨hE,hG⟩:=Kd.bB false bw.out (a1:Int) p7 q7;replace p7:=eq_true p7;replace q7:=eq_true q7;obtain⟨hH,hI⟩:=Kd.bB false bw.out (a1:Int) (of_decide_eq_true ‹_›) (of_decide_eq_true ‹_›);have e':=Kd.cL bw.out (a1:Int) true)|((with_reducible refine iW (t:=4) (p:=14) rfl ?_);refine iV (t:=4) (p:=14) (v:=?hJ) (w1:=(e5.setCell ⟨aP,(a1:Int).toNat,none⟩ (.bool true))) ?hg ?ho ?hn ?hr ?_;(case ho=>rfl);(case hg=>rfl);(case hn=>rfl);(case hr=>first|(go_simp;done)|(go_simp;rfl));intro ds hw;have hg:e5.grownBy ds (some aP):=(by rw[hw];exact e'.2);have cq:Kd.R Kd.bool 4 ds w.heap.size (fun _=>True) (.slice (some ⟨aP,0,none⟩) aS.length b') c7:=(by rw[hw,gb.out];exact e'.1);replace I:=Aside0.mk (cg (zK I) hg (Kd.dj bw.out I.out (by decide)));replace bw:=Aside0.mk (cq);replace HB:=Aside0.mk ((by rw[hw];exact dJ (HB.out) e_.out:Below w.heap.size w ds))))
     go_loopg [6] k (fun kq v6 w'=>∃(ca:List Bool) (ag:Int),v6= .int .i64 ag∧Aside0 (bc.l0 kq ca ag j U=some r)∧Aside0 (kq<=k)∧Aside0 (Kd.R Kd.bool 4 w' w.heap.size (fun _=>True) (.slice (some ⟨aP,0,none⟩) aS.length b') ca)∧Aside0 (w'.heap[c8]? =some (.cells #[.int .i64 j,(.slice bx U.length b0)] 24 (0,0)))∧Aside0 (Below w.heap.size w w'))
     case atStart=>exact⟨(c7),(0),zT,H',⟨Nat.le_refl _⟩,⟨zR bw⟩,⟨zK I⟩,⟨zB⟩⟩
     case round=>
      obtain⟨ca,ag,rfl,HA,bf,aa,I,HB⟩:=hrel
      have ak:=(Kd.aC aa.out).1
      rw[ak] at aa
      (try simp only[ak])
      (try simp only[ak] at I)
      cases gk with
      |zero=>exact absurd HA.out (by simp[bc.l0])
      |succ k1=>
       have H:=HA.out
       simp only[bc.l0] at H
       by_cases cb:ag<j
       ·rw[if_pos cb] at H
        have gi:decide (ag<j)=true:=decide_eq_true cb
        have H':=Aside0.mk H
        obtain⟨hK,hL,hM,hN⟩:=ao I
        go_wp2
        go_loopg [7] k1 (fun kq v7 w'=>∃(b1:List Bool) (J:Int),v7= .int .i64 J∧Aside0 (bc.l1 kq b1 ag J j U=some r)∧Aside0 (kq<=k1)∧Aside0 (Kd.R Kd.bool 4 w' w.heap.size (fun _=>True) (.slice (some ⟨aP,0,none⟩) ca.length b') b1)∧Aside0 (w'.heap[c8]? =some (.cells #[.int .i64 j,(.slice bx U.length b0)] 24 (0,0)))∧Aside0 (Below w.heap.size w w'))
        case atStart=>exact⟨(ca),(0),zT,H',⟨Nat.le_refl _⟩,⟨by(try simp only[ak]);(with_reducible repeat(first|apply Kd.aD|apply Kd.bd|apply Kd.a8));exact aa.out⟩,⟨by(try simp only[ak]);exact zK I⟩,⟨zB⟩⟩
        case round=>
         obtain⟨b1,J,rfl,HA,bg,aa,I,HB⟩:=hrel
         have ar:=(Kd.aC aa.out).1
         rw[ar] at aa
         (try simp only[ar])
         (try simp only[ar] at I)
         cases gk with
         |zero=>exact absurd HA.out (by simp[bc.l1])
         |succ k2=>
          have H:=HA.out
          simp only[bc.l1] at H
          by_cases cc:J<j
          ·rw[if_pos cc] at H
           have gm:decide (J<j)=true:=decide_eq_true cc
           have H':=Aside0.mk H
           obtain⟨hO,hP,hQ,hR⟩:=ao I
           go_wp2
           go_loopg [8] k2 (fun kq v8 w'=>∃(ab:List Bool) (o:Int),v8= .int .i64 o∧Aside0 (bc.l2 kq ab ag J o j U=some r)∧Aside0 (kq<=k2)∧Aside0 (Kd.R Kd.bool 4 w' w.heap.size (fun _=>True) (.slice (some ⟨aP,0,none⟩) b1.length b') ab)∧Aside0 (w'.heap[c8]? =some (.cells #[.int .i64 j,(.slice bx U.length b0)] 24 (0,0)))∧Aside0 (Below w.heap.size w w'))
           case atStart=>exact⟨(b1),(0),zT,H',⟨Nat.le_refl _⟩,⟨by(try simp only[ak]);(try simp only[ar]);(with_reducible repeat(first|apply Kd.aD|apply Kd.bd|apply Kd.a8));exact aa.out⟩,⟨by(try simp only[ak]);(try simp only[ar]);exact zK I⟩,⟨zB⟩⟩
           case round=>
            obtain⟨ab,o,rfl,HA,bo,aa,I,HB⟩:=hrel
            have aF:=(Kd.aC aa.out).1
            rw[aF] at aa
            (try simp only[aF])
            (try simp only[aF] at I)
            cases gk with
            |zero=>exact absurd HA.out (by simp[bc.l2])
            |succ k3=>
             have H:=HA.out
             clear HA
             simp only[bc.l2] at H
             by_cases b2:o<j
             ·rw[if_pos b2] at H
              have gq:decide (o<j)=true:=decide_eq_true b2
              clear b2
              by_cases cr:0<=J
              ·rw[if_pos cr] at H
               have hT:decide (0<=J)=true:=decide_eq_true cr
               clear cr
               by_cases cv:J<(ab.length:Int)
               ·rw[if_pos cv] at H
                have hV:decide (J<(ab.length:Int))=true:=decide_eq_true cv
                clear cv
                obtain⟨fo,ea⟩:∃b_:Bool,b_=(bl false ab J):=⟨_,rfl⟩
                replace H:(if fo=true then((cS.f k3 j U J o).bind fun t132=>(if t132>0 then(if 0<=o then(if o<(ab.length:Int) then(bc.l2 k3 (ab.set (o:Int).toNat true) ag J (wrap64 (o+1)) j U) else(none)) else(none)) else(bc.l2 k3 ab ag J (wrap64 (o+1)) j U))) else(bc.l2 k3 ab ag J (wrap64 (o+1)) j U))=some r:=by rw[<-ea] at H;exact H
                have eb:=Aside0.mk ea
                clear ea
                by_cases cx:fo=true
                ·subst cx
                 have H1:((cS.f k3 j U J o).bind fun t132=>(if t132>0 then(if 0<=o then(if o<(ab.length:Int) then(bc.l2 k3 (ab.set (o:Int).toNat true) ag J (wrap64 (o+1)) j U) else(none)) else(none)) else(bc.l2 k3 ab ag J (wrap64 (o+1)) j U)))=some r:=by rw[if_pos rfl] at H;exact H
                 clear H
                 have H:=H1
                 clear H1
                 replace H:=Option.bind_eq_some_iff.mp H
                 obtain⟨t132,fq,H⟩:=H
                 replace H:(if t132>0 then(if 0<=o then(if o<(ab.length:Int) then(bc.l2 k3 (ab.set (o:Int).toNat true) ag J (wrap64 (o+1)) j U) else(none)) else(none)) else(bc.l2 k3 ab ag J (wrap64 (o+1)) j U))=some r:=H
                 have fr:=Aside0.mk fq
                 clear fq
                 by_cases b3:t132>0
                 ·rw[if_pos b3] at H
                  have gx:decide (0<t132)=true:=decide_eq_true b3
                  clear b3
                  by_cases c0:0<=o
                  ·rw[if_pos c0] at H
                   have hW:decide (0<=o)=true:=decide_eq_true c0
                   clear c0
                   by_cases c1:o<(ab.length:Int)
                   ·rw[if_pos c1] at H
                    have hX:decide (o<(ab.length:Int))=true:=decide_eq_true c1
                    clear c1
                    obtain⟨ed,cd⟩:∃y_:List Bool,y_=(ab.set (o:Int).toNat true):=⟨_,rfl⟩
                    replace H:(bc.l2 k3 ed ag J (wrap64 (o+1)) j U)=some r:=by first|(rw[cd];with_reducible exact H)|(have a0:=(Option.bind_some _ _).symm.trans H;rw[cd];with_reducible exact a0)|(have a0:=(Option.bind_some _ _).symm.trans H;with_reducible exact a0)|with_reducible exact H|(rw[cd];exact H)|exact H
                    have g0:=Aside0.mk cd
                    clear cd
                    have H':=Aside0.mk H
                    clear H
                    obtain⟨hY,h0,h1,h2⟩:=ao I
                    have a2:0<=(J:Int):=of_decide_eq_true ‹_›
                    have a3:J<(ab.length:Int):=of_decide_eq_true ‹_›
                    obtain⟨cf,ch,aL⟩:=Kd.iT (Kd.aC aa.out).2.2 J a2 a3
                    (try rw[<-eb.out] at aL)
                    obtain rfl:(⟨aP,0,none⟩:Addr)=cf:=(by injection ch)
                    (first|simp only[add_plain] at aL|simp only[fZ] at aL|simp only[Addr.add,Nat.zero_add] at aL|skip)
                    replace a2:=eq_true a2
                    replace a3:=eq_true a3
                    go_wp2_with (first|(go_at_call 147;(with_reducible refine(cS.calls k3 j _ _ U J o t132 _ ?eg ?ek fr.out).mono ?_);(case eg=>exact Kd.aj e1.out zB);(case ek=>exact e2.out);rintro e ft ⟨rfl,hb⟩;replace aa:=bm aa hb;replace I:=zb I hb;replace HB:=zS HB hb;(try clear hb);have er:0<=(o:Int):=of_decide_eq_true ‹_›;have ev:(o:Int)<((ab.length:Int):Int):=of_decide_eq_true ‹_›;obtain⟨h3,h4⟩:=Kd.bB false aa.out (o:Int) er ev;replace er:=eq_true er;replace ev:=eq_true ev;obtain⟨h5,h6⟩:=Kd.bB false aa.out (o:Int) (of_decide_eq_true ‹_›) (of_decide_eq_true ‹_›);have ew:=Kd.cL aa.out (o:Int) true)|((with_reducible refine iW (t:=4) (p:=46) rfl ?_);refine iV (t:=4) (p:=46) (v:=?h7) (w1:=(ft.setCell ⟨aP,(o:Int).toNat,none⟩ (.bool true))) ?hg ?ho ?hn ?hr ?_;(case ho=>rfl);(case hg=>rfl);(case hn=>rfl);(case hr=>first|(go_simp;done)|(go_simp;rfl));intro ey hw;have hg:ft.grownBy ey (some aP):=(by rw[hw];exact ew.2);have cq:Kd.R Kd.bool 4 ey w.heap.size (fun _=>True) (.slice (some ⟨aP,0,none⟩) ab.length b') ed:=(by rw[hw,g0.out];exact ew.1);clear ew;replace I:=Aside0.mk (cg (zK I) hg (Kd.dj aa.out I.out (by decide)));replace aa:=Aside0.mk (cq);replace HB:=Aside0.mk ((by rw[hw];exact dJ (HB.out) e_.out:Below w.heap.size w ey));clear hg hw cq))
                    (try simp only[<-aF])
                    go_roundg k3
                    case measure=>have:=bf.out;have:=bg.out;have:=bo.out;omega
                    case rel=>exact⟨(ed),(wrap64 (o+1)),zT,H',⟨by have:=bf.out;have:=bg.out;have:=bo.out;omega⟩,⟨by(try simp only[ak]);(try simp only[ar]);(try simp only[aF]);(with_reducible repeat(first|apply Kd.aD|apply Kd.bd|apply Kd.a8));exact aa.out⟩,⟨by(try simp only[ak]);(try simp only[ar]);(try simp only[aF]);exact zK I⟩,⟨zB⟩⟩
                   ·rw[if_neg c1] at H
                    exact absurd H (by simp)
                  ·rw[if_neg c0] at H
                   exact absurd H (by simp)
                 ·rw[if_neg b3] at H
                  have gx:decide (0<t132)=false:=decide_eq_false b3
                  clear b3
                  have H':=Aside0.mk H
                  clear H
                  obtain⟨h8,h9,h_,h'⟩:=ao I
                  have a2:0<=(J:Int):=of_decide_eq_true ‹_›
                  have a3:J<(ab.length:Int):=of_decide_eq_true ‹_›
                  obtain⟨cf,ch,aL⟩:=Kd.iT (Kd.aC aa.out).2.2 J a2 a3
                  (try rw[<-eb.out] at aL)
                  obtain rfl:(⟨aP,0,none⟩:Addr)=cf:=(by injection ch)
                  (first|simp only[add_plain] at aL|simp only[fZ] at aL|simp only[Addr.add,Nat.zero_add] at aL|skip)
                  replace a2:=eq_true a2
                  replace a3:=eq_true a3
                  go_wp2_with (first|(go_at_call 147;(with_reducible refine(cS.calls k3 j _ _ U J o t132 _ ?eg ?ek fr.out).mono ?_);(case eg=>exact Kd.aj e1.out zB);(case ek=>exact e2.out);rintro e ib ⟨rfl,hb⟩;replace aa:=bm aa hb;replace I:=zb I hb;replace HB:=zS HB hb;(try clear hb)))
                  (try simp only[<-aF])
                  go_roundg k3
                  case measure=>have:=bf.out;have:=bg.out;have:=bo.out;omega
                  case rel=>exact⟨(ab),(wrap64 (o+1)),zT,H',⟨by have:=bf.out;have:=bg.out;have:=bo.out;omega⟩,⟨by(try simp only[ak]);(try simp only[ar]);(try simp only[aF]);(with_reducible repeat(first|apply Kd.aD|apply Kd.bd|apply Kd.a8));exact aa.out⟩,⟨by(try simp only[ak]);(try simp only[ar]);(try simp only[aF]);exact zK I⟩,⟨zB⟩⟩
                ·replace cx:=Bool.eq_false_iff.mpr cx
                 subst cx
                 have H1:(bc.l2 k3 ab ag J (wrap64 (o+1)) j U)=some r:=by rw[if_neg (show ¬(false=true) by decide)] at H;exact H
                 clear H
                 have H:=H1
                 clear H1
                 have H':=Aside0.mk H
                 clear H
                 obtain⟨ih,im,iv,jj⟩:=ao I
                 have a2:0<=(J:Int):=of_decide_eq_true ‹_›
                 have a3:J<(ab.length:Int):=of_decide_eq_true ‹_›
                 obtain⟨cf,ch,aL⟩:=Kd.iT (Kd.aC aa.out).2.2 J a2 a3
                 (try rw[<-eb.out] at aL)
                 obtain rfl:(⟨aP,0,none⟩:Addr)=cf:=(by injection ch)
                 (first|simp only[add_plain] at aL|simp only[fZ] at aL|simp only[Addr.add,Nat.zero_add] at aL|skip)
                 replace a2:=eq_true a2
                 replace a3:=eq_true a3
                 go_wp2
                 (try simp only[<-aF])
                 go_roundg k3
                 case measure=>have:=bf.out;have:=bg.out;have:=bo.out;omega
                 case rel=>exact⟨(ab),(wrap64 (o+1)),zT,H',⟨by have:=bf.out;have:=bg.out;have:=bo.out;omega⟩,⟨by(try simp only[ak]);(try simp only[ar]);(try simp only[aF]);(with_reducible repeat(first|apply Kd.aD|apply Kd.bd|apply Kd.a8));exact aa.out⟩,⟨by(try simp only[ak]);(try simp only[ar]);(try simp only[aF]);exact zK I⟩,⟨zB⟩⟩
               ·rw[if_neg cv] at H
                exact absurd H (by simp)
              ·rw[if_neg cr] at H
               exact absurd H (by simp)
             ·rw[if_neg b2] at H
              have gq:decide (o<j)=false:=decide_eq_false b2
              clear b2
              have H':=Aside0.mk H
              clear H
              obtain⟨j0,j1,j2,j3⟩:=ao I
              go_wp2
              (try simp only[<-ar,<-aF])
              go_roundg k3
              case measure=>have:=bf.out;have:=bg.out;have:=bo.out;omega
              case rel=>exact⟨(ab),(wrap64 (J+1)),zT,H',⟨by have:=bf.out;have:=bg.out;have:=bo.out;omega⟩,⟨by(try simp only[ak]);(try simp only[ar]);(try simp only[aF]);(with_reducible repeat(first|apply Kd.aD|apply Kd.bd|apply Kd.a8));exact aa.out⟩,⟨by(try simp only[ak]);(try simp only[ar]);(try simp only[aF]);exact zK I⟩,⟨zB⟩⟩
          ·rw[if_neg cc] at H
           have gm:decide (J<j)=false:=decide_eq_false cc
           clear cc
           have H':=Aside0.mk H
           clear H
           obtain⟨j_,j',kd,kk⟩:=ao I
           go_wp2
           (try simp only[<-ak,<-ar])
           go_roundg k2
           case measure=>have:=bf.out;have:=bg.out;omega
           case rel=>exact⟨(b1),(wrap64 (ag+1)),zT,H',⟨by have:=bf.out;have:=bg.out;omega⟩,⟨by(try simp only[ak]);(try simp only[ar]);(with_reducible repeat(first|apply Kd.aD|apply Kd.bd|apply Kd.a8));exact aa.out⟩,⟨by(try simp only[ak]);(try simp only[ar]);exact zK I⟩,⟨zB⟩⟩
       ·rw[if_neg cb] at H
        have gi:decide (ag<j)=false:=decide_eq_false cb
        clear cb
        obtain rfl:=Option.some.inj H
        obtain⟨km,ks,kt,kv⟩:=ao I
        go_wp2
        go_ret
        exact⟨_,zE,by(with_reducible repeat(first|apply Kd.aD|apply Kd.bd|apply Kd.a8));exact aa.out,zB⟩
    ·rw[if_neg c6] at H
     exact absurd H (by simp)
   ·rw[if_neg c5] at H
    exact absurd H (by simp)
  ·rw[if_neg c4] at H
   exact absurd H (by simp)
 ·rw[if_neg c3] at H
  exact absurd H (by simp)
mutual
def bF.l0:Nat->Int->List Bool->Int->Int->List (S83)->Option (Int)
 |0,_,_,_,_,_=>none
 |k+1,x3,x4,j,o,I=>if j<o then(if 0<=j then(if j<(x4.length:Int) then(if bl false x4 j=true then(bF.l0 k x3 x4 (wrap64 (j+1)) o I) else((bc.f k o I j).bind fun t139=>(bF.l1 k (wrap64 (x3+1)) x4 j t139 0 o I))) else(none)) else(none)) else(some x3)
def bF.l1:Nat->Int->List Bool->Int->List Bool->Int->Int->List (S83)->Option (Int)
 |0,_,_,_,_,_,_,_=>none
 |k+1,x3,x4,J,o,j,I,R=>if j<I then(if 0<=j then(if j<(x4.length:Int) then(if bl false x4 j=true then(bF.l1 k x3 (x4.set (j:Int).toNat true) J o (wrap64 (j+1)) I R) else(if j<(o.length:Int) then(bF.l1 k x3 (x4.set (j:Int).toNat (bl false o j)) J o (wrap64 (j+1)) I R) else(none))) else(none)) else(none)) else(bF.l0 k x3 x4 (wrap64 (J+1)) I R)
end
def bF.f (k:Nat) (j:Int) (o:List (S83)):Option (Int):=if 0<=j then(if(j:Int).toNat<=281474976710656 then(bF.l0 k 0 (List.replicate (j:Int).toNat false) 0 j o) else(none)) else(none)
theorem bF.calls (k:Nat) (o:Int) (bw:Option Addr) (bx:Nat) (U:List (S83)) (r:Int) (w:World) (e':Kd.C aG w bw U.length U) (fb:U.length<=bx) (h:bF.f k o U=some r):
  Calls Tryz.prog 74 #[.agg #[.int .i64 o,.slice bw U.length bx]] w fun e w'=>e= .returned (.int .i64 r)∧Below w.heap.size w w':=by
 have h6:=Tryz.underlying24
 have g':=Aside0.mk e'
 have ha:=Aside0.mk fb
 clear e' fb
 have HB:=Aside0.mk (Below.refl w.heap.size w)
 have H:(if 0<=o then(if(o:Int).toNat<=281474976710656 then(bF.l0 k 0 (List.replicate (o:Int).toNat false) 0 o U) else(none)) else(none))=some r:=h
 clear h
 by_cases c2:0<=o
 ·rw[if_pos c2] at H
  have fo:=eq_true c2
  have fq:decide (0<=o)=true:=decide_eq_true c2
  clear c2
  by_cases c3:(o:Int).toNat<=281474976710656
  ·rw[if_pos c3] at H
   have fr:=eq_true c3
   have ft:decide ((o:Int).toNat<=281474976710656)=true:=decide_eq_true c3
   clear c3
   obtain⟨fv,b3⟩:∃y_:List Bool,y_=(List.replicate (o:Int).toNat false):=⟨_,rfl⟩
   replace H:(bF.l0 k 0 fv 0 o U)=some r:=by first|(rw[b3];with_reducible exact H)|(have aF:=(Option.bind_some _ _).symm.trans H;rw[b3];with_reducible exact aF)|(have aF:=(Option.bind_some _ _).symm.trans H;with_reducible exact aF)|with_reducible exact H|(rw[b3];exact H)|exact H
   have f':=Aside0.mk b3
   clear b3
   have H':=Aside0.mk H
   clear H
   go_enter Tryz.func74,Tryz.ntmps74
   go_wp2_with (first|((with_reducible refine aA (N:=1) rfl ?_);refine zX 1 #[.int .i64 o,.slice bw U.length bx] 24 ?_;intro gb hg w4 gd hb;have aa:=Aside0.mk (gd);have h8:=zG HB hg;have h9:=zG HB hg;replace HB:=zS HB hb;clear hb gd hg;obtain⟨gf,gg,gi,gl⟩:=ao aa)|((with_reducible refine aA (N:=10) rfl ?_);refine Kd.iU Kd.bool _ 4 rfl (N:=10) rfl 43 _ _ rfl o rfl rfl Tryz.underlying43 (.bool false) 1 lE rfl (by decide) (by omega) false (ok:=fun _=>True) (okp:=fun _=>True) rfl (fun _ hk=>hk) trivial (of_decide_eq_true ‹_›) (Nat.le_trans (Nat.mul_le_mul_right _ (of_decide_eq_true ‹_› :o.toNat<=281474976710656)) (by omega)) (Below.refl _ _) (Nat.le_refl _) ?_;intro hc w6 b5 hb hf hh;clear hf hh;(first|rw[<-f'.out] at b5|(simp only[Int.reduceToNat] at b5;rw[<-f'.out] at b5));have hj:=Aside0.mk (Kd.aM b5 (aU zB));replace aa:=zb aa hb;replace HB:=zS HB hb;clear hb b5))
   go_loopg [3,5] k (fun kq v3 v5 w'=>∃(ag:Int) (ak:List Bool) (I:Int),v3= .int .i64 ag∧v5= .int .i64 I∧Aside0 (bF.l0 kq ag ak I o U=some r)∧Aside0 (kq<=k)∧Aside0 (Kd.R Kd.bool 4 w' w.heap.size (fun _=>True) hc ak)∧Aside0 (w'.heap[gb]? =some (.cells #[.int .i64 o,(.slice bw U.length bx)] 24 (0,0)))∧Aside0 (Below w.heap.size w w'))
   case atStart=>exact⟨(0),(fv),(0),zT,zT,H',⟨Nat.le_refl _⟩,⟨zR hj⟩,⟨zK aa⟩,⟨zB⟩⟩
   case round=>
    clear H'
    try clear c2
    try clear fo
    try clear fq
    try clear p2
    try clear c3
    try clear fr
    try clear ft
    try clear c7
    try clear gf
    try clear gg
    try clear gi
    try clear gl
    obtain⟨ag,ak,I,rfl,rfl,HA,aS,J,aa,HB⟩:=hrel
    cases gk with
    |zero=>exact absurd HA.out (by simp[bF.l0])
    |succ k1=>
     have H:=HA.out
     clear HA
     simp only[bF.l0] at H
     by_cases c8:I<o
     ·rw[if_pos c8] at H
      have gp:decide (I<o)=true:=decide_eq_true c8
      clear c8
      by_cases c9:0<=I
      ·rw[if_pos c9] at H
       have ht:decide (0<=I)=true:=decide_eq_true c9
       clear c9
       by_cases cb:I<(ak.length:Int)
       ·rw[if_pos cb] at H
        have hv:decide (I<(ak.length:Int))=true:=decide_eq_true cb
        clear cb
        obtain⟨gq,c4⟩:∃b_:Bool,b_=(bl false ak I):=⟨_,rfl⟩
        replace H:(if gq=true then(bF.l0 k1 ag ak (wrap64 (I+1)) o U) else((bc.f k1 o U I).bind fun t139=>(bF.l1 k1 (wrap64 (ag+1)) ak I t139 0 o U)))=some r:=by rw[<-c4] at H;exact H
        have cc:=Aside0.mk c4
        clear c4
        by_cases cd:gq=true
        ·subst cd
         have H1:(bF.l0 k1 ag ak (wrap64 (I+1)) o U)=some r:=by rw[if_pos rfl] at H;exact H
         clear H
         have H:=H1
         clear H1
         have H':=Aside0.mk H
         clear H
         obtain⟨hx,hy,hz,hA⟩:=ao aa
         obtain⟨h',ib,hB⟩:=Kd.a7 J.out
         subst hB
         have a0:0<=(I:Int):=of_decide_eq_true ‹_›
         have a1:I<(ak.length:Int):=of_decide_eq_true ‹_›
         obtain⟨hD,c6,b0⟩:=Kd.iT (Kd.aC J.out).2.2 I a0 a1
         (try rw[<-cc.out] at b0)
         cases c6
         replace a0:=eq_true a0
         replace a1:=eq_true a1
         go_wp2
         go_roundg k1
         case measure=>have:=aS.out;omega
         case rel=>exact⟨(ag),(ak),(wrap64 (I+1)),zT,zT,H',⟨by have:=aS.out;omega⟩,⟨zR J⟩,⟨zK aa⟩,⟨zB⟩⟩
        ·replace cd:=Bool.eq_false_iff.mpr cd
         subst cd
         have H1:((bc.f k1 o U I).bind fun t139=>(bF.l1 k1 (wrap64 (ag+1)) ak I t139 0 o U))=some r:=by rw[if_neg (show ¬(false=true) by decide)] at H;exact H
         clear H
         have H:=H1
         clear H1
         replace H:=Option.bind_eq_some_iff.mp H
         obtain⟨t139,gr,H⟩:=H
         replace H:(bF.l1 k1 (wrap64 (ag+1)) ak I t139 0 o U)=some r:=H
         have hE:=Aside0.mk gr
         clear gr
         have H':=Aside0.mk H
         clear H
         obtain⟨hG,hH,hI,hJ⟩:=ao aa
         obtain⟨ih,a2,hK⟩:=Kd.a7 J.out
         subst hK
         have a0:0<=(I:Int):=of_decide_eq_true ‹_›
         have a1:I<(ak.length:Int):=of_decide_eq_true ‹_›
         obtain⟨hD,c6,b0⟩:=Kd.iT (Kd.aC J.out).2.2 I a0 a1
         (try rw[<-cc.out] at b0)
         cases c6
         obtain⟨cq,hL⟩:=Kd.oe J.out
         subst hL
         simp only[add_plain] at b0
         replace a0:=eq_true a0
         replace a1:=eq_true a1
         go_wp2_with (first|((with_reducible refine au (f:=131) rfl ?_);refine zL (some 25) Tryz.func131 #[.agg #[.int .i64 o,.slice bw U.length bx],.int .i64 I] ?_;(with_reducible refine(bc.calls k1 o _ _ U I t139 _ ?hM ?hN hE.out).mono ?_);(case hM=>exact Kd.aj g'.out zB);(case hN=>exact ha.out);rintro e im ⟨c',rfl,dd,hb⟩;refine⟨_,rfl,?_⟩;have hO:=Aside0.mk (Kd.aM (Kd.dy dd (Kd.bq (zR J))) (aU zB));replace J:=fu J dd hb;replace aa:=zb aa hb;replace HB:=zS HB hb;(try clear hb);(try clear dd)))
         go_loopg [7] k1 (fun kq v7 w'=>∃(ab:List Bool) (j:Int),v7= .int .i64 j∧Aside0 (bF.l1 kq (wrap64 (ag+1)) ab I t139 j o U=some r)∧Aside0 (kq<=k1)∧Aside0 (Kd.R Kd.bool 4 w' w.heap.size (fun k_=>some k_≠(c':Value).ownBlock) (.slice (some ⟨cq,0,none⟩) ak.length a2) ab)∧Aside0 (Kd.R Kd.bool 4 w' w.heap.size (fun k_=>some k_≠((.slice (some ⟨cq,0,none⟩) ak.length a2):Value).ownBlock) c' t139)∧Aside0 (w'.heap[gb]? =some (.cells #[.int .i64 o,(.slice bw U.length bx)] 24 (0,0)))∧Aside0 (Below w.heap.size w w'))
         case atStart=>exact⟨(ak),(0),zT,H',⟨Nat.le_refl _⟩,⟨by(with_reducible repeat(first|apply Kd.aD|apply Kd.bd|apply Kd.a8));exact Kd.aR J.out (fun _ hk=>hk.2)⟩,⟨by(with_reducible repeat(first|apply Kd.aD|apply Kd.bd|apply Kd.a8));exact Kd.aR hO.out (fun _ hk=>hk.2)⟩,⟨zK aa⟩,⟨zB⟩⟩
         case round=>
          clear H'
          try clear c1
          try clear p1
          try clear q1
          try clear j0
          try clear c2
          try clear fo
          try clear fq
          try clear p2
          try clear c3
          try clear fr
          try clear ft
          try clear p6
          try clear c7
          try clear c8
          try clear gp
          try clear c9
          try clear ht
          try clear cb
          try clear hv
          try clear j2
          try clear cd
          try clear j3
          try clear j_
          try clear j'
          try clear kd
          try clear hx
          try clear hy
          try clear hG
          try clear hH
          try clear gf
          try clear gg
          try clear hz
          try clear hA
          try clear hI
          try clear hJ
          try clear gi
          try clear gl
          try clear b0
          try clear a0
          try clear p2
          try clear a1
          obtain⟨ab,j,rfl,HA,b1,J,aO,aa,HB⟩:=hrel
          have ar:=(Kd.aC J.out).1
          rw[ar] at J
          (try simp only[ar])
          (try simp only[ar] at aa)
          (try simp only[ar] at aO)
          cases gk with
          |zero=>exact absurd HA.out (by simp[bF.l1])
          |succ k2=>
           have H:=HA.out
           clear HA
           simp only[bF.l1] at H
           by_cases b2:j<o
           ·rw[if_pos b2] at H
            have hQ:decide (j<o)=true:=decide_eq_true b2
            clear b2
            by_cases cr:0<=j
            ·rw[if_pos cr] at H
             have kk:decide (0<=j)=true:=decide_eq_true cr
             clear cr
             by_cases cv:j<(ab.length:Int)
             ·rw[if_pos cv] at H
              have km:decide (j<(ab.length:Int))=true:=decide_eq_true cv
              clear cv
              obtain⟨gx,ds⟩:∃b_:Bool,b_=(bl false ab j):=⟨_,rfl⟩
              replace H:(if gx=true then(bF.l1 k2 (wrap64 (ag+1)) (ab.set (j:Int).toNat true) I t139 (wrap64 (j+1)) o U) else(if j<(t139.length:Int) then(bF.l1 k2 (wrap64 (ag+1)) (ab.set (j:Int).toNat (bl false t139 j)) I t139 (wrap64 (j+1)) o U) else(none)))=some r:=by rw[<-ds] at H;exact H
              have dv:=Aside0.mk ds
              clear ds
              by_cases cx:gx=true
              ·subst cx
               have H1:(bF.l1 k2 (wrap64 (ag+1)) (ab.set (j:Int).toNat true) I t139 (wrap64 (j+1)) o U)=some r:=by rw[if_pos rfl] at H;exact H
               clear H
               have H:=H1
               clear H1
               obtain⟨ea,cf⟩:∃y_:List Bool,y_=(ab.set (j:Int).toNat true):=⟨_,rfl⟩
               replace H:(bF.l1 k2 (wrap64 (ag+1)) ea I t139 (wrap64 (j+1)) o U)=some r:=by first|(rw[cf];with_reducible exact H)|(have aF:=(Option.bind_some _ _).symm.trans H;rw[cf];with_reducible exact aF)|(have aF:=(Option.bind_some _ _).symm.trans H;with_reducible exact aF)|with_reducible exact H|(rw[cf];exact H)|exact H
               have hR:=Aside0.mk cf
               clear cf
               have H':=Aside0.mk H
               clear H
               obtain⟨ks,kt,kv,kW⟩:=ao aa
               have bk:0<=(j:Int):=of_decide_eq_true ‹_›
               have bn:j<(ab.length:Int):=of_decide_eq_true ‹_›
               obtain⟨eb,ed,bo⟩:=Kd.iT (Kd.aC J.out).2.2 j bk bn
               (try rw[<-cc.out] at bo)
               (try rw[<-dv.out] at bo)
               obtain rfl:(⟨cq,0,none⟩:Addr)=eb:=(by injection ed)
               replace bk:=eq_true bk
               replace bn:=eq_true bn
               have eg:0<=(j:Int):=of_decide_eq_true ‹_›
               have ek:(j:Int)<((ab.length:Int):Int):=of_decide_eq_true ‹_›
               obtain⟨ch,k0,hT,g0,hV,k3,g1⟩:=Kd.eH J.out (by omega)
               (first|(injection hT with ad er ev;(first|subst ad|(injection ad with ad;first|subst ad|(injection ad with ad;have ad:=ad.symm;subst ad)));subst ev;clear er))
               have hW:=Aside0.mk g0
               have k4:=Aside0.mk g1
               clear g0 hV g1
               (first|simp only[add_plain] at b0|skip)
               (first|simp only[add_plain] at bo|skip)
               obtain⟨k5,k6⟩:=Kd.bB false J.out (j:Int) eg ek
               replace eg:=eq_true eg
               replace ek:=eq_true ek
               have ew:=Kd.cL J.out (j:Int) true
               go_wp2_with (first|((with_reducible refine iW (t:=4) (p:=44) rfl ?_);refine iV (t:=4) (p:=44) (v:=?k7) (w1:=(wr.setCell ⟨ch,(j:Int).toNat,none⟩ (.bool true))) ?hg ?ho ?hn ?hr ?_;(case ho=>rfl);(case hg=>rfl);(case hn=>rfl);(case hr=>first|(go_simp;done)|(go_simp;rfl));intro e0 hw;have hg:wr.grownBy e0 (some ch):=(by rw[hw];exact ew.2);have cj:Kd.R Kd.bool 4 e0 w.heap.size (fun k_=>some k_≠(c':Value).ownBlock) (.slice (some ⟨ch,0,none⟩) ab.length a2) ea:=(by rw[hw,hR.out];exact ew.1);clear ew;replace aO:=Aside0.mk (Kd.qQ (v:=(.slice (some ⟨ch,0,none⟩) ab.length a2)) (v1:=(.slice (some ⟨ch,0,none⟩) ab.length a2)) (ok:=(fun _=>True)) (by(with_reducible repeat(first|apply Kd.aD|apply Kd.bd|apply Kd.a8));exact Kd.aR aO.out (fun _ hk=>⟨trivial,hk⟩)) hg (.inl rfl));replace aa:=Aside0.mk (cg (zK aa) hg (Kd.dj J.out aa.out (by decide)));replace J:=Aside0.mk (cj);replace HB:=Aside0.mk ((by rw[hw];exact dJ (HB.out) hW.out:Below w.heap.size w e0));clear hg hw cj))
               (try simp only[<-ar])
               go_roundg k2
               case measure=>have:=aS.out;have:=b1.out;omega
               case rel=>exact⟨(ea),(wrap64 (j+1)),zT,H',⟨by have:=aS.out;have:=b1.out;omega⟩,⟨by(try simp only[ar]);(with_reducible repeat(first|apply Kd.aD|apply Kd.bd|apply Kd.a8));exact J.out⟩,⟨by(try simp only[ar]);(with_reducible repeat(first|apply Kd.aD|apply Kd.bd|apply Kd.a8));exact Kd.aR aO.out (fun _ hk=>hk.2)⟩,⟨by(try simp only[ar]);exact zK aa⟩,⟨zB⟩⟩
              ·replace cx:=Bool.eq_false_iff.mpr cx
               subst cx
               have H1:(if j<(t139.length:Int) then(bF.l1 k2 (wrap64 (ag+1)) (ab.set (j:Int).toNat (bl false t139 j)) I t139 (wrap64 (j+1)) o U) else(none))=some r:=by rw[if_neg (show ¬(false=true) by decide)] at H;exact H
               clear H
               have H:=H1
               clear H1
               by_cases c0:j<(t139.length:Int)
               ·rw[if_pos c0] at H
                have k8:decide (j<(t139.length:Int))=true:=decide_eq_true c0
                clear c0
                obtain⟨e1,ck⟩:∃y_:List Bool,y_=(ab.set (j:Int).toNat (bl false t139 j)):=⟨_,rfl⟩
                replace H:(bF.l1 k2 (wrap64 (ag+1)) e1 I t139 (wrap64 (j+1)) o U)=some r:=by first|(rw[ck];with_reducible exact H)|(have aF:=(Option.bind_some _ _).symm.trans H;rw[ck];with_reducible exact aF)|(have aF:=(Option.bind_some _ _).symm.trans H;with_reducible exact aF)|with_reducible exact H|(rw[ck];exact H)|exact H
                have hX:=Aside0.mk ck
                clear ck
                have H':=Aside0.mk H
                clear H
                obtain⟨k9,la,lb,ld⟩:=ao aa
                have bk:0<=(j:Int):=of_decide_eq_true ‹_›
                have bn:j<(ab.length:Int):=of_decide_eq_true ‹_›
                obtain⟨eb,ed,bo⟩:=Kd.iT (Kd.aC J.out).2.2 j bk bn
                (try rw[<-cc.out] at bo)
                (try rw[<-dv.out] at bo)
                obtain rfl:(⟨cq,0,none⟩:Addr)=eb:=(by injection ed)
                replace bk:=eq_true bk
                replace bn:=eq_true bn
                obtain⟨lg,hY,h0⟩:=Kd.a7 aO.out
                subst h0
                have e2:0<=(j:Int):=of_decide_eq_true ‹_›
                have e3:j<(t139.length:Int):=of_decide_eq_true ‹_›
                obtain⟨h1,h2,g2⟩:=Kd.iT (Kd.aC aO.out).2.2 j e2 e3
                (try rw[<-cc.out] at g2)
                (try rw[<-dv.out] at g2)
                cases h2
                replace e2:=eq_true e2
                replace e3:=eq_true e3
                have e4:0<=(j:Int):=of_decide_eq_true ‹_›
                have e5:(j:Int)<((ab.length:Int):Int):=of_decide_eq_true ‹_›
                obtain⟨cl,lj,h3,g3,h4,lk,g4⟩:=Kd.eH J.out (by omega)
                (first|(injection h3 with ad er ev;(first|subst ad|(injection ad with ad;first|subst ad|(injection ad with ad;have ad:=ad.symm;subst ad)));subst ev;clear er))
                have h5:=Aside0.mk g3
                have lo:=Aside0.mk g4
                clear g3 h4 g4
                (first|simp only[add_plain] at bo|skip)
                obtain⟨lp,lv⟩:=Kd.bB false J.out (j:Int) e4 e5
                replace e4:=eq_true e4
                replace e5:=eq_true e5
                have e6:=Kd.cL J.out (j:Int) (bl false t139 j)
                go_wp2_with (first|((with_reducible refine iW (t:=4) (p:=44) rfl ?_);refine iV (t:=4) (p:=44) (v:=?l2) (w1:=(wr.setCell ⟨cl,(j:Int).toNat,none⟩ (.bool (bl false t139 j)))) ?hg ?ho ?hn ?hr ?_;(case ho=>rfl);(case hg=>rfl);(case hn=>rfl);(case hr=>first|(go_simp;done)|(go_simp;rfl));intro e_ hw;have hg:wr.grownBy e_ (some cl):=(by rw[hw];exact e6.2);have cj:Kd.R Kd.bool 4 e_ w.heap.size (fun k_=>some k_≠(.slice (some h1) t139.length hY:Value).ownBlock) (.slice (some ⟨cl,0,none⟩) ab.length a2) e1:=(by rw[hw,hX.out];exact e6.1);clear e6;replace aO:=Aside0.mk (Kd.qQ (v:=(.slice (some ⟨cl,0,none⟩) ab.length a2)) (v1:=(.slice (some ⟨cl,0,none⟩) ab.length a2)) (ok:=(fun _=>True)) (by(with_reducible repeat(first|apply Kd.aD|apply Kd.bd|apply Kd.a8));exact Kd.aR aO.out (fun _ hk=>⟨trivial,hk⟩)) hg (.inl rfl));replace aa:=Aside0.mk (cg (zK aa) hg (Kd.dj J.out aa.out (by decide)));replace J:=Aside0.mk (cj);replace HB:=Aside0.mk ((by rw[hw];exact dJ (HB.out) h5.out:Below w.heap.size w e_));clear hg hw cj))
                (try simp only[<-ar])
                go_roundg k2
                case measure=>have:=aS.out;have:=b1.out;omega
                case rel=>exact⟨(e1),(wrap64 (j+1)),zT,H',⟨by have:=aS.out;have:=b1.out;omega⟩,⟨by(try simp only[ar]);(with_reducible repeat(first|apply Kd.aD|apply Kd.bd|apply Kd.a8));exact J.out⟩,⟨by(try simp only[ar]);(with_reducible repeat(first|apply Kd.aD|apply Kd.bd|apply Kd.a8));exact Kd.aR aO.out (fun _ hk=>hk.2)⟩,⟨by(try simp only[ar]);exact zK aa⟩,⟨zB⟩⟩
               ·rw[if_neg c0] at H
                exact absurd H (by simp)
             ·rw[if_neg cv] at H
              exact absurd H (by simp)
            ·rw[if_neg cr] at H
             exact absurd H (by simp)
           ·rw[if_neg b2] at H
            have hQ:decide (j<o)=false:=decide_eq_false b2
            clear b2
            have H':=Aside0.mk H
            clear H
            obtain⟨l3,l',mb,ml⟩:=ao aa
            go_wp2
            (try simp only[<-ar])
            go_roundg k2
            case measure=>have:=aS.out;have:=b1.out;omega
            case rel=>exact⟨((wrap64 (ag+1))),(ab),(wrap64 (I+1)),zT,zT,H',⟨by have:=aS.out;have:=b1.out;omega⟩,⟨by(try simp only[ar]);(with_reducible repeat(first|apply Kd.aD|apply Kd.bd|apply Kd.a8));exact Kd.aR J.out (fun _ hk=>trivial)⟩,⟨by(try simp only[ar]);exact zK aa⟩,⟨zB⟩⟩
       ·rw[if_neg cb] at H
        exact absurd H (by simp)
      ·rw[if_neg c9] at H
       exact absurd H (by simp)
     ·rw[if_neg c8] at H
      have gp:decide (I<o)=false:=decide_eq_false c8
      clear c8
      obtain rfl:=Option.some.inj H
      obtain⟨mn,mv,mx,m0⟩:=ao aa
      go_wp2
      go_ret
      exact⟨zE,zB⟩
  ·rw[if_neg c3] at H
   exact absurd H (by simp)
 ·rw[if_neg c2] at H
  exact absurd H (by simp)
def jf.f (k:Nat) (j:Int) (o:List (S83)):Option (Bool):=(bF.f k j o).bind fun t147=>(some (t147==1))
theorem jf.calls (k:Nat) (o:Int) (J:Option Addr) (R:Nat) (j:List (S83)) (r:Bool) (w:World) (ab:Kd.C aG w J j.length j) (ad:j.length<=R) (h:jf.f k o j=some r):
  Calls Tryz.prog 104 #[.agg #[.int .i64 o,.slice J j.length R]] w fun e w'=>e= .returned (.bool r)∧Below w.heap.size w w':=by
 have aL:=Tryz.underlying24
 have an:=Aside0.mk ab
 have ar:=Aside0.mk ad
 clear ab ad
 have I:=Aside0.mk (Below.refl w.heap.size w)
 have H:((bF.f k o j).bind fun t147=>(some (t147==1)))=some r:=h
 clear h
 replace H:=Option.bind_eq_some_iff.mp H
 obtain⟨t147,ag,H⟩:=H
 replace H:(some (t147==1))=some r:=H
 have A2:=Aside0.mk ag
 clear ag
 obtain rfl:=Option.some.inj H
 go_enter Tryz.func104,Tryz.ntmps104
 go_wp2_with (first|((with_reducible refine aA (N:=1) rfl ?_);refine zX 1 #[.int .i64 o,.slice J j.length R] 24 ?_;intro aO U w3 ak hb;have aa:=Aside0.mk (ak);have aP:=zG I U;have aS:=zG I U;replace I:=zS I hb;clear hb ak U;obtain⟨a0,a1,a2,a3⟩:=ao aa)|((with_reducible refine au (f:=74) rfl ?_);refine zL (some 4) Tryz.func74 #[.agg #[.int .i64 o,.slice J j.length R]] ?_;(with_reducible refine(bF.calls k o _ _ j t147 _ ?aB ?aF A2.out).mono ?_);(case aB=>exact Kd.aj an.out zB);(case aF=>exact ar.out);rintro e w5 ⟨rfl,hb⟩;refine⟨_,rfl,?_⟩;replace aa:=zb aa hb;replace I:=zS I hb;(try clear hb)))
 go_ret
 exact⟨zE,zB⟩
def aQ (o:List Bool) (i:Nat):Bool:=o.getD i false
theorem o7 (o:List Bool) (i:Nat):bl false o (i:Int)=aQ o i:=by simp[bl,aQ]
theorem kE (o:List Bool) (i j:Nat) (b:Bool):aQ (o.set i b) j=if i=j∧j<o.length then b else aQ o j:=by
 unfold aQ
 rw[List.getD_eq_getElem?_getD,List.getD_eq_getElem?_getD,List.getElem?_set]
 by_cases h:i=j
 ·subst h
  by_cases h2:i<o.length
  ·simp[h2]
  ·simp[h2]
 ·simp[h]
def fa (E:List S83) (a:Nat) (o:List Bool) (b:Nat):List Bool:=if aQ o a=true∧cn E a b>0 then o.set b true else o
def iu (E:List S83) (n:Nat) (o:List Bool) (a:Nat):List Bool:=(List.range' 0 n).foldl (fa E a) o
def iw (E:List S83) (n:Nat) (o:List Bool):List Bool:=(List.range' 0 n).foldl (iu E n) o
def gz (E:List S83) (n:Nat):Nat->List Bool->List Bool
 |0,o=>o
 |m+1,o=>gz E n m (iw E n o)
def eB (E:List S83) (n v:Nat):List Bool:=gz E n n ((List.replicate n false).set v true)
theorem o8 (E:List S83) (a b:Nat) (o:List Bool):(fa E a o b).length=o.length:=by unfold fa;split<;>simp
theorem kF {f:List Bool->Nat->List Bool} (h:∀o b,(f o b).length=o.length):∀(l:List Nat) (o:List Bool),(l.foldl f o).length=o.length
 |[],_=>rfl
 |x::l,o=>by rw[List.foldl_cons,kF h l,h]
theorem o9 (E:List S83) (n a:Nat) (o:List Bool):(iu E n o a).length=o.length:=kF (fun o b=>o8 E a b o) _ _
theorem o_ (E:List S83) (n:Nat) (o:List Bool):(iw E n o).length=o.length:=kF (fun o a=>o9 E n a o) _ _
theorem sI (E:List S83) (n:Nat):∀m o,(gz E n m o).length=o.length
 |0,_=>rfl
 |m+1,o=>by rw[gz,sI E n m,o_]
theorem sJ (E:List S83) (R:E.length<=1000) (n a J:Nat) (U:n<=1000) (ha:a<n) (r:List Bool):∀(m j:Nat) (o:List Bool),j+m=n->o.length=n->Ev (fun k=>bc.l1 k ((List.range' j m).foldl (fa E a) o) J ((a+1:Nat):Int) n E) r->Ev (fun k=>bc.l2 k o J a j n E) r
 |0,j,o,hj,ho,h=>by
  refine Ev.of_succ ?_
  simp only[bc.l2,if_neg (show ¬((j:Int)<(n:Int)) by omega),dA (show a<=1000000 by omega)]
  exact h
 |m+1,j,o,hj,ho,h=>by
  rw[List.range'_succ,List.foldl_cons] at h
  have I:=sJ E R n a J U ha r m (j+1) (fa E a o j) (by omega) (by rw[o8];exact ho) h
  refine Ev.of_succ ?_
  simp only[bc.l2,if_pos (show (j:Int)<(n:Int) by omega),if_pos (show (0:Int)<=(a:Int) by omega),if_pos (show (a:Int)<(o.length:Int) by omega),if_pos (show (0:Int)<=(j:Int) by omega),if_pos (show (j:Int)<(o.length:Int) by omega),dA (show j<=1000000 by omega),o7,Int.toNat_natCast]
  unfold fa at I
  by_cases h1:aQ o a=true
  ·simp only[if_pos h1]
   refine Ev.bind (sx n E a j R) ?_
   by_cases h2:cn E a j>0
   ·simp only[if_pos h2];rw[if_pos ⟨h1,h2⟩] at I;exact I
   ·simp only[if_neg h2];rw[if_neg (fun h=>h2 h.2)] at I;exact I
  ·simp only[if_neg h1];rw[if_neg (fun h=>h1 h.1)] at I;exact I
theorem sK (E:List S83) (I:E.length<=1000) (n j:Nat) (J:n<=1000) (R:j<=1000) (r:List Bool):∀(m a:Nat) (o:List Bool),a+m=n->o.length=n->Ev (fun k=>bc.l0 k ((List.range' a m).foldl (iu E n) o) ((j+1:Nat):Int) n E) r->Ev (fun k=>bc.l1 k o j a n E) r
 |0,a,o,U,ho,h=>by
  refine Ev.of_succ ?_
  simp only[bc.l1,if_neg (show ¬((a:Int)<(n:Int)) by omega),dA (show j<=1000000 by omega)]
  exact h
 |m+1,a,o,U,ho,h=>by
  rw[List.range'_succ,List.foldl_cons] at h
  have ih:=sK E I n j J R r m (a+1) (iu E n o a) (by omega) (by rw[o9];exact ho) h
  refine Ev.of_succ ?_
  simp only[bc.l1,if_pos (show (a:Int)<(n:Int) by omega)]
  exact sJ E I n a j J (by omega) r n 0 o (by omega) ho ih
theorem sL (E:List S83) (j:E.length<=1000) (n:Nat) (I:n<=1000):∀(m i:Nat) (o:List Bool),i+m=n->o.length=n->Ev (fun k=>bc.l0 k o i n E) (gz E n m o)
 |0,i,o,hi,ho=>by
  refine Ev.of_succ ?_
  simp only[bc.l0,if_neg (show ¬((i:Int)<(n:Int)) by omega)]
  exact Ev.const _
 |m+1,i,o,hi,ho=>by
  have J:=sL E j n I m (i+1) (iw E n o) (by omega) (by rw[o_];exact ho)
  refine Ev.of_succ ?_
  simp only[bc.l0,if_pos (show (i:Int)<(n:Int) by omega)]
  exact sK E j n i I (by omega) _ n 0 o (by omega) ho J
theorem yT (E:List S83) (j:E.length<=1000) (n v:Nat) (o:n<=1000) (I:v<n):Ev (fun k=>bc.f k n E v) (eB E n v):=by
 unfold bc.f
 simp only[if_pos (show (0:Int)<=(n:Int) by omega),Int.toNat_natCast,if_pos (show n<=281474976710656 by omega),Option.bind_some,if_pos (show (0:Int)<=(v:Int) by omega),List.length_replicate,if_pos (show (v:Int)<(n:Int) by omega)]
 exact sL E j n o n 0 _ (by omega) (by simp)
def ix (s r:List Bool):List Bool:=(List.range' 0 s.length).foldl (fun s u=>s.set u (aQ s u||aQ r u)) s
def fx (E:List S83) (n:Nat):Nat->Nat->Nat->List Bool->Nat
 |0,_,c,_=>c
 |m+1,v,c,s=>if aQ s v=true then fx E n m (v+1) c s else fx E n m (v+1) (c+1) (ix s (eB E n v))
theorem yU (r:List Bool) (o:List Bool) (u:Nat):(o.set u (aQ o u||aQ r u)).length=o.length:=by simp
theorem sM (E:List S83) (n:Nat) (J:n<=1000) (c v:Nat) (R:v<=1000) (q:List Bool) (hq:q.length=n) (r:Int):∀(m j:Nat) (s:List Bool),j+m=n->s.length=n->Ev (fun k=>bF.l0 k c ((List.range' j m).foldl (fun s u=>s.set u (aQ s u||aQ q u)) s) ((v+1:Nat):Int) n E) r->Ev (fun k=>bF.l1 k c s v q j n E) r
 |0,j,s,U,I,h=>by
  refine Ev.of_succ ?_
  simp only[bF.l1,if_neg (show ¬((j:Int)<(n:Int)) by omega),dA (show v<=1000000 by omega)]
  exact h
 |m+1,j,s,U,I,h=>by
  rw[List.range'_succ,List.foldl_cons] at h
  have o:=sM E n J c v R q hq r m (j+1) _ (by omega) (by rw[List.length_set];exact I) h
  refine Ev.of_succ ?_
  simp only[bF.l1,if_pos (show (j:Int)<(n:Int) by omega),if_pos (show (0:Int)<=(j:Int) by omega),if_pos (show (j:Int)<(s.length:Int) by omega),if_pos (show (j:Int)<(q.length:Int) by omega),dA (show j<=1000000 by omega),o7,Int.toNat_natCast]
  by_cases h1:aQ s j=true
  ·simp only[if_pos h1];rw[h1,Bool.true_or] at o;exact o
  ·simp only[if_neg h1];rw[Bool.eq_false_iff.2 h1,Bool.false_or] at o;exact o
theorem pa (E:List S83) (J:E.length<=1000) (n:Nat) (I:n<=1000):∀(m v c:Nat) (s:List Bool),v+m=n->c<=v->s.length=n->Ev (fun k=>bF.l0 k c s v n E) ((fx E n m v c s:Nat):Int)
 |0,v,c,s,R,hc,j=>by
  refine Ev.of_succ ?_
  simp only[bF.l0,if_neg (show ¬((v:Int)<(n:Int)) by omega)]
  exact Ev.const _
 |m+1,v,c,s,R,hc,j=>by
  refine Ev.of_succ ?_
  simp only[bF.l0,if_pos (show (v:Int)<(n:Int) by omega),if_pos (show (0:Int)<=(v:Int) by omega),if_pos (show (v:Int)<(s.length:Int) by omega),dA (show v<=1000000 by omega),o7,fx]
  by_cases h1:aQ s v=true
  ·simp only[if_pos h1]
   exact pa E J n I m (v+1) c s (by omega) (by omega) j
  ·simp only[if_neg h1]
   refine Ev.bind (yT E J n v I (by omega)) ?_
   have U:(eB E n v).length=n:=by unfold eB;rw[sI];simp
   have ih:=pa E J n I m (v+1) (c+1) (ix s (eB E n v)) (by omega) (by omega) (by unfold ix;rw[kF (fun o b=>yU _ o b)];exact j)
   rw[dA (show c<=1000000 by omega)]
   refine sM E n I (c+1) v (by omega) _ U _ n 0 s (by omega) j ?_
   rw[show (List.range' 0 n).foldl (fun s u=>s.set u (aQ s u||aQ (eB E n v) u)) s=ix s (eB E n v) from by unfold ix;rw[j]]
   exact ih
def partsOf (E:List S83) (n:Nat):Nat:=fx E n n 0 0 (List.replicate n false)
theorem yV (E:List S83) (j:E.length<=1000) (n:Nat) (o:n<=1000):Ev (fun k=>bF.f k n E) ((partsOf E n:Nat):Int):=by
 unfold bF.f
 simp only[if_pos (show (0:Int)<=(n:Int) by omega),Int.toNat_natCast,if_pos (show n<=281474976710656 by omega)]
 exact pa E j n o n 0 0 _ (by omega) (by omega) (by simp)
theorem pc {E:List S83} {a b:Nat} {o:List Bool} {i:Nat} (h:aQ o i=true):aQ (fa E a o b) i=true:=by
 unfold fa
 split
 ·rw[kE];split<;>simp_all
 ·exact h
theorem jS {f:List Bool->Nat->List Bool} (hf:∀o b i,aQ o i=true->aQ (f o b) i=true):∀(l:List Nat) (o:List Bool) (i:Nat),aQ o i=true->aQ (l.foldl f o) i=true
 |[],_,_,h=>h
 |x::l,o,i,h=>by rw[List.foldl_cons];exact jS hf l _ i (hf _ _ _ h)
theorem pd {E:List S83} {n a:Nat} {o:List Bool} {i:Nat} (h:aQ o i=true):aQ (iu E n o a) i=true:=jS (fun o b i h=>pc h) _ _ _ h
theorem sO {E:List S83} {n:Nat} {o:List Bool} {i:Nat} (h:aQ o i=true):aQ (iw E n o) i=true:=jS (fun o b i h=>pd h) _ _ _ h
theorem sP {E:List S83} {n:Nat}:∀{m:Nat} {o:List Bool} {i:Nat},aQ o i=true->aQ (gz E n m o) i=true
 |0,_,_,h=>h
 |m+1,o,i,h=>sP (m:=m) (sO h)
def gA (E:List S83) (n:Nat) (S:Nat->Bool):Prop:=∀a b:Nat,a<n->b<n->S a=true->cn E a b>0->S b=true
theorem lP {P:List Bool->Prop} {f:List Bool->Nat->List Bool} {n:Nat} (hf:∀o b,b<n->P o->P (f o b)):∀(m j:Nat) (o:List Bool),j+m<=n->P o->P ((List.range' j m).foldl f o)
 |0,_,_,_,h=>h
 |m+1,j,o,I,h=>by rw[List.range'_succ,List.foldl_cons];exact lP hf m (j+1) _ (by omega) (hf _ _ (by omega) h)
theorem yW {E:List S83} {n:Nat} {S:Nat->Bool} (hS:gA E n S) {o:List Bool} (h:∀i,aQ o i=true->S i=true):∀i,aQ (iw E n o) i=true->S i=true:=by
 refine lP (P:=fun o=>∀i,aQ o i=true->S i=true) (n:=n) (fun o a j h=>?_) n 0 o (by omega) h
 refine lP (P:=fun o=>∀i,aQ o i=true->S i=true) (n:=n) (fun o b hb h=>?_) n 0 o (by omega) h
 intro i hi
 unfold fa at hi
 split at hi
 ·rename_i hc
  rw[kE] at hi
  split at hi
  ·rename_i h2
   obtain⟨rfl,_⟩:=h2
   exact hS a b j hb (h a hc.1) hc.2
  ·exact h i hi
 ·exact h i hi
theorem sQ {E:List S83} {n:Nat} {S:Nat->Bool} (hS:gA E n S):∀(m:Nat) {o:List Bool},(∀i,aQ o i=true->S i=true)->∀i,aQ (gz E n m o) i=true->S i=true
 |0,_,h=>h
 |m+1,o,h=>sQ hS m (yW hS h)
theorem yX {o:List Bool} {b:Nat} (h:aQ o b=true):o.set b true=o:=by
 refine List.ext_getElem (by simp) fun i h1 h2=>?_
 rw[List.getElem_set]
 by_cases e:b=i
 ·subst e
  rw[if_pos rfl]
  simp only[aQ,List.getD_eq_getElem?_getD,List.getElem?_eq_getElem h2,Option.getD_some] at h
  exact h.symm
 ·rw[if_neg e]
theorem yY {E:List S83} {n:Nat} {o:List Bool} (h:gA E n (aQ o)):iw E n o=o:=by
 refine lP (P:=fun x=>x=o) (n:=n) (fun x a j I=>?_) n 0 o (by omega) rfl
 subst I
 refine lP (P:=fun y=>y=x) (n:=n) (fun y b hb J=>?_) n 0 x (by omega) rfl
 subst J
 unfold fa
 split
 ·rename_i hc
  exact yX (h a b j hb hc.1 hc.2)
 ·rfl
theorem sR {E:List S83} {n:Nat}:∀(m:Nat) {o:List Bool},gA E n (aQ o)->gz E n m o=o
 |0,_,_=>rfl
 |m+1,o,h=>by rw[gz,yY h,sR m h]
def iy (o:List Bool) (n:Nat):Nat:=(List.range n).countP (aQ o)
theorem yZ (o:List Bool) (n:Nat):iy o n<=n:=by
 unfold iy
 exact Nat.le_trans List.countP_le_length (by simp)
theorem pf {o p:List Bool} {b:Nat}:∀{n:Nat},(∀i,aQ o i=true->aQ p i=true)->b<n->aQ o b=false->aQ p b=true->iy o n<iy p n
 |0,_,hb,_,_=>by omega
 |n+1,h,hb,h1,h2=>by
  have mono:∀m,iy o m<=iy p m:=fun m=>List.countP_mono_left (fun x _ I=>h x I)
  unfold iy at*
  rw[List.range_succ,List.countP_append,List.countP_append]
  by_cases e:b=n
  ·subst e
   have:=mono b
   simp[h1,h2];omega
  ·have:=pf (n:=n) h (by omega) h1 h2
   unfold iy at this
   have J:(if aQ o n=true then 1 else 0)<=(if aQ p n=true then 1 else 0):=by
    by_cases j:aQ o n=true
    ·rw[if_pos j,if_pos (h n j)];exact Nat.le_refl _
    ·rw[if_neg j];exact Nat.zero_le _
   simp only[List.countP_cons,List.countP_nil,Nat.zero_add]
   omega
theorem za {E:List S83} {n:Nat} {o:List Bool} (ho:o.length=n) {a b:Nat} (ha:a<n) (hb:b<n) (h1:aQ o a=true) (h2:cn E a b>0):aQ (iw E n o) b=true:=by
 unfold iw
 have R:List.range' 0 n=List.range' 0 a++a::List.range' (a+1) (n-a-1):=by
  rw[<-List.range'_succ,show n-a-1+1=n-a by omega]
  rw[show List.range' 0 a++List.range' a (n-a)=List.range' 0 a++List.range' (0+a) (n-a) by rw[Nat.zero_add],List.range'_append_1]
  rw[show a+(n-a)=n by omega]
 have U:List.range' 0 n=List.range' 0 b++b::List.range' (b+1) (n-b-1):=by
  rw[<-List.range'_succ,show n-b-1+1=n-b by omega]
  rw[show List.range' 0 b++List.range' b (n-b)=List.range' 0 b++List.range' (0+b) (n-b) by rw[Nat.zero_add],List.range'_append_1]
  rw[show b+(n-b)=n by omega]
 rw[R,List.foldl_append,List.foldl_cons]
 refine jS (fun o b i h=>pd h) _ _ _ ?_
 have I:=jS (f:=iu E n) (fun o b i h=>pd h) (List.range' 0 a) o a h1
 have hl:=kF (f:=iu E n) (fun o a=>o9 E n a o) (List.range' 0 a) o
 generalize (List.range' 0 a).foldl (iu E n) o=j at I hl⊢
 unfold iu
 rw[U,List.foldl_append,List.foldl_cons]
 refine jS (fun o b i h=>pc h) _ _ _ ?_
 have J:=jS (f:=fa E a) (fun o b i h=>pc h) (List.range' 0 b) j a I
 have ab:=kF (f:=fa E a) (fun o b=>o8 E a b o) (List.range' 0 b) j
 generalize (List.range' 0 b).foldl (fa E a) j=o2 at J ab⊢
 unfold fa
 rw[if_pos ⟨J,h2⟩,kE,if_pos ⟨rfl,by omega⟩]
theorem sS {E:List S83} {n:Nat}:∀(m:Nat) (o:List Bool),o.length=n->n<iy o n+m->gA E n (aQ (gz E n m o))
 |0,o,ho,h=>by have:=yZ o n;omega
 |m+1,o,ho,h=>by
  by_cases hc:gA E n (aQ o)
  ·rw[sR (m+1) hc];exact hc
  ·rw[gz]
   refine sS m _ (by rw[o_];exact ho) ?_
   unfold gA at hc
   simp only[Classical.not_forall] at hc
   obtain⟨a,b,j,hb,h1,h2,I⟩:=hc
   have:=pf (o:=o) (p:=iw E n o) (b:=b) (n:=n) (fun i hi=>sO hi) hb (Bool.eq_false_iff.2 I) (za ho j hb h1 h2)
   omega
theorem zc {E:List S83} {n v:Nat} (I:v<n):aQ (eB E n v) v=true∧gA E n (aQ (eB E n v))∧∀S:Nat->Bool,gA E n S->S v=true->∀i,aQ (eB E n v) i=true->S i=true:=by
 have h0:aQ ((List.replicate n false).set v true) v=true:=by rw[kE,if_pos ⟨rfl,by simpa using I⟩]
 have j:∀i,aQ (List.replicate n false) i=false:=fun i=>by simp[aQ,List.getD_eq_getElem?_getD,List.getElem?_replicate];split<;>rfl
 refine⟨sP h0,sS n _ (by simp) ?_,fun S hS J=>sQ hS n (fun i hi=>?_)⟩
 ·have:=pf (o:=List.replicate n false) (p:=(List.replicate n false).set v true) (b:=v) (n:=n) (fun i hi=>by rw[j] at hi;cases hi) I (j v) h0
  omega
 ·rw[kE] at hi
  split at hi
  ·rename_i h;rw[<-h.1];exact J
  ·rw[j] at hi;cases hi
def jg (N:Int) (E:List S83):Bool:=decide (0<=N∧N<=12)&&gw 12 E
def bH.f (k:Nat) (N:Int) (E:List S83):Option (Bool×Int):=
 (aJ.f k N E).bind fun t=>if t=0 then(if jg N E=true then some (decide (cu (az E) N.toNat=1),0) else none) else some (false,t)
theorem bH.mono:∀j o k,ah (bH.f k j o) (bH.f (k+1) j o):=by
 intro j o k
 unfold bH.f
 exact ah.bind (aJ.mono _ _ _) (fun _=>ah.refl _)
theorem zd (k:Nat) (N:Int) (A0:Option Addr) (c0:Nat) (E:List S83) (t:Int) (w:World) (o:Kd.C aG w A0 E.length E) (I:E.length<=c0) (j:aJ.f k N E=some t) (U:t≠0):
  Calls Tryz.prog 172 #[.agg #[.int .i64 N,.slice A0 E.length c0]] w fun e w'=>e= .returned (.tuple #[.slice none 0 0,.int .i64 t])∧Below w.heap.size w w':=by
 have hu:=Tryz.underlying24
 have J:=Aside0.mk j
 clear j
 go_enter Tryz.func172,Tryz.ntmps172
 go_wp2_with (first|(go_at_call 64;refine(aJ.calls k N A0 c0 E t _ (Kd.aY o _) I J.out).mono ?_;rintro e w1 ⟨rfl,hb⟩;have R:=Aside0.mk (aN (al (Below.refl w.heap.size w) _) hb);clear hb))
 go_ret2
 exact⟨rfl,R.out⟩
theorem ze (E:List S83):∀i,i<12->(#[.int .i64 (az E 0:Nat),.int .i64 (az E 1:Nat),.int .i64 (az E 2:Nat),.int .i64 (az E 3:Nat),.int .i64 (az E 4:Nat),.int .i64 (az E 5:Nat),.int .i64 (az E 6:Nat),.int .i64 (az E 7:Nat),.int .i64 (az E 8:Nat),.int .i64 (az E 9:Nat),.int .i64 (az E 10:Nat),.int .i64 (az E 11:Nat)]:Array Value)[i]? =some (.int .i64 (az E i:Nat)):=fun i hi=>by
 match i,hi with|0,_=>rfl|1,_=>rfl|2,_=>rfl|3,_=>rfl|4,_=>rfl|5,_=>rfl|6,_=>rfl|7,_=>rfl|8,_=>rfl|9,_=>rfl|10,_=>rfl|11,_=>rfl
theorem zf (k:Nat) (n:Nat) (A0:Option Addr) (c0:Nat) (E:List S83) (w:World) (o:Kd.C aG w A0 E.length E) (U:E.length<=c0) (I:aJ.f k n E=some 0) (hn:n<=12) (J:dp 12 E):
  Calls Tryz.prog 172 #[.agg #[.int .i64 n,.slice A0 E.length c0]] w fun e w'=>∃A c,e= .returned (.tuple #[.slice A (cu (az E) n) c,.int .i64 0])∧Below w.heap.size w w':=by
 have hu:=Tryz.underlying24
 have Ht:=Aside0.mk I
 clear I
 have HE:=Aside0.mk J
 clear J
 go_enter Tryz.func172,Tryz.ntmps172
 go_wp2_with (first|(go_at_call 64;refine(aJ.calls k n A0 c0 E 0 _ (Kd.aY o _) U Ht.out).mono ?_;rintro e w1 ⟨rfl,hb⟩;have j:w1.heap[w.heap.size]? =some (.cells #[.int .i64 n,.slice A0 E.length c0] 24 (0,0)):=aE (heap_alloc_new w _) hb;have ag:=Aside0.mk (Kd.aj o (aN (al (Below.refl w.heap.size w) _) hb));have HB:=Aside0.mk (aN (al (Below.refl w.heap.size w) _) hb);clear hb;have aF:w1.cell? ⟨w.heap.size,0,none⟩=some (.int .i64 n):=(ai j 0).trans rfl;have aL:w1.cell? ⟨w.heap.size,1,none⟩=some (.slice A0 E.length c0):=(ai j 1).trans rfl)|(go_at_call 196;(with_reducible refine(yN _ _ _ E _ ag.out HE.out).mono ?_);rintro e w2 ⟨rfl,hb⟩;have R:=aq (aE j hb) (.cells #[.int .i64 (az E 0:Nat),.int .i64 (az E 1:Nat),.int .i64 (az E 2:Nat),.int .i64 (az E 3:Nat),.int .i64 (az E 4:Nat),.int .i64 (az E 5:Nat),.int .i64 (az E 6:Nat),.int .i64 (az E 7:Nat),.int .i64 (az E 8:Nat),.int .i64 (az E 9:Nat),.int .i64 (az E 10:Nat),.int .i64 (az E 11:Nat)] 217);have aO:(w2.alloc (.cells #[.int .i64 (az E 0:Nat),.int .i64 (az E 1:Nat),.int .i64 (az E 2:Nat),.int .i64 (az E 3:Nat),.int .i64 (az E 4:Nat),.int .i64 (az E 5:Nat),.int .i64 (az E 6:Nat),.int .i64 (az E 7:Nat),.int .i64 (az E 8:Nat),.int .i64 (az E 9:Nat),.int .i64 (az E 10:Nat),.int .i64 (az E 11:Nat)] 217)).cell? ⟨w.heap.size,0,none⟩=some (.int .i64 n):=(ai R 0).trans rfl;have an:=Aside0.mk (al (aN HB.out hb) (.cells #[.int .i64 (az E 0:Nat),.int .i64 (az E 1:Nat),.int .i64 (az E 2:Nat),.int .i64 (az E 3:Nat),.int .i64 (az E 4:Nat),.int .i64 (az E 5:Nat),.int .i64 (az E 6:Nat),.int .i64 (az E 7:Nat),.int .i64 (az E 8:Nat),.int .i64 (az E 9:Nat),.int .i64 (az E 10:Nat),.int .i64 (az E 11:Nat)] 217));have HF:=Aside0.mk (show ForestAt (w2.alloc (.cells #[.int .i64 (az E 0:Nat),.int .i64 (az E 1:Nat),.int .i64 (az E 2:Nat),.int .i64 (az E 3:Nat),.int .i64 (az E 4:Nat),.int .i64 (az E 5:Nat),.int .i64 (az E 6:Nat),.int .i64 (az E 7:Nat),.int .i64 (az E 8:Nat),.int .i64 (az E 9:Nat),.int .i64 (az E 10:Nat),.int .i64 (az E 11:Nat)] 217)) w2.heap.size (az E) from⟨_,heap_alloc_new _ _,rfl,ze E⟩);clear hb R)|(go_at_call 197;(with_reducible refine(yO _ n (az E) _ hn (sA E) HF.out).mono ?_);rintro e w3 ⟨A3,c3,rfl,hb⟩;have aB:=Aside0.mk (aN an.out hb);clear hb))
 go_ret2
 exact⟨A3,c3,rfl,aB.out⟩
theorem bH.calls (k:Nat) (ab:Int) (R:Option Addr) (U:Nat) (j:List (S83)) (r1:Bool) (r2:Int) (w:World) (ad:Kd.C aG w R j.length j) (ar:j.length<=U) (h:bH.f k ab j=some (r1,r2)):
  Calls Tryz.prog 113 #[.agg #[.int .i64 ab,.slice R j.length U]] w fun e w'=>e= .returned (.tuple #[.bool r1,.int .i64 r2])∧Below w.heap.size w w':=by
 unfold bH.f at h
 obtain⟨t,ht,h⟩:=Option.bind_eq_some_iff.1 h
 split at h
 ·rename_i ag
  subst ag
  split at h
  case isFalse=>cases h
  rename_i hok
  simp only[jg,Bool.and_eq_true,decide_eq_true_eq] at hok
  obtain⟨⟨h0,aL⟩,hE⟩:=hok
  obtain⟨n,rfl⟩:=Int.eq_ofNat_of_zero_le h0
  injection h with h
  injection h with h1 h2
  subst h2
  rw[Int.toNat_natCast] at h1
  have o:=fun W hr=>zf k n R U j W hr ar ht (by omega) (gU (n:=12) hE)
  have I:=Aside0.mk o
  have H1:=Aside0.mk h1
  clear o ht hE h1
  have aB:=lM (az j) n
  generalize cu (az j) n=m at I H1 aB
  by_cases hm:m=1
  ·subst hm
   go_enter Tryz.func113,Tryz.ntmps113
   go_wp2_with (first|(go_at_call 172;refine(I.out _ (Kd.aY ad _)).mono ?_;rintro e w1 ⟨A1,c1,rfl,hb⟩;have J:=Aside0.mk (aN (al (Below.refl w.heap.size w) _) hb);clear hb))
   go_ret2
   exact⟨by rw[<-H1.out];rfl,J.out⟩
  ·have hmi:((m:Nat):Int)≠1:=by omega
   go_enter Tryz.func113,Tryz.ntmps113
   go_wp2_with (first|(go_at_call 172;refine(I.out _ (Kd.aY ad _)).mono ?_;rintro e w1 ⟨A1,c1,rfl,hb⟩;have J:=Aside0.mk (aN (al (Below.refl w.heap.size w) _) hb);clear hb))
   go_ret2
   exact⟨by rw[<-H1.out,decide_eq_false hm,<-(beq_eq_false_iff_ne.2 hmi:((m:Int)==1)=false)];rfl,J.out⟩
 ·rename_i ag
  injection h with h
  injection h with h1 h2
  subst h1
  subst h2
  have o:=fun W hr=>zd k ab R U j t W hr ar ht ag
  have I:=Aside0.mk o
  clear o ht
  go_enter Tryz.func113,Tryz.ntmps113
  go_wp2_with (first|(go_at_call 172;refine(I.out _ (Kd.aY ad _)).mono ?_;rintro e w1 ⟨rfl,hb⟩;have J:=Aside0.mk (aN (al (Below.refl w.heap.size w) _) hb);clear hb))
  go_ret2
  exact⟨rfl,J.out⟩
def cN.f (k:Nat) (o:Int) (J:List (S83)) (I:Int):Option (Int):=(bH.f k o J).bind fun j=>(if j.2=0 then(if j.1=true then(if I<0 then(some 2) else(if I>=o then(some 2) else(some 0))) else(some 13)) else(some j.2))
theorem cN.mono:∀j o I k,ah (cN.f k j o I) (cN.f (k+1) j o I):=by
 intro j o I k
 unfold cN.f
 repeat' first
   |(with_reducible exact bH.mono _ _ _)
   |(with_reducible exact ah.refl _)
   |(with_reducible exact ah.none _)
   |(with_reducible refine ah.ite ?_ ?_)
   |(with_reducible refine ah.bind ?_ (fun _=>?_))
   |exact bH.mono _ _ _
   |exact ah.none _
   |refine ah.ite ?_ ?_
   |refine ah.bind ?_ (fun _=>?_)
theorem cN.calls (k:Nat) (o:Int) (ab:Option Addr) (ad:Nat) (I:List (S83)) (U:Int) (r:Int) (w:World) (bf:Kd.C aG w ab I.length I) (bg:I.length<=ad) (h:cN.f k o I U=some r):
  Calls Tryz.prog 211 #[.agg #[.int .i64 o,.slice ab I.length ad],.int .i64 U] w fun e w'=>e= .returned (.int .i64 r)∧Below w.heap.size w w':=by
 have b0:=Tryz.underlying24
 have aB:=Aside0.mk bf
 have aF:=Aside0.mk bg
 clear bf bg
 have j:=Aside0.mk (Below.refl w.heap.size w)
 have H:((bH.f k o I).bind fun a2=>(if a2.2=0 then(if a2.1=true then(if U<0 then(some 2) else(if U>=o then(some 2) else(some 0))) else(some 13)) else(some a2.2)))=some r:=h
 clear h
 replace H:=Option.bind_eq_some_iff.mp H
 obtain⟨⟨a3,ag⟩,bk,H⟩:=H
 replace H:(if ag=0 then(if a3=true then(if U<0 then(some 2) else(if U>=o then(some 2) else(some 0))) else(some 13)) else(some ag))=some r:=H
 have A3:=Aside0.mk bk
 clear bk
 by_cases c4:ag=0
 ·rw[if_pos c4] at H
  have bn:(ag==0)=true:=beq_iff_eq.mpr c4
  have bo:(ag != 0)=false:=bne_eq_false_iff_eq.mpr c4
  clear c4
  by_cases c5:a3=true
  ·subst c5
   have H1:(if U<0 then(some 2) else(if U>=o then(some 2) else(some 0)))=some r:=by rw[if_pos rfl] at H;exact H
   clear H
   have H:=H1
   clear H1
   by_cases c6:U<0
   ·rw[if_pos c6] at H
    have bw:decide (U<0)=true:=decide_eq_true c6
    clear c6
    obtain rfl:=Option.some.inj H
    go_enter Tryz.func211,Tryz.ntmps211
    go_wp2_with (first|((with_reducible refine aA (N:=2) rfl ?_);refine zX 2 #[.int .i64 o,.slice ab I.length ad] 24 ?_;intro aP R w7 aa hb;have J:=Aside0.mk (aa);have aS:=zG j R;have a0:=zG j R;replace j:=zS j hb;clear hb aa R;obtain⟨b2,b3,b4,b5⟩:=ao J)|((with_reducible refine au (f:=113) rfl ?_);refine zL (some 9) Tryz.func113 #[.agg #[.int .i64 o,.slice ab I.length ad]] ?_;(with_reducible refine(bH.calls k o _ _ I true ag _ ?ak ?an A3.out).mono ?_);(case ak=>exact Kd.aj aB.out zB);(case an=>exact aF.out);rintro e w9 ⟨rfl,hb⟩;refine⟨_,rfl,?_⟩;replace J:=zb J hb;replace j:=zS j hb;(try clear hb)))
    go_ret
    exact⟨zE,zB⟩
   ·rw[if_neg c6] at H
    have bw:decide (U<0)=false:=decide_eq_false c6
    clear c6
    by_cases av:U>=o
    ·rw[if_pos av] at H
     have bx:decide (o<=U)=true:=decide_eq_true av
     clear av
     obtain rfl:=Option.some.inj H
     go_enter Tryz.func211,Tryz.ntmps211
     go_wp2_with (first|((with_reducible refine aA (N:=2) rfl ?_);refine zX 2 #[.int .i64 o,.slice ab I.length ad] 24 ?_;intro aP R fE aa hb;have J:=Aside0.mk (aa);have aS:=zG j R;have a0:=zG j R;replace j:=zS j hb;clear hb aa R;obtain⟨b',ca,cb,cc⟩:=ao J)|((with_reducible refine au (f:=113) rfl ?_);refine zL (some 9) Tryz.func113 #[.agg #[.int .i64 o,.slice ab I.length ad]] ?_;(with_reducible refine(bH.calls k o _ _ I true ag _ ?ak ?an A3.out).mono ?_);(case ak=>exact Kd.aj aB.out zB);(case an=>exact aF.out);rintro e cd ⟨rfl,hb⟩;refine⟨_,rfl,?_⟩;replace J:=zb J hb;replace j:=zS j hb;(try clear hb);obtain⟨cf,ch,cj,ck⟩:=ao J))
     go_ret
     exact⟨zE,zB⟩
    ·rw[if_neg av] at H
     have bx:decide (o<=U)=false:=decide_eq_false av
     clear av
     obtain rfl:=Option.some.inj H
     go_enter Tryz.func211,Tryz.ntmps211
     go_wp2_with (first|((with_reducible refine aA (N:=2) rfl ?_);refine zX 2 #[.int .i64 o,.slice ab I.length ad] 24 ?_;intro aP R cl aa hb;have J:=Aside0.mk (aa);have aS:=zG j R;have a0:=zG j R;replace j:=zS j hb;clear hb aa R;obtain⟨cq,cr,cv,cx⟩:=ao J)|((with_reducible refine au (f:=113) rfl ?_);refine zL (some 9) Tryz.func113 #[.agg #[.int .i64 o,.slice ab I.length ad]] ?_;(with_reducible refine(bH.calls k o _ _ I true ag _ ?ak ?an A3.out).mono ?_);(case ak=>exact Kd.aj aB.out zB);(case an=>exact aF.out);rintro e c0 ⟨rfl,hb⟩;refine⟨_,rfl,?_⟩;replace J:=zb J hb;replace j:=zS j hb;(try clear hb);obtain⟨c1,c2,c3,c7⟩:=ao J))
     go_ret
     exact⟨zE,zB⟩
  ·replace c5:=Bool.eq_false_iff.mpr c5
   subst c5
   have H1:(some 13)=some r:=by rw[if_neg (show ¬(false=true) by decide)] at H;exact H
   clear H
   have H:=H1
   clear H1
   obtain rfl:=Option.some.inj H
   go_enter Tryz.func211,Tryz.ntmps211
   go_wp2_with (first|((with_reducible refine aA (N:=2) rfl ?_);refine zX 2 #[.int .i64 o,.slice ab I.length ad] 24 ?_;intro aP R c8 aa hb;have J:=Aside0.mk (aa);have aS:=zG j R;have a0:=zG j R;replace j:=zS j hb;clear hb aa R;obtain⟨c9,c',dd,ds⟩:=ao J)|((with_reducible refine au (f:=113) rfl ?_);refine zL (some 9) Tryz.func113 #[.agg #[.int .i64 o,.slice ab I.length ad]] ?_;(with_reducible refine(bH.calls k o _ _ I false ag _ ?ak ?an A3.out).mono ?_);(case ak=>exact Kd.aj aB.out zB);(case an=>exact aF.out);rintro e dv ⟨rfl,hb⟩;refine⟨_,rfl,?_⟩;replace J:=zb J hb;replace j:=zS j hb;(try clear hb)))
   go_ret
   exact⟨zE,zB⟩
 ·rw[if_neg c4] at H
  have bn:(ag==0)=false:=beq_eq_false_iff_ne.mpr c4
  have bo:(ag != 0)=true:=bne_iff_ne.mpr c4
  obtain rfl:=Option.some.inj H
  go_enter Tryz.func211,Tryz.ntmps211
  go_wp2_with (first|((with_reducible refine aA (N:=2) rfl ?_);refine zX 2 #[.int .i64 o,.slice ab I.length ad] 24 ?_;intro aP R ea aa hb;have J:=Aside0.mk (aa);have aS:=zG j R;have a0:=zG j R;replace j:=zS j hb;clear hb aa R;obtain⟨eb,ed,eg,ek⟩:=ao J)|((with_reducible refine au (f:=113) rfl ?_);refine zL (some 9) Tryz.func113 #[.agg #[.int .i64 o,.slice ab I.length ad]] ?_;(with_reducible refine(bH.calls k o _ _ I a3 ag _ ?ak ?an A3.out).mono ?_);(case ak=>exact Kd.aj aB.out zB);(case an=>exact aF.out);rintro e er ⟨rfl,hb⟩;refine⟨_,rfl,?_⟩;replace J:=zb J hb;replace j:=zS j hb;(try clear hb)))
  go_ret
  exact⟨zE,zB⟩
theorem zg {E:List S83} {a b:Int} (h:cn E a b>0):∃x∈E,x.f0=min a b∧x.f1=max a b:=by
 unfold cn at h
 split at h
 ·rename_i x j
  refine⟨x,List.mem_of_find?_eq_some j,?_⟩
  have:=List.find?_some j
  simpa [e9] using this
 ·omega
theorem sT {N:Int} {E:List S83} (h:ba N E) {x:S83} (j:x∈E):cn E x.f0 x.f1>0:=by
 unfold cn
 split
 ·rename_i y I
  have:=h.ok y (List.mem_of_find?_eq_some I)
  simp[b6] at this;omega
 ·rename_i o
  rw[List.find?_eq_none] at o
  have:=o x j
  have hle:=h.le x j
  simp[e9] at this;omega
theorem zh {E:List S83} {n:Nat} {S:Nat->Bool} (h:∀x∈E,S x.f0.toNat=S x.f1.toNat):gA E n S:=by
 intro a b R hb j o
 obtain⟨x,I,h0,h1⟩:=zg o
 have:=h x I
 rcases Nat.le_total a b with J|J
 ·rw[show x.f0.toNat=a by omega,show x.f1.toNat=b by omega] at this
  rw[<-this];exact j
 ·rw[show x.f0.toNat=b by omega,show x.f1.toNat=a by omega] at this
  rw[this];exact j
theorem zi {n:Nat} {E:List S83} (o:ba n E) {S:Nat->Bool} (h:gA E n S):∀x∈E,S x.f0.toNat=S x.f1.toNat:=by
 intro x I
 have hb:=sT o I
 have hok:=o.ok x I
 simp[b6] at hok
 have J:((x.f0.toNat:Nat):Int)=x.f0:=by omega
 have R:((x.f1.toNat:Nat):Int)=x.f1:=by omega
 have h1:=h x.f0.toNat x.f1.toNat (by omega) (by omega)
 have h2:=h x.f1.toNat x.f0.toNat (by omega) (by omega)
 rw[J,R] at h1
 rw[J,R,mU] at h2
 cases j:S x.f0.toNat with
 |true=>exact(h1 j hb).symm
 |false=>
  cases U:S x.f1.toNat with
  |false=>rfl
  |true=>rw[h2 U hb] at j;cases j
theorem zj (s r:List Bool) (i:Nat) (hi:i<s.length):aQ (ix s r) i=(aQ s i||aQ r i):=by
 unfold ix
 have key:∀(m j:Nat) (o:List Bool),o.length=s.length->aQ ((List.range' j m).foldl (fun s u=>s.set u (aQ s u||aQ r u)) o) i=if j<=i∧i<j+m then(aQ o i||aQ r i) else aQ o i:=by
  intro m
  induction m with
  |zero=>intro j o _;rw[if_neg (by omega)];rfl
  |succ m I=>
   intro j o ho
   rw[List.range'_succ,List.foldl_cons,I _ _ (by rw[List.length_set];exact ho),kE]
   by_cases h1:j=i
   ·subst h1
    rw[if_neg (by omega),if_pos ⟨rfl,by omega⟩,if_pos (by omega)]
   ·rw[if_neg (show ¬(j=i∧i<o.length) from fun h=>h1 h.1)]
    by_cases h2:j+1<=i∧i<j+1+m
    ·rw[if_pos h2,if_pos (by omega)]
    ·rw[if_neg h2,if_neg (by omega)]
 rw[key s.length 0 s rfl,if_pos (by omega)]
theorem sU (E:List S83) (n:Nat):∀(m v c:Nat) (s:List Bool),(∀i,v<=i->i<v+m->aQ s i=true)->fx E n m v c s=c
 |0,_,_,_,_=>rfl
 |m+1,v,c,s,h=>by
  rw[fx,if_pos (h v (Nat.le_refl _) (by omega))]
  exact sU E n m (v+1) c s (fun i h1 h2=>h i (by omega) (by omega))
theorem pg (E:List S83) (n:Nat):∀(m v c:Nat) (s:List Bool),c<=fx E n m v c s
 |0,_,_,_=>Nat.le_refl _
 |m+1,v,c,s=>by
  rw[fx]
  split
  ·exact pg E n m _ _ _
  ·exact Nat.le_trans (Nat.le_succ c) (pg E n m _ _ _)
theorem sV (E:List S83) (n:Nat):∀(m v c:Nat) (s:List Bool) (u:Nat),v<=u->u<v+m->aQ s u=false->c+1<=fx E n m v c s
 |0,_,_,_,_,_,h,_=>by omega
 |m+1,v,c,s,u,h1,h2,j=>by
  rw[fx]
  split
  ·rename_i o
   exact sV E n m (v+1) c s u (by rcases Nat.lt_or_ge v u with h|h;exact h;exfalso;have:v=u:=(by omega);subst this;rw[j] at o;cases o) (by omega) j
  ·exact pg E n m _ _ _
theorem iz {n:Nat} {E:List S83} (hn:1<=n) (hR:ba n E):partsOf E n=1↔gV n E:=by
 obtain⟨m,rfl⟩:∃m,n=m+1:=⟨n-1,by omega⟩
 obtain⟨r1,r2,r3⟩:=zc (E:=E) (n:=m+1) (v:=0) (by omega)
 have J:∀i,aQ (List.replicate (m+1) false) i=false:=fun i=>by simp[aQ,List.getD_eq_getElem?_getD,List.getElem?_replicate];split<;>rfl
 have e:partsOf E (m+1)=fx E (m+1) m 1 1 (ix (List.replicate (m+1) false) (eB E (m+1) 0)):=by
  unfold partsOf
  rw[fx,if_neg (by rw[J];decide)]
 have R:∀i,i<m+1->aQ (ix (List.replicate (m+1) false) (eB E (m+1) 0)) i=aQ (eB E (m+1) 0) i:=fun i hi=>by
  rw[zj _ _ _ (by simpa using hi),J,Bool.false_or]
 rw[e]
 constructor
 ·intro h S ak an
  refine Classical.byContradiction fun j=>?_
  have hS:∀x∈E,S x.f0.toNat=S x.f1.toNat:=fun x ar=>Classical.byContradiction fun o=>j ⟨x,ar,o⟩
  have main:∀T:Nat->Bool,(∀x∈E,T x.f0.toNat=T x.f1.toNat)->T 0=true->(∃u,u<m+1∧T u=false)->False:=by
   rintro T hT U ⟨u,hu,I⟩
   have h1:aQ (eB E (m+1) 0) u=false:=by
    cases h2:aQ (eB E (m+1) 0) u with
    |false=>rfl
    |true=>have:=r3 T (zh hT) U u h2;rw[I] at this;cases this
   have aL:u≠0:=fun e=>by subst e;rw[U] at I;cases I
   have:=sV E (m+1) m 1 1 _ u (by omega) (by omega) (by rw[R u hu];exact h1)
   omega
  cases h0:S 0 with
  |true=>exact main S hS h0 an
  |false=>
   refine main (fun u=> !S u) (fun x j=>by simp[hS x j]) (by simp[h0]) ?_
   obtain⟨u,hu,aB⟩:=ak
   exact⟨u,hu,by simp[aB]⟩
 ·intro h
  refine sU E _ m 1 1 _ fun i h1 h2=>?_
  rw[R i (by omega)]
  cases hi:aQ (eB E (m+1) 0) i with
  |true=>rfl
  |false=>
   obtain⟨x,j,o⟩:=h (aQ (eB E (m+1) 0)) ⟨0,by omega,r1⟩ ⟨i,by omega,hi⟩
   exact absurd (zi hR r2 x j) o
def dY (N:Int) (E:List S83) (q:Int):Int:=if b7 N E=0 then(if partsOf E N.toNat=1 then(if 0<=q∧q<N then 0 else 2) else 13) else b7 N E
theorem sW (N:Int) (E:List S83) (q:Int) (o:E.length<=1000):Ev (fun k=>cN.f k N E q) (dY N E q):=by
 unfold cN.f dY
 by_cases h0:b7 N E=0
 ·obtain⟨h1,R,j⟩:=gy h0
  obtain⟨n,rfl⟩:=Int.eq_ofNat_of_zero_le (show 0<=N by omega)
  refine Ev.bind (a:=(decide (partsOf E n=1),(0:Int))) ?_ ?_
  ·unfold bH.f
   have I:=oL (n:Int) E o
   rw[h0] at I
   refine Ev.bind I ?_
   have hok:jg (n:Int) E=true:=by
    unfold jg
    rw[decide_eq_true (by omega),Bool.true_and]
    refine List.all_eq_true.2 fun x J=>?_
    have:=j.ok x J
    simp[b6] at this⊢;omega
   simp only[if_true,if_pos hok,Int.toNat_natCast]
   rw[show decide (cu (az E) n=1)=decide (partsOf E n=1) by
    congr 1;exact propext ((sH (by omega) (gU j.bQ)).trans (iz (by omega) j).symm)]
   exact Ev.const _
  ·simp only[if_pos h0,if_true,Int.toNat_natCast]
   by_cases hp:partsOf E n=1
   ·simp only[decide_eq_true hp,if_true,if_pos hp]
    by_cases hq:0<=q∧q<(n:Int)
    ·simp only[if_neg (show ¬q<0 by omega),if_neg (show ¬q>=(n:Int) by omega),if_pos hq];exact Ev.const _
    ·simp only[if_neg hq]
     by_cases h1:q<0
     ·simp only[if_pos h1];exact Ev.const _
     ·simp only[if_neg h1,if_pos (show q>=(n:Int) by omega)];exact Ev.const _
   ·simp only[decide_eq_false hp,Bool.false_eq_true,if_false,if_neg hp];exact Ev.const _
 ·refine Ev.bind (a:=(false,b7 N E)) ?_ ?_
  ·unfold bH.f
   refine Ev.bind (oL N E o) ?_
   simp only[if_neg h0];exact Ev.const _
  ·simp only[if_neg h0];exact Ev.const _
end Go.Proofs.YtffdiakgjakngaaGreat.P
namespace Go.Proofs.YtffdiakgjakngaaGreat.T
set_option linter.unusedVariables false
set_option linter.unusedSimpArgs false
set_option maxHeartbeats 8000000
set_option maxRecDepth 100000
theorem zl {f:Nat->Int} {n:Nat} {M:Int} (hM:0<=M) (S:Nat->Bool) (h:∀v,v<n->S v=true->f v<=M):sN (fun v=>if S v=true then f v else 0) n<=n*M:=by
 rw[<-ig]
 refine cm fun v j=>?_
 show (if S v=true then f v else 0)<=M
 split
 ·exact h v j ‹_›
 ·exact hM
theorem mX {n:Nat} {t:Nat->Nat->Int} (j:Wt n t) (hc:cR n t) {q:Nat} (hq:q<n) {b:Nat->Int} (hb:b q=0) {M:Int} (hM:0<=M) (h:∀v,v<n->0<b v->aI n t b v<=M):∀v,v<n->b v<=n*(n*M):=by
 refine iZ j hc hq (by omega) (Int.mul_nonneg (by omega) hM) fun x J=>?_
 refine zl hM (fun v=>decide (x<b v)) fun v o I=>h v o ?_
 have:=of_decide_eq_true I
 omega
theorem zm {n:Nat} {t:Nat->Nat->Int} (o:Wt n t) (hc:cR n t) {q:Nat} (hq:q<n) {s s':Nat->Int} (h0:s q=s' q) (h:∀v,v<n->aI n t s v=aI n t s' v):∀v,v<n->s v=s' v:=by
 have h1:=mX o hc hq (b:=fun u=>s u-s' u) (by show s q-s' q=0;omega) (M:=0) (by omega) (fun v j _=>by rw[kB,h v j];omega)
 have h2:=mX o hc hq (b:=fun u=>s' u-s u) (by show s' q-s q=0;omega) (M:=0) (by omega) (fun v j _=>by rw[kB,h v j];omega)
 intro v j
 have a:=h1 v j
 have b:=h2 v j
 simp only[Int.mul_zero] at a b
 omega
theorem mY {n:Nat} {t:Nat->Nat->Int} (j:Wt n t) {q:Nat} {c:Nat->Int} (h:jO n t q c) {v:Nat} (o:v<n) (I:v≠q):c v<val n t v:=by
 obtain⟨u,hu,J,R⟩:=h (fun u=>decide (u=v)) ⟨v,o,by simp⟩ (by simpa using fun e=>I e.symm)
 obtain rfl:u=v:=of_decide_eq_true J
 refine Int.lt_of_lt_of_le R ?_
 unfold val
 refine cm fun w hw=>?_
 show (if decide (w=u)=false then t u w else 0)<=t u w
 have:=j.pos u w
 split<;>omega
theorem zn {n:Nat} {t:Nat->Nat->Int} (o:Wt n t) (hc:cR n t) {q:Nat} (hq:q<n) {D c s:Nat->Int} (hr:iq n t q c) (I:∀v,v<n->c v=D v-aI n t s v) (h0:s q=0) {B V:Int} (hB:0<=B) (hV:0<=V) (J:∀v,v<n-> -B<=D v∧D v<=B) (R:∀v,v<n->val n t v<=V):∀v,v<n-> -(n*(n*(B+V)))<=s v∧s v<=n*(n*(B+V)):=by
 have h1:=mX o hc hq (b:=s) h0 (M:=B+V) (by omega) (fun v j hp=>by
  have:=I v j
  have:=hr.1 v j (fun e=>by subst e;omega)
  have:=J v j
  omega)
 have h2:=mX o hc hq (b:=fun u=> -s u) (by show -s q=0;omega) (M:=B+V) (by omega) (fun v j hp=>by
  rw[kA]
  have:=I v j
  have U:v≠q:=fun e=>by subst e;omega
  have:=mY o hr.2 j U
  have:=R v j
  have:=J v j
  omega)
 intro v j
 have a:=h1 v j
 have b: -s v<=_:=h2 v j
 omega
theorem zo (f:Nat->Int) {q n:Nat} (hq:q<n):sN (fun v=>if v=q then 0 else f v) n=sN f n-f q:=by
 have h:=dn (fun v=>if v=q then 0 else f v) (fun v=>if v=q then f v else 0) n
 have h2:sN (fun v=>if v=q then f v else 0) n=f q:=by
  rw[ij hq (fun u _ hu=>if_neg hu)];simp
 have j:sN (fun v=>(if v=q then 0 else f v)+(if v=q then f v else 0)) n=sN f n:=bh fun v _=>by
  by_cases e:v=q<;>simp[e]
 have o:sN (fun v=>(if v=q then 0 else f v)+(if v=q then f v else 0)) n=sN (fun v=>if v=q then 0 else f v) n+sN (fun v=>if v=q then f v else 0) n:=h
 omega
theorem zp {f:Nat->Int} {q n:Nat} (hq:q<n) {a b:Int} (o:a<=0) (hb:0<=b) (h:∀v,v<n->v≠q->a<=f v∧f v<=b):sN f n-n*b<=f q∧f q<=sN f n-n*a:=by
 have h1:=zo f hq
 have h2:sN (fun v=>if v=q then 0 else f v) n<=sN (fun _=>b) n:=cm fun v j=>by
  show (if v=q then 0 else f v)<=b
  split
  ·exact hb
  ·exact(h v j ‹_›).2
 have I:sN (fun _=>a) n<=sN (fun v=>if v=q then 0 else f v) n:=cm fun v j=>by
  show a<=(if v=q then 0 else f v)
  split
  ·exact o
  ·exact(h v j ‹_›).1
 rw[ig] at h2 I
 omega
theorem mZ {f:Nat->Int} {n:Nat} {B:Int} (h:∀v,v<n-> -B<=f v∧f v<=B): -(n*B)<=sN f n∧sN f n<=n*B:=by
 have h1:sN (fun _=> -B) n<=sN f n:=cm fun v j=>(h v j).1
 have h2:sN f n<=sN (fun _=>B) n:=cm fun v j=>(h v j).2
 rw[ig] at h1 h2
 rw[Int.mul_neg] at h1
 omega
theorem ph {n:Nat} {t:Nat->Nat->Int} (o:Wt n t) (hc:cR n t) {q:Nat} (hq:q<n) {D c σ d s:Nat->Int} (hr:iq n t q c) (I:∀v,v<n->c v=D v-aI n t σ v) (h0:σ q=0) (hd:∀v,v<n->d v=D v-aI n t s v) (hp:∀v,v<n->v≠q->0<=d v):∀v,v<n->s v<=σ v+s q:=by
 have:=oS o hc hq hr hp (s:=fun u=>s u-σ u) (fun v j=>by rw[kB,I v j,hd v j];omega)
 intro v j
 have h:s v-σ v<=s q-σ q:=this v j
 omega
theorem zq {n:Nat} {t:Nat->Nat->Int} (o:Wt n t) {L:Nat->Bool} {d:Nat->Int} {T:Int} (I:0<=T) (h:∀v,v<n->L v=true->T*sN (fun u=>if L u=false then t v u else 0) n<=d v):∀v,v<n->(L v=true->0<=d v-T*aI n t (ind L) v)∧(L v=false->d v<=d v-T*aI n t (ind L) v):=by
 intro v J
 rw[oQ]
 refine⟨fun j=>?_,fun j=>?_⟩
 ·rw[if_pos j]
  have:=h v J j
  omega
 ·rw[if_neg (by simp[j]),Int.mul_neg]
  have:0<=T*sN (fun u=>if L u=true then t v u else 0) n:=Int.mul_nonneg I (cQ fun u _=>by
   show 0<=(if L u=true then t v u else 0)
   have:=o.pos v u
   split<;>omega)
  omega
end Go.Proofs.YtffdiakgjakngaaGreat.T

