/- TopRochUnwinnable answers true whatever the input (text 7 of 19): own walks and plain laws; no conditions. -/
import Derived.AtR
import Derived.BigQuiet
import Derived.BigRegion
import Derived.BigRegionIn
import Derived.Deep.QuietTactic
import Derived.Deep.RegionHeld3
import Derived.RegionIn
import Derived.RegionTactic
import Derived.Sort.LoopGhostIn
import Derived.Sort.QuietIn
import Derived.Test.YtffdiakgjakngaaGreatRoch6
namespace Go.Proofs.YtffdiakgjakngaaGreat.P
open Go.RowKit Go.Proofs.YtffdiakgjakngaaGreatW.PrintWords Go.Proofs.YtffdiakgjakngaaGreatW.PrintLast Go.Proofs.YtffdiakgjakngaaGreatW.PrintMore
set_option linter.unusedVariables false
set_option linter.unusedSimpArgs false
set_option maxHeartbeats 8000000
set_option maxRecDepth 100000
def iD.f (k:Nat) (I:Int) (J:List (S83)) (j:Int) (l2:List Int):Option (Int):=(cI.f k I J j l2).bind fun o=>(if o=0 then(if 0<=j then(if j<(l2.length:Int) then(if(rd l2 j)=0 then(some 0) else(some 3)) else(none)) else(none)) else(some o))
theorem iD.calls (k:Nat) (R:Int) (ab:Option Addr) (ad:Nat) (I:List (S83)) (j:Int) (A2:Option Addr) (c2:Nat) (l2:List Int) (r:Int) (w:World) (bw:Kd.C aG w ab I.length I) (bx:I.length<=ad) (b0:Kd.C (Kd.int .i64) w A2 l2.length l2) (b1:l2.length<=c2) (h:iD.f k R I j l2=some r):
  Calls Tryz.prog 219 #[.agg #[.int .i64 R,.slice ab I.length ad],.int .i64 j,.slice A2 l2.length c2] w fun e w'=>e= .returned (.int .i64 r)∧Below w.heap.size w w':=by
 have cd:=Tryz.underlying24
 have bf:=Aside0.mk bw
 have bg:=Aside0.mk bx
 clear bw bx
 have aL:=Aside0.mk b0
 have bk:=Aside0.mk b1
 clear b0 b1
 have o:=Aside0.mk (Below.refl w.heap.size w)
 have H:((cI.f k R I j l2).bind fun J=>(if J=0 then(if 0<=j then(if j<(l2.length:Int) then(if(rd l2 j)=0 then(some 0) else(some 3)) else(none)) else(none)) else(some J)))=some r:=h
 clear h
 replace H:=Option.bind_eq_some_iff.mp H
 obtain⟨J,b2,H⟩:=H
 replace H:(if J=0 then(if 0<=j then(if j<(l2.length:Int) then(if(rd l2 j)=0 then(some 0) else(some 3)) else(none)) else(none)) else(some J))=some r:=H
 have A4:=Aside0.mk b2
 clear b2
 by_cases c5:J=0
 ·rw[if_pos c5] at H
  have b_:(J==0)=true:=beq_iff_eq.mpr c5
  have b':(J != 0)=false:=bne_eq_false_iff_eq.mpr c5
  clear c5
  by_cases c6:0<=j
  ·rw[if_pos c6] at H
   have cf:decide (0<=j)=true:=decide_eq_true c6
   clear c6
   by_cases c7:j<(l2.length:Int)
   ·rw[if_pos c7] at H
    have ch:decide (j<(l2.length:Int))=true:=decide_eq_true c7
    clear c7
    by_cases c8:(rd l2 j)=0
    ·rw[if_pos c8] at H
     have ca:((rd l2 j)==0)=true:=beq_iff_eq.mpr c8
     have cb:((rd l2 j) != 0)=false:=bne_eq_false_iff_eq.mpr c8
     clear c8
     obtain rfl:=Option.some.inj H
     go_enter Tryz.func219,Tryz.ntmps219
     go_wp2_with (first|((with_reducible refine aA (N:=3) rfl ?_);refine zX 3 #[.int .i64 R,.slice ab I.length ad] 24 ?_;intro b3 U w9 ag hb;have aa:=Aside0.mk (ag);have b4:=zG o U;have b5:=zG o U;replace o:=zS o hb;clear hb ag U;obtain⟨ck,cl,cq,cr⟩:=ao aa)|((with_reducible refine au (f:=224) rfl ?_);refine zL (some 11) Tryz.func224 #[.agg #[.int .i64 R,.slice ab I.length ad],.int .i64 j,.slice A2 l2.length c2] ?_;(with_reducible refine(cI.calls k R _ _ I j _ _ l2 J _ ?aO ?aP ?aS ?a0 A4.out).mono ?_);(case aO=>exact Kd.aj bf.out zB);(case aP=>exact bg.out);(case aS=>exact Kd.aj aL.out zB);(case a0=>exact bk.out);rintro e fE ⟨rfl,hb⟩;refine⟨_,rfl,?_⟩;replace aa:=zb aa hb;replace o:=zS o hb;(try clear hb);have ar:0<=(j:Int):=of_decide_eq_true ‹_›;have av:j<(l2.length:Int):=of_decide_eq_true ‹_›;obtain⟨cc,bo,aB⟩:=Kd.bD aL.out j ar av;cases bo;replace aB:=(o.out.cell (World.block_lt_of_cell? w _ aB)).trans aB;replace ar:=eq_true ar;replace av:=eq_true av))
     go_ret
     exact⟨zE,zB⟩
    ·rw[if_neg c8] at H
     have ca:((rd l2 j)==0)=false:=beq_eq_false_iff_ne.mpr c8
     have cb:((rd l2 j) != 0)=true:=bne_iff_ne.mpr c8
     obtain rfl:=Option.some.inj H
     go_enter Tryz.func219,Tryz.ntmps219
     go_wp2_with (first|((with_reducible refine aA (N:=3) rfl ?_);refine zX 3 #[.int .i64 R,.slice ab I.length ad] 24 ?_;intro b3 U cv ag hb;have aa:=Aside0.mk (ag);have b4:=zG o U;have b5:=zG o U;replace o:=zS o hb;clear hb ag U;obtain⟨cx,c0,c1,c3⟩:=ao aa)|((with_reducible refine au (f:=224) rfl ?_);refine zL (some 11) Tryz.func224 #[.agg #[.int .i64 R,.slice ab I.length ad],.int .i64 j,.slice A2 l2.length c2] ?_;(with_reducible refine(cI.calls k R _ _ I j _ _ l2 J _ ?aO ?aP ?aS ?a0 A4.out).mono ?_);(case aO=>exact Kd.aj bf.out zB);(case aP=>exact bg.out);(case aS=>exact Kd.aj aL.out zB);(case a0=>exact bk.out);rintro e c4 ⟨rfl,hb⟩;refine⟨_,rfl,?_⟩;replace aa:=zb aa hb;replace o:=zS o hb;(try clear hb);have ar:0<=(j:Int):=of_decide_eq_true ‹_›;have av:j<(l2.length:Int):=of_decide_eq_true ‹_›;obtain⟨cc,bo,aB⟩:=Kd.bD aL.out j ar av;cases bo;replace aB:=(o.out.cell (World.block_lt_of_cell? w _ aB)).trans aB;replace ar:=eq_true ar;replace av:=eq_true av))
     go_ret
     exact⟨zE,zB⟩
   ·rw[if_neg c7] at H
    exact absurd H (by simp)
  ·rw[if_neg c6] at H
   exact absurd H (by simp)
 ·rw[if_neg c5] at H
  have b_:(J==0)=false:=beq_eq_false_iff_ne.mpr c5
  have b':(J != 0)=true:=bne_iff_ne.mpr c5
  obtain rfl:=Option.some.inj H
  go_enter Tryz.func219,Tryz.ntmps219
  go_wp2_with (first|((with_reducible refine aA (N:=3) rfl ?_);refine zX 3 #[.int .i64 R,.slice ab I.length ad] 24 ?_;intro b3 U c9 ag hb;have aa:=Aside0.mk (ag);have b4:=zG o U;have b5:=zG o U;replace o:=zS o hb;clear hb ag U;obtain⟨c',dd,ds,dv⟩:=ao aa)|((with_reducible refine au (f:=224) rfl ?_);refine zL (some 11) Tryz.func224 #[.agg #[.int .i64 R,.slice ab I.length ad],.int .i64 j,.slice A2 l2.length c2] ?_;(with_reducible refine(cI.calls k R _ _ I j _ _ l2 J _ ?aO ?aP ?aS ?a0 A4.out).mono ?_);(case aO=>exact Kd.aj bf.out zB);(case aP=>exact bg.out);(case aS=>exact Kd.aj aL.out zB);(case a0=>exact bk.out);rintro e ea ⟨rfl,hb⟩;refine⟨_,rfl,?_⟩;replace aa:=zb aa hb;replace o:=zS o hb;(try clear hb)))
  go_ret
  exact⟨zE,zB⟩
section
theorem WoodAt.bk {l:Nat} {A B:World} {g:Nat} {n:Int} {times:Nat->Nat->Int} {chips:Value} {burnt:Nat->Bool} (h:WoodAt A g n times chips burnt) (hb:Bk l A B):WoodAt B g n times chips burnt:=by
 obtain⟨cs,j,hc⟩:=h
 exact⟨cs,hb.cells j,hc⟩
attribute [local go_sem] Oper.semAt_some
theorem zV (g:Nat) (w:World):Calls Tryz.prog 221 #[.pointer (some ⟨g,0,none⟩)] w fun e w'=>e= .returned (.func (.func 225) #[] #[.pointer (some ⟨w.heap.size,0,none⟩)])∧w'=w.alloc (.cells #[.pointer (some ⟨g,0,none⟩)] 245):=by
 go_enter Tryz.func221,Tryz.ntmps221
 go_wp2
 go_ret
 exact⟨rfl,rfl⟩
def kI (N:Int) (E:List S83) (q:Int) (c:List Int):Bool:=decide (0<=q∧q<N∧N<=12∧(c.length:Int)=N)&&gw N E
def bK (q:Nat):Nat->Bool:=fun i=>if i=q then true else false
def iE (n:Nat) (E:List S83) (q:Nat) (c:List Int):List Nat:=dD n (bG n (af E) c) (bK q)
def jl.f (k:Nat) (N:Int) (E:List S83) (q:Int) (c:List Int):Option (List Int×List Int×Int):=
 (iD.f k N E q c).bind fun t=>if t=0 then(if kI N E q c=true then
  some (q::(iE N.toNat E q.toNat c).map Int.ofNat,eP (bM (bK q.toNat) (iE N.toNat E q.toNat c)) N.toNat,0) else none) else some ([],[],t)
theorem jl.calls (k:Nat) (aP:Int) (ds:Option Addr) (aS:Nat) (j:List (S83)) (a1:Int) (A2:Option Addr) (c2:Nat) (l2:List Int) (r1:List Int) (r2:List Int) (r3:Int) (w:World) (ch:Kd.C aG w ds j.length j) (cj:j.length<=aS) (ck:Kd.C (Kd.int .i64) w A2 l2.length l2) (cl:l2.length<=c2) (h:jl.f k aP j a1 l2=some (r1,r2,r3)):
  Calls Tryz.prog 213 #[.agg #[.int .i64 aP,.slice ds j.length aS],.int .i64 a1,.slice A2 l2.length c2] w fun e w'=>∃cq cx:Value,e= .returned (.tuple #[cq,cx,.int .i64 r3])∧Kd.R (Kd.int .i64) 3 w' w.heap.size (fun k_=>some k_≠(cx:Value).ownBlock) cq r1∧Kd.R (Kd.int .i64) 3 w' w.heap.size (fun k_=>some k_≠(cq:Value).ownBlock) cx r2∧Below w.heap.size w w':=by
 have hu:=Tryz.underlying24
 obtain⟨t,ht,H⟩:=Option.bind_eq_some_iff.mp h
 clear h
 by_cases h0:t=0
 ·subst h0
  rw[if_pos rfl] at H
  by_cases hv:kI aP j a1 l2=true
  ·rw[if_pos hv] at H
   simp only[Option.some.injEq,Prod.mk.injEq] at H
   obtain⟨rfl,rfl,rfl⟩:=H
   simp only[kI,Bool.and_eq_true,decide_eq_true_eq] at hv
   obtain⟨⟨q0,qn,fT,hlen⟩,hE⟩:=hv
   obtain⟨n,rfl⟩:=Int.eq_ofNat_of_zero_le (show 0<=aP by omega)
   obtain⟨q,rfl⟩:=Int.eq_ofNat_of_zero_le q0
   simp only[Int.toNat_natCast]
   have ek:=Aside0.mk (gU hE)
   have fr:l2.length<=n:=by omega
   have er:n<=l2.length:=by omega
   have Ht:=Aside0.mk ht
   clear hlen hE ht
   refine(callsIn_wide (n:=10)).1 ?_
   refine callsIn_of_wp_marks Tryz.func213 rfl trivial ?_ rfl
   simp only[Tryz.ntmps213,List.size_toArray,List.length_cons,List.length_nil,Nat.reduceAdd,Nat.reduceSub,Array.replicate_succ,Array.replicate_zero,List.push_toArray,List.append_toArray,List.nil_append,List.cons_append]
   gi_wp2_with (first|(refine⟨trivial,?_⟩;gi_at_call 219;refine(callsIn_wide.2 (iD.calls k _ _ aS j _ _ c2 l2 0 _ (Kd.aY ch _) cj (Kd.aY ck _) cl Ht.out)).mono ?_;rintro e w1 ⟨rfl,hb⟩;have hx:=(hb.cell (p:=⟨w.heap.size,0,none⟩) (by simp));have hy:=(hb.cell (p:=⟨w.heap.size,1,none⟩) (by simp));have HB:=Aside0.mk (kf (al (Below.refl _ _) _) (by simp) hb);clear hb)|(refine⟨trivial,?_⟩;gi_at_call 220;refine(callsIn_wide.2 (zU n q _ aS j _ c2 l2 _ (Kd.aj ch HB.out) cj (Kd.aj ck HB.out) cl (by omega) (by omega) ek.out fr er)).mono ?_;rintro e w2 ⟨g,Av,cv,rfl,hW,hR,hB,hg⟩;have c3:=Aside0.mk hW;have c4:=Aside0.mk hR;have c5:=Aside0.mk (kf HB.out HB.out.size hB);clear hW hR hB)|(refine⟨trivial,?_⟩;gi_at_call 221;refine(callsIn_wide.2 (zV g _)).mono ?_;rintro e w3 ⟨rfl,rfl⟩))
   have ft:=c3.out.lt
   have hn:w.heap.size<=w1.heap.size:=HB.out.size
   have fv:w.heap.size<=w2.heap.size:=c5.out.size
   have c6:∀k,some k=(Value.slice Av l2.length cv).ownBlock->k<w2.heap.size:=fun k hk=>Kd.bq c4.out k hk.symm
   have aB:=Aside0.mk (c3.out.below (al (al (al (Below.refl _ _) (.cells #[.int .i64 q] 3)) (.cells #[.slice (some ⟨w2.heap.size,0,none⟩) 1 1] 25)) (.cells #[.pointer (some ⟨g,0,none⟩)] 245)))
   have a2:=Aside0.mk (Kd.aD (Kd.aD (Kd.aD (Kd.fp rfl c4.out) (.cells #[.int .i64 q] 3)) (.cells #[.slice (some ⟨w2.heap.size,0,none⟩) 1 1] 25)) (.cells #[.pointer (some ⟨g,0,none⟩)] 245))
   have aF:=Aside0.mk (al (al (al c5.out (.cells #[.int .i64 q] 3)) (.cells #[.slice (some ⟨w2.heap.size,0,none⟩) 1 1] 25)) (.cells #[.pointer (some ⟨g,0,none⟩)] 245))
   have e0:Aside0 (Kd.R (Kd.int .i64) 3 (((w2.alloc (.cells #[.int .i64 q] 3)).alloc (.cells #[.slice (some ⟨w2.heap.size,0,none⟩) 1 1] 25)).alloc (.cells #[.pointer (some ⟨g,0,none⟩)] 245)) w.heap.size (fun k=>k≠g∧some k≠(Value.slice Av l2.length cv).ownBlock) (.slice (some ⟨w2.heap.size,0,none⟩) 1 1) [(q:Int)]):=by
    refine⟨Kd.aD (Kd.aD (Kd.kY (enc:=Value.int .i64) (h1:=fun _=>rfl) ?_ ?_) _) _⟩
    ·simpa [bj] using World.ownsRow_lit (base:=w.heap.size) (e:=3) (size:=1) w2 #[.int .i64 q] 1 fv (by decide) rfl
    ·intro k hk
     have e:w2.heap.size=k:=by simpa [Value.ownBlock] using hk
     refine⟨by omega,fun e2=>?_⟩
     have:=c6 k e2;omega
   have b_:Aside0 ((((w2.alloc (.cells #[.int .i64 q] 3)).alloc (.cells #[.slice (some ⟨w2.heap.size,0,none⟩) 1 1] 25)).alloc (.cells #[.pointer (some ⟨g,0,none⟩)] 245)).heap[w2.heap.size+1]? =some (.cells #[.slice (some ⟨w2.heap.size,0,none⟩) 1 1] 25 (0,0))):=
    ⟨by have h:=heap_alloc_new (w2.alloc (.cells #[.int .i64 q] 3)) (.cells #[.slice (some ⟨w2.heap.size,0,none⟩) 1 1] 25);rw[World.size_alloc] at h;exact aq h _⟩
   have a3:Aside0 ((((w2.alloc (.cells #[.int .i64 q] 3)).alloc (.cells #[.slice (some ⟨w2.heap.size,0,none⟩) 1 1] 25)).alloc (.cells #[.pointer (some ⟨g,0,none⟩)] 245)).heap[w2.heap.size+1+1]? =some (.cells #[.pointer (some ⟨g,0,none⟩)] 245 (0,0))):=
    ⟨by have h:=heap_alloc_new ((w2.alloc (.cells #[.int .i64 q] 3)).alloc (.cells #[.slice (some ⟨w2.heap.size,0,none⟩) 1 1] 25)) (.cells #[.pointer (some ⟨g,0,none⟩)] 245);simpa using h⟩
   have b':w2.heap.size+1≠g:=by omega
   have ca:w2.heap.size+1+1≠g:=by omega
   have cb:w2.heap.size+1+1≠w2.heap.size+1:=by omega
   have e1:some (w2.heap.size+1)≠(Value.slice Av l2.length cv).ownBlock:=fun e=>by have:=c6 _ e;omega
   have e3:w.heap.size<=w2.heap.size+1:=by omega
   have e4:w.heap.size<=g:=by omega
   clear c6 c3 c4 c5 HB
   generalize (((w2.alloc (.cells #[.int .i64 q] 3)).alloc (.cells #[.slice (some ⟨w2.heap.size,0,none⟩) 1 1] 25)).alloc (.cells #[.pointer (some ⟨g,0,none⟩)] 245))=W3 at aB a2 aF e0 b_ a3⊢
   generalize w2.heap.size+1+1=bw at a3 ca cb⊢
   generalize w2.heap.size+1=bo at b_ b' cb e1 e3⊢
   refine iB (σ:=Unit) (α:=Nat) (F:=Fence.wide) (n:=10) rfl (by decide) (gf:=225) (lb:=#[.pointer (some ⟨bw,0,none⟩)]) rfl trivial (enters_of Tryz.func225 (by kernel_rfl) rfl)
    (fun o=>zO g bw n (af j) Av cv l2 (bK q) _ w1.heap.size (by omega) er ?ht ca (aB.out.below (al (al (Below.refl _ _) _) _)) (aq (aq a3.out _) _) (Kd.aR (Kd.aD (Kd.aD a2.out _) _) (fun _ h=>h))) (fun _=>rfl)
    (fun _=>True) ?f' ?st ?ar
    (fun _ pre W=>W3.heap.size<=W.heap.size∧∃v,W.heap[bw]? =some (.cells #[.pointer (some ⟨g,0,none⟩)] 245 (0,0))∧W.heap[bo]? =some (.cells #[v] 25 (0,0))∧Kd.R (Kd.int .i64) 3 W w.heap.size (fun k=>k≠g∧some k≠(Value.slice Av l2.length cv).ownBlock) v ((q:Int)::pre.map Int.ofNat)∧Below w.heap.size w W) (fun _ _ _ _=>False)
    ?is (fun _ _ _ _ _ _ h _=>h) ?ib (fun _ _ _ _ _ h _=>h) ?kt ?h0 ?a1 ?assign ?body ?done (fun _ _ _ _ _ _ _ h=>h.elim)
   case assign=>
    intro l x W K hK
    gi_wp2
    exact hK
   case ht=>exact ek.out.times
   case f'=>
    intro o s W1 h
    exact⟨trivial,by rw[h];exact bJ.refl _ _⟩
   case st=>intro s A B _ h k o h1 h2 J _;exact(h.block k (Array.getElem?_eq_some_iff.1 J).1 (fun e=>by cases e;have:=aB.out.lt;omega)).trans J
   case ar=>intro s x A B _ h k o h1 h2 J _;exact(h.block k (Array.getElem?_eq_some_iff.1 J).1 (fun e=>by cases e;have:=aB.out.lt;omega)).trans J
   case is=>
    rintro s pre A B _ ⟨hs,v,h0,h1,h2,J⟩ bg
    exact⟨Nat.le_trans hs bg.size,v,(bg.block bw (aw h0) (fun e=>by cases e;exact ca rfl)).trans h0,(bg.block bo (aw h1) (fun e=>by cases e;exact b' rfl)).trans h1,Kd.ki h2 bg (fun k hk e=>hk.1 (by cases e;rfl)),jz J (some g) J.size bg (fun k e=>by cases e;exact e4)⟩
   case ib=>
    rintro s pre A B ⟨hs,v,h0,h1,h2,J⟩ hb
    exact⟨by rw[hb.size];exact hs,v,hb.cells h0,hb.cells h1,dr h2 hb,J.trans (hb.below w.heap.size (by have:=aF.out.size;omega))⟩
   case kt=>
    intro s A B C D gl gm gp k hk
    have e5:k≠W3.heap.size+1:=by
     rcases hk with rfl|rfl|hk
     ·have:=aB.out.lt;omega
     ·have:=aw a3.out;omega
     ·have:=Kd.bq a2.out k hk.symm;omega
    exact(gp.heap k e5).trans ((gm k hk).trans (gl.heap k e5))
   case h0=>
    rintro o s W1 rfl
    exact⟨by simp;omega,_,aq (aq a3.out _) _,aq (aq b_.out _) _,Kd.aD (Kd.aD e0.out _) _,al (al aF.out _) _⟩
   case body=>
    rintro l s pre x Wb W1 W _ ⟨hs,v,i0,i1,i2,i3⟩ aO hq U
    have b0:=Aside0.mk (U.cells ((aO.block bw (aw i0) (fun e=>by cases e;exact ca rfl)).trans i0))
    have b1:=Aside0.mk (U.cells ((aO.block bo (aw i1) (fun e=>by cases e;exact b' rfl)).trans i1))
    have I:=Aside0.mk (dr (Kd.ki i2 aO (fun k hk e=>hk.1 (by cases e;rfl))) U)
    have b3:=Aside0.mk ((jz i3 (some g) i3.size aO (fun k e=>by cases e;exact e4)).trans (U.below w.heap.size (by have:=aF.out.size;omega)))
    have ft:W3.heap.size<=W.heap.size:=by have:=U.size;have:=aO.size;omega
    have hr:=aB.out.lt
    clear i0 i1 i2 i3 aO
    obtain⟨Ar,cr,rfl⟩:=Kd.a7 I.out
    replace I:=Aside0.mk (show Kd.R (Kd.int .i64) 3 W w.heap.size (fun k=>k≠g∧some k≠(Value.slice Av l2.length cv).ownBlock) (.slice Ar (pre.length+1) cr) ((q:Int)::pre.map Int.ofNat) from by have h:=I.out;rw[show ((q:Int)::pre.map Int.ofNat).length=pre.length+1 from by simp] at h;exact h)
    rw[show ((q:Int)::pre.map Int.ofNat).length=pre.length+1 from by simp] at b1
    have hc:=dN b1.out
    have hf:=a9 b1.out 0
    have FR:Aside0 (∀k,W.heap.size<=k->k≠g∧some k≠(Value.slice Av l2.length cv).ownBlock):=⟨fun k hk=>⟨by omega,fun e=>by have:=Kd.bq a2.out k e.symm;omega⟩⟩
    have LN:Aside0 ((((q:Int)::pre.map Int.ofNat).length+1)*8<=140737488355328):=⟨by simp;omega⟩
    gi_wp2_with (gi_at_builtin;go_loud (refine pr (Kd.int .i64) (w0:=w) w.heap.size rfl (.tmp 29) (.tmp 31) 25 3 (.int .i64 0) 8 rfl Tryz.underlying25 fw rfl (by decide) (by omega) _ _ (x:Int) [.int .i64 x] (fun k=>k≠g∧some k≠(Value.slice Av l2.length cv).ownBlock) (fun _=>False) rfl rfl rfl (fun _ hk=>hk.elim) FR.out I.out b3.out b3.out.size LN.out ?_;intro v1 hz hown hb cd gx;obtain⟨A1,c1,rfl⟩:=Kd.a7 hown;have X1:=Aside0.mk ((cd.block bo (aw b1.out) (Kd.dj I.out b1.out (by decide))).trans b1.out);have X0:=Aside0.mk ((cd.block bw (aw b0.out) (Kd.dj I.out b0.out (by decide))).trans b0.out);have hA:=dN X1.out;have hD:=a9 X1.out 0;have g1:=Aside0.mk hown;have g2:=Aside0.mk hb;have bx:=Aside0.mk cd;clear hown hb cd gx))
    refine⟨(pv I.out bx.out).trans (eQ _ _ (aw b_.out)),fun k hk=>?_,by have:=bx.out.size;simp;omega,_,ay X0.out cb _,by simpa using bt X1.out 0 (.slice A1 (pre.length+1+1) c1),?_,dJ g2.out e3⟩
    ·have g3:k≠bo:=by
      rcases hk with rfl|rfl|hk
      ·exact fun e=>b' e.symm
      ·exact cb
      ·rintro rfl;exact e1 hk
     rw[Below.heap_setCell _ _ _ _ g3]
     rcases hk with rfl|rfl|hk
     ·exact bx.out.block k (by omega) (fun e=>(I.out.1 k e.symm).1 rfl)
     ·exact bx.out.block k (aw b0.out) (Kd.dj I.out b0.out (by decide))
     ·exact bx.out.block k (by have:=Kd.bq a2.out k hk.symm;omega) (fun e=>(I.out.1 k e.symm).2 hk)
    ·have h:=Kd.eo g1.out X1.out (by decide) 0 (.slice A1 (pre.length+1+1) c1)
     simpa using h
   case done=>
    rintro s xs W W' _ ⟨rfl,e_⟩ ⟨hs,v,i0,i1,i2,i3⟩ U e'
    have b1:=Aside0.mk (U.cells i1)
    have I:=Aside0.mk (dr i2 U)
    have b3:=Aside0.mk (i3.trans (U.below w.heap.size (by have:=aF.out.size;omega)))
    have b4:=Aside0.mk (e_.bk U)
    have fb:=Aside0.mk e'
    clear i0 i1 i2 i3 e_ e'
    have hc:=dN b1.out
    obtain⟨Ar,cr,rfl⟩:=Kd.a7 I.out
    have g4:=aw b1.out
    gi_wp2_with fail
    refine zP ?_
    gi_region_with (refine⟨trivial,?_⟩;gi_at_call 222;refine(callsIn_wide.2 (zF g n (af j) _ _ _ (by omega) b4.out.drew)).mono ?_;rintro e w5 ⟨v1,rfl,fo,c8⟩;have hG:=(c8.cell (p:=⟨bo,0,none⟩) g4).trans hc;have c9:=Aside0.mk fo;have c':=Aside0.mk c8;clear fo c8)
    all_goals gi_wp2
    all_goals
     have fq:w5.heap[W3.heap.size]? =some (.deferred (some [])):=(c'.out.block _ (Array.getElem?_eq_some_iff.1 fb.out).1).trans fb.out
     have dd:Bk W3.heap.size w5 (w5.putObj W3.heap.size (.deferred none)):=⟨_,_,fq,rfl,rfl⟩
     have g':=Kd.bY (w:=W'.drew) I.out c'.out
     refine jk (D:=W3.heap.size) rfl fq (results_tmp3 rfl _ _ _) ⟨_,_,rfl,dr (ok:=fun k_=>some k_≠v1.ownBlock) (v:=.slice Ar ((dD n (bG n (af j) l2) (bK q)).length+1) cr) ?_ dd,dr (ok:=fun k_=>some k_≠(Value.slice Ar ((dD n (bG n (af j) l2) (bK q)).length+1) cr).ownBlock) (v:=v1) ?_ dd,?_⟩
     ·refine Kd.rM rfl (ok1:=fun k=>k≠g∧some k≠(Value.slice Av l2.length cv).ownBlock) ?_ (fun k hk e=>?_)
      ·have h:=g'
       rw[show ((q:Int)::(dD n (bG n (af j) l2) (bK q)).map Int.ofNat).length=(dD n (bG n (af j) l2) (bK q)).length+1 from by simp] at h
       exact h
      ·have h1:=Kd.bq I.out k ((s9 _ _ _ _).trans hk)
       have h2:=Kd.br c9.out k e.symm
       exact absurd h1 (Nat.not_lt.2 h2)
     ·refine Kd.rM rfl (ok1:=fun _=>True) (Kd.aM c9.out b3.out.size) (fun k hk e=>?_)
      have h1:=Kd.bq I.out k ((s9 _ _ _ _).trans e.symm)
      have h2:=Kd.br c9.out k hk
      exact absurd h1 (Nat.not_lt.2 h2)
     ·exact(kf (fH b3.out) b3.out.size c'.out).trans (dd.below w.heap.size aF.out.size)
  ·rw[if_neg hv] at H
   cases H
 ·rw[if_neg h0] at H
  simp only[Option.some.injEq,Prod.mk.injEq] at H
  obtain⟨rfl,rfl,rfl⟩:=H
  have Ht:=Aside0.mk ht
  have hH:(t != 0)=true:=by simpa using h0
  clear ht h0
  go_enter Tryz.func213,Tryz.ntmps213
  go_wp2_with (go_at_call 219;refine(iD.calls k aP _ aS j a1 _ c2 l2 t _ (Kd.aY ch _) cj (Kd.aY ck _) cl Ht.out).mono ?_;rintro e w1 ⟨rfl,hb⟩;have HB:=Aside0.mk (kf (al (Below.refl _ _) _) (by simp) hb);clear hb)
  go_ret3
  exact⟨_,_,rfl,Kd.cE _ _ _ _ _,Kd.cE _ _ _ _ _,HB.out⟩
end
section
attribute [local go_sem] Oper.semAt_some
def fz (w:World) (g:Nat) (N:Int) (ev:Value) (q:Int) (dv j:Value) (e:Int):Prop:=w.heap[g]? =some (.cells #[.int .i64 N,ev,.int .i64 q,dv,j,.int .i64 e] 188 (0,0))
theorem kJ (g:Nat) (v:Int) (w:World):Calls Tryz.prog 194 #[.pointer (some ⟨g,0,none⟩),.int .i64 v] w fun e w'=>e= .returned (.func (.func 207) #[] #[.pointer (some ⟨w.heap.size,0,none⟩),.pointer (some ⟨w.heap.size+1,0,none⟩)])∧w'=(w.alloc (.cells #[.pointer (some ⟨g,0,none⟩)] 135)).alloc (.cells #[.int .i64 v] 3):=by
 go_enter Tryz.func194,Tryz.ntmps194
 go_wp2
 go_ret
 exact⟨rfl,rfl⟩
def bL (E:List S83) (v:Int):Nat->List (Int×Int)
 |0=>[]
 |k+1=>bL E v k++(if(ae E k).f0≠(ae E k).f1∧((ae E k).f0=v∨(ae E k).f1=v) then[((ae E k).f0+(ae E k).f1-v,(ae E k).f2)] else[])
def th (base a b c:Nat) (X Y:World):Prop:=(base<=X.heap.size->Below base X Y)∧∀k,(k=a∨k=b∨k=c)->k<X.heap.size->Y.heap[k]? =X.heap[k]?
theorem ti (E:List S83) (v:Int):∀(m k:Nat),∀x∈bL E v k,x∈bL E v (k+m)
 |0,k,x,j=>j
 |m+1,k,x,j=>List.mem_append.2 (.inl (ti E v m k x j))
theorem pA (o bv g n:Nat) (A0:Option Addr) (c0:Nat) (E:List S83) (q:Int) (dv sv:Value) (er:Int) (v:Nat) (w0 W:World) (b2:Kd.C aG w0 A0 E.length E) (hE:dp n E) (hn:n<=1000) (hv:v<n) (hB:Below w0.heap.size w0 W)
  (a0:W.heap[o]? =some (.cells #[.pointer (some ⟨g,0,none⟩)] 135 (0,0))) (ar:W.heap[bv]? =some (.cells #[.int .i64 v] 3 (0,0))) (a1:fz W g n (.slice A0 E.length c0) q dv sv er):
  iA (σ:=Unit) Fence.wide 9 Tryz.prog 207 #[.pointer (some ⟨o,0,none⟩),.pointer (some ⟨bv,0,none⟩)] (fun x:Int×Int=>#[.int .i64 x.1,.int .i64 x.2]) (fun _ W W1=>W1=W) (fun _ A B=>Below A.heap.size A B) (fun _ x A B=>((0<=x.1∧x.1<n∧1<=x.2∧x.2<=50)∧x∈bL E v E.length)∧Below A.heap.size A B)
   (fun _ X Y=>th w0.heap.size o bv g X Y)
   (fun _ xs W'=>xs=bL E v E.length) (fun _ _ _=>True) (fun pre=>∃k,k<E.length∧pre=bL E v k) W:=by
 intro lp J Jx b4 b5 b_ b'
 have c2:=Aside0.mk b4
 have ey:=Aside0.mk b5
 have hY:=Aside0.mk b'
 have ca:=b_ () W rfl
 clear b4 b5 b_ b'
 have e6:=Tryz.underlying188
 have hu:=Tryz.underlying24
 have e_:=Tryz.underlying83
 refine callsIn_of_wp Tryz.func207 rfl trivial ?_ rfl
 simp only[Tryz.ntmps207,List.size_toArray,List.length_cons,List.length_nil,Nat.reduceAdd,Nat.reduceSub,Array.replicate_succ,Array.replicate_zero,List.push_toArray,List.append_toArray,List.nil_append,List.cons_append]
 have b0:W.cell? ⟨o,0,none⟩=some (.pointer (some ⟨g,0,none⟩)):=(ai a0 0).trans rfl
 have s1:W.cell? ⟨g,1,none⟩=some (.slice A0 E.length c0):=(ai a1 1).trans rfl
 have cb:=Aside0.mk a0
 have cc:=Aside0.mk ar
 have R:=Aside0.mk a1
 clear a0 ar a1
 gi_wp2
 clear b0 s1
 gi_loopg [13] (E.length) (fun kq i wr=>∃k:Nat,i= .int .i64 k∧k<=E.length∧Aside0 (J () (bL E v k) wr)∧Aside0 (wr.heap[o]? =some (.cells #[.pointer (some ⟨g,0,none⟩)] 135 (0,0)))∧Aside0 (wr.heap[bv]? =some (.cells #[.int .i64 v] 3 (0,0)))∧Aside0 (fz wr g n (.slice A0 E.length c0) q dv sv er)∧Aside0 (Below w0.heap.size w0 wr)∧Aside0 (kq=E.length-k))
 case atStart=>exact⟨0,rfl,Nat.zero_le _,⟨ca⟩,cb,cc,R,⟨hB⟩,⟨rfl⟩⟩
 case round=>
  clear ca hB cb cc R
  have e':E.length<=9223372036854775807:=Kd.kZ b2
  obtain⟨k,rfl,hk,HJ,HX,HV,R,U,HK⟩:=hrel
  by_cases cf:k<E.length
  ·obtain⟨e0,e1,e2,e3,e4,e5⟩:=hE.get k cf
   have aF:=Lib.hid (show bL E v (k+1)=bL E v k++(if(ae E k).f0≠(ae E k).f1∧((ae E k).f0=v∨(ae E k).f1=v) then[((ae E k).f0+(ae E k).f1-v,(ae E k).f2)] else[]) from rfl)
   obtain⟨ad,rfl,aa,ab,ag⟩:=dK b2 k (by omega) (by omega)
   rw[Int.toNat_natCast] at aa ab ag
   generalize ae E k=x at e0 e1 e2 e3 e4 e5 aa ab ag aF
   obtain⟨a,b,m⟩:=x
   simp only at e0 e1 e2 e3 e4 e5 aa ab ag
   have fb:(0:Int)<=(k:Int):=by omega
   have fo:(k:Int)<(E.length:Int):=by omega
   have fq:(0:Int)<=(v:Int):=by omega
   have fr:(v:Int)<=1000:=by omega
   have aa:=fY U.out aa
   have ab:=fY U.out ab
   have ag:=fY U.out ag
   have v0:(wr.alloc (.cells #[.int .i64 a,.int .i64 b,.int .i64 m] 83)).cell? ⟨bv,0,none⟩=some (.int .i64 v):=(ai (aq HV.out _) 0).trans rfl
   have bg:=Aside0.mk (c2.out () _ _ _ HJ.out (al (Below.refl wr.heap.size wr) (.cells #[.int .i64 a,.int .i64 b,.int .i64 m] 83)))
   have aL:=Aside0.mk (aq HX.out (.cells #[.int .i64 a,.int .i64 b,.int .i64 m] 83))
   have aO:=Aside0.mk (aq HV.out (.cells #[.int .i64 a,.int .i64 b,.int .i64 m] 83))
   have aP:=Aside0.mk (aq R.out (.cells #[.int .i64 a,.int .i64 b,.int .i64 m] 83))
   have aS:=Aside0.mk (al U.out (.cells #[.int .i64 a,.int .i64 b,.int .i64 m] 83))
   have an:a<=1000:=by omega
   have bn:b<=1000:=by omega
   have HE:=Aside0.mk (And.intro e1 e3)
   clear e1 e3 HJ HX HV R U
   by_cases I:a=b
   ·have c7:(a != b)=false:=by simpa using I
    have bk:=Aside0.mk I
    clear I
    gi_wp2
    refine⟨(fun _ h=>(by cases h)),?_⟩
    gi_wp2
    gi_roundg (E.length- (k+1))
    case measure=>rw[HK.out];omega
    case rel=>exact⟨k+1,by go_num,by omega,⟨by rw[aF.out,if_neg (fun h=>h.1 bk.out),List.append_nil];exact bg.out⟩,aL,aO,aP,aS,⟨rfl⟩⟩
   ·have c7:(a != b)=true:=by simpa using I
    have bk:=Aside0.mk I
    clear I
    by_cases j:a=v∨b=v
    ·have cl:=Aside0.mk (show bL E v (k+1)=bL E v k++[(a+b-v,m)] from by rw[aF.out,if_pos ⟨bk.out,j⟩])
     obtain⟨fn,tmps,f',gb,hy,cq⟩:=hY.out () (bL E v k) (a+b-v,m) _ _ bg.out ⟨⟨by have:=HE.out;show 0<=a+b- (v:Int)∧a+b- (v:Int)<n∧1<=m∧m<=50;omega,by have h:=ti E v (E.length- (k+1)) (k+1) (a+b-v,m) (by rw[cl.out];simp);rw[show k+1+(E.length- (k+1))=E.length by omega] at h;exact h⟩,Below.refl _ _⟩ ⟨k,cf,rfl⟩
     have c8:=Aside0.mk cq
     simp only at hy
     clear cq
     have c9:(a==(v:Int))=true∨((a==(v:Int))=false∧(b==(v:Int))=true):=by
      by_cases h:a=v
      ·left;simpa using h
      ·right;refine⟨by simpa using h,?_⟩
       rcases j with h2|h2
       ·exact absurd h2 h
       ·simpa using h2
     clear j
     rcases c9 with cr|⟨cr,ar⟩
     all_goals
      gi_wp2
      refine c8.out.mono ?_
      rintro e W3 (⟨rfl,cv,ak⟩|⟨rfl,cx⟩)
      ·have c':=Aside0.mk cv
       have dd:=Aside0.mk ((ak.2 o (.inl rfl) (aw aL.out)).trans aL.out)
       have ds:=Aside0.mk ((ak.2 bv (.inr (.inl rfl)) (aw aO.out)).trans aO.out)
       have ea:=Aside0.mk ((ak.2 g (.inr (.inr rfl)) (aw aP.out)).trans aP.out)
       have eb:=Aside0.mk (aS.out.trans (ak.1 aS.out.size))
       clear cv ak hy v0
       gi_wp2
       gi_roundg (E.length- (k+1))
       case measure=>rw[HK.out];omega
       case rel=>exact⟨k+1,by go_num,by omega,⟨by rw[cl.out];exact c'.out⟩,dd,ds,ea,eb,⟨rfl⟩⟩
      ·have ed:=Aside0.mk cx
       clear cx hy v0
       gi_wp2
       refine bodyPost_ret (results_none rfl _ _ _) rfl ?_
       exact⟨⟨_,rfl⟩,.inr ⟨(),_,trivial,ed.out⟩⟩
    ·have cr:(a==(v:Int))=false:=by simp;exact fun h=>j (.inl h)
     have ar:(b==(v:Int))=false:=by simp;exact fun h=>j (.inr h)
     have eg:=Aside0.mk j
     clear j
     gi_wp2
     refine⟨(fun _ h=>(by cases h)),?_⟩
     gi_wp2
     gi_roundg (E.length- (k+1))
     case measure=>rw[HK.out];omega
     case rel=>exact⟨k+1,by go_num,by omega,⟨by rw[aF.out,if_neg (fun h=>eg.out h.2),List.append_nil];exact bg.out⟩,aL,aO,aP,aS,⟨rfl⟩⟩
  ·obtain rfl:k=E.length:=by omega
   gi_wp2
   go_end0
   exact⟨⟨_,rfl⟩,.inl ⟨(),_,rfl,HJ.out⟩⟩
theorem nc (o bv g n:Nat) (A0:Option Addr) (c0:Nat) (E:List S83) (q:Int) (dv R:Value) (U:Int) (v:Nat) (w0 W:World) (ab:Kd.C aG w0 A0 E.length E) (hE:dp n E) (hn:n<=1000) (hv:v<n) (hB:Below w0.heap.size w0 W)
  (ar:W.heap[o]? =some (.cells #[.pointer (some ⟨g,0,none⟩)] 135 (0,0))) (av:W.heap[bv]? =some (.cells #[.int .i64 v] 3 (0,0))) (aB:fz W g n (.slice A0 E.length c0) q dv R U):
  iA (σ:=Unit) Fence.wide 9 Tryz.prog 207 #[.pointer (some ⟨o,0,none⟩),.pointer (some ⟨bv,0,none⟩)] (fun x:Int×Int=>#[.int .i64 x.1,.int .i64 x.2]) (fun _ W W1=>W1=W) (fun _ A B=>Below A.heap.size A B) (fun _ x A B=>(0<=x.1∧x.1<n∧1<=x.2∧x.2<=50)∧Below A.heap.size A B)
   (fun _ X Y=>th w0.heap.size o bv g X Y)
   (fun _ xs W'=>xs=bL E v E.length) (fun _ _ _=>True) (fun pre=>∃k,k<E.length∧pre=bL E v k) W:=fun lp J Jx aL aO aP hY=>pA o bv g n A0 c0 E q dv R U v w0 W ab hE hn hv hB ar av aB lp J Jx (fun s pre A B j I=>aL s pre A B j I) (fun s pre A B j I=>aO s pre A B j I) aP (fun s pre x Wb W1 j aa a1=>hY s pre x Wb W1 j ⟨aa.1.1,aa.2⟩ a1)
end
def bz (out:List Int):Nat:=(out.filter fun x=>decide (0<=x)).length
theorem il (out:List Int):bz out<=out.length:=List.length_filter_le ..
theorem jm (xs:List Int) (v:Nat):rd xs (v:Int)=xs.getD v 0:=by simp[rd]
theorem pB:∀(out:List Int) (u:Nat) (x:Int),u<out.length->out.getD u 0<0->0<=x->bz (out.set u x)=bz out+1
 |[],u,x,h,_,_=>by simp at h
 |y::out,0,x,_,h,j=>by
  have o:y<0:=h
  simp[bz,j,Int.not_le.2 o]
 |y::out,u+1,x,hu,h,j=>by
  have:=pB out u x (by simpa using hu) (by simpa using h) j
  simp only[bz,List.set_cons_succ,List.filter_cons] at this⊢
  split<;>simp[this]
theorem iF (xs:List Int) (u:Nat) (x:Int) (h:u<xs.length):rd (xs.set u x) (u:Int)=x:=by
 rw[jm,List.getD_eq_getElem?_getD,List.getElem?_set_self h];rfl
theorem gC (xs:List Int) (u v:Nat) (x:Int) (h:u≠v):rd (xs.set u x) (v:Int)=rd xs (v:Int):=by
 rw[jm,jm,List.getD_eq_getElem?_getD,List.getD_eq_getElem?_getD,List.getElem?_set_ne h]
structure Bf (n q:Nat) (nb:Nat->Nat->Prop) (out:List Int) (Q:List Nat) (D:Int) (ex:Nat->Nat->Prop):Prop where
 len:out.length=n
 q0:rd out (q:Int)=0
 lo:∀v:Nat,v<n-> -1<=rd out (v:Int)
 hi:∀v:Nat,v<n->rd out (v:Int)+1<=bz out
 qv:∀x,x∈Q->x<n∧D<=rd out (x:Int)
 lV:Q.Pairwise fun (x y:Nat)=>rd out (x:Int)<=rd out (y:Int)
 top:∀v:Nat,v<n->rd out (v:Int)<=D+1
 d0:0<=D
 back:∀v:Nat,v<n->v≠q->0<=rd out (v:Int)->∃u:Nat,u<n∧nb u v∧0<=rd out (u:Int)∧rd out (u:Int)+1=rd out (v:Int)
 jn:∀v:Nat,v<n->0<=rd out (v:Int)->v∉Q->∀u:Nat,u<n->nb v u->¬ex v u->0<=rd out (u:Int)∧rd out (u:Int)<=rd out (v:Int)+1
theorem Bf.start {n q:Nat} {nb:Nat->Nat->Prop} (hq:q<n):Bf n q nb ((List.replicate n (-1)).set q 0) [q] 0 (fun _ _=>False):=by
 have h1:∀v:Nat,v<n->rd ((List.replicate n (-1)).set q 0) (v:Int)=if q=v then 0 else -1:=fun v j=>by
  split
  ·rename_i e;subst e;exact iF _ _ _ (by simpa using j)
  ·rename_i e
   rw[gC _ _ _ _ e,jm,List.getD_eq_getElem?_getD,List.getElem?_replicate,if_pos j];rfl
 have hc:bz ((List.replicate n (-1)).set q 0)=bz (List.replicate n (-1))+1:=pB _ q 0 (by simpa using hq) (by rw[List.getD_eq_getElem?_getD,List.getElem?_replicate,if_pos hq];decide) (by decide)
 refine⟨by simp,by rw[h1 q hq,if_pos rfl],fun v j=>?_,fun v j=>?_,fun x o=>?_,by simp,fun v j=>?_,by decide,fun v j I h=>?_,fun v j h J=>?_⟩
 ·rw[h1 v j];split<;>omega
 ·rw[h1 v j,hc];split<;>omega
 ·obtain rfl:=List.mem_singleton.1 o
  exact⟨hq,by rw[h1 x hq,if_pos rfl];omega⟩
 ·rw[h1 v j];split<;>omega
 ·rw[h1 v j,if_neg (fun e=>I e.symm)] at h;omega
 ·rw[h1 v j] at h
  by_cases e:q=v
  ·exact absurd (List.mem_singleton.2 e.symm) J
  ·rw[if_neg e] at h;omega
theorem Bf.pop {n q:Nat} {nb:Nat->Nat->Prop} {out:List Int} {v:Nat} {Q:List Nat} {D:Int} (h:Bf n q nb out (v::Q) D (fun _ _=>False)):Bf n q nb out Q (rd out (v:Int)) (fun x _=>x=v):=by
 have R:=h.qv v (List.mem_cons_self ..)
 have o:=List.pairwise_cons.1 h.lV
 refine⟨h.len,h.q0,h.lo,h.hi,fun x j=>⟨(h.qv x (List.mem_cons_of_mem _ j)).1,o.1 x j⟩,o.2,fun u hu=>?_,by have:=h.d0;omega,h.back,fun x j h0 I u hu J hex=>?_⟩
 ·have:=h.top u hu;omega
 ·exact h.jn x j h0 (fun hm=>by rcases List.mem_cons.1 hm with e|e;exact hex e;exact I e) u hu J (fun f=>f)
theorem Bf.look {n q:Nat} {nb:Nat->Nat->Prop} {out:List Int} {v u:Nat} {Q:List Nat} {ex:Nat->Prop} (h:Bf n q nb out Q (rd out (v:Int)) (fun x y=>x=v∧ex y)) (hu:u<n) (hv:v<n) (aL:nb v u):
  (0<=rd out (u:Int)->Bf n q nb out Q (rd out (v:Int)) (fun x y=>x=v∧ex y∧y≠u))∧
  (rd out (u:Int)<0->u≠v∧rd (out.set u (rd out (v:Int)+1)) (v:Int)=rd out (v:Int)∧bz (out.set u (rd out (v:Int)+1))=bz out+1∧Bf n q nb (out.set u (rd out (v:Int)+1)) (Q++[u]) (rd out (v:Int)) (fun x y=>x=v∧ex y∧y≠u)):=by
 have hd:=h.d0
 refine⟨fun h0=>⟨h.len,h.q0,h.lo,h.hi,h.qv,h.lV,h.top,hd,h.back,fun x j o J y I R hex=>?_⟩,fun h0=>?_⟩
 ·by_cases e:x=v∧ex y
  ·have:y=u:=Classical.byContradiction fun e2=>hex ⟨e.1,e.2,e2⟩
   subst this
   have:=h.top y I
   rw[e.1]
   exact⟨h0,this⟩
  ·exact h.jn x j o J y I R e
 ·have ar:u≠v:=fun e=>by rw[e] at h0;omega
  have av:u<out.length:=by rw[h.len];exact hu
  have e1:rd (out.set u (rd out (v:Int)+1)) (v:Int)=rd out (v:Int):=gC _ _ _ _ ar
  have e2:∀x:Nat,x<n->rd (out.set u (rd out (v:Int)+1)) (x:Int)=if u=x then rd out (v:Int)+1 else rd out (x:Int):=fun x j=>by
   split
   ·rename_i e;subst e;exact iF _ _ _ av
   ·rename_i e;exact gC _ _ _ _ e
  have hc:=pB out u (rd out (v:Int)+1) av (by rw[<-jm];exact h0) (by omega)
  have U:∀x:Nat,x<n->0<=rd out (x:Int)->rd (out.set u (rd out (v:Int)+1)) (x:Int)=rd out (x:Int):=fun x j o=>by
   rw[e2 x j,if_neg (fun e=>by subst e;omega)]
  have aa:∀x,x∈Q->rd (out.set u (rd out (v:Int)+1)) (x:Int)=rd out (x:Int):=fun x j=>U x (h.qv x j).1 (by have:=(h.qv x j).2;omega)
  refine⟨ar,e1,hc,by rw[List.length_set];exact h.len,?_,fun x j=>?_,fun x j=>?_,fun x j=>?_,?_,fun x j=>?_,hd,fun x j aO o=>?_,fun x j o J y I R hex=>?_⟩
  ·rw[gC _ _ _ _ (fun e=>by subst e;have:=h.q0;omega)];exact h.q0
  ·rw[e2 x j];split
   ·omega
   ·exact h.lo x j
  ·rw[e2 x j,hc];split
   ·have:=h.hi v hv;omega
   ·have:=h.hi x j;omega
  ·rcases List.mem_append.1 j with j|j
   ·exact⟨(h.qv x j).1,by rw[aa x j];exact(h.qv x j).2⟩
   ·obtain rfl:=List.mem_singleton.1 j
    exact⟨hu,by rw[e2 x hu,if_pos rfl];omega⟩
  ·refine List.pairwise_append.2 ⟨h.lV.imp_of_mem fun {a b} ha hb aP=>by rw[aa a ha,aa b hb];exact aP,by simp,fun a ha b hb=>?_⟩
   obtain rfl:=List.mem_singleton.1 hb
   rw[aa a ha,e2 b hu,if_pos rfl]
   have:=h.top a (h.qv a ha).1;omega
  ·rw[e2 x j];split
   ·omega
   ·exact h.top x j
  ·by_cases e:u=x
   ·subst e
    exact⟨v,hv,aL,by rw[e1];omega,by rw[e1,e2 u hu,if_pos rfl]⟩
   ·rw[e2 x j,if_neg e] at o⊢
    obtain⟨y,k1,k2,k3,k4⟩:=h.back x j aO o
    exact⟨y,k1,k2,by rw[U y k1 k3];exact k3,by rw[U y k1 k3];exact k4⟩
  ·have a1:u≠x:=fun e=>J (List.mem_append.2 (.inr (List.mem_singleton.2 e.symm)))
   rw[e2 x j,if_neg a1] at o⊢
   by_cases ey:y=u
   ·subst ey
    rw[e2 y I,if_pos rfl]
    by_cases aF:x=v
    ·rw[aF];omega
    ·have:=h.jn x j o (fun hm=>J (List.mem_append.2 (.inl hm))) y I R (fun f=>aF f.1)
     omega
   ·have:=h.jn x j o (fun hm=>J (List.mem_append.2 (.inl hm))) y I R (fun f=>hex ⟨f.1,f.2,ey⟩)
    rw[U y I this.1];exact this
end Go.Proofs.YtffdiakgjakngaaGreat.P
namespace Go.Proofs.YtffdiakgjakngaaGreat.P
open Go Go.RowKit Go.Proofs.YtffdiakgjakngaaGreatW.PrintWords Go.Proofs.YtffdiakgjakngaaGreatW.PrintLast Go.Proofs.YtffdiakgjakngaaGreatW.PrintMore
set_option linter.unusedVariables false
set_option linter.unusedSimpArgs false
set_option maxHeartbeats 8000000
set_option maxRecDepth 100000
def bN (o b:Nat) (ds:List Deferred) (w:World):Prop:=∃j:List Nat,ds=j.map (fun D=>{target:=.collected D,args:=#[]})∧j.Nodup∧∀D,D∈j->o<=D∧D<b∧w.heap[D]? =some (.deferred (some []))
theorem bN.nil (j b:Nat) (w:World):bN j b [] w:=⟨[],rfl,List.nodup_nil,fun _ h=>by cases h⟩
theorem bN.gD {I b:Nat} {ds:List Deferred} {w w':World} (h:bN I b ds w) (hk:∀D,D<b->w.heap[D]? =some (.deferred (some []))->w'.heap[D]? =some (.deferred (some []))):bN I b ds w':=by
 obtain⟨J,h1,h2,j⟩:=h
 exact⟨J,h1,h2,fun D o=>⟨(j D o).1,(j D o).2.1,hk D (j D o).2.1 (j D o).2.2⟩⟩
theorem bN.below {j b:Nat} {ds:List Deferred} {w w':World} (h:bN j b ds w) (hb:Below w.heap.size w w'):bN j b ds w':=
 h.gD fun D _ o=>(hb.block D (Array.getElem?_eq_some_iff.1 o).1).trans o
theorem bN.bk {j b l:Nat} {ds:List Deferred} {w w':World} (h:bN j b ds w) (hb:Bk l w w') (o:b<=l):bN j b ds w':=
 h.gD fun D I hd=>(hb.heap D (by omega)).trans hd
theorem bN.set {j b:Nat} {ds:List Deferred} {w:World} (h:bN j b ds w) {p:Addr} {cs:Array Value} {t:TypeId} {fr:Nat×Nat} (hp:w.heap[p.block]? =some (.cells cs t fr)) (v:Value):bN j b ds (w.setCell p v):=
 h.gD fun D _ hd=>by
  rw[Below.heap_setCell _ _ _ _ (fun e=>by rw[e,hp] at hd;cases hd)];exact hd
theorem bN.push {j b D:Nat} {ds:List Deferred} {w:World} (h:bN j b ds w) (h0:j<=D) (hb:b<=D) (hd:w.heap[D]? =some (.deferred (some []))):bN j (D+1) ({target:=.collected D,args:=#[]}::ds) w:=by
 obtain⟨I,h1,h2,o⟩:=h
 refine⟨D::I,by rw[h1];rfl,List.nodup_cons.2 ⟨fun hm=>by have:=(o D hm).2.1;omega,h2⟩,fun D' J=>?_⟩
 rcases List.mem_cons.1 J with rfl|hm
 ·exact⟨h0,by omega,hd⟩
 ·have:=o D' hm
  exact⟨this.1,by omega,this.2.2⟩
inductive eK (b:Nat):World->World->Prop
 |refl (w:World):eK b w w
 |step {w w':World} (D:Nat) (h:w.heap[D]? =some (.deferred (some []))) (hb:b<=D) (j:eK b (w.putObj D (.deferred none)) w'):eK b w w'
theorem eK.jo {b:Nat} {w w':World} (h:eK b w w'):Below b w w':=by
 induction h with
 |refl w=>exact Below.refl _ _
 |step D h hb _ j=>exact(Bk.below (l:=D) ⟨_,_,h,rfl,rfl⟩ b hb).trans j
theorem eK.cells {b:Nat} {w w':World} (h:eK b w w') {k:Nat} {cs:Array Value} {t:TypeId} {fr:Nat×Nat} (hk:w.heap[k]? =some (.cells cs t fr)):w'.heap[k]? =some (.cells cs t fr):=by
 induction h with
 |refl w=>exact hk
 |step D h hb _ j=>exact j (Bk.cells (l:=D) ⟨_,_,h,rfl,rfl⟩ hk)
theorem eK.size {b:Nat} {w w':World} (h:eK b w w'):w'.heap.size=w.heap.size:=by
 induction h with
 |refl w=>rfl
 |step D h hb _ j=>rw[j];simp[World.putObj]
theorem eK.R {α:Type} {d:Kd α} {e base b:Nat} {ok:Nat->Prop} {v:Value} {xs:List α} {A B:World} (h:eK b A B) (j:d.R e A base ok v xs):d.R e B base ok v xs:=
 Kd.aR (Kd.en (Kd.dR j) (fun k hk=>by obtain⟨_,_,_,q,_,cells,hc⟩:=hk;exact(h.cells hc).trans hc.symm)) (fun k hk=>hk.1)
theorem tj {F:Fence} {n:Nat} {P:Program} {fn:Func} {R:Ending->World->Prop} {tm:Array Value} {o:Nat}:∀(j:List Nat) (w:World),j.Nodup->(∀D,D∈j->o<=D∧w.heap[D]? =some (.deferred (some [])))->
  (∀w',eK o w w'->∃v,(results fn tm).run P w'= .ok v w'∧R (.returned v) w')->LeavesInM F n P fn tm R (j.map (fun D=>{target:=.collected D,args:=#[]})) .returning w
 |[],w,_,_,h=>by
  obtain⟨v,h1,h2⟩:=h w (eK.refl w)
  exact⟨_,h1,h2⟩
 |D::j,w,hn,I,h=>by
  have h0:=I D (List.mem_cons_self ..)
  have J:=List.nodup_cons.1 hn
  refine⟨by simp,.inl ⟨_,_,rfl,run_takeDeferred h0.2,tj j _ J.2 (fun D' U=>?_) fun w' ab=>h w' (eK.step D h0.2 h0.1 ab)⟩⟩
  have h1:=I D' (List.mem_cons_of_mem _ U)
  exact⟨h1.1,(World.putObj_heap_other (fun e=>J.1 (by rw[<-e];exact U))).trans h1.2⟩
theorem tk {F:Fence} {n:Nat} {P:Program} {fn:Func} {R:Ending->World->Prop} {tm:Array Value} {ds:List Deferred} {j b:Nat} {w:World} (hc:bN j b ds w)
  (h:∀w',eK j w w'->∃v,(results fn tm).run P w'= .ok v w'∧R (.returned v) w'):bodyPostM F n P fn R .ret {tmps:=tm,defers:=ds} w∧bodyPostM F n P fn R .normal {tmps:=tm,defers:=ds} w:=by
 obtain⟨J,rfl,h2,o⟩:=hc
 have:=tj (F:=F) (n:=n) (P:=P) (fn:=fn) (R:=R) (tm:=tm) J w h2 (fun D I=>⟨(o D I).1,(o D I).2.2⟩) h
 exact⟨this,this⟩
def jU (j:Nat) (J:Nat->Array Value->World->Prop) (n:Nat) (a:Act) (w:World):Prop:=(∃n',n'<n∧J n' a.tmps w)∧∃b,b<=w.heap.size∧bN j b a.defers w
theorem jU.intro {j:Nat} {J:Nat->Array Value->World->Prop} {n:Nat} {tm:Array Value} {ds:List Deferred} {w:World} (k:Nat) (h1:k<n) (h2:J k tm w) (b:Nat) (hb:b<=w.heap.size) (hc:bN j b ds w):jU j J n {tmps:=tm,defers:=ds} w:=⟨⟨k,h1,h2⟩,b,hb,hc⟩
theorem tl {F:Fence} {o:Nat} {P:Program} {Q:Exit->Act->World->Prop} {tm:Array Value} {ds:List Deferred} {w:World} {c:Code} (j:Nat) (I:Nat->Array Value->World->Prop) (R:Nat) (h₀:I R tm w) (b:Nat) (hb:b<=w.heap.size) (hc:bN j b ds w)
  (round:∀n tm w,I n tm w->∀ds b,b<=w.heap.size->bN j b ds w->∀(J:Nat->Array Value->World->Prop) (K:Act->World->Prop),(∀k U w',I k U w'->J k U w')->(∀a' w',jU j J n a' w'->K a' w')->c.wpIn F o P (Exit.then K Q) {tmps:=tm,defers:=ds} w):
  (Code.loop c).wpIn F o P Q {tmps:=tm,defers:=ds} w:=by
 refine wpIn_loop_ghost (fun k a w=>I k a.tmps w∧∃b,b<=w.heap.size∧bN j b a.defers w) R ⟨h₀,b,hb,hc⟩ ?_
 rintro n ⟨tm,ds⟩ w ⟨hI,b,hb,hc⟩
 exact round n tm w hI ds b hb hc I _ (fun _ _ _ q=>q) fun a' w' ⟨⟨n',h1,h2⟩,h3⟩=>⟨n',h1,h2,h3⟩
end Go.Proofs.YtffdiakgjakngaaGreat.P
namespace Go.Proofs.YtffdiakgjakngaaGreat.P
open Go.RowKit Go.Proofs.YtffdiakgjakngaaGreatW.PrintWords Go.Proofs.YtffdiakgjakngaaGreatW.PrintLast Go.Proofs.YtffdiakgjakngaaGreatW.PrintMore
set_option linter.unusedVariables false
set_option linter.unusedSimpArgs false
set_option maxHeartbeats 8000000
set_option maxRecDepth 100000
section
attribute [local go_sem] Oper.semAt_some
def df (B:Nat->Bool) (L:List (Int×Int)):Int:=L.foldl (fun s x=>if B x.1.toNat=true then wrap64 (s+x.2) else s) 0
theorem pC (B:Nat->Bool) (L:List (Int×Int)) (x:Int×Int):df B (L++[x])=if B x.1.toNat=true then wrap64 (df B L+x.2) else df B L:=by simp[df,List.foldl_append]
end
section
attribute [local go_sem] Oper.semAt_some
theorem zW (g n:Nat) (A0:Option Addr) (c0:Nat) (E:List S83) (q:Int) (dv sv:Value) (er:Int) (v:Nat) (lb:Array Value) (B:Nat->Bool) (w:World) (bw:Kd.C aG w A0 E.length E) (hE:dp n E) (hn:n<=1000) (hv:v<n) (J:fz w g n (.slice A0 E.length c0) q dv sv er)
  (hB:∀(W:World) (u:Int),Below w.heap.size w W->0<=u->u<n->Calls Tryz.prog 195 (#[.int .i64 u]++lb) W fun e w'=>e= .returned (.bool (B u.toNat))∧Below W.heap.size W w'):
  Calls Tryz.prog 168 #[.pointer (some ⟨g,0,none⟩),.int .i64 v,.func (.func 195) #[] lb] w fun e w'=>e= .returned (.int .i64 (df B (bL E v E.length)))∧Below w.heap.size w w':=by
 have c2:=Aside0.mk hB
 have HE:=Aside0.mk hE
 have b4:=Aside0.mk J
 clear hB hE J
 refine(callsIn_wide (n:=10)).1 ?_
 refine callsIn_of_wp_marks Tryz.func168 rfl trivial ?_ rfl
 simp only[Tryz.ntmps168,List.size_toArray,List.length_cons,List.length_nil,Nat.reduceAdd,Nat.reduceSub,Array.replicate_succ,Array.replicate_zero,List.push_toArray,List.append_toArray,List.nil_append,List.cons_append]
 gi_wp2_with (refine⟨trivial,?_⟩;gi_at_call 194;refine(callsIn_wide.2 (kJ g v _)).mono ?_;rintro e w3 ⟨rfl,rfl⟩)
 obtain⟨U,b5⟩:∃o:Obj,o= .cells #[.func (.func 195) #[] lb] 121:=⟨_,rfl⟩
 obtain⟨on,b_⟩:∃o:Obj,o= .cells #[.int .i64 0] 3:=⟨_,rfl⟩
 obtain⟨ox,b'⟩:∃o:Obj,o= .cells #[.pointer (some ⟨g,0,none⟩)] 135:=⟨_,rfl⟩
 obtain⟨ov,ca⟩:∃o:Obj,o= .cells #[.int .i64 v] 3:=⟨_,rfl⟩
 have Z0:=heap_alloc_new w U
 have Z1:=heap_alloc_new (w.alloc U) on
 have Z2:=heap_alloc_new ((w.alloc U).alloc on) ox
 have Z3:=heap_alloc_new (((w.alloc U).alloc on).alloc ox) ov
 simp only[World.size_alloc] at Z1 Z2 Z3
 have H0:=Aside0.mk ((aq (aq (aq Z0 on) ox) ov).trans (by rw[b5]:_=some (.cells #[.func (.func 195) #[] lb] 121 (0,0))))
 have H1:=Aside0.mk ((aq (aq Z1 ox) ov).trans (by rw[b_]:_=some (.cells #[.int .i64 0] 3 (0,0))))
 have H2:=Aside0.mk ((aq Z2 ov).trans (by rw[b']:_=some (.cells #[.pointer (some ⟨g,0,none⟩)] 135 (0,0))))
 have H3:=Aside0.mk (Z3.trans (by rw[ca]:_=some (.cells #[.int .i64 v] 3 (0,0))))
 have ad:=Aside0.mk (al (al (al (al (Below.refl w.heap.size w) U) on) ox) ov)
 have ch:Aside0 (fz ((((w.alloc U).alloc on).alloc ox).alloc ov) g n (.slice A0 E.length c0) q dv sv er):=⟨aE b4.out ad.out⟩
 have ed:g<w.heap.size:=aw b4.out
 have c4:=Aside0.mk (Kd.aj bw ad.out)
 clear Z0 Z1 Z2 Z3
 subst b5 b_ b' ca
 have c6:=ad.out.size
 have c7:((((w.alloc (.cells #[.func (.func 195) #[] lb] 121)).alloc (.cells #[.int .i64 0] 3)).alloc (.cells #[.pointer (some ⟨g,0,none⟩)] 135)).alloc (.cells #[.int .i64 v] 3)).heap.size=w.heap.size+4:=by simp
 generalize ((((w.alloc (.cells #[.func (.func 195) #[] lb] 121)).alloc (.cells #[.int .i64 0] 3)).alloc (.cells #[.pointer (some ⟨g,0,none⟩)] 135)).alloc (.cells #[.int .i64 v] 3))=R at H0 H1 H2 H3 ad ch c4 c6 c7⊢
 refine iB (σ:=Unit) (α:=Int×Int) (F:=Fence.wide) (n:=10) rfl (by decide) (gf:=207) (lb:=#[.pointer (some ⟨w.heap.size+1+1,0,none⟩),.pointer (some ⟨w.heap.size+1+1+1,0,none⟩)]) rfl trivial (enters_of Tryz.func207 (by kernel_rfl) rfl)
  (fun o=>nc (w.heap.size+1+1) (w.heap.size+1+1+1) g n A0 c0 E q dv sv er v w _ bw HE.out hn hv (al (al ad.out _) _) (aq (aq H2.out _) _) (aq (aq H3.out _) _) (aq (aq ch.out _) _)) (fun _=>rfl)
  (fun _=>True) ?c8 ?st ?ar
  (fun _ pre W=>R.heap.size<=W.heap.size∧W.heap[w.heap.size]? =some (.cells #[.func (.func 195) #[] lb] 121 (0,0))∧W.heap[w.heap.size+1]? =some (.cells #[.int .i64 (df B pre)] 3 (0,0))∧Below w.heap.size w W) (fun _ _ _ _=>False)
  ?is (fun _ _ _ _ _ _ h _=>h) ?ib (fun _ _ _ _ _ h _=>h) ?kt ?h0 ?a1 ?assign ?body ?done (fun _ _ _ _ _ _ _ h=>h.elim)
 case assign=>
  intro l x W K hK
  gi_wp2
  exact hK
 case c8=>
  intro o s W1 h
  exact⟨trivial,by rw[h];exact bJ.refl _ _⟩
 case st=>intro s A B _ h;exact cH h
 case ar=>intro s x A B _ h;exact cH h.2
 case is=>
  rintro s pre A B _ ⟨hs,h1,h2,h3⟩ J
  exact⟨Nat.le_trans hs J.size,aE h1 J,aE h2 J,aN h3 J⟩
 case ib=>
  rintro s pre A B ⟨hs,h1,h2,h3⟩ hb
  exact⟨by rw[hb.size];exact hs,hb.cells h1,hb.cells h2,h3.trans (hb.below w.heap.size (by omega))⟩
 case kt=>
  intro s A B C D aL cj ck
  refine⟨fun aK=>((aL.below w.heap.size (by omega)).trans (cj.1 (by rw[aL.size];exact aK))).trans (ck.below w.heap.size (by omega)),fun k hk an=>?_⟩
  have cl:k≠R.heap.size+1:=by rcases hk with rfl|rfl|rfl<;>omega
  exact(ck.heap k cl).trans ((cj.2 k hk (by rw[aL.size];exact an)).trans (aL.heap k cl))
 case h0=>
  rintro o s W1 rfl
  exact⟨by simp;omega,aq (aq H0.out _) _,aq (aq H1.out _) _,al (al ad.out _) _⟩
 case body=>
  rintro l s pre ⟨u,m⟩ Wb W1 W _ ⟨hs,i1,i2,i3⟩ ⟨bk,av⟩ ea I
  have b1:=Aside0.mk (I.cells (aE i1 av))
  have b2:=Aside0.mk (I.cells (aE i2 av))
  have b3:=Aside0.mk ((aN i3 av).trans (I.below w.heap.size (by omega)))
  have ev:R.heap.size<=W.heap.size:=by have:=I.size;have:=av.size;omega
  clear i1 i2 i3 av I ea
  simp only at bk
  have ew:W.cell? ⟨w.heap.size,0,none⟩=some (.func (.func 195) #[] lb):=(ai b1.out 0).trans rfl
  have HU:=Aside0.mk (c2.out W u b3.out bk.1 bk.2.1)
  have aF:=Aside0.mk (pC B pre (u,m))
  generalize df B pre=s0 at b2 aF
  cases aP:B u.toNat with
  |true=>
   rw[aP] at HU aF
   clear aP
   gi_wp2_with (refine⟨trivial,?_⟩;gi_at_call 195;refine(callsIn_wide.2 HU.out).mono ?_;rintro e w5 ⟨rfl,ag⟩;have j:=Aside0.mk ag;have D2:=Aside0.mk (aE b2.out ag);have c5:w5.cell? ⟨w.heap.size+1,0,none⟩=some (.int .i64 s0):=(ai D2.out 0).trans rfl;have f5:=a9 D2.out 0;clear ag)
   have aK:=j.out.size
   refine⟨(cH j.out).trans (eQ _ _ (by show w.heap.size+1<R.heap.size;omega)),⟨fun aK=>Below.setCell (j.out.mono aK) (by show w.heap.size<=w.heap.size+1;omega) _,fun k hk an=>?_⟩,by simp;omega,?_,?_,Below.setCell (aN b3.out j.out) (by show w.heap.size<=w.heap.size+1;omega) _⟩
   ·rw[Below.heap_setCell _ _ _ _ (by rcases hk with rfl|rfl|rfl<;>(show _≠w.heap.size+1)<;>omega)]
    exact j.out.block k an
   ·rw[Below.heap_setCell _ _ _ _ (by show w.heap.size≠w.heap.size+1;omega)]
    exact aE b1.out j.out
   ·have h:=bt D2.out 0 (.int .i64 (wrap64 (s0+m)))
    rw[aF.out]
    simpa using h
  |false=>
   rw[aP] at HU aF
   clear aP
   gi_wp2_with (refine⟨trivial,?_⟩;gi_at_call 195;refine(callsIn_wide.2 HU.out).mono ?_;rintro e w5 ⟨rfl,ag⟩;have j:=Aside0.mk ag;clear ag)
   have aK:=j.out.size
   exact⟨cH j.out,⟨fun aK=>j.out.mono aK,fun k hk an=>j.out.block k an⟩,by omega,aE b1.out j.out,by rw[aF.out];exact aE b2.out j.out,aN b3.out j.out⟩
 case done=>
  rintro s xs W W' _ rfl ⟨hs,i1,i2,i3⟩ I cr
  have b2:=Aside0.mk (I.cells i2)
  have b3:=Aside0.mk (i3.trans (I.below w.heap.size (by omega)))
  have cv:=Aside0.mk cr
  clear i1 i2 i3 cr
  have hc:W'.cell? ⟨w.heap.size+1,0,none⟩=some (.int .i64 (df B (bL E v E.length))):=(ai b2.out 0).trans rfl
  gi_wp2_with fail
  have eb:Bk R.heap.size W' (W'.putObj R.heap.size (.deferred none)):=⟨_,_,cv.out,rfl,rfl⟩
  exact jk (D:=R.heap.size) rfl cv.out (results_tmp rfl _ _ _) ⟨rfl,b3.out.trans (eb.below w.heap.size (by omega))⟩
end
section
theorem pD {b:Nat->Bool} {u:Nat}:∀(l:List Nat),b u=true->bM b l u=true:=by
 intro l
 induction l generalizing b with
 |nil=>exact id
 |cons v l j=>intro h;exact j (b:=de b v) (by unfold de;split<;>simp_all)
theorem pE (b:Nat->Bool) (v:Nat) (l:List Nat):bM b (v::l)=bM (de b v) l:=rfl
section
variable {n:Nat} {c:(Nat->Bool)->Nat->Bool}
theorem pF (hc:∀b v,c b v=true->b v=false):∀(f:Nat) (b:Nat->Bool),cY n b<=f->∀v,v<n->c (bM b (eI n c f b)) v=false:=by
 intro f
 induction f with
 |zero=>
  intro b h v o
  show c b v=false
  cases I:c b v with
  |false=>rfl
  |true=>
   have:=lS o (hc b v I)
   omega
 |succ f J=>
  intro b h v o
  cases j:iC n c b with
  |none=>
   simp only[eI,j]
   unfold iC at j
   rw[List.find?_eq_none] at j
   have:=j v (List.mem_range.2 o)
   simpa [bM] using this
  |some v0=>
   have h1:=List.find?_some j
   have h2:=List.mem_of_find?_eq_some j
   have R:=lS (List.mem_range.1 h2) (hc b v0 (by simpa using h1))
   simp only[eI,j,pE]
   exact J (de b v0) (by omega) v o
theorem zY (hm:∀(b b':Nat->Bool) v,(∀u,b u=true->b' u=true)->b' v=false->c b v=true->c b' v=true) (S:Nat->Bool):
  ∀(f:Nat) (b:Nat->Bool),(∀v,S v=true->b v=false)->(∃v,v<n∧S v=true∧bM b (eI n c f b) v=true)->∃v,v<n∧S v=true∧c (fun u=> !S u) v=true:=by
 intro f
 induction f with
 |zero=>
  rintro b hb ⟨v,J,j,h⟩
  have:=hb v j
  simp[eI,bM,this] at h
 |succ f R=>
  rintro b hb ⟨v,J,j,h⟩
  cases o:iC n c b with
  |none=>
   simp only[eI,o] at h
   have:=hb v j
   simp[bM,this] at h
  |some v0=>
   have h1:=List.find?_some o
   have h2:=List.mem_of_find?_eq_some o
   simp only[eI,o,pE] at h
   cases I:S v0 with
   |true=>
    refine⟨v0,List.mem_range.1 h2,I,hm b _ v0 (fun u hu=>?_) (by simp[I]) (by simpa using h1)⟩
    cases U:S u with
    |true=>exact absurd hu (by simp[hb u U])
    |false=>rfl
   |false=>
    refine R (de b v0) (fun u hu=>?_) ⟨v,J,j,h⟩
    unfold de
    rw[if_neg (fun e=>by subst e;rw[I] at hu;cases hu)]
    exact hb u hu
theorem zZ (hc:∀b v,c b v=true->b v=false) (hm:∀(b b':Nat->Bool) v,(∀u,b u=true->b' u=true)->b' v=false->c b v=true->c b' v=true) (b:Nat->Bool):
  (∀v,v<n->bM b (dD n c b) v=true)↔∀S:Nat->Bool,(∃v,v<n∧S v=true)->(∀v,S v=true->b v=false)->∃v,v<n∧S v=true∧c (fun u=> !S u) v=true:=by
 constructor
 ·rintro h S ⟨v,j,I⟩ hb
  exact zY hm S (cY n b) b hb ⟨v,j,I,h v j⟩
 ·intro h v j
  cases J:bM b (dD n c b) v with
  |true=>rfl
  |false=>
   obtain⟨u,hu,U,o⟩:=h (fun u=> !bM b (dD n c b) u) ⟨v,j,by simp[J]⟩ (fun u hu=>by
    cases R:b u with
    |false=>rfl
    |true=>simp[pD _ R] at hu)
   have:=pF (n:=n) hc (cY n b) b (Nat.le_refl _) u hu
   simp only[Bool.not_not] at o
   rw[show dD n c b=eI n c (cY n b) b from rfl] at o
   rw[this] at o
   cases o
end
theorem tn {t:Nat->Nat->Int} (o:∀i j,0<=t i j) {b b':Nat->Bool} (h:∀u,b u=true->b' u=true) (v:Nat):∀u,bX t b v u<=bX t b' v u
 |0=>Int.le_refl _
 |u+1=>by
  have h1:=tn o h v u
  have h2:=h u
  have I:=o v u
  simp only[bX]
  by_cases hb:b u=true
  ·rw[if_pos hb,if_pos (h2 hb)];omega
  ·rw[if_neg hb]
   split<;>omega
theorem tp {t:Nat->Nat->Int} {b b':Nat->Bool} (v:Nat):∀n,(∀u,u<n->b u=b' u)->bX t b v n=bX t b' v n
 |0,_=>rfl
 |n+1,h=>by
  simp only[bX]
  rw[tp v n (fun u hu=>h u (by omega)),h n (by omega)]
def jq (n:Nat) (t:Nat->Nat->Int) (q:Nat) (c:Nat->Int):Prop:=∀S:Nat->Bool,(∃v,v<n∧S v=true)->S q=false->∃v,v<n∧S v=true∧c v<bX t (fun u=> !S u) v n
def bs (n:Nat) (t:Nat->Nat->Int) (q:Nat) (l:List Int):Bool:=(List.range n).all (bM (bK q) (dD n (bG n t l) (bK q)))
theorem jr {n:Nat} {t:Nat->Nat->Int} (R:∀i j,0<=t i j) (q:Nat) (l:List Int):bs n t q l=true↔jq n t q (fun v=>rd l v):=by
 have h:=zZ (n:=n) (c:=bG n t l) (fun b v h=>lT b v h) (fun b b' v hb o I=>by
  unfold bG at I⊢
  simp only[Bool.and_eq_true,decide_eq_true_eq] at I⊢
  exact⟨by simp[o],Int.lt_of_lt_of_le I.2 (tn R hb v n)⟩) (bK q)
 unfold bs jq
 rw[List.all_eq_true]
 constructor
 ·intro h1 S hS hq
  obtain⟨v,o,J,I⟩:=h.1 (fun v o=>h1 v (List.mem_range.2 o)) S hS (fun v o=>by
   unfold bK
   rw[if_neg (fun e=>by subst e;rw[hq] at o;cases o)])
  unfold bG at I
  simp only[Bool.and_eq_true,decide_eq_true_eq] at I
  exact⟨v,o,J,I.2⟩
 ·intro h1 v o
  refine h.2 (fun S hS hb=>?_) v (List.mem_range.1 o)
  obtain⟨v,o,J,I⟩:=h1 S hS (by
   cases U:S q with
   |false=>rfl
   |true=>have:=hb q U;simp[bK] at this)
  refine⟨v,o,J,?_⟩
  unfold bG
  simp[J,I]
theorem jq.down {n:Nat} {t:Nat->Nat->Int} {q:Nat} {c j:Nat->Int} (h:jq n t q c) (hc:∀v,v<n->j v<=c v):jq n t q j:=by
 intro S hS hq
 obtain⟨v,o,I,J⟩:=h S hS hq
 exact⟨v,o,I,Int.lt_of_le_of_lt (hc v o) J⟩
def valOf (n:Nat) (t:Nat->Nat->Int) (v:Nat):Int:=bX t (fun u=> !decide (u=v)) v n
theorem jq.lt {n:Nat} {t:Nat->Nat->Int} {q:Nat} {c:Nat->Int} (h:jq n t q c) {v:Nat} (j:v<n) (hq:v≠q):c v<valOf n t v:=by
 obtain⟨u,hu,o,I⟩:=h (fun u=>decide (u=v)) ⟨v,j,by simp⟩ (by simpa using fun e=>hq e.symm)
 have:u=v:=by simpa using o
 subst this
 exact I
end
theorem z7 (gb j cr n:Nat) (B:Nat->Bool) (ok:Nat->Prop) (base:Nat) (W:World) (u:Int) (hb:W.heap[gb]? =some (.cells #[.slice (some ⟨j,0,none⟩) n cr] 43 (0,0))) (o:Kd.bool.R 4 W base ok (.slice (some ⟨j,0,none⟩) n cr) ((List.range n).map B)) (h0:0<=u) (I:u<n):
  Calls Tryz.prog 195 #[.int .i64 u,.pointer (some ⟨gb,0,none⟩)] W fun e w'=>e= .returned (.bool (B u.toNat))∧Below W.heap.size W w':=by
 have J:W.cell? ⟨gb,0,none⟩=some (.slice (some ⟨j,0,none⟩) n cr):=(ai hb 0).trans rfl
 have hc:=(Kd.bB false o u h0 I).1
 have e:bl false ((List.range n).map B) u=B u.toNat:=by
  obtain⟨m,rfl⟩:=Int.eq_ofNat_of_zero_le h0
  have:m<n:=by omega
  simp[bl,List.getD_eq_getElem?_getD,List.getElem?_map,List.getElem?_range this]
 rw[e] at hc
 have hc:W.cell? ⟨j,u.toNat,none⟩=some (.bool (B u.toNat)):=hc
 clear o hb e
 go_enter Tryz.func195,Tryz.ntmps195
 go_wp2
 go_ret
 exact⟨rfl,Below.refl _ _⟩
theorem z8 (n:Nat) (B:Nat->Bool) (v:Nat):((List.range n).map B).set v true=(List.range n).map (de B v):=by
 refine List.ext_getElem (by simp) fun i h1 h2=>?_
 rw[List.getElem_set]
 simp only[List.getElem_map,List.getElem_range]
 unfold de
 by_cases e:v=i
 ·subst e;simp
 ·rw[if_neg e,if_neg (fun h=>e h.symm)]
theorem z9 (n q:Nat):(List.replicate n false).set q true=(List.range n).map (bK q):=by
 refine List.ext_getElem (by simp) fun i h1 h2=>?_
 rw[List.getElem_set]
 simp only[List.getElem_map,List.getElem_range,List.getElem_replicate]
 unfold bK
 by_cases e:q=i
 ·subst e;simp
 ·rw[if_neg e,if_neg (fun h=>e h.symm)]
theorem z_ {n:Nat} {c:(Nat->Bool)->Nat->Bool} {b F:Nat->Bool} (hm:∀(b b':Nat->Bool) v,(∀u,u<n->b u=true->b' u=true)->b' v=false->c b v=true->c b' v=true) (hF:∀v,v<n->c F v=false) (hb:∀v,v<n->b v=true->F v=true):
  ∀(f:Nat) (b:Nat->Bool),(∀v,v<n->b v=true->F v=true)->∀v,v<n->bM b (eI n c f b) v=true->F v=true:=by
 intro f
 induction f with
 |zero=>intro b hb v j h;exact hb v j h
 |succ f J=>
  intro b hb v j h
  cases o:iC n c b with
  |none=>simp only[eI,o] at h;exact hb v j h
  |some v0=>
   have h1:=List.find?_some o
   have h2:=List.mem_range.1 (List.mem_of_find?_eq_some o)
   simp only[eI,o,pE] at h
   refine J (de b v0) (fun u hu I=>?_) v j h
   unfold de at I
   by_cases e:u=v0
   ·subst e
    cases R:F u with
    |true=>rfl
    |false=>have:=hm b F u hb R (by simpa using h1);rw[hF u hu] at this;cases this
   ·rw[if_neg e] at I;exact hb u hu I
def a5 (n:Nat) (t:Nat->Nat->Int) (q:Nat) (d:List Int):Nat->Bool:=bM (bK q) (dD n (bG n t d) (bK q))
theorem tq {n:Nat} {t:Nat->Nat->Int} (o:∀i j,0<=t i j) {d:List Int} (b b':Nat->Bool) (v:Nat) (h:∀u,u<n->b u=true->b' u=true) (I:b' v=false) (hc:bG n t d b v=true):bG n t d b' v=true:=by
 unfold bG at hc⊢
 simp only[Bool.and_eq_true,decide_eq_true_eq] at hc⊢
 have hf:∀m,m<=n->bX t b v m<=bX t b' v m:=by
  intro m
  induction m with
  |zero=>intro _;exact Int.le_refl _
  |succ m J=>
   intro hm
   have h1:=J (by omega)
   have h2:=o v m
   have R:=h m (by omega)
   simp only[bX]
   by_cases hb:b m=true
   ·rw[if_pos hb,if_pos (R hb)];omega
   ·rw[if_neg hb];split<;>omega
 exact⟨by simp[I],Int.lt_of_lt_of_le hc.2 (hf n (Nat.le_refl _))⟩
theorem z' {n:Nat} {t:Nat->Nat->Int} (R:∀i j,0<=t i j) {q:Nat} {d:List Int} {B:Nat->Bool} (hq:B q=true) (U:∀v,v<n->B v=true->a5 n t q d v=true) (hc:∀v,v<n->bG n t d B v=false):∀v,v<n->a5 n t q d v=B v:=by
 intro v o
 cases I:B v with
 |true=>exact U v o I
 |false=>
  cases hF:a5 n t q d v with
  |false=>rfl
  |true=>
   have J:∀u,u<n->bK q u=true->B u=true:=fun u _ hu=>by
    unfold bK at hu
    by_cases e:u=q
    ·rw[e];exact hq
    ·rw[if_neg e] at hu;cases hu
   have:=z_ (b:=bK q) (fun b b' v h1 h2 h3=>tq R b b' v h1 h2 h3) hc J _ (bK q) J v o hF
   rw[I] at this;cases this
theorem Aa {n:Nat} {t:Nat->Nat->Int} (I:∀i j,0<=t i j) {q:Nat} {d:List Int} {B:Nat->Bool} (o:∀v,v<n->B v=true->a5 n t q d v=true) {v:Nat} (J:v<n) (hc:bG n t d B v=true):∀u,u<n->de B v u=true->a5 n t q d u=true:=by
 intro u hu h
 unfold de at h
 by_cases e:u=v
 ·subst e
  cases hF:a5 n t q d u with
  |true=>rfl
  |false=>
   have h1:=pF (n:=n) (c:=bG n t d) (fun b v h=>lT b v h) (cY n (bK q)) (bK q) (Nat.le_refl _) u hu
   have h2:=tq I B (a5 n t q d) u o hF hc
   rw[show bG n t d (bM (bK q) (eI n (bG n t d) (cY n (bK q)) (bK q))) u=bG n t d (a5 n t q d) u from rfl,h2] at h1
   cases h1
 ·rw[if_neg e] at h;exact o u hu h
theorem Ab (g n:Nat) (A0:Option Addr) (c0:Nat) (E:List S83) (q:Nat) (Ad:Option Addr) (cd:Nat) (d:List Int) (sv:Value) (er:Int) (w:World) (gg:Kd.C aG w A0 E.length E) (hE:dp n E) (hn:n<=1000) (hq:q<n) (cc:fz w g n (.slice A0 E.length c0) q (.slice Ad d.length cd) sv er)
  (hd:Kd.C (Kd.int .i64) w Ad d.length d) (ek:d.length=n) (ev:∀(B:Nat->Bool) (v:Nat),v<n->B v=false->df B (bL E v E.length)=bX (af E) B v n):
  Calls Tryz.prog 170 #[.pointer (some ⟨g,0,none⟩)] w fun e w'=>∃gl cl,e= .returned (.tuple #[.slice (some ⟨gl,0,none⟩) n cl,.bool ((List.range n).any fun v=> !a5 n (af E) q d v)])∧Kd.bool.R 4 w' w.heap.size (fun _=>True) (.slice (some ⟨gl,0,none⟩) n cl) ((List.range n).map fun v=> !a5 n (af E) q d v)∧Below w.heap.size w w':=by
 have hI:=Tryz.underlying188
 have hu:=Tryz.underlying24
 have gm:=Aside0.mk ev
 have HE:=Aside0.mk hE
 have b3:=Aside0.mk cc
 have HD:=Aside0.mk hd
 have s0:w.cell? ⟨g,0,none⟩=some (.int .i64 n):=(ai cc 0).trans rfl
 have e0:=ek
 have gp:=Aside0.mk e0
 clear ev hE cc hd ek e0
 have e3:(0:Int)<=(n:Int):=by omega
 go_enter Tryz.func170,Tryz.ntmps170
 go_wp2_with (first|((with_reducible refine aA (N:=16) rfl ?_);refine Kd.iU Kd.bool _ 4 rfl (N:=16) rfl 43 _ _ rfl (n:Int) rfl rfl Tryz.underlying43 (.bool false) 1 lE rfl (by decide) (by omega) false (ok:=fun _=>True) (okp:=fun _=>True) rfl (fun _ hk=>hk) trivial e3 (by simp;omega) (Below.refl _ _) (Nat.le_refl _) ?_;intro v1 w1 ho hb cf ch;rw[Int.toNat_natCast] at ho;obtain⟨o,cr,hv,e4,cj, -⟩:=Kd.eH ho (by rw[List.length_replicate];omega);rw[List.length_replicate] at hv;subst hv;have e5:=Aside0.mk ho;have ck:=Aside0.mk hb;clear ho hb cf ch))
 have gq:=ck.out.size
 have aB:=Aside0.mk (heap_alloc_new w1 (.cells #[.slice (some ⟨o,0,none⟩) n cr] 43))
 have a0:=Aside0.mk (Kd.aD e5.out (.cells #[.slice (some ⟨o,0,none⟩) n cr] 43))
 have aF:=Aside0.mk (al ck.out (.cells #[.slice (some ⟨o,0,none⟩) n cr] 43))
 have cq:=Aside0.mk (aE b3.out aF.out)
 have e6:=Aside0.mk (Kd.aj HD.out aF.out)
 have hJ:g<w.heap.size:=aw b3.out
 have gx:o<w1.heap.size:=cj
 clear e5 ck cj s0
 generalize w1.alloc (.cells #[.slice (some ⟨o,0,none⟩) n cr] 43)=W2 at aB a0 aF cq e6⊢
 generalize w1.heap.size=gb at aB gx gq⊢
 have b0:W2.cell? ⟨gb,0,none⟩=some (.slice (some ⟨o,0,none⟩) n cr):=(ai aB.out 0).trans rfl
 have s2:W2.cell? ⟨g,2,none⟩=some (.int .i64 q):=(ai cq.out 2).trans rfl
 obtain⟨J,hf⟩:=Kd.bB false a0.out (q:Int) (by omega) (by omega)
 rw[Int.toNat_natCast] at J hf
 have e_:W2.cell? ⟨o,q,none⟩=some (.bool (bl false (List.replicate n false) q)):=J
 have hK:(0:Int)<=(q:Int):=by omega
 have hL:(q:Int)<(n:Int):=by omega
 clear J
 generalize bl false (List.replicate n false) q=x0 at e_
 go_region
 go_wp2
 have HP:=Kd.cL a0.out (q:Int) true
 rw[Int.toNat_natCast,z9] at HP
 have cv:=Aside0.mk (Kd.a8 HP.1)
 have cx:=Aside0.mk (eG (cg (g:=gb) aB.out HP.2 (fun e=>by injection e with e;omega)))
 have c1:=Aside0.mk (bu (Below.setCell (p:=⟨o,q,none⟩) aF.out e4 (.bool true)))
 have ht:∀i j,0<=af E i j:=fun i j=>(HE.out.times i j).1
 have HT:=Aside0.mk ht
 have fo:=Aside0.mk (show bK q q=true by simp[bK])
 have fq:Aside0 (∀v,v<n->bK q v=true->a5 n (af E) q d v=true):=⟨fun v hv h=>pD _ h⟩
 have g0:gb≠o:=by omega
 clear HP a0 aB cq aF e6 b0 s2 e_ hf ht
 generalize (W2.setCell ⟨o,q,none⟩ (.bool true)).drew=W3 at cv cx c1⊢
 go_loopg [6] (2*n+2) (fun kq ag wr=>∃(B:Nat->Bool) (b:Bool),ag= .bool b∧Aside0 (B q=true)∧Aside0 (∀v,v<n->B v=true->a5 n (af E) q d v=true)∧Aside0 (b=false->∀v,v<n->bG n (af E) d B v=false)∧Aside0 (wr.heap[gb]? =some (.cells #[.slice (some ⟨o,0,none⟩) n cr] 43 (0,0)))∧Aside0 (Kd.bool.R 4 wr w.heap.size (fun _=>True) (.slice (some ⟨o,0,none⟩) n cr) ((List.range n).map B))∧Aside0 (Below w.heap.size w wr)∧Aside0 (2*cY n B+(if b=true then 1 else 0)<=kq))
 case atStart=>exact⟨bK q,true,rfl,fo,fq,⟨fun h=>by cases h⟩,cx,cv,c1,⟨by have:=s7 n (bK q);simp;omega⟩⟩
 case round=>
  clear fo fq cx cv c1
  obtain⟨B,b,rfl,HQ,HF,c4,HX,HR,U,HK⟩:=hrel
  have aL:=Aside0.mk (aE b3.out U.out)
  have s0:wr.cell? ⟨g,0,none⟩=some (.int .i64 n):=(ai aL.out 0).trans rfl
  cases b with
  |true=>
   go_wp2
   go_loopg [6,30] (n) (fun kq ag vv wr=>∃(v:Nat) (I:Nat->Bool) (b':Bool),ag= .bool b'∧vv= .int .i64 v∧v<=n∧Aside0 (I q=true)∧Aside0 (∀v,v<n->I v=true->a5 n (af E) q d v=true)∧Aside0 (b'=false->I=B∧∀u,u<v->bG n (af E) d B u=false)∧Aside0 (cY n I+(if b'=true then 1 else 0)<=cY n B)∧Aside0 (wr.heap[gb]? =some (.cells #[.slice (some ⟨o,0,none⟩) n cr] 43 (0,0)))∧Aside0 (Kd.bool.R 4 wr w.heap.size (fun _=>True) (.slice (some ⟨o,0,none⟩) n cr) ((List.range n).map I))∧Aside0 (Below w.heap.size w wr)∧Aside0 (kq=n-v))
   case atStart=>exact⟨0,B,false,rfl,rfl,by omega,HQ,HF,⟨fun _=>⟨rfl,fun u hu=>by omega⟩⟩,⟨by simp⟩,HX,HR,U,⟨rfl⟩⟩
   case round=>
    clear aL s0 HQ HF c4 HX HR U
    obtain⟨v,I,b',rfl,rfl,hv,HQ,HF,aO,HU,HX,HR,U,c5⟩:=hrel
    by_cases aP:v<n
    ·have g2:(0:Int)<=(v:Int):=by omega
     have g3:(v:Int)<(n:Int):=by omega
     have b0:wr.cell? ⟨gb,0,none⟩=some (.slice (some ⟨o,0,none⟩) n cr):=(ai HX.out 0).trans rfl
     obtain⟨J,hf⟩:=Kd.bB false HR.out (v:Int) (by omega) (by omega)
     rw[Int.toNat_natCast] at J hf
     have e1:bl false ((List.range n).map I) v=I v:=by simp[bl,List.getD_eq_getElem?_getD,List.getElem?_map,List.getElem?_range aP]
     rw[e1] at J
     replace J:wr.cell? ⟨o,v,none⟩=some (.bool (I v)):=J
     clear e1
     cases a3:I v with
     |true=>
      rw[a3] at J
      have bo:=Aside0.mk a3
      clear a3
      go_wp2_with fail
      go_quiet (fail)
      go_wp2
      go_roundg (n- (v+1))
      case measure=>rw[c5.out];omega
      case rel=>exact⟨v+1,I,b',rfl,by go_num,by omega,HQ,HF,⟨fun h=>⟨(aO.out h).1,fun u hu=>by
       by_cases e:u=v
       ·subst e
        have:=(aO.out h).1
        have h3:=bo.out
        rw[this] at h3
        unfold bG
        rw[h3];rfl
       ·exact(aO.out h).2 u (by omega)⟩⟩,HU,⟨by repeat(first|exact HX.out|apply hZ|apply eG)⟩,⟨by repeat(first|exact HR.out|apply Kd.bd|apply Kd.a8)⟩,⟨by repeat(first|exact U.out|apply bC|apply bu)⟩,⟨rfl⟩⟩
     |false=>
      rw[a3] at J
      have bo:=Aside0.mk a3
      have aL:=Aside0.mk (aE b3.out U.out)
      have s3:wr.cell? ⟨g,3,none⟩=some (.slice Ad d.length cd):=(ai aL.out 3).trans rfl
      have g':=gp.out
      obtain⟨a,ea,hx⟩:=Kd.bD (Kd.aj HD.out U.out) v (by omega) (by omega)
      subst ea
      rw[Int.toNat_natCast] at hx
      have hO:(v:Int)<(d.length:Int):=by omega
      have hP:=aw HX.out
      have hQ:=Kd.bq HR.out o rfl
      have hR:=aw aL.out
      have hT:=World.block_lt_of_cell? _ _ hx
      clear a3 g'
      go_wp2_with fail
      go_region_held3 (fun w'=>w'.cell? ⟨gb,0,none⟩=some (.slice (some ⟨o,0,none⟩) n cr)∧w'.cell? ⟨o,v,none⟩=some (.bool false)∧w'.cell? ⟨g,3,none⟩=some (.slice (some a) d.length cd)∧w'.cell? (a.add v)=some (.int .i64 (rd d v)))
       (first|go_keep|(go_split_ands;exact⟨(aS.cell (p:=⟨gb,0,none⟩) (by simp;omega)).trans (by go_simp),(aS.cell (p:=⟨o,v,none⟩) (by simp;omega)).trans (by go_simp),(aS.cell (p:=⟨g,3,none⟩) (by simp;omega)).trans (by go_simp),(aS.cell (p:=a.add v) (by simp;omega)).trans (by go_simp)⟩))
       (first|(go_at_call 168;refine(zW g n A0 c0 E q _ sv er v #[.pointer (some ⟨gb,0,none⟩)] I _ (Kd.aj gg zB) HE.out hn aP (zK aL) (fun W u fr hc hg=>z7 gb o cr n I _ _ W u (aE (zK HX) fr) (Kd.bY (zR HR) fr) hc hg)).mono ?_;rintro e w5 ⟨rfl,aS⟩))
      have a1:=zb HX aS
      have bf:=bm HR aS
      have b1:=zS U aS
      have ft:=Aside0.mk (gm.out I v aP bo.out)
      have fv:bG n (af E) d I v=decide (rd d v<df I (bL E v E.length)):=by unfold bG;rw[bo.out,ft.out];rfl
      have c7:=Aside0.mk fv
      rename_i hHeld
      clear hHeld fv aS HX HR U aL J hf b0 s3 hx
      generalize df I (bL E v E.length)=x at c7 ft⊢
      have b5:w5.cell? ⟨gb,0,none⟩=some (.slice (some ⟨o,0,none⟩) n cr):=(ai a1.out 0).trans rfl
      obtain⟨J,hf⟩:=Kd.bB false bf.out (v:Int) (by omega) (by omega)
      rw[Int.toNat_natCast] at J hf
      generalize bl false ((List.range n).map I) (v:Int)=z at J
      replace J:w5.cell? ⟨o,v,none⟩=some (.bool z):=J
      by_cases f':rd d v<x
      ·have b2:decide (rd d v<x)=true:=decide_eq_true f'
       have c9:Aside0 (bG n (af E) d I v=true):=⟨c7.out.trans b2⟩
       have HP:=Kd.cL bf.out (v:Int) true
       rw[Int.toNat_natCast,z8] at HP
       have hh:=Aside0.mk HP.1
       have hj:=Aside0.mk (cg (g:=gb) a1.out HP.2 (fun e=>by injection e with e;exact g0 e))
       have hl:=Aside0.mk (Below.setCell (p:=⟨o,v,none⟩) b1.out e4 (.bool true))
       clear HP
       simp only[b2]
       go_wp2
       go_roundg (n- (v+1))
       case measure=>rw[c5.out];omega
       case rel=>exact⟨v+1,de I v,true,rfl,by go_num,by omega,⟨by unfold de;split;rfl;exact HQ.out⟩,⟨Aa HT.out HF.out aP c9.out⟩,⟨fun h=>by cases h⟩,⟨by have h1:=lS aP bo.out;have h2:=HU.out;simp;split at h2<;>omega⟩,hj,hh,hl,⟨rfl⟩⟩
      ·have b2:decide (rd d v<x)=false:=decide_eq_false f'
       have c9:Aside0 (bG n (af E) d I v=false):=⟨c7.out.trans b2⟩
       clear J hf b5
       simp only[b2]
       go_wp2
       go_roundg (n- (v+1))
       case measure=>rw[c5.out];omega
       case rel=>exact⟨v+1,I,b',rfl,by go_num,by omega,HQ,HF,⟨fun h=>⟨(aO.out h).1,fun u hu=>by
        by_cases e:u=v
        ·subst e
         have h3:=c9.out
         rw[(aO.out h).1] at h3
         exact h3
        ·exact(aO.out h).2 u (by omega)⟩⟩,HU,a1,bf,b1,⟨rfl⟩⟩
    ·obtain rfl:v=n:=by omega
     go_wp2
     go_roundg (2*cY v I+(if b'=true then 1 else 0))
     case measure=>
      have h1:=HK.out
      have h2:=HU.out
      cases b'<;>simp at h1 h2⊢ <;>omega
     case rel=>exact⟨I,b',rfl,HQ,HF,⟨fun h u hu=>by rw[(aO.out h).1];exact(aO.out h).2 u hu⟩,HX,HR,U,⟨Nat.le_refl _⟩⟩
  |false=>
   go_wp2_with (first|((with_reducible refine aA (N:=61) rfl ?_);refine Kd.iU Kd.bool _ 4 rfl (N:=61) rfl 43 _ _ rfl (n:Int) rfl rfl Tryz.underlying43 (.bool false) 1 lE rfl (by decide) (by omega) false (ok:=fun _=>True) (okp:=fun _=>True) rfl (fun _ hk=>hk) trivial e3 (by simp;omega) (Below.refl _ _) (Nat.le_refl _) ?_;intro v1 w5 ho hb cf ch;rw[Int.toNat_natCast] at ho;obtain⟨gl,cl,hv,hr,cj, -⟩:=Kd.eH ho (by rw[List.length_replicate];omega);rw[List.length_replicate] at hv;subst hv;have gd:=Aside0.mk ho;have b1:=Aside0.mk (aN U.out hb);have a1:=Aside0.mk (aE HX.out hb);have bf:=Aside0.mk (Kd.aR (Kd.bY (Kd.dR HR.out) hb) (ok':=fun k=>k≠gl) (fun k hk=>by have:=hk.2.2;omega));have hA:gb≠gl:=(fun e=>by have:=aw HX.out;omega);have hB:w.heap.size<=gl:=Nat.le_trans U.out.size hr;have b5:w5.cell? ⟨gb,0,none⟩=some (.slice (some ⟨o,0,none⟩) n cr):=(ai a1.out 0).trans rfl;clear ho hb cf ch))
   have c':=Aside0.mk (z' HT.out HQ.out HF.out (c4.out (by simp)))
   have hD:=U.out.size
   clear aL s0 HQ HF c4 HX HR U b5
   have gf:Aside0 (Kd.bool.R 4 w5 w.heap.size (fun _=>True) (.slice (some ⟨gl,0,none⟩) n cl) ((List.range n).map fun u=>if u<0 then !B u else false)):=⟨by
    have h:=Kd.aM gd.out (base':=w.heap.size) hD
    rw[show (List.replicate n false:List Bool)=(List.range n).map fun u=>if u<0 then !B u else false from by
     refine List.ext_getElem (by simp) fun i h1 h2=>?_
     simp] at h
    exact h⟩
   clear gd
   go_loopw [9,64] (fun hG vv wr=>∃v:Nat,v<=n∧vv= .int .i64 v∧hG= .bool ((List.range v).any fun u=> !B u)∧Aside0 (wr.heap[gb]? =some (.cells #[.slice (some ⟨o,0,none⟩) n cr] 43 (0,0)))∧Aside0 (Kd.bool.R 4 wr w.heap.size (fun k=>k≠gl) (.slice (some ⟨o,0,none⟩) n cr) ((List.range n).map B))∧Aside0 (Kd.bool.R 4 wr w.heap.size (fun _=>True) (.slice (some ⟨gl,0,none⟩) n cl) ((List.range n).map fun u=>if u<v then !B u else false))∧Aside0 (Below w.heap.size w wr)) (fun _ vv _=>n- (intOf vv).toNat)
   case atStart=>exact⟨0,by omega,rfl,rfl,a1,bf,gf,b1⟩
   case round=>
    clear a1 bf gf b1
    obtain⟨v,hv,rfl,rfl,HX,HR,HL,U⟩:=hrel
    by_cases aP:v<n
    ·have g2:(0:Int)<=(v:Int):=by omega
     have g3:(v:Int)<(n:Int):=by omega
     have b0:wr.cell? ⟨gb,0,none⟩=some (.slice (some ⟨o,0,none⟩) n cr):=(ai HX.out 0).trans rfl
     obtain⟨J, -⟩:=Kd.bB false HR.out (v:Int) (by omega) (by omega)
     obtain⟨hz,hf⟩:=Kd.bB false HL.out (v:Int) (by omega) (by omega)
     rw[Int.toNat_natCast] at J hz hf
     have e1:bl false ((List.range n).map B) v=B v:=by simp[bl,List.getD_eq_getElem?_getD,List.getElem?_map,List.getElem?_range aP]
     rw[e1] at J
     replace J:wr.cell? ⟨o,v,none⟩=some (.bool (B v)):=J
     generalize bl false ((List.range n).map fun u=>if u<v then !B u else false) (v:Int)=z at hz
     replace hz:wr.cell? ⟨gl,v,none⟩=some (.bool z):=hz
     have HP:=Kd.cL HL.out (v:Int) (!B v)
     rw[Int.toNat_natCast] at HP
     have em:(((List.range n).map fun u=>if u<v then !B u else false).set v (!B v))=(List.range n).map fun u=>if u<v+1 then !B u else false:=by
      refine List.ext_getElem (by simp) fun i h1 h2=>?_
      rw[List.getElem_set]
      simp only[List.getElem_map,List.getElem_range]
      by_cases e:v=i
      ·subst e;simp
      ·rw[if_neg e]
       by_cases h:i<v
       ·rw[if_pos h,if_pos (by omega)]
       ·rw[if_neg h,if_neg (by omega)]
     rw[em] at HP
     have ds:=Aside0.mk HP.1
     have aB:=Aside0.mk (cg (g:=gb) HX.out HP.2 (fun e=>by injection e with e;exact hA e))
     have a0:=Aside0.mk (Kd.ki HR.out HP.2 (fun k hk e=>hk (by injection e)))
     have aF:=Aside0.mk (Below.setCell (p:=⟨gl,v,none⟩) U.out hB (.bool (!B v)))
     have bg:=(Kd.bB false ds.out (v:Int) (by omega) (by omega)).1
     rw[Int.toNat_natCast] at bg
     have e2:bl false ((List.range n).map fun u=>if u<v+1 then !B u else false) v= !B v:=by simp[bl,List.getD_eq_getElem?_getD,List.getElem?_map,List.getElem?_range aP]
     rw[e2] at bg
     have HA:=Aside0.mk (show ((List.range (v+1)).any fun u=> !B u)=(((List.range v).any fun u=> !B u)|| !B v) by simp[List.range_succ,List.any_append])
     replace bg:(wr.setCell ⟨gl,v,none⟩ (.bool (!B v))).cell? ⟨gl,v,none⟩=some (.bool (!B v)):=bg
     have hV:=Aside0.mk bg
     clear HP em e1 e2 bg
     generalize hs:((List.range v).any fun u=> !B u)=s at HA⊢
     clear hs
     cases s with
     |true=>
      go_wp2
      go_roundw
      case rel=>exact⟨v+1,by omega,by go_num,by rw[HA.out];rfl,aB,a0,ds,aF⟩
      case measure=>exact(show n- ((v:Int)+1).toNat<n- ((v:Int)).toNat by omega)
     |false=>
      go_wp2
      go_roundw
      case rel=>exact⟨v+1,by omega,by go_num,by rw[HA.out,Bool.false_or],aB,a0,ds,aF⟩
      case measure=>exact(show n- ((v:Int)+1).toNat<n- ((v:Int)).toNat by omega)
    ·obtain rfl:v=n:=by omega
     go_wp2
     go_ret2
     refine⟨gl,cl,?_,?_,U.out⟩
     ·rw[show ((List.range v).any fun u=> !a5 v (af E) q d u)=((List.range v).any fun u=> !B u) from by
       rw[Bool.eq_iff_iff,List.any_eq_true,List.any_eq_true]
       constructor
       ·rintro⟨u,hu,h⟩;exact⟨u,hu,by rw[<-c'.out u (List.mem_range.1 hu)];exact h⟩
       ·rintro⟨u,hu,h⟩;exact⟨u,hu,by rw[c'.out u (List.mem_range.1 hu)];exact h⟩]
      rfl
     ·have h:=HL.out
      rw[show ((List.range v).map fun u=>if u<v then !B u else false)=(List.range v).map fun u=> !a5 v (af E) q d u from List.map_congr_left fun u hu=>by
       have:=List.mem_range.1 hu
       rw[if_pos this,c'.out u this]] at h
      exact h
section
structure SI (w0:World) (g gd gs cd cs n:Nat) (A0:Option Addr) (c0:Nat) (E:List S83) (q:Int) (d s:List Int) (W:World):Prop where
 hb:Below w0.heap.size w0 W
 st:fz W g n (.slice A0 E.length c0) q (.slice (some ⟨gd,0,none⟩) n cd) (.slice (some ⟨gs,0,none⟩) n cs) 0
 d:(Kd.int .i64).R 3 W w0.heap.size (fun _=>True) (.slice (some ⟨gd,0,none⟩) n cd) d
 s:(Kd.int .i64).R 3 W w0.heap.size (fun _=>True) (.slice (some ⟨gs,0,none⟩) n cs) s
 ne:gd≠gs∧g≠gd∧g≠gs∧w0.heap.size<=g
namespace SI
variable {w0 W W':World} {g gd gs cd cs n c0 l:Nat} {A0:Option Addr} {E:List S83} {q:Int} {d s:List Int}
theorem ld (h:SI w0 g gd gs cd cs n A0 c0 E q d s W):gd<W.heap.size∧gs<W.heap.size∧g<W.heap.size∧w0.heap.size<=gd∧w0.heap.size<=gs:=⟨Kd.bq h.d gd rfl,Kd.bq h.s gs rfl,aw h.st,Kd.br h.d gd rfl,Kd.br h.s gs rfl⟩
theorem below (h:SI w0 g gd gs cd cs n A0 c0 E q d s W) (hb:Below W.heap.size W W'):SI w0 g gd gs cd cs n A0 c0 E q d s W':=⟨aN h.hb hb,aE h.st hb,Kd.bY h.d hb,Kd.bY h.s hb,h.ne⟩
theorem alloc (h:SI w0 g gd gs cd cs n A0 c0 E q d s W) (o:Obj):SI w0 g gd gs cd cs n A0 c0 E q d s (W.alloc o):=h.below (al (Below.refl _ _) o)
theorem drewN (h:SI w0 g gd gs cd cs n A0 c0 E q d s W) (m:Nat):SI w0 g gd gs cd cs n A0 c0 E q d s (W.drewN m):=h.below (bC (Below.refl _ _) m)
theorem bk (h:SI w0 g gd gs cd cs n A0 c0 E q d s W) (hb:Bk l W W') (j:w0.heap.size<=l):SI w0 g gd gs cd cs n A0 c0 E q d s W':=⟨h.hb.trans (hb.below _ j),hb.cells h.st,dr h.d hb,dr h.s hb,h.ne⟩
theorem fin (h:SI w0 g gd gs cd cs n A0 c0 E q d s W) {b:Nat} (hf:eK b W W') (hb:w0.heap.size<=b):SI w0 g gd gs cd cs n A0 c0 E q d s W':=⟨h.hb.trans (hf.jo.mono hb),hf.cells h.st,hf.R h.d,hf.R h.s,h.ne⟩
theorem fR (h:SI w0 g gd gs cd cs n A0 c0 E q d s W) (p:Addr) (v:Value) (h0:p.block≠g∧p.block≠gd∧p.block≠gs) (hb:w0.heap.size<=p.block):SI w0 g gd gs cd cs n A0 c0 E q d s (W.setCell p v):=
 ⟨Below.setCell h.hb hb v,ay h.st (fun e=>h0.1 e.symm) v,
  Kd.aR (Kd.en (Kd.fp rfl h.d) (fun k hk=>Below.heap_setCell _ _ _ _ (fun e=>h0.2.1 (by rw[<-e];injection hk)))) (fun _ _=>trivial),
  Kd.aR (Kd.en (Kd.fp rfl h.s) (fun k hk=>Below.heap_setCell _ _ _ _ (fun e=>h0.2.2 (by rw[<-e];injection hk)))) (fun _ _=>trivial),h.ne⟩
theorem nf (h:SI w0 g gd gs cd cs n A0 c0 E q d s W) (v:Nat) (x:Int):SI w0 g gd gs cd cs n A0 c0 E q (d.set v x) s (W.setCell ⟨gd,v,none⟩ (.int .i64 x)):=by
 obtain⟨h1,h2,I,o,J⟩:=h.ld
 have j:=Kd.cL h.d (v:Int) x
 rw[Int.toNat_natCast] at j
 exact⟨Below.setCell h.hb o _,ay h.st h.ne.2.1 _,j.1,Kd.ga h.s rfl j.2 (fun e=>by cases e;exact h.ne.1 rfl),h.ne⟩
theorem ng (h:SI w0 g gd gs cd cs n A0 c0 E q d s W) (v:Nat) (x:Int):SI w0 g gd gs cd cs n A0 c0 E q d (s.set v x) (W.setCell ⟨gs,v,none⟩ (.int .i64 x)):=by
 obtain⟨h1,h2,I,J,o⟩:=h.ld
 have j:=Kd.cL h.s (v:Int) x
 rw[Int.toNat_natCast] at j
 exact⟨Below.setCell h.hb o _,ay h.st h.ne.2.2.1 _,Kd.ga h.d rfl j.2 (fun e=>by cases e;exact h.ne.1 rfl),j.1,h.ne⟩
theorem js (h:SI w0 g gd gs cd cs n A0 c0 E q d s W) (v:Nat) (j:v<n):W.cell? ⟨gd,v,none⟩=some (.int .i64 (rd d v)):=by
 have:=(Kd.bB 0 h.d (v:Int) (by omega) (by omega)).1
 rw[Int.toNat_natCast] at this
 exact this
theorem cells (h:SI w0 g gd gs cd cs n A0 c0 E q d s W) (v:Nat) (j:v<n):W.cell? ⟨gs,v,none⟩=some (.int .i64 (rd s v)):=by
 have:=(Kd.bB 0 h.s (v:Int) (by omega) (by omega)).1
 rw[Int.toNat_natCast] at this
 exact this
theorem nh (h:SI w0 g gd gs cd cs n A0 c0 E q d s W) (v:Nat) (j:v<n):W.frozen? ⟨gd,v,none⟩=false:=by
 have:=(Kd.bB 0 h.d (v:Int) (by omega) (by omega)).2
 rw[Int.toNat_natCast] at this
 exact this
theorem tr (h:SI w0 g gd gs cd cs n A0 c0 E q d s W) (v:Nat) (j:v<n):W.frozen? ⟨gs,v,none⟩=false:=by
 have:=(Kd.bB 0 h.s (v:Int) (by omega) (by omega)).2
 rw[Int.toNat_natCast] at this
 exact this
theorem f0 (h:SI w0 g gd gs cd cs n A0 c0 E q d s W):W.cell? ⟨g,0,none⟩=some (.int .i64 n):=(ai h.st 0).trans rfl
theorem f2 (h:SI w0 g gd gs cd cs n A0 c0 E q d s W):W.cell? ⟨g,2,none⟩=some (.int .i64 q):=(ai h.st 2).trans rfl
theorem f3 (h:SI w0 g gd gs cd cs n A0 c0 E q d s W):W.cell? ⟨g,3,none⟩=some (.slice (some ⟨gd,0,none⟩) n cd):=(ai h.st 3).trans rfl
theorem f4 (h:SI w0 g gd gs cd cs n A0 c0 E q d s W):W.cell? ⟨g,4,none⟩=some (.slice (some ⟨gs,0,none⟩) n cs):=(ai h.st 4).trans rfl
theorem f5 (h:SI w0 g gd gs cd cs n A0 c0 E q d s W):W.cell? ⟨g,5,none⟩=some (.int .i64 0):=(ai h.st 5).trans rfl
end SI
end
end Go.Proofs.YtffdiakgjakngaaGreat.P
namespace Go.Proofs.YtffdiakgjakngaaGreat.P
open Go Go.RowKit
set_option linter.unusedVariables false
set_option linter.unusedSimpArgs false
set_option maxHeartbeats 8000000
set_option maxRecDepth 100000
section
section
variable {F:Fence} {n:Nat} {P:Program} {md:Region.Mode} {C:World->Prop}
def dS (o:Oper):Oper:={o with op:=.move (.const undef)}
def pG (ops:List Oper):Bool:=ops.all fun o=>match o.op with| .defer _=>false|_=>true
theorem tt {l:List Oper} (h:pG l=true) {o:Oper} (ho:o∈l):∀c,o.op≠ .defer c:=by
 intro c e
 have:=List.all_eq_true.1 h o ho
 rw[e] at this
 cases this
theorem tu {ops:Array Oper} {i:Nat} {a:Act} {K:Act->Prop} {R:Act->World->Prop} {Q':Exit->Act->World->Prop} {w:World} (aa:∀p,ops[i]? =some p->∀c,p.op≠ .defer c) (hC:C w) (h:∀a w',C w'->K a->R a w')
  (j:qOpIn F n P ops C i K a):wpOpIn F n P ops Q' i R a w:=by
 unfold qOpIn at j
 unfold wpOpIn
 split
 ·rename_i ho;simp only[ho] at j;exact h _ _ hC j
 ·rename_i o ho
  simp only[ho] at j
  obtain⟨U,j⟩:=j
  split
  ·rename_i hw
   simp only[hw,if_true] at j
   obtain⟨v,h1,h2⟩:=j
   have I:=h1 w hC
   unfold Oper.quietAtIn at I
   unfold Oper.wpIn
   refine⟨U w hC,?_⟩
   rw[Oper.semAt_eq _ _ _ (aa o ho)]
   generalize (execOp a.eval o).run P w=r at*
   cases r with
   |ok x w'=>
    cases x<;>simp only[Oper.quietUponIn] at I<;>simp only[Oper.uponIn]
    case value u=>
     obtain⟨J,e2⟩:=I
     rw[J,e2]
     exact h _ _ hC h2
    case skip=>
     obtain⟨J,e2⟩:=I
     rw[J,<-e2]
     exact h _ _ hC h2
    case enter f args=>
     obtain⟨J,hd,hc⟩:=I
     rw[J]
     exact⟨hd,hc.mono fun e ad ⟨he,ab⟩=>by subst he;exact h _ _ ab h2⟩
   |halt x w'=>simp only[Oper.quietUponIn] at I
  ·rename_i hw;simp only[hw] at j;exact⟨U w hC,h _ _ hC j⟩
def Af (md:Region.Mode) (l:List Oper):Bool:=(List.range l.length).all fun i=>((l[i]?).map fun o=>o.after.all fun e=> !Region.binds md e||decide (e.on<i)).getD true
def Ag (md:Region.Mode) (m:Nat) (o:Oper):Bool:=(List.range m).all fun j=>o.after.any fun e=>Region.binds md e&&e.on==j
theorem tw {ops:Array Oper} (U:∀i p,ops[i]? =some p->∀e∈p.after,Region.binds md e=true->e.on<i) (I:Array Bool) (hs:I.size=ops.size):∀j,j<ops.size->I.getD j true=false->Region.ready md ops I≠[]:=by
 intro j
 induction j using Nat.strongRecOn with
 |ind j ih=>
  intro hj hl he
  obtain⟨o,ho⟩:∃o,ops[j]? =some o:=⟨_,Array.getElem?_eq_getElem hj⟩
  by_cases J:∀e∈o.after,Region.binds md e=true->I.getD e.on false=true
  ·have:=mem_ready.2 ⟨hl,o,ho,J⟩
   rw[he] at this;cases this
  ·simp only[Classical.not_forall] at J
   obtain⟨e,h1,h2,R⟩:=J
   have ag:=U j o ho e h1 h2
   refine ih e.on ag (by omega) ?_ he
   have ak:e.on<I.size:=by omega
   simp[Array.getD_eq_getD_getElem?,Array.getElem?_eq_getElem ak] at R⊢
   exact R
theorem Ah {l1:List Oper} {o:Oper} {Qa:Act->Prop} {Q':Exit->Act->World->Prop} (av:o.dst=none) (aB:∀i p,(l1++[o]).toArray[i]? =some p->i≠l1.length->∀c,p.op≠ .defer c) (an:∀i p,(l1++[o]).toArray[i]? =some p->∀e∈p.after,Region.binds md e=true->e.on<i)
  (aF:∀j,j<l1.length->∃e∈o.after,Region.binds md e=true∧e.on=j) (hQ:∀a w,C w->Qa a->wpListIn F n P (l1++[o]).toArray Q' [o] a w):
  ∀(fuel:Nat) (I:Array Bool) (a:Act) (w:World),I.size=l1.length+1->I.getD l1.length true=false->C w->wpAnyQIn F n P md (l1++[dS o]).toArray C Qa fuel I a->wpAnyIn F n P md (l1++[o]).toArray Q' fuel I a w:=by
 have ab:∀i,i≠l1.length->(l1++[dS o]).toArray[i]? =(l1++[o]).toArray[i]? :=fun i hi=>by
  rw[List.getElem?_toArray,List.getElem?_toArray]
  by_cases h:i<l1.length
  ·rw[List.getElem?_append_left h,List.getElem?_append_left h]
  ·rw[List.getElem?_eq_none (by simp;omega),List.getElem?_eq_none (by simp;omega)]
 have hm:(l1++[o]).toArray[l1.length]? =some o:=by simp
 have ad:(l1++[dS o]).toArray[l1.length]? =some (dS o):=by simp
 have ag:∀I,Region.ready md (l1++[dS o]).toArray I=Region.ready md (l1++[o]).toArray I:=fun I=>by
  unfold Region.ready
  have aK:(l1++[dS o]).toArray.size=(l1++[o]).toArray.size:=by simp
  rw[aK]
  refine List.filter_congr fun i hi=>?_
  by_cases h:i=l1.length
  ·rw[h,hm,ad];rfl
  ·rw[ab i h]
 have hy:∀tmps,yielded (l1++[dS o]).toArray tmps=yielded (l1++[o]).toArray tmps:=fun tmps=>by
  funext j
  unfold yielded
  by_cases h:j=l1.length
  ·rw[h,hm,ad];rfl
  ·rw[ab j h]
 have aK:(l1++[o]).toArray.size=l1.length+1:=by simp
 have aP:∀I:Array Bool,I.size=l1.length+1->l1.length∈Region.ready md (l1++[o]).toArray I->Region.ready md (l1++[o]).toArray (I.setIfInBounds l1.length true)=[]:=fun I J hr=>by
  obtain⟨h0,p,hp,aS⟩:=mem_ready.1 hr
  rw[hm] at hp
  obtain rfl:=Option.some.inj hp
  refine List.eq_nil_iff_forall_not_mem.2 fun i hi=>?_
  obtain⟨R,p,hp, -⟩:=mem_ready.1 hi
  have bk:i<l1.length+1:=by have:=(Array.getElem?_eq_some_iff.1 hp).1;rw[aK] at this;exact this
  by_cases he:i=l1.length
  ·subst he
   rw[Array.getD_eq_getD_getElem?,Array.getElem?_setIfInBounds_self_of_lt (by omega)] at R
   cases R
  ·rw[getD_set_ne true (Ne.symm he)] at R
   obtain⟨e,h1,h2,U⟩:=aF i (by omega)
   have:=aS e h1 h2
   rw[U] at this
   have a0:i<I.size:=by omega
   simp[Array.getD_eq_getD_getElem?,Array.getElem?_eq_getElem a0] at this R
   rw[this] at R;cases R
 intro fuel
 induction fuel with
 |zero=>
  intro I a w J hl hw h
  have h1:Region.ready md (l1++[o]).toArray I=[]:=by rw[<-ag];exact h.1
  exact absurd h1 (tw an I (by rw[aK];exact J) l1.length (by rw[aK];omega) hl)
 |succ fuel ih=>
  intro I a w J hl hw h
  refine⟨fun h1=>absurd h1 (tw an I (by rw[aK];exact J) l1.length (by rw[aK];omega) hl),fun i hi=>?_⟩
  have hq:=h.2 i (by rw[ag];exact hi)
  by_cases he:i=l1.length
  ·subst he
   have ak:=aP I J hi
   unfold qOpIn at hq
   simp only[ad] at hq
   have hK:wpAnyQIn F n P md (l1++[dS o]).toArray C Qa fuel (I.setIfInBounds l1.length true) a:=by
    have hd:(dS o).dst=none:=av
    have h2:=hq.2
    split at h2
    ·obtain⟨v, -,U⟩:=h2
     rw[hd] at U;exact U
    ·rw[hd] at h2;exact h2
   have a2:Qa a:=by
    cases fuel with
    |zero=>exact hK.2
    |succ f=>exact hK.1 (by rw[ag];exact ak)
   have:=hQ a w hw a2
   have h5:wpOpIn F n P (l1++[o]).toArray Q' l1.length (fun a w=>Q' .normal a w) a w:=by
    unfold wpOpIn
    simp only[hm]
    exact this
   refine wpOpIn_mono (fun a w q=>?_) h5
   cases fuel with
   |zero=>exact⟨ak,q⟩
   |succ f=>exact⟨fun _=>q,fun i hi=>by rw[ak] at hi;cases hi⟩
  ·have bf:qOpIn F n P (l1++[o]).toArray C i (wpAnyQIn F n P md (l1++[dS o]).toArray C Qa fuel (I.setIfInBounds i true)) a:=by
    unfold qOpIn at hq⊢
    rw[ab i he] at hq
    simp only[hy] at hq
    exact hq
   refine tu (fun p hp=>aB i p hp he) hw (fun a' w' bg hk=>ih _ a' w' (by simpa using J) ?_ bg hk) bf
   rw[getD_set_ne true he];exact hl
theorem ni {id:Nat} {Q:Exit->Act->World->Prop} {a:Act} {w:World} {l:List Oper} (l1:List Oper) (o:Oper) (hl:l=l1++[o]) (hm:P.follows .mixedOrders=true) (R:o.dst=none) (ad:pG l1=true) (ag:Af .any (l1++[o])=true) (ak:Ag .any l1.length o=true) (J:Region.lexB .any (l1++[dS o]).toArray=true)
  (h:wpQuietIn F n P l.toArray (fun w'=>∃n,w'=w.drewN n) (fun a'=>∀w',(∃n,w'=w.drewN n)->wpListIn F n P l.toArray Q [o] a' w') l1 a):(Code.region id l.toArray true).wpIn F n P Q a w:=by
 subst hl
 refine wpIn_region_any hm ?_
 have aK:(l1++[o]).toArray.size=l1.length+1:=by simp
 rw[aK]
 simp only[Region.lexB,Bool.and_eq_true] at J
 refine Ah (C:=fun w'=>∃n,w'=w.drewN n) (Qa:=fun a'=>∀w',(∃n,w'=w.drewN n)->wpListIn F n P (l1++[o]).toArray Q [o] a' w') R (fun i p hp hi=>tt ad ?_) ?_ ?_ (fun a w hw hq=>hq w hw) _ _ a _ (by simp) (by simp[Array.getD_eq_getD_getElem?]) ⟨1,rfl⟩ ?_
 ·rw[List.getElem?_toArray] at hp
  have I:=(List.getElem?_eq_some_iff.1 hp).1
  rw[List.length_append] at I
  simp at I
  rw[List.getElem?_append_left (by omega)] at hp
  exact List.mem_of_getElem? hp
 ·intro i p hp e he hb
  rw[List.getElem?_toArray] at hp
  have I:=(List.getElem?_eq_some_iff.1 hp).1
  have:=List.all_eq_true.1 ag i (List.mem_range.2 I)
  rw[hp] at this
  simp only[Option.map_some,Option.getD_some] at this
  have:=Array.all_eq_true_iff_forall_mem.1 this e he
  simpa [hb] using this
 ·intro j U
  have:=List.all_eq_true.1 ak j (List.mem_range.2 U)
  rw[<-Array.any_toList,List.any_eq_true] at this
  obtain⟨e,he,h2⟩:=this
  simp only[Bool.and_eq_true,beq_iff_eq] at h2
  exact⟨e,Array.mem_def.2 he,h2.1,h2.2⟩
 ·have hq:wpQuietIn F n P (l1++[dS o]).toArray (fun w'=>∃n,w'=w.drewN n) (fun a'=>∀w',(∃n,w'=w.drewN n)->wpListIn F n P (l1++[o]).toArray Q [o] a' w') (l1++[dS o]) a:=by
   have hy:∀tmps,yielded (l1++[dS o]).toArray tmps=yielded (l1++[o]).toArray tmps:=fun tmps=>by
    funext j
    unfold yielded
    rw[List.getElem?_toArray,List.getElem?_toArray]
    by_cases h:j<l1.length
    ·rw[List.getElem?_append_left h,List.getElem?_append_left h]
    ·rw[List.getElem?_append_right (by omega),List.getElem?_append_right (by omega)]
     cases U:j-l1.length<;>rfl
   have key:∀(l2:List Oper) (a:Act),wpQuietIn F n P (l1++[o]).toArray (fun w'=>∃n,w'=w.drewN n) (fun a'=>∀w',(∃n,w'=w.drewN n)->wpListIn F n P (l1++[o]).toArray Q [o] a' w') l2 a->wpQuietIn F n P (l1++[dS o]).toArray (fun w'=>∃n,w'=w.drewN n) (fun a'=>∀w',(∃n,w'=w.drewN n)->wpListIn F n P (l1++[o]).toArray Q [o] a' w') (l2++[dS o]) a:=by
    intro l2
    induction l2 with
    |nil=>
     intro a h
     refine⟨fun w _ f hf=>by simp[Oper.about,dS] at hf,?_⟩
     have hd:(dS o).dst=none:=R
     split
     ·refine BigFrame.quietIn_move (.const undef) rfl ?_
      rw[hd];exact h
     ·rw[hd];exact h
    |cons p l2 ih=>
     intro a h
     refine⟨h.1,?_⟩
     have h2:=h.2
     rw[hy]
     split at h2
     ·rename_i hw
      rw[if_pos hw]
      exact Oper.quietIn_mono ih h2
     ·rename_i hw
      rw[if_neg hw]
      exact ih _ h2
   exact key l1 a h
  have:=wpAnyQIn_lex (F:=F) (n:=n) (C:=fun w'=>∃n,w'=w.drewN n) (md:=.any) J.1 (l1++[dS o]) 0 (Array.replicate (l1.length+1) false) a (by simp) (by simpa using J.2) hq
  simpa using this
theorem Ai {l:List Oper} {Qa:Act->Prop} {Q':Exit->Act->World->Prop} (I:∀(i:Nat) (p:Oper),l.toArray[i]? =some p->∀c,p.op≠ .defer c) (o:∀a w,C w->Qa a->Q' .normal a w):
  ∀(fuel:Nat) (j:Array Bool) (a:Act) (w:World),C w->wpAnyQIn F n P md l.toArray C Qa fuel j a->wpAnyIn F n P md l.toArray Q' fuel j a w:=by
 intro fuel
 induction fuel with
 |zero=>intro j a w hw h;exact⟨h.1,o _ _ hw h.2⟩
 |succ fuel J=>
  intro j a w hw h
  exact⟨fun h1=>o _ _ hw (h.1 h1),fun i hi=>tu (I i) hw (fun a' w' R hk=>J _ a' w' R hk) (h.2 i hi)⟩
theorem Ak {id:Nat} {Q:Exit->Act->World->Prop} {a:Act} {w:World} {l:List Oper} (hm:P.follows .mixedOrders=true) (o:pG l=true) (j:Region.lexB .any l.toArray=true)
  (h:wpQuietIn F n P l.toArray (fun w'=>∃n,w'=w.drewN n) (fun a'=>∀w',(∃n,w'=w.drewN n)->Q .normal a' w') l a):(Code.region id l.toArray true).wpIn F n P Q a w:=by
 refine wpIn_region_any hm ?_
 simp only[Region.lexB,Bool.and_eq_true] at j
 refine Ai (C:=fun w'=>∃n,w'=w.drewN n) (Qa:=fun a'=>∀w',(∃n,w'=w.drewN n)->Q .normal a' w') (fun i p hp=>tt o ?_) (fun a w hw hq=>hq w hw) _ _ a _ ⟨1,rfl⟩ ?_
 ·rw[List.getElem?_toArray] at hp
  exact List.mem_of_getElem? hp
 ·have:=wpAnyQIn_lex (F:=F) (n:=n) (C:=fun w'=>∃n,w'=w.drewN n) (md:=.any) j.1 l 0 (Array.replicate l.length false) a (by simp) (by simpa using j.2) h
  simpa using this
end
end
end Go.Proofs.YtffdiakgjakngaaGreat.P

