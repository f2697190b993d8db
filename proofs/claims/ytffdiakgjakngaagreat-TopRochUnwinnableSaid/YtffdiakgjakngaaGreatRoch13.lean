/- TopRochUnwinnable answers true whatever the input (text 13 of 19): own walks and plain laws; no conditions. -/
import Derived.Deep.RegionLaw
import Derived.Laws.CopyOwn
import Derived.Test.YtffdiakgjakngaaGreatRoch12
namespace Go.Proofs.YtffdiakgjakngaaGreat.P
open Go.RowKit Go.Proofs.YtffdiakgjakngaaGreatW.PrintWords Go.Proofs.YtffdiakgjakngaaGreatW.PrintLast Go.Proofs.YtffdiakgjakngaaGreatW.PrintMore
set_option linter.unusedVariables false
set_option linter.unusedSimpArgs false
set_option maxHeartbeats 8000000
set_option maxRecDepth 100000
mutual
def bb.l0:Nat->List (List Int)->List (List Int)->Int->Int->Option (Int)
 |0,_,_,_,_=>none
 |k+1,o,I,J,j=>if j<J then(if 0<=j then(if j<(I.length:Int) then((aW.f k (aH I j) ((aH I j).length:Int)).bind fun t194=>(if t194=0 then(bb.l0 k o I J (wrap64 (j+1))) else(some t194))) else(none)) else(none)) else(bb.l1 k o o (o.length:Int) 0)
def bb.l1:Nat->List (List Int)->List (List Int)->Int->Int->Option (Int)
 |0,_,_,_,_=>none
 |k+1,o,I,J,j=>if j<J then(if 0<=j then(if j<(I.length:Int) then(if 0<(o.length:Int) then(if((aH I j).length:Int)=((aH o 0).length:Int) then(bb.l1 k o I J (wrap64 (j+1))) else(some 8)) else(none)) else(none)) else(none)) else(some 0)
end
def bb.f (k:Nat) (l0:List (List Int)):Option (Int):=bb.l0 k l0 l0 (l0.length:Int) 0
theorem bb.db:∀k,(∀j o I J,ah (bb.l0 k j o I J) (bb.l0 (k+1) j o I J))∧(∀j o I J,ah (bb.l1 k j o I J) (bb.l1 (k+1) j o I J))
 |0=>⟨fun _ _ _ _ r h=>by simp[bb.l0] at h,fun _ _ _ _ r h=>by simp[bb.l1] at h⟩
 |k+1=>by
  obtain⟨R,U⟩:=bb.db k
  refine⟨?_,?_⟩
  ·intro j o I J
   unfold bb.l0
   repeat' first
   |(with_reducible exact R _ _ _ _)
   |(with_reducible exact U _ _ _ _)
   |(with_reducible exact aW.mono _ _ _)
   |(with_reducible exact ah.refl _)
   |(with_reducible exact ah.none _)
   |(with_reducible refine ah.ite ?_ ?_)
   |(with_reducible refine ah.bind ?_ (fun _=>?_))
   |exact R _ _ _ _
   |exact U _ _ _ _
   |exact aW.mono _ _ _
   |exact ah.none _
   |refine ah.ite ?_ ?_
   |refine ah.bind ?_ (fun _=>?_)
  ·intro j o I J
   unfold bb.l1
   repeat' first
   |(with_reducible exact R _ _ _ _)
   |(with_reducible exact U _ _ _ _)
   |(with_reducible exact aW.mono _ _ _)
   |(with_reducible exact ah.refl _)
   |(with_reducible exact ah.none _)
   |(with_reducible refine ah.ite ?_ ?_)
   |(with_reducible refine ah.bind ?_ (fun _=>?_))
   |exact R _ _ _ _
   |exact U _ _ _ _
   |exact aW.mono _ _ _
   |exact ah.none _
   |refine ah.ite ?_ ?_
   |refine ah.bind ?_ (fun _=>?_)
theorem bb.mono:∀j k,ah (bb.f k j) (bb.f (k+1) j):=by
 intro j k
 obtain⟨o,I⟩:=bb.db k
 unfold bb.f
 repeat' first
   |(with_reducible exact o _ _ _ _)
   |(with_reducible exact I _ _ _ _)
   |(with_reducible exact aW.mono _ _ _)
   |(with_reducible exact ah.refl _)
   |(with_reducible exact ah.none _)
   |(with_reducible refine ah.ite ?_ ?_)
   |(with_reducible refine ah.bind ?_ (fun _=>?_))
   |exact o _ _ _ _
   |exact I _ _ _ _
   |exact aW.mono _ _ _
   |exact ah.none _
   |refine ah.ite ?_ ?_
   |refine ah.bind ?_ (fun _=>?_)
theorem bb.calls (k:Nat) (A0:Option Addr) (c0:Nat) (l0:List (List Int)) (r:Int) (w:World) (cb:Kd.C (Kd.slice 3 (Kd.int .i64)) w A0 l0.length l0) (cc:l0.length<=c0) (h:bb.f k l0=some r):
  Calls Tryz.prog 118 #[.slice A0 l0.length c0] w fun e w'=>e= .returned (.int .i64 r)∧ax w w':=by
 have ak:=Aside0.mk cb
 have ew:=Aside0.mk cc
 have H:=h
 have J:=Aside0.mk H
 go_enter Tryz.func118,Tryz.ntmps118
 go_wp2
 go_loopg [10] k (fun kq v10 w'=>∃(j:Int),v10= .int .i64 j∧Aside0 (bb.l0 kq l0 l0 (l0.length:Int) j=some r)∧Aside0 (kq<=k)∧ax w w')
 case atStart=>exact⟨(0),zT,J,⟨Nat.le_refl _⟩,by repeat(first|exact ax.refl _|apply ax.step)⟩
 case round=>
  obtain⟨j,rfl,HA,aL,⟨m1,rfl⟩⟩:=hrel
  cases gk with
  |zero=>exact absurd HA.out (by simp[bb.l0])
  |succ k1=>
   have H:=HA.out
   simp only[bb.l0] at H
   by_cases c2:j<(l0.length:Int)
   ·rw[if_pos c2] at H
    have cd:=decide_eq_true c2
    by_cases c3:0<=j
    ·rw[if_pos c3] at H
     have e0:=decide_eq_true c3
     by_cases c4:j<(l0.length:Int)
     ·rw[if_pos c4] at H
      have e1:=decide_eq_true c4
      replace H:=Option.bind_eq_some_iff.mp H
      obtain⟨t194,cf,H⟩:=H
      replace H:(if t194=0 then(bb.l0 k1 l0 l0 (l0.length:Int) (wrap64 (j+1))) else(some t194))=some r:=H
      have A5:=Aside0.mk cf
      by_cases c6:t194=0
      ·rw[if_pos c6] at H
       have ch:=beq_iff_eq.mpr c6
       have cj:=bne_eq_false_iff_eq.mpr c6
       have J:=Aside0.mk H
       have R:0<=(j:Int):=of_decide_eq_true ‹_›
       have U:j<(l0.length:Int):=of_decide_eq_true ‹_›
       obtain⟨ck,aP,aS,a0,cl,a1,a2⟩:=e7 ak.out j R U
       cases a0
       have a3:=Aside0.mk a2
       have bf:=Aside0.mk a1
       replace R:=eq_true R
       replace U:=eq_true U
       go_wp2_with (first|((with_reducible refine au (f:=87) rfl ?_);refine zL (some 17) Tryz.func87 #[.slice aP (aH l0 j).length aS,.int .i64 ((aH l0 j).length:Int)] ?_;(with_reducible refine(aW.calls k1 _ _ (aH l0 j) ((aH l0 j).length:Int) t194 _ ?bg ?bk A5.out).mono ?_);(case bg=>repeat(first|exact a3.out|(with_reducible refine Kd.aY ?_ _)|(with_reducible refine Kd.cX ?_ _)|(with_reducible refine Kd.cK ?_)));(case bk=>exact bf.out);rintro e w' ⟨rfl,⟨nd,rfl⟩⟩;refine⟨_,rfl,?_⟩))
       go_roundg k1
       case measure=>have:=aL.out;omega
       case rel=>exact⟨(wrap64 (j+1)),zT,J,⟨by have:=aL.out;omega⟩,by repeat(first|exact ax.refl _|apply ax.step)⟩
      ·rw[if_neg c6] at H
       have ch:=beq_eq_false_iff_ne.mpr c6
       have cj:=bne_iff_ne.mpr c6
       obtain rfl:=Option.some.inj H
       have R:0<=(j:Int):=of_decide_eq_true ‹_›
       have U:=of_decide_eq_true ‹_›
       obtain⟨ck,aP,aS,a0,cl,a1,a2⟩:=e7 ak.out j R U
       cases a0
       have a3:=Aside0.mk a2
       have bf:=Aside0.mk a1
       replace R:=eq_true R
       replace U:=eq_true U
       go_wp2_with (first|((with_reducible refine au (f:=87) rfl ?_);refine zL (some 17) Tryz.func87 #[.slice aP (aH l0 j).length aS,.int .i64 ((aH l0 j).length:Int)] ?_;(with_reducible refine(aW.calls k1 _ _ (aH l0 j) ((aH l0 j).length:Int) t194 _ ?bg ?bk A5.out).mono ?_);(case bg=>repeat(first|exact a3.out|(with_reducible refine Kd.aY ?_ _)|(with_reducible refine Kd.cX ?_ _)|(with_reducible refine Kd.cK ?_)));(case bk=>exact bf.out);rintro e w' ⟨rfl,⟨nd,rfl⟩⟩;refine⟨_,rfl,?_⟩))
       go_ret
       exact⟨zT,by repeat(first|exact ax.refl _|apply ax.step)⟩
     ·rw[if_neg c4] at H
      exact absurd H (by simp)
    ·rw[if_neg c3] at H
     exact absurd H (by simp)
   ·rw[if_neg c2] at H
    have cd:=decide_eq_false c2
    have J:=Aside0.mk H
    go_wp2
    go_loopg [24] k1 (fun kq cr w'=>∃(o:Int),cr= .int .i64 o∧Aside0 (bb.l1 kq l0 l0 (l0.length:Int) o=some r)∧Aside0 (kq<=k1)∧ax w w')
    case atStart=>exact⟨(0),zT,J,⟨Nat.le_refl _⟩,by repeat(first|exact ax.refl _|apply ax.step)⟩
    case round=>
     obtain⟨o,rfl,HA,ca,⟨m2,rfl⟩⟩:=hrel
     cases gk with
     |zero=>exact absurd HA.out (by simp[bb.l1])
     |succ k2=>
      have H:=HA.out
      simp only[bb.l1] at H
      by_cases c7:o<(l0.length:Int)
      ·rw[if_pos c7] at H
       have cx:=decide_eq_true c7
       by_cases c8:0<=o
       ·rw[if_pos c8] at H
        have e3:=decide_eq_true c8
        by_cases c9:o<(l0.length:Int)
        ·rw[if_pos c9] at H
         have e4:=decide_eq_true c9
         by_cases bw:0<(l0.length:Int)
         ·rw[if_pos bw] at H
          have e5:=decide_eq_true bw
          have e6:=decide_eq_true (by omega)
          by_cases I:((aH l0 o).length:Int)=((aH l0 0).length:Int)
          ·rw[if_pos I] at H
           have c1:=beq_iff_eq.mpr I
           have c5:=bne_eq_false_iff_eq.mpr I
           have c':=by first|simpa using I|(simp at I⊢;omega)
           have J:=Aside0.mk H
           have aa:0<=(o:Int):=of_decide_eq_true ‹_›
           have ab:o<(l0.length:Int):=of_decide_eq_true ‹_›
           obtain⟨bx,dd,ds,b0,dv,b1,b2⟩:=e7 ak.out o aa ab
           cases b0
           have ea:=Aside0.mk b2
           have eb:=Aside0.mk b1
           replace aa:=eq_true aa
           replace ab:=eq_true ab
           have ad:0<=(0:Int):=(by omega)
           have ag:0<(l0.length:Int):=of_decide_eq_true ‹_›
           obtain⟨b3,ed,eg,b4,aF,b5,b_⟩:=e7 ak.out 0 ad ag
           obtain rfl:bx=b3:=(by injection b4)
           have ek:=eq_true (by omega)
           (try rw[show ((0:Int)).toNat=0 from rfl] at aF)
           (try rw[Addr.add_zero'] at aF)
           have er:=Aside0.mk b_
           have ev:=Aside0.mk b5
           replace ad:=eq_true ad
           replace ag:=eq_true ag
           go_wp2
           go_roundg k2
           case measure=>have:=aL.out;have:=ca.out;omega
           case rel=>exact⟨(wrap64 (o+1)),zT,J,⟨by have:=aL.out;have:=ca.out;omega⟩,by repeat(first|exact ax.refl _|apply ax.step)⟩
          ·rw[if_neg I] at H
           have c1:=beq_eq_false_iff_ne.mpr I
           have c5:=bne_iff_ne.mpr I
           have c':=by first|simpa using I|(simp at I⊢;omega)
           obtain rfl:=Option.some.inj H
           have aa:0<=(o:Int):=of_decide_eq_true ‹_›
           have ab:o<(l0.length:Int):=of_decide_eq_true ‹_›
           obtain⟨bx,dd,ds,b0,dv,b1,b2⟩:=e7 ak.out o aa ab
           cases b0
           have ea:=Aside0.mk b2
           have eb:=Aside0.mk b1
           replace aa:=eq_true aa
           replace ab:=eq_true ab
           have ad:0<=(0:Int):=(by omega)
           have ag:0<(l0.length:Int):=of_decide_eq_true ‹_›
           obtain⟨b3,ed,eg,b4,aF,b5,b_⟩:=e7 ak.out 0 ad ag
           obtain rfl:bx=b3:=(by injection b4)
           have ek:=eq_true (by omega)
           (try rw[show ((0:Int)).toNat=0 from rfl] at aF)
           (try rw[Addr.add_zero'] at aF)
           have er:=Aside0.mk b_
           have ev:=Aside0.mk b5
           replace ad:=eq_true ad
           replace ag:=eq_true ag
           go_wp2
           go_ret
           exact⟨zT,by repeat(first|exact ax.refl _|apply ax.step)⟩
         ·rw[if_neg bw] at H
          exact absurd H (by simp)
        ·rw[if_neg c9] at H
         exact absurd H (by simp)
       ·rw[if_neg c8] at H
        exact absurd H (by simp)
      ·rw[if_neg c7] at H
       have cx:=decide_eq_false c7
       obtain rfl:=Option.some.inj H
       go_wp2
       go_ret
       exact⟨zT,by repeat(first|exact ax.refl _|apply ax.step)⟩
theorem l8:wrap64 (0+1)=1:=by unfold wrap64;omega
theorem fE:wrap64 (1+1)=2:=by unfold wrap64;omega
def qp (a:List Int):Int:=eS a a.length
def nH (a b:List Int):Int:=if eS a a.length=0 then(if eS b b.length=0 then(if(b.length:Int)=(a.length:Int) then 0 else 8) else eS b b.length) else eS a a.length
theorem kS (a:List Int) (l:List (List Int)):aH (a::l) 0=a:=by simp[aH]
theorem uZ (a b:List Int) (l:List (List Int)):aH (a::b::l) 1=b:=by simp[aH]
theorem CX (a:List Int) (j:a.length<=1000000):Ev (fun k=>bb.f k [a]) (qp a):=by
 unfold bb.f qp
 refine Ev.of_succ ?_
 simp only[bb.l0,List.length_cons,List.length_nil,Nat.zero_add,Int.natCast_one,if_pos (show (0:Int)<1 by decide),if_pos (show (0:Int)<=0 by decide),kS]
 refine Ev.bind (kK a a.length j) ?_
 by_cases h:eS a a.length=0
 ·simp only[if_pos h,l8]
  rw[h]
  refine Ev.of_succ ?_
  simp only[bb.l0,if_neg (show ¬(1:Int)<1 by decide)]
  refine Ev.of_succ ?_
  simp only[bb.l1,List.length_cons,List.length_nil,Nat.zero_add,Int.natCast_one,if_pos (show (0:Int)<1 by decide),if_pos (show (0:Int)<=0 by decide),kS,if_true,l8]
  refine Ev.of_succ ?_
  simp only[bb.l1,if_neg (show ¬(1:Int)<1 by decide)]
  exact Ev.const _
 ·simp only[if_neg h]
  exact Ev.const _
theorem CY (a b:List Int) (I:a.length<=1000000) (hb:b.length<=1000000):Ev (fun k=>bb.f k [a,b]) (nH a b):=by
 unfold bb.f nH
 have e2:((([a,b]:List (List Int)).length:Nat):Int)=2:=rfl
 refine Ev.of_succ ?_
 simp only[bb.l0,e2,if_pos (show (0:Int)<2 by decide),if_pos (show (0:Int)<=0 by decide),kS]
 refine Ev.bind (kK a a.length I) ?_
 by_cases h:eS a a.length=0
 ·simp only[if_pos h,l8]
  refine Ev.of_succ ?_
  simp only[bb.l0,e2,if_pos (show (1:Int)<2 by decide),if_pos (show (0:Int)<=1 by decide),uZ]
  refine Ev.bind (kK b b.length hb) ?_
  by_cases j:eS b b.length=0
  ·simp only[if_pos j,fE]
   refine Ev.of_succ ?_
   simp only[bb.l0,e2,if_neg (show ¬(2:Int)<2 by decide)]
   refine Ev.of_succ ?_
   simp only[bb.l1,e2,if_pos (show (0:Int)<2 by decide),if_pos (show (0:Int)<=0 by decide),kS,if_true,l8]
   refine Ev.of_succ ?_
   simp only[bb.l1,e2,if_pos (show (0:Int)<2 by decide),if_pos (show (1:Int)<2 by decide),if_pos (show (0:Int)<=1 by decide),kS,uZ,fE]
   by_cases o:(b.length:Int)=(a.length:Int)
   ·simp only[if_pos o]
    refine Ev.of_succ ?_
    simp only[bb.l1,if_neg (show ¬(2:Int)<2 by decide)]
    exact Ev.const _
   ·simp only[if_neg o]
    exact Ev.const _
  ·simp only[if_neg j]
   exact Ev.const _
 ·simp only[if_neg h]
  exact Ev.const _
section
attribute [local go_sem] Oper.semAt_some
theorem CZ (g n:Nat) (A0:Option Addr) (c0:Nat) (E:List S83) (q:Int) (dv sv:Value) (er:Int) (v:Nat) (lb:Array Value) (B:Nat->Bool) (w:World) (bw:Kd.C aG w A0 E.length E) (hE:dp n E) (hn:n<=1000) (hv:v<n) (J:fz w g n (.slice A0 E.length c0) q dv sv er)
  (hB:∀(W:World) (u:Int),Below w.heap.size w W->0<=u->u<n->Calls Tryz.prog 171 (#[.int .i64 u]++lb) W fun e w'=>e= .returned (.bool (B u.toNat))∧Below W.heap.size W w'):
  Calls Tryz.prog 168 #[.pointer (some ⟨g,0,none⟩),.int .i64 v,.func (.func 171) #[] lb] w fun e w'=>e= .returned (.int .i64 (df B (bL E v E.length)))∧Below w.heap.size w w':=by
 have c2:=Aside0.mk hB
 have HE:=Aside0.mk hE
 have b4:=Aside0.mk J
 clear hB hE J
 refine(callsIn_wide (n:=10)).1 ?_
 refine callsIn_of_wp_marks Tryz.func168 rfl trivial ?_ rfl
 simp only[Tryz.ntmps168,List.size_toArray,List.length_cons,List.length_nil,Nat.reduceAdd,Nat.reduceSub,Array.replicate_succ,Array.replicate_zero,List.push_toArray,List.append_toArray,List.nil_append,List.cons_append]
 gi_wp2_with (refine⟨trivial,?_⟩;gi_at_call 194;refine(callsIn_wide.2 (kJ g v _)).mono ?_;rintro e w3 ⟨rfl,rfl⟩)
 obtain⟨U,b5⟩:∃o:Obj,o= .cells #[.func (.func 171) #[] lb] 121:=⟨_,rfl⟩
 obtain⟨on,b_⟩:∃o:Obj,o= .cells #[.int .i64 0] 3:=⟨_,rfl⟩
 obtain⟨ox,b'⟩:∃o:Obj,o= .cells #[.pointer (some ⟨g,0,none⟩)] 135:=⟨_,rfl⟩
 obtain⟨ov,ca⟩:∃o:Obj,o= .cells #[.int .i64 v] 3:=⟨_,rfl⟩
 have Z0:=heap_alloc_new w U
 have Z1:=heap_alloc_new (w.alloc U) on
 have Z2:=heap_alloc_new ((w.alloc U).alloc on) ox
 have Z3:=heap_alloc_new (((w.alloc U).alloc on).alloc ox) ov
 simp only[World.size_alloc] at Z1 Z2 Z3
 have H0:=Aside0.mk ((aq (aq (aq Z0 on) ox) ov).trans (by rw[b5]:_=some (.cells #[.func (.func 171) #[] lb] 121 (0,0))))
 have H1:=Aside0.mk ((aq (aq Z1 ox) ov).trans (by rw[b_]:_=some (.cells #[.int .i64 0] 3 (0,0))))
 have H2:=Aside0.mk ((aq Z2 ov).trans (by rw[b']:_=some (.cells #[.pointer (some ⟨g,0,none⟩)] 135 (0,0))))
 have H3:=Aside0.mk (Z3.trans (by rw[ca]:_=some (.cells #[.int .i64 v] 3 (0,0))))
 have ad:=Aside0.mk (al (al (al (al (Below.refl w.heap.size w) U) on) ox) ov)
 have ch:Aside0 (fz ((((w.alloc U).alloc on).alloc ox).alloc ov) g n (.slice A0 E.length c0) q dv sv er):=⟨aE b4.out ad.out⟩
 have ed:g<w.heap.size:=aw b4.out
 have c4:=Aside0.mk (Kd.aj bw ad.out)
 clear Z0 Z1 Z2 Z3
 subst b5 b_ b' ca
 have c6:=ad.out.size
 have c7:((((w.alloc (.cells #[.func (.func 171) #[] lb] 121)).alloc (.cells #[.int .i64 0] 3)).alloc (.cells #[.pointer (some ⟨g,0,none⟩)] 135)).alloc (.cells #[.int .i64 v] 3)).heap.size=w.heap.size+4:=by simp
 generalize ((((w.alloc (.cells #[.func (.func 171) #[] lb] 121)).alloc (.cells #[.int .i64 0] 3)).alloc (.cells #[.pointer (some ⟨g,0,none⟩)] 135)).alloc (.cells #[.int .i64 v] 3))=R at H0 H1 H2 H3 ad ch c4 c6 c7⊢
 refine iB (σ:=Unit) (α:=Int×Int) (F:=Fence.wide) (n:=10) rfl (by decide) (gf:=207) (lb:=#[.pointer (some ⟨w.heap.size+1+1,0,none⟩),.pointer (some ⟨w.heap.size+1+1+1,0,none⟩)]) rfl trivial (enters_of Tryz.func207 (by kernel_rfl) rfl)
  (fun o=>nc (w.heap.size+1+1) (w.heap.size+1+1+1) g n A0 c0 E q dv sv er v w _ bw HE.out hn hv (al (al ad.out _) _) (aq (aq H2.out _) _) (aq (aq H3.out _) _) (aq (aq ch.out _) _)) (fun _=>rfl)
  (fun _=>True) ?c8 ?st ?ar
  (fun _ pre W=>R.heap.size<=W.heap.size∧W.heap[w.heap.size]? =some (.cells #[.func (.func 171) #[] lb] 121 (0,0))∧W.heap[w.heap.size+1]? =some (.cells #[.int .i64 (df B pre)] 3 (0,0))∧Below w.heap.size w W) (fun _ _ _ _=>False)
  ?is (fun _ _ _ _ _ _ h _=>h) ?ib (fun _ _ _ _ _ h _=>h) ?kt ?h0 ?a1 ?assign ?body ?done (fun _ _ _ _ _ _ _ h=>h.elim)
 case assign=>
  intro l x W K hK
  gi_wp2
  exact hK
 case c8=>
  intro o s W1 h
  exact⟨trivial,by rw[h];exact bJ.refl _ _⟩
 case st=>intro s A B _ h;exact cH h
 case ar=>intro s x A B _ h;exact cH h.2
 case is=>
  rintro s pre A B _ ⟨hs,h1,h2,h3⟩ J
  exact⟨Nat.le_trans hs J.size,aE h1 J,aE h2 J,aN h3 J⟩
 case ib=>
  rintro s pre A B ⟨hs,h1,h2,h3⟩ hb
  exact⟨by rw[hb.size];exact hs,hb.cells h1,hb.cells h2,h3.trans (hb.below w.heap.size (by omega))⟩
 case kt=>
  intro s A B C D aL cj ck
  refine⟨fun aK=>((aL.below w.heap.size (by omega)).trans (cj.1 (by rw[aL.size];exact aK))).trans (ck.below w.heap.size (by omega)),fun k hk an=>?_⟩
  have cl:k≠R.heap.size+1:=by rcases hk with rfl|rfl|rfl<;>omega
  exact(ck.heap k cl).trans ((cj.2 k hk (by rw[aL.size];exact an)).trans (aL.heap k cl))
 case h0=>
  rintro o s W1 rfl
  exact⟨by simp;omega,aq (aq H0.out _) _,aq (aq H1.out _) _,al (al ad.out _) _⟩
 case body=>
  rintro l s pre ⟨u,m⟩ Wb W1 W _ ⟨hs,i1,i2,i3⟩ ⟨bk,av⟩ ea I
  have b1:=Aside0.mk (I.cells (aE i1 av))
  have b2:=Aside0.mk (I.cells (aE i2 av))
  have b3:=Aside0.mk ((aN i3 av).trans (I.below w.heap.size (by omega)))
  have ev:R.heap.size<=W.heap.size:=by have:=I.size;have:=av.size;omega
  clear i1 i2 i3 av I ea
  simp only at bk
  have ew:W.cell? ⟨w.heap.size,0,none⟩=some (.func (.func 171) #[] lb):=(ai b1.out 0).trans rfl
  have HU:=Aside0.mk (c2.out W u b3.out bk.1 bk.2.1)
  have aF:=Aside0.mk (pC B pre (u,m))
  generalize df B pre=s0 at b2 aF
  cases aP:B u.toNat with
  |true=>
   rw[aP] at HU aF
   clear aP
   gi_wp2_with (refine⟨trivial,?_⟩;gi_at_call 171;refine(callsIn_wide.2 HU.out).mono ?_;rintro e w5 ⟨rfl,ag⟩;have j:=Aside0.mk ag;have D2:=Aside0.mk (aE b2.out ag);have c5:w5.cell? ⟨w.heap.size+1,0,none⟩=some (.int .i64 s0):=(ai D2.out 0).trans rfl;have f5:=a9 D2.out 0;clear ag)
   have aK:=j.out.size
   refine⟨(cH j.out).trans (eQ _ _ (by show w.heap.size+1<R.heap.size;omega)),⟨fun aK=>Below.setCell (j.out.mono aK) (by show w.heap.size<=w.heap.size+1;omega) _,fun k hk an=>?_⟩,by simp;omega,?_,?_,Below.setCell (aN b3.out j.out) (by show w.heap.size<=w.heap.size+1;omega) _⟩
   ·rw[Below.heap_setCell _ _ _ _ (by rcases hk with rfl|rfl|rfl<;>(show _≠w.heap.size+1)<;>omega)]
    exact j.out.block k an
   ·rw[Below.heap_setCell _ _ _ _ (by show w.heap.size≠w.heap.size+1;omega)]
    exact aE b1.out j.out
   ·have h:=bt D2.out 0 (.int .i64 (wrap64 (s0+m)))
    rw[aF.out]
    simpa using h
  |false=>
   rw[aP] at HU aF
   clear aP
   gi_wp2_with (refine⟨trivial,?_⟩;gi_at_call 171;refine(callsIn_wide.2 HU.out).mono ?_;rintro e w5 ⟨rfl,ag⟩;have j:=Aside0.mk ag;clear ag)
   have aK:=j.out.size
   exact⟨cH j.out,⟨fun aK=>j.out.mono aK,fun k hk an=>j.out.block k an⟩,by omega,aE b1.out j.out,by rw[aF.out];exact aE b2.out j.out,aN b3.out j.out⟩
 case done=>
  rintro s xs W W' _ rfl ⟨hs,i1,i2,i3⟩ I cr
  have b2:=Aside0.mk (I.cells i2)
  have b3:=Aside0.mk (i3.trans (I.below w.heap.size (by omega)))
  have cv:=Aside0.mk cr
  clear i1 i2 i3 cr
  have hc:W'.cell? ⟨w.heap.size+1,0,none⟩=some (.int .i64 (df B (bL E v E.length))):=(ai b2.out 0).trans rfl
  gi_wp2_with fail
  have eb:Bk R.heap.size W' (W'.putObj R.heap.size (.deferred none)):=⟨_,_,cv.out,rfl,rfl⟩
  exact jk (D:=R.heap.size) rfl cv.out (results_tmp rfl _ _ _) ⟨rfl,b3.out.trans (eb.below w.heap.size (by omega))⟩
end
section
attribute [local go_sem] Oper.semAt_some
theorem C0 (gb j cr n:Nat) (B:Nat->Bool) (ok:Nat->Prop) (base:Nat) (W:World) (u:Int) (hb:W.heap[gb]? =some (.cells #[.slice (some ⟨j,0,none⟩) n cr] 43 (0,0))) (o:Kd.bool.R 4 W base ok (.slice (some ⟨j,0,none⟩) n cr) ((List.range n).map fun v=> !B v)) (h0:0<=u) (I:u<n):
  Calls Tryz.prog 171 #[.int .i64 u,.pointer (some ⟨gb,0,none⟩)] W fun e w'=>e= .returned (.bool (B u.toNat))∧Below W.heap.size W w':=by
 have J:W.cell? ⟨gb,0,none⟩=some (.slice (some ⟨j,0,none⟩) n cr):=(ai hb 0).trans rfl
 have hc:=(Kd.bB false o u h0 I).1
 have e:bl false ((List.range n).map fun v=> !B v) u= !B u.toNat:=by
  obtain⟨m,rfl⟩:=Int.eq_ofNat_of_zero_le h0
  have:m<n:=by omega
  simp[bl,List.getD_eq_getElem?_getD,List.getElem?_map,List.getElem?_range this]
 rw[e] at hc
 have hc:W.cell? ⟨j,u.toNat,none⟩=some (.bool (!B u.toNat)):=hc
 clear o hb e
 go_enter Tryz.func171,Tryz.ntmps171
 go_wp2
 go_ret
 exact⟨by simp[go_sem],Below.refl _ _⟩
theorem u_ (g n:Nat) (A0:Option Addr) (c0:Nat) (E:List S83) (q:Nat) (j:Option Addr) (cd:Nat) (d:List Int) (o:Value) (I:Int) (w:World) (ab:Kd.C aG w A0 E.length E) (J:ba n E) (hl:E.length<=1000) (hn:n<=1000) (hq:q<n) (ak:d.length=n) (an:fz w g n (.slice A0 E.length c0) q (.slice j n cd) o I)
  (hd:Kd.C (Kd.int .i64) w j d.length d):
  Calls Tryz.prog 170 #[.pointer (some ⟨g,0,none⟩)] w fun e w'=>∃U cl,e= .returned (.tuple #[.slice (some ⟨U,0,none⟩) n cl,.bool ((List.range n).any fun v=> !a5 n (af E) q d v)])∧Kd.bool.R 4 w' w.heap.size (fun _=>True) (.slice (some ⟨U,0,none⟩) n cl) ((List.range n).map fun v=> !a5 n (af E) q d v)∧Below w.heap.size w w':=by
 subst ak
 exact Ab g d.length A0 c0 E q j cd d o I w ab J.iG hn hq an hd rfl (fun B v hv _=>As J hl B hv)
def fW (n:Nat) (t:Nat->Nat->Int) (q:Nat) (d:List Int) (v:Nat):Int:=T.sN (fun u=>if a5 n t q d u=true then t v u else 0) n
theorem qq {n:Nat} {E:List S83} (j:ba n E) (o:n<=12) (q:Nat) (d:List Int) (v:Nat):0<=fW n (af E) q d v∧fW n (af E) q d v<=600:=by
 have h:=T.cm (f:=fun w=>if a5 n (af E) q d w=true then af E v w else 0) (g:=fun _=>50) (n:=n) (fun w _=>by
  have:=j.iG.times v w
  show (if a5 n (af E) q d w=true then af E v w else 0)<=50
  split<;>omega)
 rw[T.ig] at h
 have h2:0<=fW n (af E) q d v:=T.cQ fun w _=>by
  have:=j.iG.times v w
  show 0<=(if a5 n (af E) q d w=true then af E v w else 0)
  split<;>omega
 exact⟨h2,by show T.sN _ n<=600;omega⟩
theorem C1 {n q:Nat} {t:Nat->Nat->Int} (j:T.Wt n t) (hc:T.cR n t) (hq:q<n) {D c σ:Nat->Int} (hr:dE n q t D c σ) {d s:List Int} (h:gW n q t D d s):0<=iH n q σ s:=T.cQ fun v o=>by
 have h1:=T.ph j hc hq hr.red hr.eq hr.q0 (d:=fun v=>rd d (v:Nat)) h.eq h.jh v o
 have h2:rd s v<=σ v+rd s q:=h1
 show 0<=σ v+rd s q-rd s v
 omega
theorem C2 (g gd gs cd cs n:Nat) (A0:Option Addr) (c0:Nat) (E:List S83) (q:Nat) (D c σ:Nat->Int) (d s:List Int) (w0 w:World) (a1:Kd.C aG w0 A0 E.length E) (hE:ba n E) (hl:E.length<=1000) (hC:gV n E) (hn:n<=12) (hq:q<n) (cj:T.sN (T.val n (af E)) n<=19)
  (hD:∀v:Nat,v<n-> -200<=D v∧D v<=200) (hr:dE n q (af E) D c σ) (b2:gW n q (af E) D d s) (h:SI w0 g gd gs cd cs n A0 c0 E q d s w):
  Calls Tryz.prog 111 #[.pointer (some ⟨g,0,none⟩)] w fun e w'=>e= .returned (.tuple #[])∧∃(d' s':List Int),SI w0 g gd gs cd cs n A0 c0 E q d' s' w'∧gW n q (af E) D d' s'∧T.jO n (af E) q (fun v=>rd d' (v:Nat)):=by
 have gf:=Tryz.underlying188
 have hu:=Tryz.underlying24
 have J:=Aside0.mk hE
 have b3:=Aside0.mk (hE.conn hC)
 have HD:=Aside0.mk hD
 have cr:=Aside0.mk hr
 have aa:=Aside0.mk b2
 have j:=Aside0.mk h
 have cv:=Aside0.mk (C1 hE.wt (hE.conn hC) hq hr b2)
 have gg:1<=n:=by omega
 clear hE hC hD hr b2 h
 go_enter Tryz.func111,Tryz.ntmps111
 go_wp2
 go_loopg [] ((iH n q σ s).toNat) (fun kq wr=>∃(d s:List Int),Aside0 (SI w0 g gd gs cd cs n A0 c0 E q d s wr)∧Aside0 (gW n q (af E) D d s)∧Aside0 (0<=iH n q σ s∧kq=(iH n q σ s).toNat))
 case atStart=>exact⟨d,s,j,aa,⟨cv.out,rfl⟩⟩
 case round=>
  clear j aa cv
  obtain⟨d,s,j,aa,HK⟩:=hrel
  have s5:=j.out.f5
  have c1:=aa.out.dl
  have b5:=Aside0.mk c1
  have ek:=j.out.hb.size
  obtain⟨r1,r2,r3,r4,r5⟩:=j.out.ld
  clear c1
  cases a2:(List.range n).any fun v=> !a5 n (af E) q d v with
  |false=>
   have ag:=Aside0.mk a2
   clear a2
   go_wp2_with (go_at_call 170;refine(u_ g n A0 c0 E q _ cd d _ 0 _ (Kd.aj a1 j.out.hb) J.out hl (by omega) hq b5.out j.out.st (Kd.aC j.out.d).2.2).mono ?_;rintro e w5 ⟨o,U,rfl,aB,aF⟩;rw[ag.out];have aL:=Aside0.mk (j.out.below aF);clear aB aF)
   refine bodyPost_ret (results_none rfl _ _ _) rfl ?_
   exact⟨rfl,d,s,aL.out.alloc _,aa.out,AD J.out.wt ag.out⟩
  |true=>
   have ag:=Aside0.mk a2
   clear a2
   go_wp2_with (go_at_call 170;refine(u_ g n A0 c0 E q _ cd d _ 0 _ (Kd.aj a1 j.out.hb) J.out hl (by omega) hq b5.out j.out.st (Kd.aC j.out.d).2.2).mono ?_;rintro e w5 ⟨o,U,rfl,aB,aF⟩;rw[ag.out];have aL:=Aside0.mk (j.out.below aF);have b_:=Aside0.mk aB;have gx:=Kd.br aB o rfl;clear aB aF)
   have er:=aL.out.ld
   have ev:=Kd.bq b_.out o rfl
   have ew:gd≠o:=by omega
   have ey:gs≠o:=by omega
   have bf:=Aside0.mk (heap_alloc_new w5 (.cells #[.slice (some ⟨o,0,none⟩) n U] 43))
   have b':=Aside0.mk (Kd.aM (Kd.aD b_.out (.cells #[.slice (some ⟨o,0,none⟩) n U] 43)) (base':=w0.heap.size) ek)
   have ca:=Aside0.mk (aL.out.alloc (.cells #[.slice (some ⟨o,0,none⟩) n U] 43))
   clear aL b_ j s5 er
   generalize w5.alloc (.cells #[.slice (some ⟨o,0,none⟩) n U] 43)=W6 at bf b' ca⊢
   generalize w5.heap.size=gb at bf ev⊢
   go_loopg [23,4] (n) (fun kq vv tv wr=>∃(v:Nat) (x:Int),v<=n∧vv= .int .i64 v∧tv= .int .i64 x∧0<=x∧Aside0 (x=0->∀u:Nat,u<v->a5 n (af E) q d u=false->fW n (af E) q d u<=0)∧Aside0 (∀u:Nat,u<v->a5 n (af E) q d u=false->x*fW n (af E) q d u<=rd d u)∧Aside0 (SI w0 g gd gs cd cs n A0 c0 E q d s wr)∧Aside0 (wr.heap[gb]? =some (.cells #[.slice (some ⟨o,0,none⟩) n U] 43 (0,0)))∧Aside0 (Kd.bool.R 4 wr w0.heap.size (fun _=>True) (.slice (some ⟨o,0,none⟩) n U) ((List.range n).map fun v=> !a5 n (af E) q d v))∧Aside0 (kq=n-v))
   case atStart=>exact⟨0,0,by omega,rfl,rfl,by omega,⟨fun _ u hu=>by omega⟩,⟨fun u hu=>by omega⟩,ca,bf,b',⟨rfl⟩⟩
   case round=>
    clear ca bf b'
    obtain⟨v,x,hv,rfl,rfl,cb,bk,aO,j,HX,HR,aP⟩:=hrel
    by_cases an:v<n
    ·have g1:(0:Int)<=(v:Int):=by omega
     have g2:(v:Int)<(n:Int):=by omega
     have I:=(Kd.bB false HR.out (v:Int) (by omega) (by omega)).1
     rw[Int.toNat_natCast] at I
     have e1:bl false ((List.range n).map fun v=> !a5 n (af E) q d v) v= !a5 n (af E) q d v:=by simp[bl,List.getD_eq_getElem?_getD,List.getElem?_map,List.getElem?_range an]
     rw[e1] at I
     replace I:wr.cell? ⟨o,v,none⟩=some (.bool (!a5 n (af E) q d v)):=I
     clear e1
     cases hF:a5 n (af E) q d v with
     |true=>
      rw[hF] at I
      replace I:wr.cell? ⟨o,v,none⟩=some (.bool false):=I
      have HF:=Aside0.mk hF
      clear hF
      go_wp2
      go_roundg (n- (v+1))
      case measure=>rw[aP.out];omega
      case rel=>exact⟨v+1,x,by omega,by go_num,rfl,cb,⟨fun hx u hu h1=>by
       by_cases e:u=v
       ·subst e;rw[HF.out] at h1;cases h1
       ·exact bk.out hx u (by omega) h1⟩,⟨fun u hu h1=>by
       by_cases e:u=v
       ·subst e;rw[HF.out] at h1;cases h1
       ·exact aO.out u (by omega) h1⟩,j,HX,HR,⟨rfl⟩⟩
     |false=>
      rw[hF] at I
      replace I:wr.cell? ⟨o,v,none⟩=some (.bool true):=I
      have HF:=Aside0.mk hF
      have c5:=Aside0.mk (show fW n (af E) q d v<=rd d v from tJ an hF)
      have c6:=Aside0.mk (qq J.out hn q d v)
      have c7:=Aside0.mk (show df (a5 n (af E) q d) (bL E v E.length)=fW n (af E) q d v from pK J.out hl (a5 n (af E) q d) an)
      have g3:=(aa.out.bounds J.out.wt b3.out hq hn cj HD.out cr.out v an).2.1
      clear hF
      go_wp2_with (go_at_call 168;refine(CZ g n A0 c0 E q _ _ 0 v #[.pointer (some ⟨gb,0,none⟩)] (a5 n (af E) q d) _ (Kd.aj a1 j.out.hb) J.out.iG (by omega) an j.out.st (fun W u c8 e3 e4=>C0 gb o U n _ _ _ W u (aE HX.out c8) (Kd.bY HR.out c8) e3 e4)).mono ?_;rintro e w8 ⟨rfl,bn⟩;rw[c7.out];have ab:=Aside0.mk (j.out.below bn);have bo:=Aside0.mk (aE HX.out bn);have bw:=Aside0.mk (Kd.bY HR.out bn);have c2:=ab.out.js v an;have c3:=ab.out.f3;clear bn I j HX HR;obtain⟨y,I⟩:∃y,y=fW n (af E) q d v:=⟨_,rfl⟩;rw[<-I];have bx:=c6.out;have e6:=c5.out;rw[<-I] at bx e6;obtain⟨bx,g4⟩:=bx;have HY:=Aside0.mk I;clear I c6 c5 c7)
      ·have e_:1<=rd d v/y:=Int.le_ediv_of_mul_le (by omega) (by omega)
       have hx:=Aside0.mk ‹x=0›
       go_roundg (n- (v+1))
       case measure=>rw[aP.out];omega
       case rel=>exact⟨v+1,rd d v/y,by omega,by go_num,rfl,by omega,⟨fun hz=>by omega⟩,⟨fun u hu h1=>by
        by_cases e:u=v
        ·subst e;rw[<-HY.out];exact Int.ediv_mul_le _ (by omega)
        ·have h2:=bk.out hx.out u (by omega) h1
         have h3:=(qq J.out hn q d u).1
         rw[show fW n (af E) q d u=0 by omega,Int.mul_zero]
         have h4:fW n (af E) q d u<=rd d u:=tJ (by omega) h1
         omega⟩,ab,bo,bw,⟨rfl⟩⟩
      ·have e_:1<=rd d v/y:=Int.le_ediv_of_mul_le (by omega) (by omega)
       have g':rd d v/y<x:=by
        rename_i ho
        rcases ho with ho|ho
        ·exact absurd (by simpa using ho) ‹¬x=0›
        ·exact ho
       go_roundg (n- (v+1))
       case measure=>rw[aP.out];omega
       case rel=>exact⟨v+1,rd d v/y,by omega,by go_num,rfl,by omega,⟨fun hz=>by omega⟩,⟨fun u hu h1=>by
        by_cases e:u=v
        ·subst e;rw[<-HY.out];exact Int.ediv_mul_le _ (by omega)
        ·exact Int.le_trans (Int.mul_le_mul_of_nonneg_right (by omega) (qq J.out hn q d u).1) (aO.out u (by omega) h1)⟩,ab,bo,bw,⟨rfl⟩⟩
      ·have hle:x<=rd d v/y:=by
        rename_i ho
        exact ho.2
       have e':¬x=0:=‹¬x=0›
       go_roundg (n- (v+1))
       case measure=>rw[aP.out];omega
       case rel=>exact⟨v+1,x,by omega,by go_num,rfl,cb,⟨fun hz=>absurd hz e'⟩,⟨fun u hu h1=>by
        by_cases e:u=v
        ·subst e;rw[<-HY.out];exact Int.le_trans (Int.mul_le_mul_of_nonneg_right hle bx) (Int.ediv_mul_le _ (by omega))
        ·exact aO.out u (by omega) h1⟩,ab,bo,bw,⟨rfl⟩⟩
      ·have fb:y<=0:=by assumption
       go_roundg (n- (v+1))
       case measure=>rw[aP.out];omega
       case rel=>exact⟨v+1,x,by omega,by go_num,rfl,cb,⟨fun hz u hu h1=>by
        by_cases e:u=v
        ·subst e;rw[<-HY.out];exact fb
        ·exact bk.out hz u (by omega) h1⟩,⟨fun u hu h1=>by
        by_cases e:u=v
        ·subst e;rw[<-HY.out,show y=0 by omega,Int.mul_zero];omega
        ·exact aO.out u (by omega) h1⟩,ab,bo,bw,⟨rfl⟩⟩
    ·obtain rfl:n=v:=by omega
     have b0:=dN HX.out
     have c':1<=x:=by
      refine Classical.byContradiction fun c'=>?_
      obtain⟨v,hv,h1,h2⟩:=AE b3.out J.out.wt hq ag.out
      have h3:fW n (af E) q d v<=0:=bk.out (by omega) v hv h1
      have h4:0<fW n (af E) q d v:=h2
      omega
     obtain⟨k1,k2,k3,k4⟩:=aa.out.step J.out b3.out hq hn cj HD.out cr.out ag.out c' (fun v hv h1=>aO.out v hv h1)
     have K1:=Aside0.mk k1
     have K2:=Aside0.mk k2
     have K3:=Aside0.mk k3
     have K4:=Aside0.mk k4
     have fv:=Aside0.mk aa.out.sl
     clear k1 k2 k3 k4
     go_wp2_with (go_at_call 166;refine(tz g gd gs o cd cs U n A0 c0 E q d s (fun v=> !a5 n (af E) q d v) x w0 _ a1 J.out.iG (by omega) (by omega) j.out HR.out ⟨ew,ey⟩ b5.out fv.out K2.out).mono ?_;rintro e w8 ⟨rfl,ed,f',aK⟩;have ab:=Aside0.mk ed;clear ed f' j HX HR b0)
     go_roundg ((iH n q σ (a4 E (fun v=> !a5 n (af E) q d v) x n (d,s)).2).toNat)
     case measure=>have h1:=K3.out;have h2:=K4.out;have h3:=HK.out.2;have h4:=HK.out.1;rw[h3];omega
     case rel=>exact⟨_,_,ab,K1,⟨K3.out,rfl⟩⟩
end
def l9.f (j:Int) (o:Int):Option (Int×Int):=some (IntKind.u64.wrap ((IntKind.u64.wrap ((IntKind.u64.wrap ((j/4294967296)*(o/4294967296)))+((IntKind.u64.wrap ((IntKind.u64.wrap ((j/4294967296)*(Go.bits .and .u64 o 4294967295)))+((IntKind.u64.wrap ((Go.bits .and .u64 j 4294967295)*(Go.bits .and .u64 o 4294967295)))/4294967296)))/4294967296)))+((IntKind.u64.wrap ((Go.bits .and .u64 (IntKind.u64.wrap ((IntKind.u64.wrap ((j/4294967296)*(Go.bits .and .u64 o 4294967295)))+((IntKind.u64.wrap ((Go.bits .and .u64 j 4294967295)*(Go.bits .and .u64 o 4294967295)))/4294967296))) 4294967295)+(IntKind.u64.wrap ((Go.bits .and .u64 j 4294967295)*(o/4294967296)))))/4294967296)),IntKind.u64.wrap (j*o))
theorem l9.calls (j:Int) (o:Int) (I:Int) (J:Int) (w:World) (h:l9.f j o=some (I,J)):
  Calls Tryz.prog 216 #[.int .u64 j,.int .u64 o] w fun e w'=>e= .returned (.tuple #[.int .u64 I,.int .u64 J])∧ax w w':=by
 have H:(some (IntKind.u64.wrap ((IntKind.u64.wrap ((IntKind.u64.wrap ((j/4294967296)*(o/4294967296)))+((IntKind.u64.wrap ((IntKind.u64.wrap ((j/4294967296)*(Go.bits .and .u64 o 4294967295)))+((IntKind.u64.wrap ((Go.bits .and .u64 j 4294967295)*(Go.bits .and .u64 o 4294967295)))/4294967296)))/4294967296)))+((IntKind.u64.wrap ((Go.bits .and .u64 (IntKind.u64.wrap ((IntKind.u64.wrap ((j/4294967296)*(Go.bits .and .u64 o 4294967295)))+((IntKind.u64.wrap ((Go.bits .and .u64 j 4294967295)*(Go.bits .and .u64 o 4294967295)))/4294967296))) 4294967295)+(IntKind.u64.wrap ((Go.bits .and .u64 j 4294967295)*(o/4294967296)))))/4294967296)),IntKind.u64.wrap (j*o)))=some (I,J):=h
 clear h
 simp only[Option.some.injEq,Prod.mk.injEq] at H
 obtain⟨rfl,rfl⟩:=H
 go_enter Tryz.func216,Tryz.ntmps216
 go_wp2
 go_ret2
 exact⟨by first|rfl|(simp;done)|(simp[*];done),by repeat(first|exact ax.refl _|apply ax.step)⟩
def l_.f (o:Int) (I:Int):Option (Int×Int):=(l9.f o I).bind fun j=>(some (j.1,j.2))
theorem l_.calls (j:Int) (o:Int) (I:Int) (J:Int) (w:World) (h:l_.f j o=some (I,J)):
  Calls Tryz.prog 206 #[.int .u64 j,.int .u64 o] w fun e w'=>e= .returned (.tuple #[.int .u64 I,.int .u64 J])∧ax w w':=by
 have H:((l9.f j o).bind fun R=>(some (R.1,R.2)))=some (I,J):=h
 clear h
 replace H:=Option.bind_eq_some_iff.mp H
 obtain⟨⟨t238,t239⟩,U,H⟩:=H
 replace H:(some (t238,t239))=some (I,J):=H
 have A3:=Aside0.mk U
 clear U
 simp only[Option.some.injEq,Prod.mk.injEq] at H
 obtain⟨rfl,rfl⟩:=H
 go_enter Tryz.func206,Tryz.ntmps206
 go_wp2_with (first|((with_reducible refine au (f:=216) rfl ?_);refine rz (some 25) rfl rfl Tryz.func216 (by kernel_rfl) rfl #[.int .u64 j,.int .u64 o] rfl (by(try simp only[List.map_toArray,List.map_cons,List.map_nil]);first|done|rfl|(simp only[List.length_drop,List.length_take];rfl)) ?_;(with_reducible refine(l9.calls j o t238 t239 _ A3.out).mono ?_);rintro e w' ⟨rfl,⟨nd,rfl⟩⟩;refine⟨_,rfl,?_⟩))
 go_ret2
 exact⟨by first|rfl|(simp;done)|(simp[*];done),by repeat(first|exact ax.refl _|apply ax.step)⟩
theorem C3:∀n:Fin 1001,l_.f 1 ((n:Nat):Int)=some (0,((n:Nat):Int)):=by decide+kernel
theorem C4 (n:Nat) (h:n<=1000):l_.f 1 n=some (0,(n:Int)):=C3 ⟨n,by omega⟩
theorem C5 (k m r:Nat) (a b:Value) (rest:List Value):Go.splice (List.replicate k a++List.replicate (m+r) b++rest) k (List.replicate m a)=List.replicate (k+m) a++List.replicate r b++rest:=by
 unfold Go.splice
 have j:(List.replicate k a++List.replicate (m+r) b++rest).take k=List.replicate k a:=by
  rw[List.append_assoc,List.take_left' (by simp)]
 have e2:(List.replicate k a++List.replicate (m+r) b++rest).drop (k+(List.replicate m a).length)=List.replicate r b++rest:=by
  rw[<-List.replicate_append_replicate,<-List.append_assoc,List.append_assoc,List.length_replicate,List.drop_left' (by simp)]
 rw[j,e2,<-List.append_assoc,List.replicate_append_replicate,<-List.append_assoc]
theorem C6 (gx ox cx n:Nat) (z:Int) (w:World) (hx:w.cell? ⟨gx,ox,none⟩=some (.int .i64 z)) (bn:1<=n) (hn:n<=1000):
  Calls Tryz.prog 193 #[.slice (some ⟨gx,ox,none⟩) 1 cx,.int .i64 n] w fun e w'=>∃g c,e= .returned (.slice (some ⟨g,0,none⟩) n c)∧(Kd.int .i64).R 3 w' w.heap.size (fun _=>True) (.slice (some ⟨g,0,none⟩) n c) (List.replicate n z)∧Below w.heap.size w w':=by
 have hmul:=C4 n hn
 have bw:(0:Int)<=(n:Int):=by omega
 go_enter Tryz.func193,Tryz.ntmps193
 go_wp2_with (first|(go_at_call 206;refine(l_.calls 1 n 0 n _ hmul).mono ?_;rintro e w1 ⟨rfl,⟨nd,rfl⟩⟩)|((with_reducible refine aA (N:=30) rfl ?_);refine Kd.iU (Kd.int .i64) _ 3 rfl (N:=30) rfl 25 _ _ rfl (n:Int) rfl rfl Tryz.underlying25 (.int .i64 0) 8 fw rfl (by decide) (by omega) 0 (ok:=fun _=>True) (okp:=fun _=>True) rfl (fun _ hk=>hk) trivial bw (by simp;omega) (Below.refl _ _) (Nat.le_refl _) ?_;intro v1 w5 ho hb b0 b1;rw[Int.toNat_natCast] at ho;obtain⟨o,cr,I,ab,b2, -⟩:=Kd.eH ho (by rw[List.length_replicate];omega);rw[List.length_replicate] at I;subst I;have U:=Aside0.mk ho;have HB:=Aside0.mk ((bC (Below.refl w.heap.size w) nd).trans (hb.mono (by simp)));have a0:w5.cell? ⟨gx,ox,none⟩=some (.int .i64 z):=fY hb (by simpa using hx);clear ho hb b0 b1))
 have hown:=Kd.mh U.out
 obtain⟨b3,h|⟨g',cap,cur,I,b4,ar,b5,a1,av,ht⟩⟩:=hown
 ·cases h.1
 ·injection I with J e2 e3
  injection J with J
  injection J with J _
  subst J e3
  rw[List.length_replicate] at b5 ht
  simp only[Nat.mul_one] at av ht
  obtain⟨rest,b'⟩:∃rest,cur=(List.replicate n (Value.int .i64 0)++rest).toArray:=⟨cur.toList.drop n,by
   rw[<-Array.toList_inj]
   show cur.toList=List.replicate n (Value.int .i64 0)++cur.toList.drop n
   rw[show List.replicate n (Value.int .i64 0)=cur.toList.take n from by rw[ht];simp[bj],List.take_append_drop]⟩
  subst b'
  have a2:rest.length=cr-n:=by simp at av;omega
  rw[run_copy_row _ w5 25 25 3 3 o 0 n cr ⟨gx,ox,none⟩ 1 cx _ 3 [.int .i64 z] Tryz.underlying25 (by kernel_rfl) ar (by show 1=min 1 n;omega) (fun j v hj=>by
   cases j with
   |zero=>injection hj with hj;subst hj;simpa [Addr.add] using a0
   |succ j=>simp at hj) (by simp;omega) (fun v I=>by simp at I;subst I;rfl)]
  simp only[Result.andThen_ok,List.cons_append,List.nil_append,List.take_zero,Nat.zero_add]
  rw[show ([Value.int .i64 z]:List Value).length=1 from rfl]
  have J:Value.int .i64 z::(List.replicate n (Value.int .i64 0)++rest).drop 1=List.replicate 1 (Value.int .i64 z)++List.replicate (n-1) (Value.int .i64 0)++rest:=by
   obtain⟨n',rfl⟩:∃n',n=n'+1:=⟨n-1,by omega⟩
   simp[List.replicate_succ]
  rw[J]
  have aB:=Aside0.mk (below_setRow (g:=o) HB.out (by simp at ab;exact ab) ((List.replicate 1 (Value.int .i64 z)++List.replicate (n-1) (Value.int .i64 0)++rest).toArray))
  have aF:=Aside0.mk (setRow_heap w5 o _ ((List.replicate 1 (Value.int .i64 z)++List.replicate (n-1) (Value.int .i64 0)++rest).toArray) _ _ ar)
  have a3:w.heap.size<=o:=by simp at ab;exact ab
  clear U HB a0 b3 b4 ar av ht J e2 hx hmul
  generalize w5.setRow o (List.replicate 1 (Value.int .i64 z)++List.replicate (n-1) (Value.int .i64 0)++rest).toArray=W6 at aB aF⊢
  have bf:=Aside0.mk a2
  have ca:=Aside0.mk a1
  clear a2 a1 b2 ab
  rw[show goInt ((1:Nat):Int)=Value.int .i64 1 from rfl]
  rw[Oper.upon_value]
  go_wp2
  go_loopg [8] (n-1) (fun kq nv wr=>∃k:Nat,nv= .int .i64 k∧1<=k∧k<=n∧Aside0 (wr.heap[o]? =some (.cells (List.replicate k (Value.int .i64 z)++List.replicate (n-k) (Value.int .i64 0)++rest).toArray 3 (0,0)))∧Aside0 (Below w.heap.size w wr)∧Aside0 (kq=n-k))
  case atStart=>exact⟨1,rfl,by omega,bn,aF,aB,⟨rfl⟩⟩
  case round=>
   clear aB aF
   obtain⟨k,rfl,c0,c1,HG,HB,HK⟩:=hrel
   by_cases c2:k<n
   ·have c3:(0:Int)<=(k:Int):=by omega
    have c4:(k:Int)<(n:Int):=by omega
    have c5:(k:Int)<=(cr:Int):=by omega
    have c6:(n:Int)<=(cr:Int):=by omega
    obtain⟨m,hm⟩:∃m,m=min k (n-k):=⟨_,rfl⟩
    obtain⟨r,hr⟩:∃r,n-k=m+r:=⟨n-k-m,by omega⟩
    have c7:¬cr=k:=by omega
    have cf:Aside0 (∀(j:Nat) (v:Value),(List.replicate m (Value.int .i64 z))[j]? =some v->wr.drew.cell? ((⟨o,0,none⟩:Addr).add j)=some v):=⟨fun j v hj=>by
     obtain⟨ch,I⟩:=List.getElem?_eq_some_iff.1 hj
     rw[List.length_replicate] at ch
     rw[List.getElem_replicate] at I
     subst I
     have h:=cell_of_row wr o j _ _ _ HG.out
     rw[List.getElem?_toArray,List.append_assoc,List.getElem?_append_left (by rw[List.length_replicate];omega),List.getElem?_replicate,if_pos (by omega)] at h
     by_cases e:j=0
     ·subst e;simpa [Addr.add] using h
     ·simpa [Addr.add,e] using h⟩
    have c8:(m:Int)<=1000:=by omega
    have c9:(0:Int)<=(m:Int):=by omega
    have c':(k:Int)<=1000:=by omega
    have HM:=Aside0.mk hm
    have U:=Aside0.mk hr
    clear hm hr
    go_wp2
    go_region_law (refine step_copy_splice rfl (.tmp 41) (.tmp 44) 25 25 rfl 3 Tryz.underlying25 (by kernel_rfl) (some ⟨o,k,none⟩) (some ⟨o,0,none⟩) (n-k) (cr-k) k cr (by go_simp) (by go_simp) o k (List.replicate k (Value.int .i64 z)++List.replicate (n-k) (Value.int .i64 0)++rest) 3 HG.out (List.replicate m (Value.int .i64 z)) (by have:=HM.out;rw[List.length_replicate];show m=min k (n-k);omega) (fun _=>⟨rfl,_,rfl,cf.out⟩) (by have:=bf.out;have:=HM.out;simp;omega) (fun v I=>by rw[List.eq_of_mem_replicate I];rfl) w.heap.size w (bu HB.out) a3 ?_;intro w4 bg bk)
    have ck:Aside0 (w4.heap[o]? =some (.cells (List.replicate (k+m) (Value.int .i64 z)++List.replicate (n- (k+m)) (Value.int .i64 0)++rest).toArray 3 (0,0))):=⟨by
     have h:=bg
     rw[U.out] at h
     rw[show n- (k+m)=r from by have:=U.out;omega,<-C5 k m r (.int .i64 z) (.int .i64 0) rest]
     first|exact h|(rw[List.append_assoc];exact h)⟩
    have cl:=Aside0.mk bk
    clear bg bk
    have dd:=HM.out
    have ds:=U.out
    go_wp2
    go_roundg (n- (k+m))
    case measure=>rw[HK.out];omega
    case rel=>exact⟨k+m,(by rw[IntWalk.i64_in ((k:Int)+(m:Int)) (by omega)];go_num),by omega,by omega,ck,cl,⟨rfl⟩⟩
   ·obtain rfl:k=n:=by omega
    go_wp2
    go_ret
    exact⟨o,cr,rfl,Kd.kY ⟨by simp[bj],.inr ⟨o,cr,_,by simp,a3,HG.out,by simp;omega,ca.out,by have:=bf.out;simp;omega,by simp[bj]⟩⟩ (fun _ _=>trivial),HB.out⟩
section
attribute [local go_sem] Oper.semAt_some
theorem bN.u' {α:Type} {d:Kd α} {e base j b:Nat} {ok:Nat->Prop} {ds:List Deferred} {v:Value} {xs:List α} {W w1:World} (h:bN j b ds W) (hq:d.Q e W base ok v xs) (o:W.grownBy w1 v.ownBlock):bN j b ds w1:=
 h.gD fun D _ hd=>(o.block D (Array.getElem?_eq_some_iff.1 hd).1 (fun e=>by
  obtain⟨cells,hc⟩:=Kd.rf hq D e.symm
  rw[hd] at hc;cases hc)).trans hd
structure DI (w:World) (b3 b4 go co n lo hi:Nat) (out:List Int) (qv:Value) (Q:List Nat) (W:World):Prop where
 hb:Below w.heap.size w W
 x3:W.heap[b3]? =some (.cells #[.slice (some ⟨go,0,none⟩) n co] 25 (0,0))
 x4:W.heap[b4]? =some (.cells #[qv] 25 (0,0))
 ro:(Kd.int .i64).R 3 W w.heap.size (fun _=>True) (.slice (some ⟨go,0,none⟩) n co) out
 rq:(Kd.int .i64).Q 3 W w.heap.size (fun k=>k≠go∧(k<lo∨hi<=k)) qv (Q.map fun x:Nat=>(x:Int))
 ne:b3≠b4∧go≠b3∧go≠b4∧w.heap.size<=b3∧w.heap.size<=b4
theorem C7 {α:Type} {d:Kd α} {e base l:Nat} {ok:Nat->Prop} {v:Value} {xs:List α} {A B:World} (h:d.Q e A base ok v xs) (hb:Bk l A B):d.Q e B base ok v xs:=
 Kd.kj (Kd.qY (Kd.mj h) (fun k hk=>by obtain⟨_,_,_,q,_,cells,hc⟩:=hk;exact(hb.cells hc).trans hc.symm)) (fun k hk=>hk.1)
section
variable {F:Fence} {n:Nat} {P:Program} {ops:Array Oper} {rest:List Oper} {o:Oper} {a:Act} {Q':Exit->Act->World->Prop} {α:Type}
theorem vd (d:Kd α) {w0 W:World} (base:Nat) (j:o.guard=none) (s x:Operand) (t e:TypeId) (z:Value) (bytes:Nat)
  (ho:o.op= .call {callee:=.builtin .append,args:=#[s,x],argTypes:=#[t,t]})
  (I:P.underlying t=some (.slice e)) (J:(P.info? e).map (fun i=>(i.zero,i.size,i.bytes))=some (some z,d.sz,bytes)) (R:z.cells.size=d.sz) (U:0<d.sz) (aa:0<bytes)
  (v:Value) (xs:List α) (p:α) (cs:List Value) (ok okp:Nat->Prop) (hs:a.eval s=v) (hx:a.eval x= .slice (some ⟨W.heap.size,0,none⟩) 1 1) (hp:d.M W base okp p cs) (ag:∀k,okp k->ok k∧some k≠v.ownBlock) (ak:∀k,W.heap.size<=k->ok k)
  (HO:d.Q e W base ok v xs) (HB:Below base w0 W) (av:base<=W.heap.size) (hl:(xs.length+1)*bytes<=140737488355328)
  (h:∀v1 w1,d.Q e w1 base ok v1 (xs++[p])->Below base w0 w1->W.grownBy w1 v.ownBlock->(v1.ownBlock=v.ownBlock∨∃b,v1.ownBlock=some b∧W.heap.size<=b)->wpListIn F n P ops Q' rest (a.put o.dst v1) w1):
  wpListIn F n P ops Q' (o::rest) a (W.alloc (.cells cs.toArray e)):=by
 obtain⟨v1,w1,aF,h1,h2,h3,h4⟩:=Kd.wF (P:=P) d base t o.type e z bytes I J R U aa v xs p cs ok okp hp ag ak HO HB av hl
 refine wpListIn_plain j fun K aP=>?_
 unfold Oper.wpIn
 refine⟨?_,?_⟩
 ·simp[Oper.about,ho,resolve,Target.leads,Sem.run_pure]
 ·rw[Oper.semAt_plain F _ _ (by rw[ho];intro c aS;cases aS)]
  simp[execOp,ho,resolve,invoke,builtin,hs,hx,aF,Result.andThen]
  exact aP _ _ (h v1 w1 h1 h2 h3 h4)
end
theorem ve {α:Type} {d:Kd α} {e base nw:Nat} {ok:Nat->Prop} {v:Value} {xs:List α} {W w1:World} (I:d.Q e W base ok v xs) (J:W.grownBy w1 v.ownBlock):bJ nw W w1:=fun k o h1 h2 j R=>by
 refine(J.block k (Array.getElem?_eq_some_iff.1 j).1 (fun e=>?_)).trans j
 obtain⟨cells,hc⟩:=Kd.rf I k e.symm
 rw[j] at hc;injection hc with hc;subst hc;simp[Obj.isCells] at R
theorem Bf.kT {n q:Nat} {nb:Nat->Nat->Prop} {out:List Int} {Q:List Nat} {D:Int} {ex j:Nat->Nat->Prop} (h:Bf n q nb out Q D ex) (hex:∀x y,ex x y->j x y):Bf n q nb out Q D j:=
 ⟨h.len,h.q0,h.lo,h.hi,h.qv,h.lV,h.top,h.d0,h.back,fun v o h0 I u hu J he=>h.jn v o h0 I u hu J (fun k=>he (hex v u k))⟩
def nI (v:Nat) (pre:List (Int×Int)) (x y:Nat):Prop:=x=v∧¬∃m,((y:Int),m)∈pre
theorem Bf.done {n q:Nat} {nb:Nat->Nat->Prop} {out:List Int} {Q:List Nat} {D:Int} {ex:Nat->Nat->Prop} (h:Bf n q nb out Q D ex) (hex:∀x y,nb x y->¬ex x y):Bf n q nb out Q D (fun _ _=>False):=
 ⟨h.len,h.q0,h.lo,h.hi,h.qv,h.lV,h.top,h.d0,h.back,fun v o h0 I u hu j _=>h.jn v o h0 I u hu j (hex v u j)⟩
namespace DI
variable {w W W':World} {b3 b4 go co n lo hi lo' hi' l:Nat} {out:List Int} {qv:Value} {Q:List Nat}
theorem below (h:DI w b3 b4 go co n lo hi out qv Q W) (hb:Below W.heap.size W W'):DI w b3 b4 go co n lo hi out qv Q W':=⟨aN h.hb hb,aE h.x3 hb,aE h.x4 hb,Kd.bY h.ro hb,Kd.qZ h.rq hb,h.ne⟩
theorem alloc (h:DI w b3 b4 go co n lo hi out qv Q W) (o:Obj):DI w b3 b4 go co n lo hi out qv Q (W.alloc o):=h.below (al (Below.refl _ _) o)
theorem drewN (h:DI w b3 b4 go co n lo hi out qv Q W) (m:Nat):DI w b3 b4 go co n lo hi out qv Q (W.drewN m):=h.below (bC (Below.refl _ _) m)
theorem bk (h:DI w b3 b4 go co n lo hi out qv Q W) (hb:Bk l W W') (j:w.heap.size<=l):DI w b3 b4 go co n lo hi out qv Q W':=⟨h.hb.trans (hb.below _ j),hb.cells h.x3,hb.cells h.x4,dr h.ro hb,C7 h.rq hb,h.ne⟩
theorem ld (h:DI w b3 b4 go co n lo hi out qv Q W):go<W.heap.size∧b3<W.heap.size∧b4<W.heap.size∧w.heap.size<=go:=⟨Kd.bq h.ro go rfl,aw h.x3,aw h.x4,Kd.br h.ro go rfl⟩
theorem vf (h:DI w b3 b4 go co n lo hi out qv Q W) (v:Nat) (x:Int):DI w b3 b4 go co n lo hi (out.set v x) qv Q (W.setCell ⟨go,v,none⟩ (.int .i64 x)):=by
 obtain⟨h1,h2,I,o⟩:=h.ld
 have j:=Kd.cL h.ro (v:Int) x
 rw[Int.toNat_natCast] at j
 exact⟨Below.setCell h.hb o _,ay h.x3 (fun e=>h.ne.2.1 e.symm) _,ay h.x4 (fun e=>h.ne.2.2.1 e.symm) _,j.1,Kd.wz h.rq j.2 (fun k hk e=>by injection e with e;exact hk.1 e),h.ne⟩
theorem vg (h:DI w b3 b4 go co n lo hi out qv Q W) {qv':Value} {Q':List Nat} (hq:(Kd.int .i64).Q 3 W w.heap.size (fun k=>k≠go∧(k<lo'∨hi'<=k)) qv' (Q'.map fun x:Nat=>(x:Int))):DI w b3 b4 go co n lo' hi' out qv' Q' (W.setCell ⟨b4,0,none⟩ qv'):=by
 obtain⟨h1,h2,j,o⟩:=h.ld
 refine⟨Below.setCell h.hb h.ne.2.2.2.2 _,ay h.x3 h.ne.1 _,by simpa using bt h.x4 0 qv',?_,?_,h.ne⟩
 ·exact Kd.aR (Kd.en (Kd.fp rfl h.ro) (fun k hk=>Below.heap_setCell _ _ _ _ (fun e=>by injection hk with hk;exact h.ne.2.2.1 (hk.symm.trans e)))) (fun _ _=>trivial)
 ·exact Kd.q6 hq h.x4 (fun q hq=>by rcases List.mem_cons.1 hq with rfl|h;decide;cases h) 0 qv'
theorem c3 (h:DI w b3 b4 go co n lo hi out qv Q W):W.cell? ⟨b3,0,none⟩=some (.slice (some ⟨go,0,none⟩) n co):=(ai h.x3 0).trans rfl
theorem c4 (h:DI w b3 b4 go co n lo hi out qv Q W):W.cell? ⟨b4,0,none⟩=some qv:=(ai h.x4 0).trans rfl
theorem iP (h:DI w b3 b4 go co n lo hi out qv Q W) (v:Nat) (j:v<n):W.cell? ⟨go,v,none⟩=some (.int .i64 (rd out v)):=by
 have:=(Kd.bB 0 h.ro (v:Int) (by omega) (by omega)).1
 rw[Int.toNat_natCast] at this
 exact this
theorem vh (h:DI w b3 b4 go co n lo hi out qv Q W) (v:Nat) (j:v<n):W.frozen? ⟨go,v,none⟩=false:=by
 have:=(Kd.bB 0 h.ro (v:Int) (by omega) (by omega)).2
 rw[Int.toNat_natCast] at this
 exact this
theorem free (h:DI w b3 b4 go co n lo hi out qv Q W):DI w b3 b4 go co n 0 0 out qv Q W:=⟨h.hb,h.x3,h.x4,h.ro,Kd.kj h.rq (fun k hk=>⟨hk.1,.inr (Nat.zero_le _)⟩),h.ne⟩
theorem own (h:DI w b3 b4 go co n lo hi out qv Q W):∀k,qv.ownBlock=some k->k≠go∧(k<lo∨hi<=k)∧w.heap.size<=k∧k≠b3∧k≠b4:=fun k hk=>⟨(h.rq.1 k hk).1,(h.rq.1 k hk).2,Kd.wC h.rq k hk,fun e=>Kd.q9 h.rq h.x3 (by decide) (by rw[hk,e]),fun e=>Kd.q9 h.rq h.x4 (by decide) (by rw[hk,e])⟩
theorem push (h:DI w b3 b4 go co n lo hi out qv Q W) {v1:Value} {w1:World} {u:Nat} (hq:(Kd.int .i64).Q 3 w1 w.heap.size (fun k=>k≠go∧(k<lo∨hi<=k)) v1 (Q.map (fun x:Nat=>(x:Int))++[(u:Int)])) (j:W.grownBy w1 qv.ownBlock) (hb:Below w.heap.size w w1):DI w b3 b4 go co n lo hi out v1 (Q++[u]) (w1.setCell ⟨b4,0,none⟩ v1):=by
 have I:=cg h.x3 j (fun e=>(h.own b3 e.symm).2.2.2.1 rfl)
 have o:=cg h.x4 j (fun e=>(h.own b4 e.symm).2.2.2.2 rfl)
 have ro:=Kd.ga h.ro rfl j (fun e=>(h.own go e).1 rfl)
 refine⟨Below.setCell hb h.ne.2.2.2.2 _,ay I h.ne.1 _,by simpa using bt o 0 v1,?_,?_,h.ne⟩
 ·exact Kd.aR (Kd.en (Kd.fp rfl ro) (fun k hk=>Below.heap_setCell _ _ _ _ (fun e=>by injection hk with hk;exact h.ne.2.2.1 (hk.symm.trans e)))) (fun _ _=>trivial)
 ·rw[List.map_append]
  exact Kd.q6 hq o (fun q hq=>by rcases List.mem_cons.1 hq with rfl|h;decide;cases h) 0 v1
end DI
def ka (E:List S83) (v u:Nat):Prop:=∃m,(((u:Nat):Int),m)∈bL E v E.length
theorem C8 (g n:Nat) (A0:Option Addr) (c0:Nat) (E:List S83) (q:Nat) (dv sv:Value) (er:Int) (w:World) (k5:Kd.C aG w A0 E.length E) (hE:dp n E) (hn:n<=1000) (hq:q<n)
  (an:fz w g n (.slice A0 E.length c0) q dv sv er):
  Calls Tryz.prog 165 #[.pointer (some ⟨g,0,none⟩)] w fun e w'=>∃(go co:Nat) (out:List Int) (D:Int),e= .returned (.slice (some ⟨go,0,none⟩) n co)∧(Kd.int .i64).R 3 w' w.heap.size (fun _=>True) (.slice (some ⟨go,0,none⟩) n co) out∧Below w.heap.size w w'∧Bf n q (ka E) out [] D (fun _ _=>False):=by
 have sz:=Tryz.underlying188
 have hu:=Tryz.underlying24
 have HE:=Aside0.mk hE
 have gr:=Aside0.mk an
 have sN:=aw an
 have oc:1<=n:=by omega
 have s3:(0:Int)<=(q:Int):=by omega
 have s4:(q:Int)<(n:Int):=by omega
 have hx:=(ai (heap_alloc_new w (.cells #[.int .i64 (-1)] 3)) 0).trans rfl
 have s0:(w.alloc (.cells #[.int .i64 (-1)] 3)).cell? ⟨g,0,none⟩=some (.int .i64 n):=(ai (aq an _) 0).trans rfl
 clear hE an
 refine(callsIn_wide (n:=10)).1 ?_
 refine callsIn_of_wp_marks Tryz.func165 rfl trivial ?_ rfl
 simp only[Tryz.ntmps165,List.size_toArray,List.length_cons,List.length_nil,Nat.reduceAdd,Nat.reduceSub,Array.replicate_succ,Array.replicate_zero,List.push_toArray,List.append_toArray,List.nil_append,List.cons_append]
 gi_wp2_with (first|(refine⟨trivial,?_⟩;gi_at_call 193;refine(callsIn_wide.2 (C6 w.heap.size 0 1 n (-1) _ hx oc hn)).mono ?_;rintro e w3 ⟨go,co,rfl,hR,hB⟩))
 have hI:=aN (al (Below.refl w.heap.size w) _) hB
 have og:w.heap.size<=go:=by have:=Kd.br hR go rfl;simp at this;omega
 have oi:=Kd.bq hR go rfl
 have g0:Aside0 ((Kd.int .i64).R 3 (w3.alloc (.cells #[.slice (some ⟨go,0,none⟩) n co] 25)) w.heap.size (fun _=>True) (.slice (some ⟨go,0,none⟩) n co) (List.replicate n (-1))):=⟨Kd.aD (Kd.aM hR (by simp)) _⟩
 have g':=Aside0.mk (al hI (.cells #[.slice (some ⟨go,0,none⟩) n co] 25))
 have ek:=Aside0.mk (heap_alloc_new w3 (.cells #[.slice (some ⟨go,0,none⟩) n co] 25))
 have oj:w.heap.size<=w3.heap.size:=hI.size
 have hf:(w3.alloc (.cells #[.slice (some ⟨go,0,none⟩) n co] 25)).heap.size=w3.heap.size+1:=by simp
 clear hR hB hI hx s0
 obtain⟨b3,k_⟩:∃b,b=w3.heap.size:=⟨_,rfl⟩
 rw[<-k_] at ek oj hf oi⊢
 clear k_
 generalize w3.alloc (.cells #[.slice (some ⟨go,0,none⟩) n co] 25)=W1 at g0 g' ek hf⊢
 have y0:=(ai ek.out 0).trans rfl
 have y1:W1.cell? ⟨g,2,none⟩=some (.int .i64 q):=(ai (aE gr.out g'.out) 2).trans rfl
 obtain⟨y2,y3⟩:=Kd.bB 0 g0.out (q:Int) (by omega) (by omega)
 rw[Int.toNat_natCast] at y2 y3
 generalize bl 0 (List.replicate n (-1)) (q:Int)=xq at y2
 replace y2:W1.cell? ⟨go,q,none⟩=some (.int .i64 xq):=y2
 have HP:=Kd.cL g0.out (q:Int) (0:Int)
 rw[Int.toNat_natCast] at HP
 have ew:=Aside0.mk (Kd.a8 HP.1)
 have hN:=Aside0.mk (eG (cg (g:=b3) ek.out HP.2 (fun e=>by injection e with e;omega)))
 have hh:=Aside0.mk (bu (Below.setCell (p:=⟨go,q,none⟩) g'.out og (.int .i64 0)))
 have ey:(W1.setCell ⟨go,q,none⟩ (.int .i64 0)).drew.heap.size=b3+1:=by simp[hf]
 clear HP
 gi_region
 replace ew:Aside0 ((Kd.int .i64).R 3 (W1.setCell ⟨go,q,none⟩ (.int .i64 0)).drew w.heap.size (fun _=>True) (.slice (some ⟨go,0,none⟩) n co) ((List.replicate n (-1)).set q 0)):=ew
 clear y0 y1 y2 y3 g0 ek g' hf
 generalize (W1.setCell ⟨go,q,none⟩ (.int .i64 0)).drew=W2 at ew hN hh ey⊢
 have y1:W2.cell? ⟨g,2,none⟩=some (.int .i64 q):=(ai (aE gr.out hh.out) 2).trans rfl
 gi_wp2
 have hO:Aside0 (DI w b3 (b3+1+1) go co n 0 0 ((List.replicate n (-1)).set q 0) (.slice (some ⟨b3+1,0,none⟩) 1 1) [q] ((W2.alloc (.cells #[.int .i64 q] 3)).alloc (.cells #[.slice (some ⟨b3+1,0,none⟩) 1 1] 25))):=⟨by
  have Z1:=heap_alloc_new W2 (.cells #[.int .i64 q] 3)
  have Z2:=heap_alloc_new (W2.alloc (.cells #[.int .i64 q] 3)) (.cells #[.slice (some ⟨b3+1,0,none⟩) 1 1] 25)
  rw[World.size_alloc,ey] at Z2
  rw[ey] at Z1
  refine⟨al (al hh.out _) _,aq (aq hN.out _) _,Z2,Kd.aD (Kd.aD ew.out _) _,Kd.wx (Kd.kY ⟨by simp[bj],.inr ⟨b3+1,1,_,rfl,by omega,aq Z1 _,by simp,by decide,by simp,by simp[bj]⟩⟩ (fun k hk=>by cases hk;exact⟨by show b3+1≠go;omega,.inr (Nat.zero_le _)⟩)),by omega,by omega,by omega,by omega,by omega⟩⟩
 have lg:=Aside0.mk (Bf.start (nb:=ka E) hq)
 have lj:((W2.alloc (.cells #[.int .i64 q] 3)).alloc (.cells #[.slice (some ⟨b3+1,0,none⟩) 1 1] 25)).heap.size=b3+3:=by simp[ey]
 clear ew hN hh ey y1
 generalize (W2.alloc (.cells #[.int .i64 q] 3)).alloc (.cells #[.slice (some ⟨b3+1,0,none⟩) 1 1] 25)=W4 at hO lj⊢
 refine tl (b3+3) (fun kq tm wr=>∃(u5 lp lv l0 l3 l' mb ml u32 mn mv mx:Value) (out:List Int) (qv:Value) (Q:List Nat) (D:Int),Aside0 (DI w b3 (b3+1+1) go co n 0 0 out qv Q wr)∧Aside0 (Bf n q (ka E) out Q D (fun _ _=>False))∧b3+3<=wr.heap.size∧Aside0 (kq=2*(n-bz out)+Q.length∧kq<=2*n+1)∧tm=#[.pointer (some ⟨g,0,none⟩),undef,.slice none 0 0,.pointer (some ⟨b3,0,none⟩),.pointer (some ⟨b3+1+1,0,none⟩),u5,undef,.slice (some ⟨w.heap.size,0,none⟩) 1 1,.pointer (some ⟨g,0,none⟩),.pointer (some ⟨g,0,none⟩),.pointer (some ⟨g,0,none⟩),.pointer (some ⟨g,0,none⟩),.int .i64 n,.slice (some ⟨go,0,none⟩) n co,.slice (some ⟨go,0,none⟩) n co,.pointer (some ⟨g,0,none⟩),.pointer (some ⟨g,0,none⟩),.pointer (some ⟨g,2,none⟩),.int .i64 q,.pointer (some ⟨go,q,none⟩),.pointer (some ⟨g,0,none⟩),.pointer (some ⟨g,0,none⟩),.pointer (some ⟨g,2,none⟩),.int .i64 q,.slice (some ⟨b3+1,0,none⟩) 1 1,lp,lv,l0,l3,l',mb,ml,u32,mn,mv,mx,undef,undef,undef,undef,undef,undef,undef,undef,undef,undef,undef,undef,undef,undef,undef,undef,undef,undef,undef,undef]) (2*(n-bz ((List.replicate n (-1)).set q 0))+1) ⟨_,_,_,_,_,_,_,_,_,_,_,_,_,_,_,_,hO,lg,by omega,⟨rfl,by omega⟩,rfl⟩ (b3+3) (by omega) (bN.nil _ _ _) ?_
 clear hO lg lj
 rintro gk tm wr ⟨u5,lp,lv,l0,l3,l',mb,ml,u32,mn,mv,mx,out,qv,Q,D,HD,HF,aK,HK,rfl⟩ ds b hb m2 J K hJ hK
 have m4:=Aside0.mk m2
 have HJ:=Aside0.mk hJ
 clear m2 hJ
 have x4:=HD.out.c4
 have x3:=HD.out.c3
 cases Q with
 |nil=>
  obtain⟨A,c,rfl, -⟩:=Kd.mm HD.out.rq
  have ox:((([]:List Nat).map fun x:Nat=>(x:Int)).length:Int)=0:=rfl
  simp only[List.map_nil,List.length_nil] at x4
  clear ox hK
  gi_wp2
  refine(tk m4.out fun w' nd=>?_).1
  exact⟨_,results_tmp rfl _ _ _,go,co,rfl,out,nd.R HD.out.ro,HD.out.hb.trans (nd.jo.mono (by omega)),D,HF.out⟩
 |cons v rest=>
  obtain⟨gq,oq,cq,rfl,ts,tv, -⟩:=Kd.wY HD.out.rq (by simp)
  have oy:=HF.out.qv v (List.mem_cons_self ..)
  have ca:=oy.1
  have e0:=(Kd.w_ 0 HD.out.rq 0 (by omega) (by simp)).1
  have nr:=Kd.kj (Kd.mj (Kd.wD (k:=1) HD.out.rq (by simp))) (ok':=fun k=>k≠go∧(k<wr.heap.size∨wr.heap.size+3<=k)) (fun k hk=>⟨hk.1.1,.inl hk.2.2.1⟩)
  obtain⟨A',c',ha,hl⟩:=Kd.mm HD.out.rq
  injection ha with o0 o1 o2
  subst o2
  have hr:=Aside0.mk (heap_alloc_new wr (.cells #[.int .i64 v] 3))
  have cb:=Aside0.mk (HD.out.alloc (.cells #[.int .i64 v] 3))
  have ht:=Aside0.mk (m4.out.below (al (Below.refl _ _) (.cells #[.int .i64 v] 3)))
  have e3:=Aside0.mk (Kd.wy nr (.cells #[.int .i64 v] 3))
  simp only[List.map_cons,List.length_cons,List.length_map,List.drop_succ_cons,List.drop_zero,Nat.add_sub_cancel] at x4 e0 e3 hl
  replace e0:wr.cell? ⟨gq,oq,none⟩=some (.int .i64 v):=e0
  obtain⟨L,hL⟩:∃L,L=rest.length+1:=⟨_,rfl⟩
  rw[<-hL] at x4 hl
  have nu:(1:Int)<=(L:Int):=by omega
  have nv:(L:Int)<=(cq:Int):=by omega
  have n0:(0:Int)<(L:Int):=by omega
  have hy:=cb.out.c4
  simp only[List.map_cons,List.length_cons,List.length_map] at hy
  rw[<-hL] at hy
  have n_:=Aside0.mk hL
  clear o0 o1 hL nr
  have n':=a9 cb.out.x4 0
  have ob:=Aside0.mk (Bf.pop HF.out)
  have va:=HF.out.len
  by_cases hz:cq=1
  ·subst hz
   obtain rfl:L=1:=by omega
   obtain⟨qn,cc⟩:∃qn,qn=Value.slice (some ⟨gq,oq,none⟩) 0 0:=⟨_,rfl⟩
   have cd:=Aside0.mk (cb.out.vg (lo':=wr.heap.size) (hi':=wr.heap.size+3) (qv':=qn) (Q':=rest) (by have h:=e3.out;rw[if_pos rfl,show rest.length=0 by have:=n_.out;omega] at h;rw[cc];exact h))
   gi_wp2_with (first|(refine⟨trivial,?_⟩;gi_at_call 194;refine(callsIn_wide.2 (kJ g v _)).mono ?_;rintro e w3 ⟨rfl,rfl⟩))
   rw[<-cc]
   obtain⟨ak,aS⟩:∃X,X=(wr.alloc (.cells #[.int .i64 v] 3)).setCell ⟨b3+1+1,0,none⟩ qn:=⟨_,rfl⟩
   have e4:Aside0 (ak.heap[wr.heap.size]? =some (.cells #[.int .i64 v] 3 (0,0))):=⟨by rw[aS];exact ay hr.out (show wr.heap.size≠b3+1+1 by omega) _⟩
   have e5:ak.heap.size=wr.heap.size+1:=by rw[aS];simp
   have e6:Aside0 (bN (b3+3) b ds ak):=⟨by rw[aS];exact ht.out.set cb.out.x4 _⟩
   rw[<-aS] at cd⊢
   have Z1:=heap_alloc_new ak (.cells #[.pointer (some ⟨g,0,none⟩)] 135)
   have Z2:=heap_alloc2_new ak (.cells #[.pointer (some ⟨g,0,none⟩)] 135) (.cells #[.int .i64 v] 3)
   rw[e5] at Z1 Z2
   have ar:=Aside0.mk ((cd.out.alloc (.cells #[.pointer (some ⟨g,0,none⟩)] 135)).alloc (.cells #[.int .i64 v] 3))
   have bw:=Aside0.mk (aq (aq e4.out (.cells #[.pointer (some ⟨g,0,none⟩)] 135)) (.cells #[.int .i64 v] 3))
   have bx:=Aside0.mk ((e6.out.below (al (Below.refl _ _) (.cells #[.pointer (some ⟨g,0,none⟩)] 135))).below (al (Below.refl _ _) (.cells #[.int .i64 v] 3)))
   have cf:=Aside0.mk (aq Z1 (.cells #[.int .i64 v] 3))
   have ch:=Aside0.mk Z2
   have b0:=Aside0.mk (aE gr.out ar.out.hb)
   have cj:((ak.alloc (.cells #[.pointer (some ⟨g,0,none⟩)] 135)).alloc (.cells #[.int .i64 v] 3)).heap.size=wr.heap.size+3:=by simp[e5]
   have hV:=Nat.le_of_eq cj
   have hW:=Nat.le_of_eq cj.symm
   clear cj
   clear hr ht cb e3 cd e4 e6 Z1 Z2 aS cc HD x4 hy x3 e0 n' nu nv n0 hl
   generalize (ak.alloc (.cells #[.pointer (some ⟨g,0,none⟩)] 135)).alloc (.cells #[.int .i64 v] 3)=W5 at ar bw bx cf ch b0 hV hW⊢
   refine iB (σ:=Unit) (α:=Int×Int) (F:=Fence.wide) (n:=10) rfl (by decide) (gf:=207) (lb:=#[.pointer (some ⟨wr.heap.size+1,0,none⟩),.pointer (some ⟨wr.heap.size+1+1,0,none⟩)]) rfl trivial (enters_of Tryz.func207 (by kernel_rfl) rfl)
    (fun o=>pA (wr.heap.size+1) (wr.heap.size+1+1) g n A0 c0 E q dv sv er v w _ k5 HE.out hn ca (al (al ar.out.hb _) _) (aq (aq cf.out _) _) (aq (aq ch.out _) _) (aq (aq b0.out _) _)) (fun _=>rfl)
    (fun _=>True) ?o3 ?o4 ?o'
    (fun _ pre W=>W5.heap.size<=W.heap.size∧∃(I:List Int) (qv':Value) (Q':List Nat),DI w b3 (b3+1+1) go co n wr.heap.size (wr.heap.size+3) I qv' Q' W∧Bf n q (ka E) I Q' (rd I v) (nI v pre)∧2*(n-bz I)+Q'.length<=2*(n-bz out)+rest.length∧W.heap[wr.heap.size]? =some (.cells #[.int .i64 v] 3 (0,0))∧bN (b3+3) b ds W) (fun _ _ _ _=>False)
    ?pb (fun _ _ _ _ _ _ h _=>h) ?pe (fun _ _ _ _ _ h _=>h) ?pj ?ps ?vb ?p0 ?p1 ?p2 (fun _ _ _ _ _ _ _ h=>h.elim)
   case p0=>
    intro l x W K hK
    gi_wp2
    exact hK
   case o3=>
    intro o s W1 h
    exact⟨trivial,by rw[h];exact bJ.refl _ _⟩
   case o4=>intro s A B _ h;exact cH h
   case o'=>intro s x A B _ h;exact cH h.2
   case pb=>
    rintro s pre A B _ ⟨hs,I,qv',Q',h1,h2,h4,h5,h6⟩ an
    exact⟨Nat.le_trans hs an.size,I,qv',Q',h1.below an,h2,h4,aE h5 an,h6.below an⟩
   case pe=>
    rintro s pre A B ⟨hs,I,qv',Q',h1,h2,h4,h5,h6⟩ b1
    exact⟨by rw[b1.size];exact hs,I,qv',Q',h1.bk b1 (by omega),h2,h4,b1.cells h5,h6.bk b1 (by omega)⟩
   case pj=>
    intro s A B C D b2 e_ e'
    refine⟨fun aK=>((b2.below w.heap.size (by omega)).trans (e_.1 (by rw[b2.size];exact aK))).trans (e'.below w.heap.size (by omega)),fun k hk fb=>?_⟩
    have fo:k≠W5.heap.size+1:=by rcases hk with rfl|rfl|rfl<;>omega
    exact(e'.heap k fo).trans ((e_.2 k hk (by rw[b2.size];exact fb)).trans (b2.heap k fo))
   case ps=>
    rintro o s W1 rfl
    exact⟨by simp;omega,out,qn,rest,(ar.out.alloc _).alloc _,ob.out.kT (fun x y h=>⟨h,by simp⟩),Nat.le_refl _,aq (aq bw.out _) _,(bx.out.below (al (Below.refl _ _) _)).below (al (Below.refl _ _) _)⟩
   case p1=>
    rintro l s' pre ⟨u,m⟩ Wb Wc W _ ⟨hs,I,qv',Q',i1,i2,i4,i5,i6⟩ ⟨⟨fq,hX⟩,a0⟩ hY ad
    have I1:=Aside0.mk ((i1.below a0).bk ad (by omega))
    have I4:=Aside0.mk i4
    have I5:=Aside0.mk (ad.cells (aE i5 a0))
    have I6:=Aside0.mk ((i6.below a0).bk ad (by omega))
    have b5:W5.heap.size<=W.heap.size:=by have:=ad.size;have:=a0.size;omega
    clear i1 i4 i5 i6 a0 ad hY hs
    simp only at fq
    obtain⟨u0,u1,m0,m1⟩:=fq
    obtain⟨u,rfl⟩:=Int.eq_ofNat_of_zero_le u0
    have b_:u<n:=by omega
    obtain⟨l1,l2⟩:=Bf.look (ex:=fun y=>¬∃m,((y:Int),m)∈pre) i2 b_ ca ⟨m,hX⟩
    have qx:=i2.d0
    have q0:rd I v<=1000:=by have h1:=i2.hi v ca;have h2:=il I;have h3:=i2.len;omega
    have h7:=Aside0.mk i2.len
    have z3:=I1.out.c3
    have z4:=I1.out.iP u b_
    have fv:∀(ex:Nat->Prop) (x y:Nat),(x=v∧(¬∃m,((y:Int),m)∈pre)∧y≠u)->nI v (pre++[((u:Int),m)]) x y:=fun ex x y h=>⟨h.1,fun⟨m',a2⟩=>by
     rcases List.mem_append.1 a2 with a2|a2
     ·exact h.2.1 ⟨m',a2⟩
     ·have:=List.mem_singleton.1 a2
      injection this with e1 e2
      exact h.2.2 (by omega)⟩
    have f':=Aside0.mk fv
    clear fv i2
    by_cases cx:rd I u<0
    ·obtain⟨k1,k2,k3,k4⟩:=l2 cx
     have K2:=Aside0.mk k2
     have K3:=Aside0.mk k3
     have K4:=Aside0.mk (k4.kT (f'.out (fun _=>True)))
     have h':decide (rd I u<0)=true:=decide_eq_true cx
     clear l1 l2 k1 k2 k3 k4
     gi_wp2
     have z3:=I1.out.c3
     have z4:=I1.out.iP v ca
     have z5:=(ai I5.out 0).trans rfl
     have ib:wrap64 (rd I v+1)=rd I v+1:=by unfold wrap64;omega
     have q2:(0:Int)<=(u:Int):=by omega
     have q3:(0:Int)<=(v:Int):=by omega
     have c6:(v:Int)<(n:Int):=by omega
     refine ni [_,_,_,_,_,_,_,_] _ rfl (by kernel_rfl) rfl (by kernel_rfl) (by kernel_rfl) (by kernel_rfl) (by kernel_rfl) ?_
     repeat(gi_big_quiet_step (fail))
     refine wpQuietIn_nil ?_
     rintro _ ⟨nq,rfl⟩
     have J1:=Aside0.mk (I1.out.drewN nq)
     have J5:=Aside0.mk (hZ I5.out nq)
     have J6:=Aside0.mk (I6.out.below (bC (Below.refl _ _) nq))
     have c9:W5.heap.size<=(W.drewN nq).heap.size:=by simpa using b5
     have dd:=Aside0.mk (cH (nw:=W5.heap.size) (bC (Below.refl W.heap.size W) nq))
     have ea:=Aside0.mk (bC (Below.refl w.heap.size W) nq)
     have eb:Aside0 (∀k,k≠go->(W.drewN nq).heap[k]? =W.heap[k]?):=⟨fun k _=>by simp⟩
     clear z3 z4 z5 ib
     have z5:=J1.out.vh u b_
     have z6:=J1.out.iP u b_
     generalize W.drewN nq=Wq at J1 J5 J6 c9 dd ea eb z5 z6⊢
     obtain⟨g1,g2,g3,g4⟩:=J1.out.ld
     obtain⟨n1,n2,n3,n4,n5⟩:=J1.out.ne
     have U:=Aside0.mk (J1.out.vf u (rd I v+1))
     have jj:wr.heap.size≠go:=by omega
     have j0:=Aside0.mk (ay (p:=⟨go,u,none⟩) J5.out jj (.int .i64 (rd I v+1)))
     have j1:Aside0 (bN (b3+3) b ds (Wq.setCell ⟨go,u,none⟩ (.int .i64 (rd I v+1)))):=⟨by
      obtain⟨inner,ho⟩:=Kd.ic J1.out.ro
      obtain⟨cells,hc⟩:=ia ho go rfl
      exact J6.out.set (p:=⟨go,u,none⟩) hc _⟩
     have j2:W5.heap.size<=(Wq.setCell ⟨go,u,none⟩ (.int .i64 (rd I v+1))).heap.size:=by simpa using c9
     have j3:=Aside0.mk (dd.out.trans (eQ (bo:=go) (j:=u) Wq (.int .i64 (rd I v+1)) (show go<W5.heap.size by omega)))
     have j_:Aside0 (∀k,k≠go->(Wq.setCell ⟨go,u,none⟩ (.int .i64 (rd I v+1))).heap[k]? =W.heap[k]?):=⟨fun k hk=>(Below.heap_setCell _ _ _ _ hk).trans (eb.out k hk)⟩
     have j':Aside0 (∀k,(Wq.setCell ⟨go,u,none⟩ (.int .i64 (rd I v+1))).heap.size<=k->k≠go∧(k<wr.heap.size∨wr.heap.size+3<=k)):=⟨fun k hk=>by
      simp only[World.size_setCell] at hk
      omega⟩
     have kd:Aside0 (((Q'.map fun x:Nat=>(x:Int)).length+1)*8<=140737488355328):=⟨by
      have h1:=I4.out;have h2:=HK.out.1;have h3:=HK.out.2
      rw[List.length_cons] at h2
      rw[List.length_map]
      omega⟩
     have kk:=Aside0.mk (Below.setCell (p:=⟨go,u,none⟩) ea.out g4 (.int .i64 (rd I v+1)))
     have z4:=U.out.c4
     have ra:go≠b3+1+1:=n3
     clear I1 I5 I6 J1 J5 J6 c9 dd ea eb b5 ar bw bx b0
     gi_wp2_with (gi_at_builtin;go_loud (refine vd (Kd.int .i64) (w0:=w) w.heap.size rfl (.tmp 51) (.tmp 53) 25 3 (.int .i64 0) 8 rfl Tryz.underlying25 fw rfl (by decide) (by omega) qv' (Q'.map fun x:Nat=>(x:Int)) (u:Int) [.int .i64 u] (fun k=>k≠go∧(k<wr.heap.size∨wr.heap.size+3<=k)) (fun _=>False) rfl (by rw[World.size_setCell];rfl) rfl (fun _ hk=>hk.elim) j'.out U.out.rq U.out.hb U.out.hb.size kd.out ?_;intro v1 rb hown gl b' km;obtain⟨A1,c1,c6, -⟩:=Kd.mm hown;obtain⟨nx,gp⟩:∃nx,nx=((Q'.map fun x:Nat=>(x:Int))++[(u:Int)]).length:=⟨_,rfl⟩;rw[<-gp] at c6;clear gp;subst c6;have ks:=Aside0.mk (U.out.push hown b' gl);have X4:=Aside0.mk (cg U.out.x4 b' (fun e=>(U.out.own _ e.symm).2.2.2.2 rfl));have hz:=dN X4.out;have rv:=a9 X4.out 0;have kt:=Aside0.mk b';clear hown b' km gl))
     have hG:=kt.out
     have hown:=U.out.own
     have hK:∀k,(k=wr.heap.size∨k=wr.heap.size+1∨k=wr.heap.size+1+1∨k=g)->some k≠qv'.ownBlock:=fun k hk e=>by
      have:=hown k e.symm
      rcases hk with rfl|rfl|rfl|rfl<;>omega
     have r0:=hG.size
     refine⟨(j3.out.trans (ve U.out.rq hG)).trans (eQ _ _ (show b3+1+1<W5.heap.size by omega)),⟨fun _=>Below.setCell (p:=⟨b3+1+1,0,none⟩) (kk.out.grown hG U.out.hb.size (fun k e=>(hown k e).2.2.1)) n5 _,fun k hk fb=>?_⟩,?_,_,_,Q'++[u],ks.out,?_,?_,ay (cg j0.out hG (hK _ (.inl rfl))) (show wr.heap.size≠b3+1+1 by omega) _,(j1.out.u' U.out.rq hG).set X4.out _⟩
     ·refine(Below.heap_setCell _ _ _ _ (show k≠b3+1+1 by rcases hk with rfl|rfl|rfl<;>omega)).trans ((hG.block k ?_ (hK k (hk.elim (fun h=>.inr (.inl h)) (fun h=>.inr (.inr h))))).trans (j_.out k (by rcases hk with rfl|rfl|rfl<;>omega)))
      have h1:=j2
      rcases hk with rfl|rfl|rfl<;>omega
     ·simp only[World.size_setCell];omega
     ·rw[K2.out];exact K4.out
     ·rw[K3.out,List.length_append]
      have h1:=I4.out
      have h2:=il (I.set u (rd I v+1))
      rw[K3.out,List.length_set,h7.out] at h2
      simp only[List.length_cons,List.length_nil]
      omega
    ·have K4:=Aside0.mk ((l1 (by omega)).kT (f'.out (fun _=>True)))
     have h':decide (rd I u<0)=false:=decide_eq_false cx
     clear l1 l2 ar bw bx cf ch b0
     gi_wp2
     exact⟨bJ.refl _ _,⟨fun _=>Below.refl _ _,fun _ _ _=>rfl⟩,b5,I,qv',Q',I1.out,K4.out,I4.out,I5.out,I6.out⟩
   case p2=>
    rintro s' xs W W' _ rfl ⟨hs,I,qv',Q',i1,i2,i4,i5,i6⟩ ad eg
    have I1:=Aside0.mk (i1.bk ad (by omega)).free
    have I2:=Aside0.mk (Bf.done i2 (fun x y kW hex=>hex.2 (by rw[<-hex.1];exact kW)))
    have I4:=Aside0.mk i4
    have I6:=Aside0.mk (i6.bk ad (by omega))
    have k0:=Aside0.mk eg
    have b5:W5.heap.size<W'.heap.size:=(Array.getElem?_eq_some_iff.1 eg).1
    clear i1 i2 i4 i5 i6 eg
    gi_wp2
    exact jU.intro (2*(n-bz I)+Q'.length) (by rw[HK.out.1];have:=I4.out;simp only[List.length_cons];omega) (HJ.out _ _ _ ⟨_,_,_,_,_,_,_,_,_,_,_,_,I,qv',Q',_,I1,I2,by omega,⟨rfl,by have h1:=I4.out;have h2:=HK.out.1;have h3:=HK.out.2;rw[List.length_cons] at h2;omega⟩,rfl⟩) (W5.heap.size+1) (by omega) (I6.out.push (by omega) (by omega) k0.out)
  ·obtain⟨qn,cc⟩:∃qn,qn=Value.slice (some ⟨gq,oq+1,none⟩) (L-1) (cq-1):=⟨_,rfl⟩
   have cd:=Aside0.mk (cb.out.vg (lo':=wr.heap.size) (hi':=wr.heap.size+3) (qv':=qn) (Q':=rest) (by have h:=e3.out;rw[if_neg hz,show rest.length=L-1 by have:=n_.out;omega] at h;rw[cc];exact h))
   gi_wp2_with (first|(refine⟨trivial,?_⟩;gi_at_call 194;refine(callsIn_wide.2 (kJ g v _)).mono ?_;rintro e w3 ⟨rfl,rfl⟩))
   rw[<-cc]
   obtain⟨ak,aS⟩:∃X,X=(wr.alloc (.cells #[.int .i64 v] 3)).setCell ⟨b3+1+1,0,none⟩ qn:=⟨_,rfl⟩
   have e4:Aside0 (ak.heap[wr.heap.size]? =some (.cells #[.int .i64 v] 3 (0,0))):=⟨by rw[aS];exact ay hr.out (show wr.heap.size≠b3+1+1 by omega) _⟩
   have e5:ak.heap.size=wr.heap.size+1:=by rw[aS];simp
   have e6:Aside0 (bN (b3+3) b ds ak):=⟨by rw[aS];exact ht.out.set cb.out.x4 _⟩
   rw[<-aS] at cd⊢
   have Z1:=heap_alloc_new ak (.cells #[.pointer (some ⟨g,0,none⟩)] 135)
   have Z2:=heap_alloc2_new ak (.cells #[.pointer (some ⟨g,0,none⟩)] 135) (.cells #[.int .i64 v] 3)
   rw[e5] at Z1 Z2
   have ar:=Aside0.mk ((cd.out.alloc (.cells #[.pointer (some ⟨g,0,none⟩)] 135)).alloc (.cells #[.int .i64 v] 3))
   have bw:=Aside0.mk (aq (aq e4.out (.cells #[.pointer (some ⟨g,0,none⟩)] 135)) (.cells #[.int .i64 v] 3))
   have bx:=Aside0.mk ((e6.out.below (al (Below.refl _ _) (.cells #[.pointer (some ⟨g,0,none⟩)] 135))).below (al (Below.refl _ _) (.cells #[.int .i64 v] 3)))
   have cf:=Aside0.mk (aq Z1 (.cells #[.int .i64 v] 3))
   have ch:=Aside0.mk Z2
   have b0:=Aside0.mk (aE gr.out ar.out.hb)
   have cj:((ak.alloc (.cells #[.pointer (some ⟨g,0,none⟩)] 135)).alloc (.cells #[.int .i64 v] 3)).heap.size=wr.heap.size+3:=by simp[e5]
   have hV:=Nat.le_of_eq cj
   have hW:=Nat.le_of_eq cj.symm
   clear cj
   clear hr ht cb e3 cd e4 e6 Z1 Z2 aS cc HD x4 hy x3 e0 n' nu nv n0 hl
   generalize (ak.alloc (.cells #[.pointer (some ⟨g,0,none⟩)] 135)).alloc (.cells #[.int .i64 v] 3)=W5 at ar bw bx cf ch b0 hV hW⊢
   refine iB (σ:=Unit) (α:=Int×Int) (F:=Fence.wide) (n:=10) rfl (by decide) (gf:=207) (lb:=#[.pointer (some ⟨wr.heap.size+1,0,none⟩),.pointer (some ⟨wr.heap.size+1+1,0,none⟩)]) rfl trivial (enters_of Tryz.func207 (by kernel_rfl) rfl)
    (fun o=>pA (wr.heap.size+1) (wr.heap.size+1+1) g n A0 c0 E q dv sv er v w _ k5 HE.out hn ca (al (al ar.out.hb _) _) (aq (aq cf.out _) _) (aq (aq ch.out _) _) (aq (aq b0.out _) _)) (fun _=>rfl)
    (fun _=>True) ?r1 ?r2 ?r3
    (fun _ pre W=>W5.heap.size<=W.heap.size∧∃(I:List Int) (qv':Value) (Q':List Nat),DI w b3 (b3+1+1) go co n wr.heap.size (wr.heap.size+3) I qv' Q' W∧Bf n q (ka E) I Q' (rd I v) (nI v pre)∧2*(n-bz I)+Q'.length<=2*(n-bz out)+rest.length∧W.heap[wr.heap.size]? =some (.cells #[.int .i64 v] 3 (0,0))∧bN (b3+3) b ds W) (fun _ _ _ _=>False)
    ?r4 (fun _ _ _ _ _ _ h _=>h) ?r5 (fun _ _ _ _ _ h _=>h) ?r' ?sc ?vc ?sf ?si ?sq (fun _ _ _ _ _ _ _ h=>h.elim)
   case sf=>
    intro l x W K hK
    gi_wp2
    exact hK
   case r1=>
    intro o s W1 h
    exact⟨trivial,by rw[h];exact bJ.refl _ _⟩
   case r2=>intro s A B _ h;exact cH h
   case r3=>intro s x A B _ h;exact cH h.2
   case r4=>
    rintro s pre A B _ ⟨hs,I,qv',Q',h1,h2,h4,h5,h6⟩ an
    exact⟨Nat.le_trans hs an.size,I,qv',Q',h1.below an,h2,h4,aE h5 an,h6.below an⟩
   case r5=>
    rintro s pre A B ⟨hs,I,qv',Q',h1,h2,h4,h5,h6⟩ b1
    exact⟨by rw[b1.size];exact hs,I,qv',Q',h1.bk b1 (by omega),h2,h4,b1.cells h5,h6.bk b1 (by omega)⟩
   case r'=>
    intro s A B C D b2 e_ e'
    refine⟨fun aK=>((b2.below w.heap.size (by omega)).trans (e_.1 (by rw[b2.size];exact aK))).trans (e'.below w.heap.size (by omega)),fun k hk fb=>?_⟩
    have fo:k≠W5.heap.size+1:=by rcases hk with rfl|rfl|rfl<;>omega
    exact(e'.heap k fo).trans ((e_.2 k hk (by rw[b2.size];exact fb)).trans (b2.heap k fo))
   case sc=>
    rintro o s W1 rfl
    exact⟨by simp;omega,out,qn,rest,(ar.out.alloc _).alloc _,ob.out.kT (fun x y h=>⟨h,by simp⟩),Nat.le_refl _,aq (aq bw.out _) _,(bx.out.below (al (Below.refl _ _) _)).below (al (Below.refl _ _) _)⟩
   case si=>
    rintro l s' pre ⟨u,m⟩ Wb Wc W _ ⟨hs,I,qv',Q',i1,i2,i4,i5,i6⟩ ⟨⟨fq,hX⟩,a0⟩ hY ad
    have I1:=Aside0.mk ((i1.below a0).bk ad (by omega))
    have I4:=Aside0.mk i4
    have I5:=Aside0.mk (ad.cells (aE i5 a0))
    have I6:=Aside0.mk ((i6.below a0).bk ad (by omega))
    have b5:W5.heap.size<=W.heap.size:=by have:=ad.size;have:=a0.size;omega
    clear i1 i4 i5 i6 a0 ad hY hs
    simp only at fq
    obtain⟨u0,u1,m0,m1⟩:=fq
    obtain⟨u,rfl⟩:=Int.eq_ofNat_of_zero_le u0
    have b_:u<n:=by omega
    obtain⟨l1,l2⟩:=Bf.look (ex:=fun y=>¬∃m,((y:Int),m)∈pre) i2 b_ ca ⟨m,hX⟩
    have qx:=i2.d0
    have q0:rd I v<=1000:=by have h1:=i2.hi v ca;have h2:=il I;have h3:=i2.len;omega
    have h7:=Aside0.mk i2.len
    have z3:=I1.out.c3
    have z4:=I1.out.iP u b_
    have fv:∀(ex:Nat->Prop) (x y:Nat),(x=v∧(¬∃m,((y:Int),m)∈pre)∧y≠u)->nI v (pre++[((u:Int),m)]) x y:=fun ex x y h=>⟨h.1,fun⟨m',a2⟩=>by
     rcases List.mem_append.1 a2 with a2|a2
     ·exact h.2.1 ⟨m',a2⟩
     ·have:=List.mem_singleton.1 a2
      injection this with e1 e2
      exact h.2.2 (by omega)⟩
    have f':=Aside0.mk fv
    clear fv i2
    by_cases cx:rd I u<0
    ·obtain⟨k1,k2,k3,k4⟩:=l2 cx
     have K2:=Aside0.mk k2
     have K3:=Aside0.mk k3
     have K4:=Aside0.mk (k4.kT (f'.out (fun _=>True)))
     have h':decide (rd I u<0)=true:=decide_eq_true cx
     clear l1 l2 k1 k2 k3 k4
     gi_wp2
     have z3:=I1.out.c3
     have z4:=I1.out.iP v ca
     have z5:=(ai I5.out 0).trans rfl
     have ib:wrap64 (rd I v+1)=rd I v+1:=by unfold wrap64;omega
     have q2:(0:Int)<=(u:Int):=by omega
     have q3:(0:Int)<=(v:Int):=by omega
     have c6:(v:Int)<(n:Int):=by omega
     refine ni [_,_,_,_,_,_,_,_] _ rfl (by kernel_rfl) rfl (by kernel_rfl) (by kernel_rfl) (by kernel_rfl) (by kernel_rfl) ?_
     repeat(gi_big_quiet_step (fail))
     refine wpQuietIn_nil ?_
     rintro _ ⟨nq,rfl⟩
     have J1:=Aside0.mk (I1.out.drewN nq)
     have J5:=Aside0.mk (hZ I5.out nq)
     have J6:=Aside0.mk (I6.out.below (bC (Below.refl _ _) nq))
     have c9:W5.heap.size<=(W.drewN nq).heap.size:=by simpa using b5
     have dd:=Aside0.mk (cH (nw:=W5.heap.size) (bC (Below.refl W.heap.size W) nq))
     have ea:=Aside0.mk (bC (Below.refl w.heap.size W) nq)
     have eb:Aside0 (∀k,k≠go->(W.drewN nq).heap[k]? =W.heap[k]?):=⟨fun k _=>by simp⟩
     clear z3 z4 z5 ib
     have z5:=J1.out.vh u b_
     have z6:=J1.out.iP u b_
     generalize W.drewN nq=Wq at J1 J5 J6 c9 dd ea eb z5 z6⊢
     obtain⟨g1,g2,g3,g4⟩:=J1.out.ld
     obtain⟨n1,n2,n3,n4,n5⟩:=J1.out.ne
     have U:=Aside0.mk (J1.out.vf u (rd I v+1))
     have jj:wr.heap.size≠go:=by omega
     have j0:=Aside0.mk (ay (p:=⟨go,u,none⟩) J5.out jj (.int .i64 (rd I v+1)))
     have j1:Aside0 (bN (b3+3) b ds (Wq.setCell ⟨go,u,none⟩ (.int .i64 (rd I v+1)))):=⟨by
      obtain⟨inner,ho⟩:=Kd.ic J1.out.ro
      obtain⟨cells,hc⟩:=ia ho go rfl
      exact J6.out.set (p:=⟨go,u,none⟩) hc _⟩
     have j2:W5.heap.size<=(Wq.setCell ⟨go,u,none⟩ (.int .i64 (rd I v+1))).heap.size:=by simpa using c9
     have j3:=Aside0.mk (dd.out.trans (eQ (bo:=go) (j:=u) Wq (.int .i64 (rd I v+1)) (show go<W5.heap.size by omega)))
     have j_:Aside0 (∀k,k≠go->(Wq.setCell ⟨go,u,none⟩ (.int .i64 (rd I v+1))).heap[k]? =W.heap[k]?):=⟨fun k hk=>(Below.heap_setCell _ _ _ _ hk).trans (eb.out k hk)⟩
     have j':Aside0 (∀k,(Wq.setCell ⟨go,u,none⟩ (.int .i64 (rd I v+1))).heap.size<=k->k≠go∧(k<wr.heap.size∨wr.heap.size+3<=k)):=⟨fun k hk=>by
      simp only[World.size_setCell] at hk
      omega⟩
     have kd:Aside0 (((Q'.map fun x:Nat=>(x:Int)).length+1)*8<=140737488355328):=⟨by
      have h1:=I4.out;have h2:=HK.out.1;have h3:=HK.out.2
      rw[List.length_cons] at h2
      rw[List.length_map]
      omega⟩
     have kk:=Aside0.mk (Below.setCell (p:=⟨go,u,none⟩) ea.out g4 (.int .i64 (rd I v+1)))
     have z4:=U.out.c4
     have ra:go≠b3+1+1:=n3
     clear I1 I5 I6 J1 J5 J6 c9 dd ea eb b5 ar bw bx b0
     gi_wp2_with (gi_at_builtin;go_loud (refine vd (Kd.int .i64) (w0:=w) w.heap.size rfl (.tmp 51) (.tmp 53) 25 3 (.int .i64 0) 8 rfl Tryz.underlying25 fw rfl (by decide) (by omega) qv' (Q'.map fun x:Nat=>(x:Int)) (u:Int) [.int .i64 u] (fun k=>k≠go∧(k<wr.heap.size∨wr.heap.size+3<=k)) (fun _=>False) rfl (by rw[World.size_setCell];rfl) rfl (fun _ hk=>hk.elim) j'.out U.out.rq U.out.hb U.out.hb.size kd.out ?_;intro v1 rb hown gl b' km;obtain⟨A1,c1,c6, -⟩:=Kd.mm hown;obtain⟨nx,gp⟩:∃nx,nx=((Q'.map fun x:Nat=>(x:Int))++[(u:Int)]).length:=⟨_,rfl⟩;rw[<-gp] at c6;clear gp;subst c6;have ks:=Aside0.mk (U.out.push hown b' gl);have X4:=Aside0.mk (cg U.out.x4 b' (fun e=>(U.out.own _ e.symm).2.2.2.2 rfl));have hz:=dN X4.out;have rv:=a9 X4.out 0;have kt:=Aside0.mk b';clear hown b' km gl))
     have hG:=kt.out
     have hown:=U.out.own
     have hK:∀k,(k=wr.heap.size∨k=wr.heap.size+1∨k=wr.heap.size+1+1∨k=g)->some k≠qv'.ownBlock:=fun k hk e=>by
      have:=hown k e.symm
      rcases hk with rfl|rfl|rfl|rfl<;>omega
     have r0:=hG.size
     refine⟨(j3.out.trans (ve U.out.rq hG)).trans (eQ _ _ (show b3+1+1<W5.heap.size by omega)),⟨fun _=>Below.setCell (p:=⟨b3+1+1,0,none⟩) (kk.out.grown hG U.out.hb.size (fun k e=>(hown k e).2.2.1)) n5 _,fun k hk fb=>?_⟩,?_,_,_,Q'++[u],ks.out,?_,?_,ay (cg j0.out hG (hK _ (.inl rfl))) (show wr.heap.size≠b3+1+1 by omega) _,(j1.out.u' U.out.rq hG).set X4.out _⟩
     ·refine(Below.heap_setCell _ _ _ _ (show k≠b3+1+1 by rcases hk with rfl|rfl|rfl<;>omega)).trans ((hG.block k ?_ (hK k (hk.elim (fun h=>.inr (.inl h)) (fun h=>.inr (.inr h))))).trans (j_.out k (by rcases hk with rfl|rfl|rfl<;>omega)))
      have h1:=j2
      rcases hk with rfl|rfl|rfl<;>omega
     ·simp only[World.size_setCell];omega
     ·rw[K2.out];exact K4.out
     ·rw[K3.out,List.length_append]
      have h1:=I4.out
      have h2:=il (I.set u (rd I v+1))
      rw[K3.out,List.length_set,h7.out] at h2
      simp only[List.length_cons,List.length_nil]
      omega
    ·have K4:=Aside0.mk ((l1 (by omega)).kT (f'.out (fun _=>True)))
     have h':decide (rd I u<0)=false:=decide_eq_false cx
     clear l1 l2 ar bw bx cf ch b0
     gi_wp2
     exact⟨bJ.refl _ _,⟨fun _=>Below.refl _ _,fun _ _ _=>rfl⟩,b5,I,qv',Q',I1.out,K4.out,I4.out,I5.out,I6.out⟩
   case sq=>
    rintro s' xs W W' _ rfl ⟨hs,I,qv',Q',i1,i2,i4,i5,i6⟩ ad eg
    have I1:=Aside0.mk (i1.bk ad (by omega)).free
    have I2:=Aside0.mk (Bf.done i2 (fun x y kW hex=>hex.2 (by rw[<-hex.1];exact kW)))
    have I4:=Aside0.mk i4
    have I6:=Aside0.mk (i6.bk ad (by omega))
    have k0:=Aside0.mk eg
    have b5:W5.heap.size<W'.heap.size:=(Array.getElem?_eq_some_iff.1 eg).1
    clear i1 i2 i4 i5 i6 eg
    gi_wp2
    exact jU.intro (2*(n-bz I)+Q'.length) (by rw[HK.out.1];have:=I4.out;simp only[List.length_cons];omega) (HJ.out _ _ _ ⟨_,_,_,_,_,_,_,_,_,_,_,_,I,qv',Q',_,I1,I2,by omega,⟨rfl,by have h1:=I4.out;have h2:=HK.out.1;have h3:=HK.out.2;rw[List.length_cons] at h2;omega⟩,rfl⟩) (W5.heap.size+1) (by omega) (I6.out.push (by omega) (by omega) k0.out)
end
section
attribute [local go_sem] jG jH jI jJ mF mG mH mI
def eX (xs:List Int):Nat->Int
 |0=>rd xs 0
 |k+1=>if eX xs k<rd xs ((k+1:Nat):Int) then rd xs ((k+1:Nat):Int) else eX xs k
theorem C9 (A:Option Addr) (c:Nat) (xs:List Int) (w:World) (hr:Kd.C (Kd.int .i64) w A xs.length xs) (h1:1<=xs.length):
  Calls Tryz.prog 167 #[.slice A xs.length c] w fun e w'=>e= .returned (.int .i64 (eX xs (xs.length-1)))∧Below w.heap.size w w':=by
 have av:xs.length<=9223372036854775807:=Kd.kZ hr
 have o:=Aside0.mk (Below.refl w.heap.size w)
 have U:=Aside0.mk hr
 obtain⟨a,ea,I⟩:=Kd.bD hr 0 (by omega) (by omega)
 subst ea
 have I:w.cell? a=some (.int .i64 (rd xs 0)):=by simpa [Addr.add] using I
 have aB:(1:Int)<=(xs.length:Int):=by omega
 have aF:((xs.length:Nat):Int)<=9223372036854775807:=by omega
 clear hr
 go_enter Tryz.func167,Tryz.ntmps167
 go_wp2
 clear I
 go_loopg [3,4] (xs.length-1) (fun kq mv iv wr=>∃i:Nat,mv= .int .i64 (eX xs (i-1))∧iv= .int .i64 i∧1<=i∧i<=xs.length∧Aside0 (Below w.heap.size w wr)∧Aside0 (kq=xs.length-i))
 case atStart=>exact⟨1,rfl,rfl,Nat.le_refl _,h1,o,⟨rfl⟩⟩
 case round=>
  clear o
  obtain⟨i,rfl,rfl,aL,aO,o,HK⟩:=hrel
  by_cases aP:i<xs.length
  ·have an:(0:Int)<=(i:Int):=by omega
   have ar:(i:Int)<(xs.length:Int):=by omega
   obtain⟨a',J,I⟩:=Kd.bD (Kd.aj U.out o.out) (i:Int) an ar
   injection J with J
   subst J
   rw[Int.toNat_natCast] at I
   have R:Aside0 (eX xs (i+1-1)=if eX xs (i-1)<rd xs (i:Int) then rd xs (i:Int) else eX xs (i-1)):=⟨by
    obtain⟨j,rfl⟩:∃j,i=j+1:=⟨i-1,by omega⟩
    rfl⟩
   generalize eX xs (i-1)=y at R⊢
   generalize rd xs (i:Int)=z at I R
   go_wp2
   all_goals
    go_roundg (xs.length- (i+1))
    case measure=>rw[HK.out];omega
    case rel=>exact⟨i+1,(by rw[R.out];first|rw[if_pos (by assumption)]|rw[if_neg (by assumption)]|rw[if_neg (by omega)]),by go_num,by omega,by omega,o,⟨rfl⟩⟩
  ·obtain rfl:i=xs.length:=by omega
   go_wp2
   go_ret
   exact⟨rfl,o.out⟩
end
end Go.Proofs.YtffdiakgjakngaaGreat.P

