/- RiemannrochHolds answers true whatever the input (text 17 of 20): own walks and plain laws; no conditions. -/
import Derived.Test.YtffdiakgjakngaaGreatHolds16
namespace Go.Proofs.YtffdiakgjakngaaGreat.P
open Go.RowKit Go.Proofs.YtffdiakgjakngaaGreatW.PrintWords Go.Proofs.YtffdiakgjakngaaGreatW.PrintLast Go.Proofs.YtffdiakgjakngaaGreatW.PrintMore
set_option linter.unusedVariables false
set_option linter.unusedSimpArgs false
set_option maxHeartbeats 8000000
set_option maxRecDepth 100000
def dz.l0:Nat->List (List Int)->Int->Int->Int->List (S83)->Option (Int)
 |0,_,_,_,_,_=>none
 |k+1,b,e,a,g,i=>if a<e then(if 0<=a then(if a<(b.length:Int) then((bc.f k (aT b a) g).bind fun h=>(if h=0 then(dz.l0 k b e (wrap64 (a+1)) g i) else(some h))) else(none)) else(none)) else(some 0)
def dz.f (k:Nat) (b:Int) (e:List (S83)) (l1:List (List Int)):Option (Int):=(bS.f k b e).bind fun a=>(if a.2=0 then(if a.1=true then(dz.l0 k l1 (l1.length:Int) 0 b e) else(some 13)) else(some a.2))
theorem dz.bW:∀k,(∀a b e g i,ae (dz.l0 k a b e g i) (dz.l0 (k+1) a b e g i))
 |0=>fun _ _ _ _ _ r h=>by simp[dz.l0] at h
 |k+1=>by
  have j:=dz.bW k
  ·intro a b e g i
   unfold dz.l0;repeat' first
   |(with_reducible exact j _ _ _ _ _)
   |(with_reducible exact bc.mono _ _ _)
   |(with_reducible exact bS.mono _ _ _)
   |(with_reducible exact ae.refl _)
   |(with_reducible exact ae.none _)
   |(with_reducible refine ae.ite ?_ ?_)
   |(with_reducible refine ae.bind ?_ (fun _=>?_))
   |exact j _ _ _ _ _
   |exact bc.mono _ _ _
   |exact bS.mono _ _ _
   |exact ae.none _
   |refine ae.ite ?_ ?_
   |refine ae.bind ?_ (fun _=>?_)
theorem dz.mono:∀a0 a a2 k,ae (dz.f k a0 a a2) (dz.f (k+1) a0 a a2):=by
 intro a0 a a2 k;have b:=dz.bW k;unfold dz.f;repeat' first
   |(with_reducible exact b _ _ _ _ _)
   |(with_reducible exact bc.mono _ _ _)
   |(with_reducible exact bS.mono _ _ _)
   |(with_reducible exact ae.refl _)
   |(with_reducible exact ae.none _)
   |(with_reducible refine ae.ite ?_ ?_)
   |(with_reducible refine ae.bind ?_ (fun _=>?_))
   |exact b _ _ _ _ _
   |exact bc.mono _ _ _
   |exact bS.mono _ _ _
   |exact ae.none _
   |refine ae.ite ?_ ?_
   |refine ae.bind ?_ (fun _=>?_)
theorem dz.calls (k:Nat) (b:Int) (m:Option Addr) (n:Nat) (i:List (S83)) (U:Option Addr) (c1:Nat) (l1:List (List Int)) (r:Int) (w:World) (V:Kd.C aK w m i.length i) (W:i.length<=n) (X:Kd.C (Kd.slice 3 (Kd.int .i64)) w U l1.length l1) (Y:l1.length<=c1) (h:dz.f k b i l1=some r):
  Calls Tryz.prog 75 #[.agg #[.int .i64 b,.slice m i.length n],.slice U l1.length c1] w fun e w'=>e= .returned (.int .i64 r)∧Below w.heap.size w w':=by
 have a1:=Tryz.underlying24;have G:=Aside0.mk V;have I:=Aside0.mk W;clear V W;have Z:=Aside0.mk X;have a2:=Aside0.mk Y;clear X Y;have a:=Aside0.mk (Below.refl w.heap.size w);unfold dz.f at h;have H:=h;clear h;obtain⟨⟨aa,B⟩,J,H⟩:=zo H;dsimp only at H;by_cases c4:B=0
 ·rw[if_pos c4] at H
  obtain⟨ab,ad⟩:=bt c4;clear c4;by_cases v:aa=true
  ·subst v
   replace H:=zi H;have D:=Aside0.mk H;clear H;go_enter Tryz.func75,Tryz.ntmps75
   go_wp2_with (first|((with_reducible refine aH (N:=2) rfl ?_);refine zX 2 #[.int .i64 b,.slice m i.length n] 24 ?_;intro K l w6 o hb;have j:=Aside0.mk (o);have ag:=zG a l;have ak:=zG a l;replace a:=zS a hb;clear hb o l;obtain⟨ar,av,aB,aF⟩:=au j)|((with_reducible refine ax (f:=113) rfl ?_);refine zL (some 12) Tryz.func113 #[.agg #[.int .i64 b,.slice m i.length n]] ?_;(with_reducible refine(bS.calls k b _ _ i true B _ ?af ?ah J.out).mono ?_);(case af=>exact Kd.al G.out zB);(case ah=>exact I.out);rintro e w8 ⟨rfl,hb⟩;refine⟨_,rfl,?_⟩;replace j:=zb j hb;replace a:=zS a hb;(try clear hb)))
   go_loopg [22] k (fun kq v22 w'=>∃(g:Int),v22= .int .i64 g∧Aside0 (dz.l0 kq l1 (l1.length:Int) g b i=some r)∧Aside0 (kq<=k)∧Aside0 (w'.heap[K]? =some (.cells #[.int .i64 b,(.slice m i.length n)] 24 (0,0)))∧Aside0 (Below w.heap.size w w'))
   case atStart=>exact⟨(0),zT,D,⟨Nat.le_refl _⟩,⟨zK j⟩,⟨zB⟩⟩
   case round=>
    clear D;try clear c1
    try clear p2
    try clear c4
    try clear ab
    try clear ad
    try clear v
    try clear c7
    try clear ar
    try clear av
    try clear aB
    try clear aF
    obtain⟨g,rfl,L,an,j,a⟩:=hrel;cases gk with
    |zero=>exact absurd L.out (by simp[dz.l0])
    |succ M=>
     have H:=L.out;clear L;simp only[dz.l0] at H;by_cases u:g<(l1.length:Int)
     ·rw[if_pos u] at H
      have aL:=decide_eq_true u;clear u;by_cases E:0<=g
      ·rw[if_pos E] at H
       have be:=decide_eq_true E;clear E;by_cases F:g<(l1.length:Int)
       ·rw[if_pos F] at H
        have bf:=decide_eq_true F;clear F;obtain⟨O,ap,H⟩:=zo H;by_cases x:O=0
        ·rw[if_pos x] at H
         obtain⟨aO,aP⟩:=bt x;clear x;have D:=Aside0.mk H;clear H;have p:0<=(g:Int):=of_decide_eq_true ‹_›;have q:g<(l1.length:Int):=of_decide_eq_true ‹_›;obtain⟨aS,P,Q,R,s,y,z⟩:=fE Z.out g p q;cases R;replace s:=(a.out.cell (World.block_lt_of_cell? w _ s)).trans s;have S:=Aside0.mk z;have T:=Aside0.mk y;clear z y;replace p:=eq_true p;replace q:=eq_true q;obtain⟨bg,bi,bk,bn⟩:=au j;go_wp2_with (first|((with_reducible refine ax (f:=87) rfl ?_);refine zL (some 29) Tryz.func87 #[.slice P (aT l1 g).length Q,.int .i64 b] ?_;(with_reducible refine(bc.calls M _ _ (aT l1 g) b O _ ?af ?ah ap.out).mono ?_);(case af=>exact Kd.al S.out zB);(case ah=>exact T.out);rintro e w' ⟨rfl,⟨nd,rfl⟩⟩;refine⟨_,rfl,?_⟩))
         go_roundg M
         case measure=>have:=an.out;omega
         case rel=>exact⟨(wrap64 (g+1)),zT,D,⟨by have:=an.out;omega⟩,⟨zK j⟩,⟨zB⟩⟩
        ·rw[if_neg x] at H
         obtain⟨aO,aP⟩:=bu x;obtain rfl:=Option.some.inj H;have p:0<=(g:Int):=of_decide_eq_true ‹_›;have q:g<(l1.length:Int):=of_decide_eq_true ‹_›;obtain⟨aS,P,Q,R,s,y,z⟩:=fE Z.out g p q;cases R;replace s:=(a.out.cell (World.block_lt_of_cell? w _ s)).trans s;have S:=Aside0.mk z;have T:=Aside0.mk y;clear z y;replace p:=eq_true p;replace q:=eq_true q;obtain⟨bo,bv,bw,bx⟩:=au j;go_wp2_with (first|((with_reducible refine ax (f:=87) rfl ?_);refine zL (some 29) Tryz.func87 #[.slice P (aT l1 g).length Q,.int .i64 b] ?_;(with_reducible refine(bc.calls M _ _ (aT l1 g) b O _ ?af ?ah ap.out).mono ?_);(case af=>exact Kd.al S.out zB);(case ah=>exact T.out);rintro e w' ⟨rfl,⟨nd,rfl⟩⟩;refine⟨_,rfl,?_⟩))
         go_ret;exact⟨zE,zB⟩
       ·rw[if_neg F] at H
        exact absurd H (by simp)
      ·rw[if_neg E] at H
       exact absurd H (by simp)
     ·rw[if_neg u] at H
      have aL:=decide_eq_false u;clear u;obtain rfl:=Option.some.inj H;go_wp2;go_ret;exact⟨zE,zB⟩
  ·replace v:=Bool.eq_false_iff.mpr v
   subst v;replace H:=zj H;obtain rfl:=Option.some.inj H;go_enter Tryz.func75,Tryz.ntmps75
   go_wp2_with (first|((with_reducible refine aH (N:=2) rfl ?_);refine zX 2 #[.int .i64 b,.slice m i.length n] 24 ?_;intro K l b0 o hb;have j:=Aside0.mk (o);have ag:=zG a l;have ak:=zG a l;replace a:=zS a hb;clear hb o l;obtain⟨b1,b2,b3,b4⟩:=au j)|((with_reducible refine ax (f:=113) rfl ?_);refine zL (some 12) Tryz.func113 #[.agg #[.int .i64 b,.slice m i.length n]] ?_;(with_reducible refine(bS.calls k b _ _ i false B _ ?af ?ah J.out).mono ?_);(case af=>exact Kd.al G.out zB);(case ah=>exact I.out);rintro e b5 ⟨rfl,hb⟩;refine⟨_,rfl,?_⟩;replace j:=zb j hb;replace a:=zS a hb;(try clear hb)))
   go_ret;exact⟨zE,zB⟩
 ·rw[if_neg c4] at H
  obtain⟨ab,ad⟩:=bu c4;obtain rfl:=Option.some.inj H;go_enter Tryz.func75,Tryz.ntmps75
  go_wp2_with (first|((with_reducible refine aH (N:=2) rfl ?_);refine zX 2 #[.int .i64 b,.slice m i.length n] 24 ?_;intro K l b6 o hb;have j:=Aside0.mk (o);have ag:=zG a l;have ak:=zG a l;replace a:=zS a hb;clear hb o l;obtain⟨b_,b',ca,cb⟩:=au j)|((with_reducible refine ax (f:=113) rfl ?_);refine zL (some 12) Tryz.func113 #[.agg #[.int .i64 b,.slice m i.length n]] ?_;(with_reducible refine(bS.calls k b _ _ i aa B _ ?af ?ah J.out).mono ?_);(case af=>exact Kd.al G.out zB);(case ah=>exact I.out);rintro e cc ⟨rfl,hb⟩;refine⟨_,rfl,?_⟩;replace j:=zb j hb;replace a:=zS a hb;(try clear hb)))
  go_ret;exact⟨zE,zB⟩
section
attribute [local go_sem] Oper.semAt_some
theorem we {α:Type} {d:Kd α} {W:World} {e base:Nat} {ok:Nat->Prop} {v:Value} {xs:List α} (h:d.R e W base ok v xs) (hp:0<xs.length):∃g c,v= .slice (some ⟨g,0,none⟩) xs.length c:=by
 obtain⟨A,c,rfl⟩:=Kd.aZ h;obtain⟨ad,he,_⟩:=(Kd.aA h).2.2.2.2 hp;subst he;obtain⟨g,rfl⟩:=Kd.kI h;exact⟨g,c,rfl⟩
theorem EC {W W1:World} {q:Nat} {r:Option Nat} (h:(W.drewN q).grownBy W1 r):W.grownBy W1 r:=⟨h.os,h.tape,h.output,h.size,h.block⟩
theorem ED (k n m:Nat) (A0:Option Addr) (c0:Nat) (E:List S83) (a6:Int) (C:List (List Int)) (cf:Fin (m+1)->Fin (m+1)->Int) (w:World) (bw:Kd.C aK w A0 E.length E) (b_:E.length<=c0) (hn:2<=n) (d9:n<=12) (gr: -1048576<=a6) (gt:a6<=1048576)
  (b':dz.f k n E []=some 0) (ca:eP.f k n E 0=some (C,0)) (cb:∀c∈C,c.length=n) (cc:C.length=m+1) (ea:C.length<=16384) (cd:∀c∈C,bc.f k (cF a6 c) n=some 0)
  (ce:∀i j:Fin (m+1),da.f k ((C.map (cF a6)).getD i.1 []) ((C.map (cF a6)).getD j.1 [])=some (cf i j)) (hO:Go.Sort.SWO (ltOf cf)):
  Calls Tryz.prog 136 #[.agg #[.int .i64 n,.slice A0 E.length c0],.int .i64 a6] w fun e w'=>∃v,∃idx:List (Fin (m+1)),e= .returned (.tuple #[v,.int .i64 0])∧idx.Perm (List.finRange (m+1))∧idx.Pairwise (fun i j=>ltOf cf j i=false)∧Kd.N (Kd.slice 3 (Kd.int .i64)) 26 w' w.heap.size (fun k_=>w.heap.size<=k_) v (idx.map fun i=>(C.map (cF a6)).getD i.1 [])∧Below w.heap.size w w':=by
 have hu:=Tryz.underlying24;have Hg:=Aside0.mk b';have Ha:=Aside0.mk ca;have eg:=Aside0.mk cb;have ek:=Aside0.mk cd;have el:=Aside0.mk ce;have em:=Aside0.mk hO;have g0:¬a6< -1048576:=by omega
 have g1:¬1048576<a6:=by omega
 have H:=Aside0.mk (mz w (.cells #[.int .i64 n,.slice A0 E.length c0] 24) (.cells #[.slice none 0 0] 33) (.cells #[.int .i64 0] 30));have er:(((w.alloc (.cells #[.int .i64 n,.slice A0 E.length c0] 24)).alloc (.cells #[.slice none 0 0] 33)).alloc (.cells #[.int .i64 0] 30)).cell? ⟨w.heap.size,0,none⟩=some (.int .i64 n):=(ao H.out.1 0).trans rfl;have es:(((w.alloc (.cells #[.int .i64 n,.slice A0 E.length c0] 24)).alloc (.cells #[.slice none 0 0] 33)).alloc (.cells #[.int .i64 0] 30)).cell? ⟨w.heap.size,1,none⟩=some (.slice A0 E.length c0):=(ao H.out.1 1).trans rfl;have ch:=Aside0.mk cc;clear b' ca cb cd ce hO cc;refine(callsIn_wide (n:=10)).1 ?_;refine callsIn_of_wp_marks Tryz.func136 rfl trivial ?_ rfl;simp only[Tryz.ntmps136,List.size_toArray,List.length_cons,List.length_nil,Nat.reduceAdd,Nat.reduceSub,Array.replicate_succ,Array.replicate_zero,List.push_toArray,List.append_toArray,List.nil_append,List.cons_append];gi_wp2_with (first|(refine⟨trivial,?_⟩;gi_at_call 75;refine(callsIn_wide.2 (dz.calls k n A0 c0 E none 0 [] 0 _ (Kd.br (Kd.br (Kd.br bw _) _) _) b_ (Kd.mP _ _) (Nat.zero_le _) Hg.out)).mono ?_;rintro e w1 ⟨rfl,hb⟩;have HB:=Aside0.mk ((aq (aq (aq (Below.refl w.heap.size w) _) _) _).trans (hb.mono (by simp;omega)));have X0:=Aside0.mk (aG H.out.1 hb);have z:=Aside0.mk (aG H.out.2.1 hb);have X2:=Aside0.mk (aG H.out.2.2 hb);have y0:w1.cell? ⟨w.heap.size,0,none⟩=some (.int .i64 n):=(ao X0.out 0).trans rfl;have y1:w1.cell? ⟨w.heap.size,1,none⟩=some (.slice A0 E.length c0):=(ao X0.out 1).trans rfl;clear hb)|(refine⟨trivial,?_⟩;gi_at_call 114;refine(callsIn_wide.2 (eP.calls k n A0 c0 E 0 C 0 _ (Kd.al bw HB.out) b_ Ha.out)).mono ?_;rintro e w2 ⟨v,rfl,I,J⟩;obtain⟨V,cl,rfl, -⟩:=Kd.yq I;have HN:=Aside0.mk (Kd.o7 I);have cj:=Aside0.mk (aU HB.out J);have Z0:=Aside0.mk (aG X0.out J);have Z1:=Aside0.mk (aG z.out J);have Z2:=Aside0.mk (aG X2.out J);have ex:=Aside0.mk J.size;clear I J)|(refine⟨trivial,?_⟩;gi_at_call 182;refine(callsIn_wide.2 (El _ _ _ _ _)).mono ?_;rintro e w3 ⟨rfl,rfl⟩))
 have ey:w.heap.size+1+1<w2.heap.size:=ay Z2.out;have cq:w1.heap.size<=w2.heap.size:=ex.out;have e0:=HB.out.size;obtain⟨L,cs⟩:∃o:Obj,o= .cells #[.slice V C.length cl] 33:=⟨_,rfl⟩;obtain⟨M,c2⟩:∃o:Obj,o= .cells #[.int .i64 a6] 3:=⟨_,rfl⟩;obtain⟨O,c3⟩:∃o:Obj,o= .cells #[.slice none 0 0] 33:=⟨_,rfl⟩;obtain⟨V0,V1,V2⟩:=mz w2 O L M;have am:=Aside0.mk (V0.trans (by rw[c3]:_=some (.cells #[.slice none 0 0] 33 (0,0))));have aP:=Aside0.mk (V1.trans (by rw[cs]:_=some (.cells #[.slice V C.length cl] 33 (0,0))));have aS:=Aside0.mk (V2.trans (by rw[c2]:_=some (.cells #[.int .i64 a6] 3 (0,0))));have a0:=Aside0.mk (aq (aq (aq cj.out O) L) M);have c7:=Aside0.mk (aw (aw (aw Z0.out O) L) M);have c8:=Aside0.mk (aw (aw (aw Z1.out O) L) M);have c9:=Aside0.mk (aw (aw (aw Z2.out O) L) M);have an:=Aside0.mk (Kd.eD (Kd.eD (Kd.eD (Kd.en HN.out (ok':=fun k=>w1.heap.size<=k∧k<w2.heap.size) (fun k hk=>hk)) O) L) M);clear V0 V1 V2;subst cs c2 c3;clear y0 y1 er es X0 z X2 Z0 Z1 Z2 HB cj H HN;have a2:(((w2.alloc (.cells #[.slice none 0 0] 33)).alloc (.cells #[.slice V C.length cl] 33)).alloc (.cells #[.int .i64 a6] 3)).heap.size=w2.heap.size+3:=by simp
 generalize ((w2.alloc (.cells #[.slice none 0 0] 33)).alloc (.cells #[.slice V C.length cl] 33)).alloc (.cells #[.int .i64 a6] 3)=b at am aP aS a0 c7 c8 c9 an a2⊢;have e1:=Aside0.mk a2;have e4:w2.heap.size<b.heap.size:=by omega
 have e5:w2.heap.size+1<b.heap.size:=by omega
 have e6:w2.heap.size+1+1<b.heap.size:=by omega
 clear a2;generalize e_:w2.heap.size+1+1=qx at aS e6⊢;generalize e':w2.heap.size+1=gx at aP e5 e_⊢;generalize w2.heap.size=bo at am e1 ey cq e4 e' an⊢;generalize w1.heap.size=b0 at an cq e0⊢;have g2:=a0.out.size;refine ie (σ:=Unit) (α:=List Int×Value) (F:=Fence.wide) (n:=10) rfl (by decide) (gf:=202) (lb:=#[.pointer (some ⟨gx,0,none⟩),.pointer (some ⟨qx,0,none⟩)]) rfl trivial (enters_of Tryz.func202 (by kernel_rfl) rfl)
  (fun o=>Eu gx qx b0 bo n V cl _ C a6 _ (by omega) (by omega) hn d9 eg.out ea (Kd.eD (Kd.eD an.out _) _) (aw (aw aP.out _) _) (aw (aw aS.out _) _)) (fun _=>rfl)
  (fun _=>True) ?ei ?st ?ar
  (fun _ pre W=>b.heap.size+2<=W.heap.size∧(∃v,W.heap[bo]? =some (.cells #[v] 33 (0,0))∧(Kd.slice 3 (Kd.int .i64)).R 26 W w.heap.size (fun k=>b.heap.size+2<=k) v (pre.map Prod.fst))∧W.heap[w.heap.size+1]? =some (.cells #[.slice none 0 0] 33 (0,0))∧W.heap[w.heap.size+1+1]? =some (.cells #[.int .i64 0] 30 (0,0))∧W.heap[w.heap.size]? =some (.cells #[.int .i64 n,.slice A0 E.length c0] 24 (0,0))∧Below w.heap.size w W) (fun _ _ _ _=>False)
  ?is (fun _ _ _ _ _ _ h _=>h) ?ib (fun _ _ _ _ _ h _=>h) ?kt ?h0 ?a1 ?assign ?body ?done (fun _ _ _ _ _ _ _ h=>h.elim)
 case assign=>
  intro l x W K hK;gi_wp2;exact hK
 case ei=>
  intro o s W1 h;exact⟨trivial,by rw[h];exact bX.refl _ _⟩
 case st=>intro s A B _ h;exact cN h
 case ar=>intro s x A B _ h;exact cN h.2.2
 case is=>
  rintro s pre A B _ ⟨X,⟨v,h1,h4⟩,h2,h3,h6,h5⟩ G;exact⟨Nat.le_trans X G.size,⟨v,aG h1 G,Kd.cp h4 G⟩,aG h2 G,aG h3 G,aG h6 G,aU h5 G⟩
 case ib=>
  rintro s pre A B ⟨X,⟨v,h1,h4⟩,h2,h3,h6,h5⟩ hb;exact⟨by rw[hb.size];exact X,⟨v,hb.cells h1,db h4 hb⟩,hb.cells h2,hb.cells h3,hb.cells h6,h5.trans (hb.below w.heap.size (by omega))⟩
 case kt=>
  intro s A B C' D c' ft fv k hk ap;have dd:k≠b.heap.size+1:=by rcases hk with hk|rfl|rfl<;>omega
  exact(fv.heap k dd).trans ((ft k hk (by rw[c'.size];exact ap)).trans (c'.heap k dd))
 case h0=>
  rintro o s W1 rfl;exact⟨by simp,⟨_,aw (aw am.out _) _,Kd.cV _ _ _ _ _⟩,aw (aw c8.out _) _,aw (aw c9.out _) _,aw (aw c7.out _) _,aq (aq a0.out _) _⟩
 case body=>
  rintro l s pre ⟨xl,xv⟩ Y W1 W _ ⟨X,⟨v,i1,i4⟩,i2,i3,i6,i5⟩ ⟨⟨c,dk,bg⟩,P,y⟩ av a;simp only at P bg;obtain⟨Ax,cx,rfl⟩:=Kd.aZ P;have g6:Y.heap.size<=W.heap.size:=by have:=a.size;have:=y.size;omega
  have g:=Aside0.mk (a.cells (aG i1 y));have Q:=Aside0.mk (a.cells (aG i2 y));have b3:=Aside0.mk (a.cells (aG i3 y));have b6:=Aside0.mk (a.cells (aG i6 y));have b4:=Aside0.mk (db (Kd.cp i4 y) a);have Z:=Aside0.mk ((aU i5 y).trans (a.below w.heap.size (by omega)));have bx:=Aside0.mk ((Kd.aW (Kd.aV (ok':=fun k=>Y.heap.size<=k) (Kd.eC (db P a)) (fun k hk=>hk.2.1)) i5.size));have dv:∀k,v.ownBlock=some k->k<Y.heap.size:=fun k hk=>Kd.aX i4 k hk
  have d0:=Aside0.mk dv;have f1:=Aside0.mk (Kd.fS i4);have f2:=Aside0.mk (fun W2 hC=>bc.calls k Ax cx xl n 0 W2 hC (Kd.aA P).2.1 (by rw[bg];exact ek.out c dk));have f3:=Aside0.mk (Kd.aA (db P a)).2.2;have g7:pre.length<16384:=by have:pre.length<C.length:=av;omega
  clear i1 i2 i3 i4 i5 i6 y P a dv av bg dk;obtain⟨Ar,cr,rfl⟩:=Kd.aZ b4.out;have d1:(pre.map Prod.fst).length=pre.length:=by simp
  rw[d1] at g b4 d0 f1;have g8:W.cell? ⟨w.heap.size,0,none⟩=some (.int .i64 n):=(ao b6.out 0).trans rfl;have LN:Aside0 (((pre.map Prod.fst).length+1)*24<=140737488355328):=⟨by rw[d1];omega⟩;have f5:Aside0 (∀k,Y.heap.size<=k->(b.heap.size+2<=k)∧some k≠(Value.slice Ar pre.length cr).ownBlock):=⟨fun k hk=>⟨by omega,fun e=>by have:=d0.out k e.symm;omega⟩⟩;have f6:Aside0 (∀k,W.heap.size<=k->b.heap.size+2<=k):=⟨fun k hk=>by omega⟩;gi_wp2_with (first|(refine⟨trivial,?_⟩;gi_at_call 87;refine(callsIn_wide.2 (f2.out _ f3.out)).mono ?_;rintro e w4 ⟨rfl,⟨q,rfl⟩⟩;have g':(W.drewN q).cell? ⟨bo,0,none⟩=some (.slice Ar pre.length cr):=dt (gV g.out q);have ha:(W.drewN q).frozen? ⟨bo,0,none⟩=false:=bq (gV g.out q) 0)|(gi_at_builtin;go_loud (refine nL (Kd.slice 3 (Kd.int .i64)) (w0:=w) w.heap.size rfl (.tmp 39) (.tmp 41) 33 26 (.slice none 0 0) 24 rfl Tryz.underlying33 ph rfl (by decide) (by omega) (.slice Ar pre.length cr) (pre.map Prod.fst) xl [.slice Ax xl.length cx] (fun k=>b.heap.size+2<=k) (fun k=>Y.heap.size<=k) rfl rfl (Kd.lK (Kd.ba bx.out _)) f5.out f6.out (Kd.ba b4.out _) (bP Z.out _) Z.out.size LN.out ?_;intro v1 he bk hb S f7;obtain⟨A1,c1,rfl⟩:=Kd.aZ bk;have f8:=Aside0.mk bk;have f9:=Aside0.mk hb;have T:=Aside0.mk S;have z:=Aside0.mk ((S.block bo (ay g.out) (Kd.dh b4.out g.out (by decide))).trans g.out);have hf:=dt z.out;have hg:=bq z.out 0;clear bk hb S f7)))
  have X2:=Aside0.mk ((T.out.block _ (ay Q.out) (Kd.dh b4.out Q.out (by decide))).trans Q.out);have X3:=Aside0.mk ((T.out.block _ (ay b3.out) (Kd.dh b4.out b3.out (by decide))).trans b3.out);have X6:=Aside0.mk ((T.out.block _ (ay b6.out) (Kd.dh b4.out b6.out (by decide))).trans b6.out);have gc:=Aside0.mk (EC T.out);refine⟨(nM b4.out gc.out).trans (fa _ _ (ay am.out)),fun k hk ap=>?_,by have:=T.out.size;simp at this⊢;omega,⟨.slice A1 (pre.length+1) c1,by simpa using bE z.out 0 (.slice A1 (pre.length+1) c1),?_⟩,aC X2.out (by show w.heap.size+1≠bo;omega) _,aC X3.out (by show w.heap.size+1+1≠bo;omega) _,aC X6.out (by show w.heap.size≠bo;omega) _,ec f9.out (by show w.heap.size<=bo;omega)⟩
  ·have gd:k≠bo:=by rcases hk with hk|rfl|rfl<;>omega
   rw[Below.heap_setCell _ _ _ _ gd];exact T.out.block k ap (fun e=>by have h:=b4.out.1 k e.symm;rcases hk with hk|rfl|rfl<;>omega)
  ·have h:=Kd.eK f8.out z.out (by decide) 0 (.slice A1 (pre.length+1) c1)
   simpa using h
 case done=>
  rintro s xs W W' _ d2 ⟨X,⟨v,i1,i4⟩,i2,i3,i6,i5⟩ a d3;have d4:xs.map Prod.fst=C.map (cF a6):=d2;rw[d4] at i4;have aF:(C.map (cF a6)).length=m+1:=by rw[List.length_map];exact ch.out
  have b4:=db i4 a;obtain⟨gs,r,rfl⟩:=we b4 (by omega);have hh:b.heap.size+2<=gs:=b4.1 gs rfl;have hj:=Kd.aX b4 gs rfl;have g:=Aside0.mk (a.cells i1);have Q:=Aside0.mk (a.cells i2);have b3:=Aside0.mk (a.cells i3);have Z:=Aside0.mk (i5.trans (a.below w.heap.size (by omega)));have d5:=Aside0.mk d3;have d6:=Aside0.mk (EB Ey (enters_of Tryz.func183 (by kernel_rfl) rfl) cf aF (by have:=ch.out;omega) (Kd.na b4) el.out em.out);clear i1 i2 i3 i4 i5 i6 d3 d2 d4 a b4;rw[aF] at g d6;have hl:=Aside0.mk aF;clear aF;have hc:=dt g.out;gi_wp2_with (refine⟨trivial,?_⟩;gi_at_call 49;(with_reducible refine(callsIn_wide.2 d6.out).mono ?_);rintro e U ⟨rfl,idx,hp,d7,I,S⟩;have HP:=Aside0.mk hp;have gg:=Aside0.mk d7;have gi:=Aside0.mk I;have aa:=Aside0.mk S;clear hp d7 I S;have c1:=dt ((aa.out.block bo (ay g.out) (fun e=>by injection e;omega)).trans g.out);have e2:=Aside0.mk ((aa.out.block _ (ay Q.out) (fun e=>by injection e;omega)).trans Q.out);have e3:=Aside0.mk ((aa.out.block _ (ay b3.out) (fun e=>by injection e;omega)).trans b3.out);have q1:U.cell? ⟨w.heap.size+1,0,none⟩=some (.slice none 0 0):=(ao e2.out 0).trans rfl;have q2:U.frozen? ⟨w.heap.size+1,0,none⟩=false:=bq e2.out 0;have Y3:=Aside0.mk (aC (p:=⟨w.heap.size+1,0,none⟩) e3.out (by show w.heap.size+1+1≠w.heap.size+1;omega) (.slice (some ⟨gs,0,none⟩) (m+1) r));have q3:(U.setCell ⟨w.heap.size+1,0,none⟩ (.slice (some ⟨gs,0,none⟩) (m+1) r)).cell? ⟨w.heap.size+1+1,0,none⟩=some (.int .i64 0):=(ao Y3.out 0).trans rfl;have q4:=bq Y3.out 0)
  have Y1:=Aside0.mk (aC (p:=⟨w.heap.size+1+1,0,none⟩) (bE e2.out 0 (.slice (some ⟨gs,0,none⟩) (m+1) r)) (by show w.heap.size+1≠w.heap.size+1+1;omega) (.int .i64 0));have Y2:=Aside0.mk (bE Y3.out 0 (.int .i64 0));have av:w.heap.size+1≠b.heap.size:=by omega
  have go:w.heap.size+1+1≠b.heap.size:=by omega
  have Y4:=Aside0.mk (show ((U.setCell ⟨w.heap.size+1,0,none⟩ (.slice (some ⟨gs,0,none⟩) (m+1) r)).setCell ⟨w.heap.size+1+1,0,none⟩ (.int .i64 0)).heap[b.heap.size]? =some (.deferred (some [])) from by rw[Below.heap_setCell _ _ _ _ (fun e=>go e.symm),Below.heap_setCell _ _ _ _ (fun e=>av e.symm)];exact(aa.out.block _ (ay d5.out) (fun e=>by injection e;omega)).trans d5.out);have Y5:=Aside0.mk (Kd.r6 (p:=⟨w.heap.size+1+1,0,none⟩) (Kd.r6 (p:=⟨w.heap.size+1,0,none⟩) gi.out (fun k hk=>by show k≠w.heap.size+1;omega) (.slice (some ⟨gs,0,none⟩) (m+1) r)) (fun k hk=>by show k≠w.heap.size+1+1;omega) (.int .i64 0));have Y6:=Aside0.mk (((ju Z.out _ Z.out.size aa.out (fun k e=>by injection e;omega)).setCell (p:=⟨w.heap.size+1,0,none⟩) (by show w.heap.size<=w.heap.size+1;omega) (.slice (some ⟨gs,0,none⟩) (m+1) r)).setCell (p:=⟨w.heap.size+1+1,0,none⟩) (by show w.heap.size<=w.heap.size+1+1;omega) (.int .i64 0));have aL:Bk b.heap.size ((U.setCell ⟨w.heap.size+1,0,none⟩ (.slice (some ⟨gs,0,none⟩) (m+1) r)).setCell ⟨w.heap.size+1+1,0,none⟩ (.int .i64 0)) (((U.setCell ⟨w.heap.size+1,0,none⟩ (.slice (some ⟨gs,0,none⟩) (m+1) r)).setCell ⟨w.heap.size+1+1,0,none⟩ (.int .i64 0)).putObj b.heap.size (.deferred none)):=⟨_,_,Y4.out,rfl,rfl⟩;refine iK (D:=b.heap.size) rfl Y4.out (qt (p:=4) (u:=5) rfl _ _ ⟨w.heap.size+1,0,none⟩ ⟨w.heap.size+1+1,0,none⟩ (.slice (some ⟨gs,0,none⟩) (m+1) r) (.int .i64 0) rfl rfl Tryz.underlying33 Tryz.underlying30 rfl rfl ((ao (aL.cells Y1.out) 0).trans (by simp)) ((ao (aL.cells Y2.out) 0).trans (by simp))) ⟨_,idx,rfl,HP.out,gg.out,?_,Y6.out.trans (aL.below w.heap.size (by omega))⟩;exact Kd.en (Kd.lS Y5.out (fun k hk ap=>aL.heap k (by omega))) (fun k hk=>by omega)
end
section
attribute [local go_sem] Oper.semAt_some
def jS (pre:List (Int×Int)):Int:=pre.foldl (fun s x=>wrap64 (s+x.2)) 0
theorem EE (pre:List (Int×Int)) (x:Int×Int):jS (pre++[x])=wrap64 (jS pre+x.2):=by simp[jS,List.foldl_append]
theorem EF (k n d:Nat) (A0:Option Addr) (c0:Nat) (E:List S83) (L:List Int) (w:World) (S:Kd.C aK w A0 E.length E) (T:E.length<=c0) (a2:1<=n) (hn:n<=1000) (I:∀u:Nat,u<n->∃e,b9.f k n E (u:Nat)=some (rd L u,e)) (hd:jS (fN L n)=d) (a3:d<=100000):
  Calls Tryz.prog 135 #[.agg #[.int .i64 n,.slice A0 E.length c0]] w fun e w'=>e= .returned (.int .i64 (((d/2:Nat):Int)-n+1))∧Below w.heap.size w w':=by
 have hu:=Tryz.underlying24;have U:=Aside0.mk I;have V:=Aside0.mk hd;have a4:(0:Int)<=(n:Int):=by omega
 clear I hd;refine(callsIn_wide (n:=10)).1 ?_;refine callsIn_of_wp_marks Tryz.func135 rfl trivial ?_ rfl;simp only[Tryz.ntmps135,List.size_toArray,List.length_cons,List.length_nil,Nat.reduceAdd,Nat.reduceSub,Array.replicate_succ,Array.replicate_zero,List.push_toArray,List.append_toArray,List.nil_append,List.cons_append];gi_wp2_with (first|(refine⟨trivial,?_⟩;gi_at_call 143;refine(callsIn_wide.2 (vr n _ _)).mono ?_;rintro e w3 ⟨rfl,rfl⟩))
 have q:=Aside0.mk (heap_alloc_new ((w.alloc (.cells #[.int .i64 n,.slice A0 E.length c0] 24)).alloc (.cells #[.int .i64 0] 3)) (.cells #[.int .i64 n,.slice A0 E.length c0] 24));have r:=Aside0.mk (aw (heap_alloc_new (w.alloc (.cells #[.int .i64 n,.slice A0 E.length c0] 24)) (.cells #[.int .i64 0] 3)) (.cells #[.int .i64 n,.slice A0 E.length c0] 24));have J:=Aside0.mk (aw (aw (heap_alloc_new w (.cells #[.int .i64 n,.slice A0 E.length c0] 24)) (.cells #[.int .i64 0] 3)) (.cells #[.int .i64 n,.slice A0 E.length c0] 24));have y:=Aside0.mk (aq (aq (aq (Below.refl w.heap.size w) (.cells #[.int .i64 n,.slice A0 E.length c0] 24)) (.cells #[.int .i64 0] 3)) (.cells #[.int .i64 n,.slice A0 E.length c0] 24));simp only[World.size_alloc] at q r;have X:=Nat.le_of_eq (show (((w.alloc (.cells #[.int .i64 n,.slice A0 E.length c0] 24)).alloc (.cells #[.int .i64 0] 3)).alloc (.cells #[.int .i64 n,.slice A0 E.length c0] 24)).heap.size=w.heap.size+3 by simp);have Y:=Nat.le_of_eq (show w.heap.size+3=(((w.alloc (.cells #[.int .i64 n,.slice A0 E.length c0] 24)).alloc (.cells #[.int .i64 0] 3)).alloc (.cells #[.int .i64 n,.slice A0 E.length c0] 24)).heap.size by simp);generalize ((w.alloc (.cells #[.int .i64 n,.slice A0 E.length c0] 24)).alloc (.cells #[.int .i64 0] 3)).alloc (.cells #[.int .i64 n,.slice A0 E.length c0] 24)=b at q r J y X Y⊢;refine ie (σ:=Unit) (α:=Int×Int) (F:=Fence.wide) (n:=10) rfl (by decide) (gf:=185) (lb:=#[.pointer (some ⟨w.heap.size+1+1,0,none⟩)]) rfl trivial (enters_of Tryz.func185 (by kernel_rfl) rfl)
  (fun o=>vx (w.heap.size+1+1) k n A0 c0 E L w _ S T hn U.out (aq (aq y.out _) _) (aw (aw q.out _) _)) (fun _=>rfl)
  (fun _=>True) ?ei ?st ?Z
  (fun _ pre W=>b.heap.size<=W.heap.size∧W.heap[w.heap.size+1]? =some (.cells #[.int .i64 (jS pre)] 3 (0,0))∧W.heap[w.heap.size]? =some (.cells #[.int .i64 n,.slice A0 E.length c0] 24 (0,0))∧Below w.heap.size w W) (fun _ _ _ _=>False)
  ?is (fun _ _ _ _ _ _ h _=>h) ?ib (fun _ _ _ _ _ h _=>h) ?kt ?h0 ?a1 ?assign ?body ?done (fun _ _ _ _ _ _ _ h=>h.elim)
 case assign=>
  intro l x W K hK;gi_wp2;exact hK
 case ei=>
  intro o s W1 h;exact⟨trivial,by rw[h];exact bX.refl _ _⟩
 case st=>intro s A B _ h;exact cN h
 case Z=>intro s x A B _ h;exact cN h.2
 case is=>
  rintro s pre A B _ ⟨g,h1,z,G⟩ j;exact⟨Nat.le_trans g j.size,aG h1 j,aG z j,aU G j⟩
 case ib=>
  rintro s pre A B ⟨g,h1,z,G⟩ hb;exact⟨by rw[hb.size];exact g,hb.cells h1,hb.cells z,G.trans (hb.below w.heap.size (by omega))⟩
 case kt=>
  intro s A B C D m M N;refine⟨fun aQ=>((m.below w.heap.size (by omega)).trans (M.1 (by rw[m.size];exact aQ))).trans (N.below w.heap.size (by omega)),fun ak=>?_⟩;have O:w.heap.size+1+1≠b.heap.size+1:=by omega
  exact(N.heap _ O).trans ((M.2 (by rw[m.size];exact ak)).trans (m.heap _ O))
 case h0=>
  rintro o s W1 rfl;exact⟨by simp;omega,aw (aw r.out _) _,aw (aw J.out _) _,aq (aq y.out _) _⟩
 case body=>
  rintro l s' pre ⟨xv,xy⟩ Wb Wc W _ ⟨g,i1,i2,i3⟩ ⟨⟨v,bg,hx⟩,i⟩ ap a;injection hx with av aB
  subst av;have H:=Aside0.mk (a.cells (aG i1 i));have I2:=Aside0.mk (a.cells (aG i2 i));have I3:=Aside0.mk ((aU i3 i).trans (a.below w.heap.size (by omega)));have aO:b.heap.size<=W.heap.size:=by have:=a.size;have:=i.size;omega
  have aP:=Aside0.mk (EE pre ((v:Int),xy));clear i1 i2 i3 i a ap g aB;have z1:=dt H.out;have z2:=bq H.out 0;gi_wp2;refine⟨fa _ _ (by omega),⟨fun _=>Below.setCell (p:=⟨w.heap.size+1,0,none⟩) (Below.refl _ _) (by show w.heap.size<=w.heap.size+1;omega) _,fun _=>Below.heap_setCell _ _ _ _ (by show w.heap.size+1+1≠w.heap.size+1;omega)⟩,by simpa using aO,?_,aC I2.out (by show w.heap.size≠w.heap.size+1;omega) _,Below.setCell (p:=⟨w.heap.size+1,0,none⟩) I3.out (by show w.heap.size<=w.heap.size+1;omega) _⟩;rw[aP.out];exact bb (cs:=#[.int .i64 (jS pre)]) H.out 0 _ rfl
 case done=>
  rintro s' xs W W' _ rfl ⟨g,i1,i2,i3⟩ a P;have Q:=Aside0.mk (a.cells i1);have b2:=Aside0.mk (a.cells i2);have b3:=Aside0.mk (i3.trans (a.below w.heap.size (by omega)));have R:=Aside0.mk P;clear i1 i2 i3 P;rw[V.out] at Q;have y1:=(ao Q.out 0).trans rfl;have y2:=(ao b2.out 0).trans rfl;have bn:(0:Int)<=(d:Int):=by omega
  gi_wp2;have a0:Bk b.heap.size W' (W'.putObj b.heap.size (.deferred none)):=⟨_,_,R.out,rfl,rfl⟩;exact iK (D:=b.heap.size) rfl R.out (results_tmp rfl _ _ _) ⟨by simp,b3.out.trans (a0.below w.heap.size (by omega))⟩
end
section
attribute [local go_sem] Oper.semAt_some iU iV iW iX
theorem EG (k n gb:Nat) (A0:Option Addr) (c0:Nat) (E:List S83) (a:Option Addr) (c1:Nat) (d:List Int) (r:Int) (w:World) (b:Kd.C aK w A0 E.length E) (i:E.length<=c0) (g:Kd.C (Kd.int .i64) w a d.length d) (j:d.length<=c1) (hb:w.heap[gb]? =some (.cells #[.int .i64 n,.slice A0 E.length c0] 24 (0,0))) (h:dZ.f k n E d=some (r,0)):
  Calls Tryz.prog 138 #[.slice a d.length c1,.pointer (some ⟨gb,0,none⟩)] w fun e w'=>e= .returned (.tuple #[.int .i64 r,.int .i64 0])∧Below w.heap.size w w':=by
 have hu:=Tryz.underlying24;have H:=Aside0.mk (dZ.calls k n A0 c0 E a c1 d r 0 w b i g j h);have l:w.cell? ⟨gb,0,none⟩=some (.int .i64 n):=(ao hb 0).trans rfl;have m:w.cell? ⟨gb,1,none⟩=some (.slice A0 E.length c0):=(ao hb 1).trans rfl;clear h b g hb;go_enter Tryz.func138,Tryz.ntmps138
 go_wp2_with (go_at_call 41;refine H.out.mono ?_;rintro e w1 ⟨rfl,hb⟩;have o:=Aside0.mk hb;clear hb l m)
 go_ret2;exact⟨rfl,o.out⟩
def iA (a:List Int->Int) (L:List (List Int)):Int:=L.foldl (fun b d=>max b (a d)) (-1)
theorem EH (a:List Int->Int) (L:List (List Int)) (d:List Int):iA a (L++[d])=max (iA a L) (a d):=by simp[iA,List.foldl_append]
theorem EI (k n gb g cap base:Nat) (ok:Nat->Prop) (A0:Option Addr) (c0:Nat) (E:List S83) (L:List (List Int)) (a:List Int->Int) (w:World) (p:Kd.C aK w A0 E.length E) (x:E.length<=c0) (hb:w.heap[gb]? =some (.cells #[.int .i64 n,.slice A0 E.length c0] 24 (0,0))) (K:L.length<=16384)
  (q:Kd.N (Kd.slice 3 (Kd.int .i64)) 26 w base ok (.slice (some ⟨g,0,none⟩) L.length cap) L) (h:∀d∈L,dZ.f k n E d=some (a d,0)):
  Calls Tryz.prog 137 #[.slice (some ⟨g,0,none⟩) L.length cap,.func (.func 138) #[] #[.pointer (some ⟨gb,0,none⟩)]] w fun e w'=>e= .returned (.tuple #[.int .i64 (iA a L),.int .i64 0])∧Below w.heap.size w w':=by
 have y:=Aside0.mk hb;have z:=Aside0.mk q;have B:=Aside0.mk h;have D:=Aside0.mk p;clear hb q h p;go_enter Tryz.func137,Tryz.ntmps137
 go_wp2;go_loopg [6,13] (L.length) (fun F b i wr=>∃v:Nat,v<=L.length∧i= .int .i64 v∧b= .int .i64 (iA a (L.take v))∧Aside0 (Below w.heap.size w wr)∧Aside0 (F=L.length-v))
 case atStart=>exact⟨0,Nat.zero_le _,rfl,rfl,⟨Below.refl _ _⟩,⟨rfl⟩⟩
 case round=>
  obtain⟨v,M,rfl,rfl,j,G⟩:=hrel;by_cases l:v<L.length
  ·have O:(0:Int)<=(v:Int):=by omega
   have P:(v:Int)<(L.length:Int):=by omega
   obtain⟨g2,H,cc,he,r,m,o⟩:=vZ (Kd.fW z.out j.out) v l;injection he with he
   injection he with he
   subst he;have s:=Aside0.mk (show iA a (L.take (v+1))=max (iA a (L.take v)) (a (L.getD v [])) by rw[List.take_succ_eq_append_getElem l,EH,List.getD_eq_getElem?_getD,List.getElem?_eq_getElem l];rfl);have u:=Aside0.mk (B.out (L.getD v []) (by rw[List.getD_eq_getElem?_getD,List.getElem?_eq_getElem l];exact List.getElem_mem l));generalize L.getD v []=d at r m o s u;have I:=Aside0.mk (EG k n gb A0 c0 E H cc d (a d) wr (Kd.al D.out j.out) x (Kd.jE o) m (aG y.out j.out) u.out);clear o m;go_wp2_with (go_at_call 138;refine I.out.mono ?_;rintro e w1 ⟨rfl,hb⟩;have J:=Aside0.mk (aU j.out hb);clear hb r)
   all_goals
    go_roundg (L.length- (v+1))
    case measure=>rw[G.out];omega
    case rel=>exact⟨v+1,by omega,by go_num,by rw[s.out];exact congrArg _ (by omega),J,⟨rfl⟩⟩
  ·obtain rfl:v=L.length:=by omega
   go_wp2;go_ret2;exact⟨by rw[List.take_length];rfl,j.out⟩
theorem EJ {α:Type} {d:Kd α} {W:World} {e base:Nat} {ok:Nat->Prop} {v:Value} {xs:List α} (h:Kd.N d e W base ok v xs) (hp:0<xs.length):∃g c,v= .slice (some ⟨g,0,none⟩) xs.length c:=by
 obtain⟨_,rows,a,b,_⟩:=h;rw[<-a] at hp⊢;exact we b hp
theorem wg {m:Nat} {idx:List (Fin (m+1))} {f:List Int->List Int} {C:List (List Int)} (hp:idx.Perm (List.finRange (m+1))) (hC:C.length=m+1):(idx.map fun i=>(C.map f).getD i.1 []).Perm (C.map f):=by
 refine(hp.map _).trans (List.Perm.of_eq ?_);refine List.ext_getElem (by simp[hC]) fun i h1 a=>?_
 simp only[List.length_map] at a;simp[List.getElem?_eq_getElem a]
theorem EK {m k:Nat} {n:Int} {E:List S83} {a:List Int->Int} {idx:List (Fin (m+1))} {f:List Int->List Int} {C:List (List Int)} (hp:idx.Perm (List.finRange (m+1))) (hC:C.length=m+1) (h:∀c∈C,dZ.f k n E (f c)=some (a (f c),0)):∀d∈idx.map fun i=>(C.map f).getD i.1 [],dZ.f k n E d=some (a d,0):=fun d hd=>by
 obtain⟨c,b,rfl⟩:=List.mem_map.1 ((wg hp hC).mem_iff.1 hd);exact h c b
theorem EL (k n m d:Nat) (A0:Option Addr) (c0:Nat) (E:List S83) (a6:Int) (q:List Int) (C:List (List Int)) (r:List Int->Int) (s:Fin (m+1)->Fin (m+1)->Int) (w:World) (G:Kd.C aK w A0 E.length E) (a:E.length<=c0) (hn:2<=n) (Y:n<=12) (a1:0<=a6) (Z:a6<=1048576)
  (H:de.f k n E=some 0) (I:∀u:Nat,u<n->∃e,b9.f k n E (u:Nat)=some (rd q u,e)) (hd:jS (fN q n)=d) (J:d<=100000) (aa:a6<=2*(((d/2:Nat):Int)-n+1)-2)
  (K:dz.f k n E []=some 0) (M:eP.f k n E 0=some (C,0)) (N:∀c∈C,c.length=n) (x:C.length=m+1) (y:C.length<=16384) (O:∀c∈C,bc.f k (cF a6 c) n=some 0)
  (P:∀i j:Fin (m+1),da.f k ((C.map (cF a6)).getD i.1 []) ((C.map (cF a6)).getD j.1 [])=some (s i j)) (hO:Go.Sort.SWO (ltOf s)) (Q:∀c∈C,dZ.f k n E (cF a6 c)=some (r (cF a6 c),0)):
  Calls Tryz.prog 82 #[.agg #[.int .i64 n,.slice A0 E.length c0],.int .i64 a6] w fun e w'=>∃L:List (List Int),L.Perm (C.map (cF a6))∧e= .returned (.tuple #[.int .i64 (iA r L),.int .i64 0])∧Below w.heap.size w w':=by
 have hu:=Tryz.underlying24;have z:=Aside0.mk (heap_alloc_new w (.cells #[.int .i64 n,.slice A0 E.length c0] 24));have H1:=Aside0.mk (fun W h=>de.calls k n A0 c0 E 0 W h a H);have R:=Aside0.mk (fun W h=>EF k n d A0 c0 E q W h a (by omega) (by omega) I hd J);have H3:=Aside0.mk (fun W h=>ED k n m A0 c0 E a6 C s W h a hn Y (by omega) Z K M N x y O P hO);have H4:=Aside0.mk (fun gb g cap base ok L W h1 h2 h3 h4 S=>EI k n gb g cap base ok A0 c0 E L r W h1 a h2 h3 h4 S);have an:=Aside0.mk Q;have b:=Aside0.mk x;have ap:=Aside0.mk y;have S:¬a6< -1048576:=by omega
 have h6:¬1048576<a6:=by omega
 have h7:¬a6<0:=by omega
 have ar:((d/2:Nat):Int)-n+1<=100000:=by omega
 generalize ((d/2:Nat):Int)-n+1=T at R aa ar;have a4:1<=T:=by omega
 have h8:¬2*T-2<a6:=by omega
 have b0:(w.alloc (.cells #[.int .i64 n,.slice A0 E.length c0] 24)).cell? ⟨w.heap.size,0,none⟩=some (.int .i64 n):=(ao z.out 0).trans rfl;have b1:(w.alloc (.cells #[.int .i64 n,.slice A0 E.length c0] 24)).cell? ⟨w.heap.size,1,none⟩=some (.slice A0 E.length c0):=(ao z.out 1).trans rfl;have l:=Aside0.mk G;clear H I hd J K M N x y O P hO Q G;go_enter Tryz.func82,Tryz.ntmps82
 go_wp2_with (first|(go_at_call 55;refine(H1.out _ (Kd.br l.out _)).mono ?_;rintro e w1 ⟨rfl,hb⟩;have U:=Aside0.mk (aU (aq (Below.refl w.heap.size w) _) hb);have B:=Aside0.mk (aG z.out hb);clear hb;have y0:w1.cell? ⟨w.heap.size,0,none⟩=some (.int .i64 n):=(ao B.out 0).trans rfl;have y1:w1.cell? ⟨w.heap.size,1,none⟩=some (.slice A0 E.length c0):=(ao B.out 1).trans rfl)|(go_at_call 135;refine(R.out _ (Kd.al l.out U.out)).mono ?_;rintro e w2 ⟨rfl,hb⟩;have V:=Aside0.mk (aU U.out hb);have D:=Aside0.mk (aG B.out hb);clear hb;have z0:w2.cell? ⟨w.heap.size,0,none⟩=some (.int .i64 n):=(ao D.out 0).trans rfl;have z1:w2.cell? ⟨w.heap.size,1,none⟩=some (.slice A0 E.length c0):=(ao D.out 1).trans rfl)|(go_at_call 136;refine(H3.out _ (Kd.al l.out V.out)).mono ?_;rintro e w3 ⟨v,idx,rfl,hp,av,o,hb⟩;have X:=Aside0.mk (aU V.out hb);have X3:=Aside0.mk (aG D.out hb);have p:=wg (f:=cF a6) hp b.out;have F:=EK hp b.out an.out;generalize (idx.map fun i=>(C.map (cF a6)).getD i.1 [])=L2 at o p F;have hlen:=p.length_eq;rw[List.length_map,b.out] at hlen;have aL:=Aside0.mk (show L2.length<=16384 by have:=ap.out;have:=b.out;omega);obtain⟨gs,cs,rfl⟩:=EJ o (by omega);have HN:=Aside0.mk o;have HP:=Aside0.mk p;have aS:=Aside0.mk F;clear hb o hp av p F hlen)|(go_at_call 137;(with_reducible refine(H4.out _ _ _ _ _ _ _ (Kd.al l.out X.out) X3.out aL.out HN.out aS.out).mono ?_);rintro e w4 ⟨rfl,hb⟩;have a0:=Aside0.mk (aU X.out hb);clear hb))
 go_ret2;exact⟨_,HP.out,rfl,a0.out⟩
end
def cg:List S83:=[⟨0,1,1⟩,⟨0,2,1⟩,⟨1,2,1⟩]
def iQ:List (List Int):=[[0,0,0],[0,0,1],[0,1,0]]
theorem EM:de.f 60 3 cg=some 0:=by decide+kernel
theorem EN:∀u:Nat,u<3->∃e,b9.f 60 3 cg (u:Nat)=some (rd [2,2,2] u,e)
 |0,_=>⟨0,by decide+kernel⟩
 |1,_=>⟨0,by decide+kernel⟩
 |2,_=>⟨0,by decide+kernel⟩
theorem EO:jS (fN [2,2,2] 3)=((6:Nat):Int):=by decide+kernel
theorem EP:dz.f 60 3 cg []=some 0:=by decide+kernel
theorem ER:eP.f 60 3 cg 0=some (iQ,0):=by decide+kernel
theorem ES:∀c∈iQ,bc.f 60 (cF 0 c) 3=some 0:=by decide+kernel
def qN (i j:Fin 3):Int:=(da.f 60 ((iQ.map (cF 0)).getD i.1 []) ((iQ.map (cF 0)).getD j.1 [])).getD 0
theorem ET:∀i j:Fin 3,da.f 60 ((iQ.map (cF 0)).getD i.1 []) ((iQ.map (cF 0)).getD j.1 [])=some (qN i j):=by decide+kernel
theorem EU:Go.Sort.SWO (ltOf qN):=⟨by decide+kernel,by decide+kernel,by decide+kernel⟩
theorem qO {d:List Int} (h:gy 3 cg 0 d=true):dW 3 0 cg d:=by
 obtain⟨n,q,hn,a,h1⟩:=nY h;obtain rfl:n=3:=by omega
 obtain rfl:q=0:=by omega
 exact h1
theorem EV:cG ((3:Nat):Int) cg=0:=by decide+kernel
theorem EW:T.ee 3 (aj cg) 1:=show T.sN (T.can 3 (aj cg)) 3=2*1-2 from by decide+kernel
theorem EX:Ev (fun k=>dy.f k 3 cg) ((3:Int),cg,(0:Int)):=Ev.at_ (dy.mono _ _) (k:=60) (by kernel_rfl)
theorem EY:Ev (fun k=>dx.f k 3 cg) ((1:Int),(0:Int)):=Ev.at_ (dx.mono _ _) (k:=60) (by decide+kernel)
theorem wh:dW 3 0 cg [0,0,0]:=qO (by decide+kernel)
theorem EZ:dW 3 0 cg [-1,0,1]:=qO (by decide+kernel)
theorem E4:dW 3 0 cg [-1,1,0]:=qO (by decide+kernel)
theorem oG:T.Wt 3 (aj cg):=wh.right.wt
theorem E5 {c:Nat->Int} (h:(c 1=0∧c 2=1)∨(c 1=1∧c 2=0)):T.jH 3 (aj cg) 0 c:=fun S hS e=>by
 have t10:aj cg 1 0=1:=by decide+kernel
 have t12:aj cg 1 2=1:=by decide+kernel
 have t20:aj cg 2 0=1:=by decide+kernel
 have t21:aj cg 2 1=1:=by decide+kernel
 cases h1:S 1 with
 |true=>
  cases a:S 2 with
  |true=>
   rcases h with h|h
   ·exact⟨1,by omega,h1,by simp[T.sN,e,h1,a,t10,h.1]⟩
   ·exact⟨2,by omega,a,by simp[T.sN,e,h1,a,t20,h.2]⟩
  |false=>exact⟨1,by omega,h1,by simp[T.sN,e,h1,a,t10,t12];omega⟩
 |false=>
  cases a:S 2 with
  |true=>exact⟨2,by omega,a,by simp[T.sN,e,h1,a,t20,t21];omega⟩
  |false=>
   obtain⟨v,g,b⟩:=hS;match v,g with
   |0,_=>rw[e] at b;cases b
   |1,_=>rw[h1] at b;cases b
   |2,_=>rw[a] at b;cases b
theorem E6:T.bK 3 (aj cg) (fun _=>0) 0:=by
 obtain⟨r,a⟩:=T.hU oG (by decide) (fun _=>(0:Int));have h1:r≠ -1:=fun e=>by
  subst e;exact(T.bK.kS (by decide) a).1 rfl (T.b7.pn fun _ _=>Int.le_refl _)
 have g:=a.1;have b:=a.pz oG (by decide) (by omega);rw[T.iZ] at b;obtain rfl:r=0:=by omega
 exact a
theorem E7:Rk 3 (aj cg) [0,0,0] 0:=nZ (fun v a=>by
  match v,a with
  |0,_=>rfl
  |1,_=>rfl
  |2,_=>rfl) E6
theorem wj {d:List Int} (h:(rd d 1=0∧rd d 2=1)∨(rd d 1=1∧rd d 2=0)) (g:rd d 0= -1):Rk 3 (aj cg) d (-1):=by
 obtain⟨r,a⟩:=T.hU oG (by decide) (fun v=>rd d (v:Nat));have hw:¬T.b7 3 (aj cg) (fun v=>rd d (v:Nat)):=fun hw=>by
  have a:=(T.nB oG (q:=0) (by decide) ⟨fun v b e=>by
   match v,b with
   |0,_=>exact absurd rfl e
   |1,_=>rcases h with h|h<;>(show 0<=rd d 1;omega)
   |2,_=>rcases h with h|h<;>(show 0<=rd d 2;omega),E5 h⟩).1 hw
  have:(0:Int)<=rd d 0:=a;omega
 obtain rfl:=(T.bK.kS (by decide) a).2 hw;exact a
theorem qP {d:List Int} (h:dW 3 0 cg d) {r:Int} (a:Rk 3 (aj cg) d r):Ev (fun k=>dZ.f k 3 cg d) (r,(0:Int)):=
 qL (n:=3) h EV EX EY EW a
def jT (d:List Int):Int:=if d=[0,0,0] then 0 else -1
theorem E8:∃K,60<=K∧∀c∈iQ,dZ.f K 3 cg (cF 0 c)=some (jT (cF 0 c),0):=by
 obtain⟨b,g⟩:=qP wh E7;obtain⟨B1,h1⟩:=qP EZ (wj (.inl ⟨rfl,rfl⟩) rfl);obtain⟨e,h⟩:=qP E4 (wj (.inr ⟨rfl,rfl⟩) rfl);refine⟨60+b+B1+e,by omega,fun c a=>?_⟩;rcases List.mem_cons.1 a with rfl|a
 ·rw[show cF 0 [0,0,0]=[0,0,0] by decide+kernel,show jT [0,0,0]=0 by decide+kernel]
  exact g (60+b+B1+e) (by omega)
 rcases List.mem_cons.1 a with rfl|a
 ·rw[show cF 0 [0,0,1]=[-1,0,1] by decide+kernel,show jT [-1,0,1]= -1 by decide+kernel]
  exact h1 (60+b+B1+e) (by omega)
 rcases List.mem_cons.1 a with rfl|a
 ·rw[show cF 0 [0,1,0]=[-1,1,0] by decide+kernel,show jT [-1,1,0]= -1 by decide+kernel]
  exact h (60+b+B1+e) (by omega)
 ·cases a
open Classical in
noncomputable def fe.f (k:Nat) (a:Int) (b:List (S83)) (e:Int):Option (Int×Int):=if a=3∧b=cg∧e=0 then some (0,0) else none
theorem fe.mono:∀a b e k,ae (fe.f k a b e) (fe.f (k+1) a b e):=fun _ _ _ _=>ae.refl _
theorem E9 (A0:Option Addr) (c0:Nat) (w:World) (b:Kd.C aK w A0 cg.length cg) (g:cg.length<=c0):
  Calls Tryz.prog 82 #[.agg #[.int .i64 3,.slice A0 cg.length c0],.int .i64 0] w fun e w'=>e= .returned (.tuple #[.int .i64 0,.int .i64 0])∧Below w.heap.size w w':=by
 obtain⟨K,a,h⟩:=E8;refine(EL K 3 2 6 A0 c0 cg 0 [2,2,2] iQ jT qN w b g (by decide) (by decide) (by decide) (by decide)
  (kB (de.mono _ _) a EM) (fun u hu=>by obtain⟨e,he⟩:=EN u hu;exact⟨e,kB (b9.mono _ _ _) a he⟩) EO (by decide) (by decide)
  (kB (dz.mono _ _ _) a EP) (kB (eP.mono _ _ _) a ER) (by decide+kernel) rfl (by decide) (fun c k=>kB (bc.mono _ _) a (ES c k)) (fun i j=>kB (da.mono _ _) a (ET i j)) EU h).mono ?_
 rintro e w' ⟨L,hp,rfl,hb⟩;have h1:iA jT L=iA jT (iQ.map (cF 0)):=hp.foldl_eq' (fun x _ y _ z=>by omega) _;have l:iA jT (iQ.map (cF 0))=0:=by decide+kernel
 rw[h1,l];exact⟨rfl,hb⟩
theorem fe.calls (k:Nat) (b:Int) (g:Option Addr) (i:Nat) (a:List (S83)) (j:Int) (m:Int) (n:Int) (w:World) (o:Kd.C aK w g a.length a) (p:a.length<=i) (h:fe.f k b a j=some (m,n)):
  Calls Tryz.prog 82 #[.agg #[.int .i64 b,.slice g a.length i],.int .i64 j] w fun e w'=>e= .returned (.tuple #[.int .i64 m,.int .i64 n])∧Below w.heap.size w w':=by
 unfold fe.f at h;by_cases l:b=3∧a=cg∧j=0
 ·rw[if_pos l] at h
  obtain⟨rfl,rfl,rfl⟩:=l;injection h with h
  injection h with h1 q
  subst h1 q;exact E9 g i w o p
 ·rw[if_neg l] at h;cases h
theorem E_:Ev (fun k=>fe.f k 3 cg 0) ((0:Int),(0:Int)):=Ev.at_ (fe.mono _ _ _) (k:=0) (by unfold fe.f;rw[if_pos ⟨rfl,rfl,rfl⟩])
end Go.Proofs.YtffdiakgjakngaaGreat.P

