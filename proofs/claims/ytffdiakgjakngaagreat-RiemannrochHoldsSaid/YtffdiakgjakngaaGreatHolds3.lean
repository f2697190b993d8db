/- RiemannrochHolds answers true whatever the input (text 3 of 20): own walks and plain laws; no conditions. -/
import Derived.Test.YtffdiakgjakngaaGreatHolds2
namespace Go.Proofs.YtffdiakgjakngaaGreat.P
open Go.RowKit Go.Proofs.YtffdiakgjakngaaGreatW.PrintWords Go.Proofs.YtffdiakgjakngaaGreatW.PrintLast Go.Proofs.YtffdiakgjakngaaGreatW.PrintMore
set_option linter.unusedVariables false
set_option linter.unusedSimpArgs false
set_option maxHeartbeats 8000000
set_option maxRecDepth 100000
mutual
def aY.j0:Nat->Bool->Int->List (S83)->Option (Int)
 |0,_,_,_=>none
 |k+1,b,e,a=>if b=true then(some 2) else(aY.l0 k a (a.length:Int) 0 e a (-1) (-1))
def aY.l0:Nat->List (S83)->Int->Int->Int->List (S83)->Int->Int->Option (Int)
 |0,_,_,_,_,_,_,_=>none
 |k+1,b,g,a,e,h,i,j=>if a<g then(if 0<=a then(if a<(b.length:Int) then((fh.f e ((ai b a).f0)).bind fun t216=>(if t216=true then((fh.f e ((ai b a).f1)).bind fun t217=>(if t217=true then(if((ai b a).f2)<1 then(aY.j2 k b g a true e h i j ((ai b a).f0) ((ai b a).f1) ((ai b a).f2) ((ai b a).f0) ((ai b a).f1)) else(aY.j2 k b g a (decide (((ai b a).f2)>50)) e h i j ((ai b a).f0) ((ai b a).f1) ((ai b a).f2) ((ai b a).f0) ((ai b a).f1))) else(aY.j2 k b g a true e h i j ((ai b a).f0) ((ai b a).f1) ((ai b a).f2) ((ai b a).f0) ((ai b a).f1)))) else(aY.j2 k b g a true e h i j ((ai b a).f0) ((ai b a).f1) ((ai b a).f2) ((ai b a).f0) ((ai b a).f1)))) else(none)) else(none)) else(some 0)
def aY.j2:Nat->List (S83)->Int->Int->Bool->Int->List (S83)->Int->Int->Int->Int->Int->Int->Int->Option (Int)
 |0,_,_,_,_,_,_,_,_,_,_,_,_,_=>none
 |k+1,e,g,h,i,j,l,m,n,o,p,q,a,b=>if i=true then(some 2) else(if o>p then(some 9) else((cW.f k m n a b).bind fun t218=>(if t218>=0 then(some 9) else(aY.l0 k e g (wrap64 (h+1)) j l a b))))
end
def aY.f (k:Nat) (a:Int) (b:List (S83)):Option (Int):=if a<1 then(aY.j0 k true a b) else(aY.j0 k (decide (a>12)) a b)
theorem aY.bW:∀k,(∀a b e,ae (aY.j0 k a b e) (aY.j0 (k+1) a b e))∧(∀a b e g i j l,ae (aY.l0 k a b e g i j l) (aY.l0 (k+1) a b e g i j l))∧(∀a b e g i j l p q s u v w,ae (aY.j2 k a b e g i j l p q s u v w) (aY.j2 (k+1) a b e g i j l p q s u v w))
 |0=>⟨fun _ _ _ r h=>by simp[aY.j0] at h,fun _ _ _ _ _ _ _ r h=>by simp[aY.l0] at h,fun _ _ _ _ _ _ _ _ _ _ _ _ _ r h=>by simp[aY.j2] at h⟩
 |k+1=>by
  obtain⟨m,n,o⟩:=aY.bW k;refine⟨?_,?_,?_⟩
  ·intro a b e
   unfold aY.j0;repeat' first
   |(with_reducible exact m _ _ _)
   |(with_reducible exact n _ _ _ _ _ _ _)
   |(with_reducible exact o _ _ _ _ _ _ _ _ _ _ _ _ _)
   |(with_reducible exact cW.mono _ _ _ _ _)
   |(with_reducible exact ae.refl _)
   |(with_reducible exact ae.none _)
   |(with_reducible refine ae.ite ?_ ?_)
   |(with_reducible refine ae.bind ?_ (fun _=>?_))
   |exact m _ _ _
   |exact n _ _ _ _ _ _ _
   |exact o _ _ _ _ _ _ _ _ _ _ _ _ _
   |exact cW.mono _ _ _ _ _
   |exact ae.none _
   |refine ae.ite ?_ ?_
   |refine ae.bind ?_ (fun _=>?_)
  ·intro a b e g i j l
   unfold aY.l0;repeat' first
   |(with_reducible exact m _ _ _)
   |(with_reducible exact n _ _ _ _ _ _ _)
   |(with_reducible exact o _ _ _ _ _ _ _ _ _ _ _ _ _)
   |(with_reducible exact cW.mono _ _ _ _ _)
   |(with_reducible exact ae.refl _)
   |(with_reducible exact ae.none _)
   |(with_reducible refine ae.ite ?_ ?_)
   |(with_reducible refine ae.bind ?_ (fun _=>?_))
   |exact m _ _ _
   |exact n _ _ _ _ _ _ _
   |exact o _ _ _ _ _ _ _ _ _ _ _ _ _
   |exact cW.mono _ _ _ _ _
   |exact ae.none _
   |refine ae.ite ?_ ?_
   |refine ae.bind ?_ (fun _=>?_)
  ·intro a b e g i j l p q s u v w
   unfold aY.j2;repeat' first
   |(with_reducible exact m _ _ _)
   |(with_reducible exact n _ _ _ _ _ _ _)
   |(with_reducible exact o _ _ _ _ _ _ _ _ _ _ _ _ _)
   |(with_reducible exact cW.mono _ _ _ _ _)
   |(with_reducible exact ae.refl _)
   |(with_reducible exact ae.none _)
   |(with_reducible refine ae.ite ?_ ?_)
   |(with_reducible refine ae.bind ?_ (fun _=>?_))
   |exact m _ _ _
   |exact n _ _ _ _ _ _ _
   |exact o _ _ _ _ _ _ _ _ _ _ _ _ _
   |exact cW.mono _ _ _ _ _
   |exact ae.none _
   |refine ae.ite ?_ ?_
   |refine ae.bind ?_ (fun _=>?_)
theorem aY.mono:∀a0 a k,ae (aY.f k a0 a) (aY.f (k+1) a0 a):=by
 intro a0 a k;obtain⟨b,e,g⟩:=aY.bW k;unfold aY.f;repeat' first
   |(with_reducible exact b _ _ _)
   |(with_reducible exact e _ _ _ _ _ _ _)
   |(with_reducible exact g _ _ _ _ _ _ _ _ _ _ _ _ _)
   |(with_reducible exact cW.mono _ _ _ _ _)
   |(with_reducible exact ae.refl _)
   |(with_reducible exact ae.none _)
   |(with_reducible refine ae.ite ?_ ?_)
   |(with_reducible refine ae.bind ?_ (fun _=>?_))
   |exact b _ _ _
   |exact e _ _ _ _ _ _ _
   |exact g _ _ _ _ _ _ _ _ _ _ _ _ _
   |exact cW.mono _ _ _ _ _
   |exact ae.none _
   |refine ae.ite ?_ ?_
   |refine ae.bind ?_ (fun _=>?_)
theorem aY.calls (k:Nat) (j:Int) (S:Option Addr) (B:Nat) (a:List (S83)) (r:Int) (w:World) (b0:Kd.C aK w S a.length a) (b1:a.length<=B) (h:aY.f k j a=some r):
  Calls Tryz.prog 64 #[.agg #[.int .i64 j,.slice S a.length B]] w fun e w'=>e= .returned (.int .i64 r)∧Below w.heap.size w w':=by
 have f5:=Tryz.underlying24;have f6:=Tryz.underlying116;have f7:=Tryz.underlying83;have ch:=Aside0.mk b0;have f8:=Aside0.mk b1;clear b0 b1;have m:=Aside0.mk (Below.refl w.heap.size w);unfold aY.f at h;have H:=h;clear h;have a4:=Aside0.mk H;clear H;go_enter Tryz.func64,Tryz.ntmps64
 go_upto_region 1 with (first|((with_reducible refine aH (N:=1) rfl ?_);refine zX 1 #[.int .i64 j,.slice S a.length B] 24 ?_;intro u l w3 I hb;have i:=Aside0.mk (I);have f9:=zG m l;have f':=zG m l;replace m:=zS m hb;clear hb I l))
 (try simp only[Act.put,List.setIfInBounds_toArray,List.set_cons_zero,List.set_cons_succ])
 go_cut [14] (fun ci wc=>∃(G:Nat) (aB:Bool),ci= .bool aB∧Aside0 (aY.j0 G aB j a=some r)∧Aside0 (G<=k)∧Aside0 (wc.heap[u]? =some (.cells #[.int .i64 j,(.slice S a.length B)] 24 (0,0)))∧Aside0 (Below w.heap.size w wc))
 case first=>
  have H:=a4.out;clear a4;by_cases c4:j<1
  ·rw[if_pos c4] at H
   have O:=decide_eq_true c4;clear c4
   (first|rw[O]|(simp only[bd,bh];rw[O])|skip)
   have v:=Aside0.mk H;clear H;obtain⟨a5,a9,be,bf⟩:=au i;go_wp2;go_meet
   case rel=>exact⟨_,(true),zT,v,⟨by first|omega|exact Nat.le_refl _⟩,⟨zK i⟩,⟨zB⟩⟩
  ·rw[if_neg c4] at H
   have O:=decide_eq_false c4;clear c4
   (first|rw[O]|(simp only[bd,bh];rw[O])|skip)
   have v:=Aside0.mk H;clear H;obtain⟨bg,bi,bk,bn⟩:=au i;go_wp2;go_meet
   case rel=>exact⟨_,(decide (j>12)),zT,v,⟨by first|omega|exact Nat.le_refl _⟩,⟨zK i⟩,⟨zB⟩⟩
 case rest=>
  clear a4;try clear p2
  try clear c4
  try clear O
  try clear c6
  try clear a5
  try clear a9
  try clear bg
  try clear bi
  try clear be
  try clear bf
  try clear bk
  try clear bn
  obtain⟨G,aB,rfl,J,Y,i,m⟩:=hcut;cases G with
  |zero=>exact absurd J.out (by simp[aY.j0])
  |succ b3=>
   have H:=J.out;clear J;simp only[aY.j0] at H;by_cases Z:aB=true
   ·subst Z
    replace H:=zi H;obtain rfl:=Option.some.inj H;go_wp2;go_ret;exact⟨zE,zB⟩
   ·replace Z:=Bool.eq_false_iff.mpr Z
    subst Z;replace H:=zj H;have v:=Aside0.mk H;clear H;go_wp2_with (first|((with_reducible refine aH (N:=3) rfl ?_);refine zX 3 #[.int .i64 0,.int .i64 0] 116 ?_;intro D l w8 I hb;have n:=Aside0.mk (I);have gc:=zG m l;have gd:=zG m l;replace m:=zS m hb;have K:=Aside0.mk ((by rw[l];exact Nat.ne_of_lt (ay (g:=u) (o:=.cells #[.int .i64 j,.slice S a.length B] 24 (0,0)) (zK i)):u≠D));have T:=Aside0.mk ((by rw[l];exact Nat.ne_of_gt (ay (g:=u) (o:=.cells #[.int .i64 j,.slice S a.length B] 24 (0,0)) (zK i)):D≠u));replace i:=zb i hb;clear hb I l;have ge:=T.out;have gf:=K.out;obtain⟨b4,b5,b6,b_⟩:=au n;obtain⟨b',ca,cb,cc⟩:=au i))
    go_loopg [19] b3 (fun G cj w'=>∃(b:Int) (E:Int) (z:Int),cj= .int .i64 b∧Aside0 (aY.l0 G a (a.length:Int) b j a E z=some r)∧Aside0 (G<=b3)∧Aside0 (w'.heap[u]? =some (.cells #[.int .i64 j,(.slice S a.length B)] 24 (0,0)))∧Aside0 (w'.heap[D]? =some (.cells #[.int .i64 E,.int .i64 z] 116 (0,0)))∧Aside0 (Below w.heap.size w w'))
    case atStart=>exact⟨(0),((-1)),((-1)),zT,v,⟨Nat.le_refl _⟩,⟨by refine zk ?_;refine aC ?_ K.out _;refine zk ?_;refine aC ?_ K.out _;exact zK i⟩,⟨by refine zk ?_;refine bb (cs:=#[.int .i64 (-1),.int .i64 0]) ?_ 1 _ rfl;refine zk ?_;refine bb (cs:=#[.int .i64 0,.int .i64 0]) ?_ 0 _ rfl;exact zK n⟩,⟨zB⟩⟩
    case round=>
     clear v;try clear p2
     try clear c4
     try clear O
     try clear c6
     try clear Z
     try clear c9
     try clear b4
     try clear b5
     try clear b'
     try clear ca
     try clear a5
     try clear a9
     try clear bg
     try clear bi
     try clear b6
     try clear b_
     try clear cb
     try clear cc
     try clear be
     try clear bf
     try clear bk
     try clear bn
     try clear p2
     obtain⟨b,E,z,rfl,J,aa,i,n,m⟩:=hrel;cases gk with
     |zero=>exact absurd J.out (by simp[aY.l0])
     |succ k2=>
      have H:=J.out;clear J;simp only[aY.l0] at H;by_cases U:b<(a.length:Int)
      ·rw[if_pos U] at H
       have cd:=decide_eq_true U;clear U;by_cases an:0<=b
       ·rw[if_pos an] at H
        have co:=decide_eq_true an;clear an;by_cases ap:b<(a.length:Int)
        ·rw[if_pos ap] at H
         have cq:=decide_eq_true ap;clear ap;have bo:=Aside0.mk H;clear H;have aL:0<=(b:Int):=of_decide_eq_true ‹_›;have aO:b<(a.length:Int):=of_decide_eq_true ‹_›;obtain⟨ab,cr,aP,aS,a0⟩:=eo ch.out b aL aO;cases cr;replace aP:=(m.out.cell (World.block_lt_of_cell? w _ aP)).trans aP;replace aS:=(m.out.cell (World.block_lt_of_cell? w _ aS)).trans aS;replace a0:=(m.out.cell (World.block_lt_of_cell? w _ a0)).trans a0;replace aL:=eq_true aL;replace aO:=eq_true aO;go_upto_region 8 with (first|((with_reducible refine aH (N:=5) rfl ?_);refine zX 5 #[.int .i64 0,.int .i64 0,.int .i64 0] 83 ?_;intro M l gg I hb;have p:=Aside0.mk (I);have gi:=zG m l;have gl:=zG m l;replace m:=zS m hb;have q:=Aside0.mk ((by rw[l];exact Nat.ne_of_lt (ay (g:=u) (o:=.cells #[.int .i64 j,.slice (some ab) a.length B] 24 (0,0)) (zK i)):u≠M));have P:=Aside0.mk ((by rw[l];exact Nat.ne_of_gt (ay (g:=u) (o:=.cells #[.int .i64 j,.slice (some ab) a.length B] 24 (0,0)) (zK i)):M≠u));replace i:=zb i hb;have s:=Aside0.mk ((by rw[l];exact Nat.ne_of_lt (ay (g:=D) (o:=.cells #[.int .i64 E,.int .i64 z] 116 (0,0)) (zK n)):D≠M));have Q:=Aside0.mk ((by rw[l];exact Nat.ne_of_gt (ay (g:=D) (o:=.cells #[.int .i64 E,.int .i64 z] 116 (0,0)) (zK n)):M≠D));replace n:=zb n hb;clear hb I l;have gm:=P.out;have gn:=q.out;have go:=Q.out;have gp:=s.out;obtain⟨cv,cx,c0,c8,c',dd⟩:=bV p)|((with_reducible refine aH (N:=6) rfl ?_);refine zX 6 #[.int .i64 0,.int .i64 0] 116 ?_;intro V l gq I hb;have F:=Aside0.mk (I);have gr:=zG m l;have gs:=zG m l;replace m:=zS m hb;have y:=Aside0.mk ((by rw[l];exact Nat.ne_of_lt (ay (g:=u) (o:=.cells #[.int .i64 j,.slice (some ab) a.length B] 24 (0,0)) (by refine zk ?_;refine aC ?_ q.out _;refine zk ?_;refine aC ?_ q.out _;refine zk ?_;refine aC ?_ q.out _;exact zK i)):u≠V));have W:=Aside0.mk ((by rw[l];exact Nat.ne_of_gt (ay (g:=u) (o:=.cells #[.int .i64 j,.slice (some ab) a.length B] 24 (0,0)) (by refine zk ?_;refine aC ?_ q.out _;refine zk ?_;refine aC ?_ q.out _;refine zk ?_;refine aC ?_ q.out _;exact zK i)):V≠u));replace i:=Aside0.mk (aG (g:=u) (o:=.cells #[.int .i64 j,.slice (some ab) a.length B] 24 (0,0)) (by refine zk ?_;refine aC ?_ q.out _;refine zk ?_;refine aC ?_ q.out _;refine zk ?_;refine aC ?_ q.out _;exact zK i) hb);have L:=Aside0.mk ((by rw[l];exact Nat.ne_of_lt (ay (g:=D) (o:=.cells #[.int .i64 E,.int .i64 z] 116 (0,0)) (by refine zk ?_;refine aC ?_ s.out _;refine zk ?_;refine aC ?_ s.out _;refine zk ?_;refine aC ?_ s.out _;exact zK n)):D≠V));have bv:=Aside0.mk ((by rw[l];exact Nat.ne_of_gt (ay (g:=D) (o:=.cells #[.int .i64 E,.int .i64 z] 116 (0,0)) (by refine zk ?_;refine aC ?_ s.out _;refine zk ?_;refine aC ?_ s.out _;refine zk ?_;refine aC ?_ s.out _;exact zK n)):V≠D));replace n:=Aside0.mk (aG (g:=D) (o:=.cells #[.int .i64 E,.int .i64 z] 116 (0,0)) (by refine zk ?_;refine aC ?_ s.out _;refine zk ?_;refine aC ?_ s.out _;refine zk ?_;refine aC ?_ s.out _;exact zK n) hb);have x:=Aside0.mk ((by rw[l];exact Nat.ne_of_lt (ay (g:=M) (o:=.cells #[.int .i64 ((ai a b).f0),.int .i64 ((ai a b).f1),.int .i64 ((ai a b).f2)] 83 (0,0)) (by refine zk ?_;refine bb (cs:=#[.int .i64 ((ai a b).f0),.int .i64 ((ai a b).f1),.int .i64 0]) ?_ 2 _ rfl;refine zk ?_;refine bb (cs:=#[.int .i64 ((ai a b).f0),.int .i64 0,.int .i64 0]) ?_ 1 _ rfl;refine zk ?_;refine bb (cs:=#[.int .i64 0,.int .i64 0,.int .i64 0]) ?_ 0 _ rfl;exact zK p)):M≠V));have R:=Aside0.mk ((by rw[l];exact Nat.ne_of_gt (ay (g:=M) (o:=.cells #[.int .i64 ((ai a b).f0),.int .i64 ((ai a b).f1),.int .i64 ((ai a b).f2)] 83 (0,0)) (by refine zk ?_;refine bb (cs:=#[.int .i64 ((ai a b).f0),.int .i64 ((ai a b).f1),.int .i64 0]) ?_ 2 _ rfl;refine zk ?_;refine bb (cs:=#[.int .i64 ((ai a b).f0),.int .i64 0,.int .i64 0]) ?_ 1 _ rfl;refine zk ?_;refine bb (cs:=#[.int .i64 0,.int .i64 0,.int .i64 0]) ?_ 0 _ rfl;exact zK p)):V≠M));replace p:=Aside0.mk (aG (g:=M) (o:=.cells #[.int .i64 ((ai a b).f0),.int .i64 ((ai a b).f1),.int .i64 ((ai a b).f2)] 83 (0,0)) (by refine zk ?_;refine bb (cs:=#[.int .i64 ((ai a b).f0),.int .i64 ((ai a b).f1),.int .i64 0]) ?_ 2 _ rfl;refine zk ?_;refine bb (cs:=#[.int .i64 ((ai a b).f0),.int .i64 0,.int .i64 0]) ?_ 1 _ rfl;refine zk ?_;refine bb (cs:=#[.int .i64 0,.int .i64 0,.int .i64 0]) ?_ 0 _ rfl;exact zK p) hb);clear hb I l;have gt:=W.out;have gx:=y.out;have g0:=bv.out;have g1:=L.out;have g2:=R.out;have g3:=x.out;obtain⟨dk,dl,ds,dv⟩:=au F))
         (try simp only[Act.put,List.setIfInBounds_toArray,List.set_cons_zero,List.set_cons_succ])
         go_cut [28] (fun v28 wc=>∃(G:Nat) (a1:Bool),v28= .bool a1∧Aside0 (aY.j2 G a (a.length:Int) b a1 j a E z ((ai a b).f0) ((ai a b).f1) ((ai a b).f2) ((ai a b).f0) ((ai a b).f1)=some r)∧Aside0 (G<=k2)∧Aside0 (wc.heap[u]? =some (.cells #[.int .i64 j,(.slice (some ab) a.length B)] 24 (0,0)))∧Aside0 (wc.heap[D]? =some (.cells #[.int .i64 E,.int .i64 z] 116 (0,0)))∧Aside0 (wc.heap[M]? =some (.cells #[.int .i64 ((ai a b).f0),.int .i64 ((ai a b).f1),.int .i64 ((ai a b).f2)] 83 (0,0)))∧Aside0 (wc.heap[V]? =some (.cells #[.int .i64 ((ai a b).f0),.int .i64 ((ai a b).f1)] 116 (0,0)))∧Aside0 (Below w.heap.size w wc))
         case first=>
          have H:=bo.out;clear bo;obtain⟨t216,a2,H⟩:=zo H;by_cases ar:t216=true
          ·subst ar
           replace H:=zi H;obtain⟨t217,bw,H⟩:=zo H;by_cases av:t217=true
           ·subst av
            replace H:=zi H;by_cases X:((ai a b).f2)<1
            ·rw[if_pos X] at H
             have ad:=decide_eq_true X;clear X
             (first|rw[ad]|(simp only[bd,bh];rw[ad])|skip)
             have v:=Aside0.mk H;clear H;have g4:=K.out;have g5:=T.out;have g6:=q.out;have g7:=P.out;have g8:=y.out;have g9:=W.out;obtain⟨d0,d1,d2,d3⟩:=au i;have g':=Q.out;have ha:=s.out;have hc:=x.out;have he:=R.out;obtain⟨d4,d5,d6,d7,d8,d9⟩:=bV p;go_wp2_with (first|((with_reducible refine ax (f:=121) rfl ?_);refine zL (some 33) Tryz.func121 #[.int .i64 j,.int .i64 ((ai a b).f0)] ?_;(with_reducible refine(fh.calls j ((ai a b).f0) true _ a2.out).mono ?_);rintro e w' ⟨rfl,⟨nd,rfl⟩⟩;refine⟨_,rfl,?_⟩)|(go_at_call 121;(with_reducible refine(fh.calls j ((ai a b).f1) true _ bw.out).mono ?_);rintro e w' ⟨rfl,⟨nd,rfl⟩⟩))
             go_meet
             case rel=>exact⟨_,(true),zT,v,⟨by have:=Y.out;have:=aa.out;first|omega|exact Nat.le_refl _⟩,⟨by refine zk ?_;refine aC ?_ y.out _;refine zk ?_;refine aC ?_ y.out _;exact zK i⟩,⟨by refine zk ?_;refine aC ?_ L.out _;refine zk ?_;refine aC ?_ L.out _;exact zK n⟩,⟨by refine zk ?_;refine aC ?_ x.out _;refine zk ?_;refine aC ?_ x.out _;exact zK p⟩,⟨by refine zk ?_;refine bb (cs:=#[.int .i64 ((ai a b).f0),.int .i64 0]) ?_ 1 _ rfl;refine zk ?_;refine bb (cs:=#[.int .i64 0,.int .i64 0]) ?_ 0 _ rfl;exact zK F⟩,⟨zB⟩⟩
            ·rw[if_neg X] at H
             have ad:=decide_eq_false X;clear X
             (first|rw[ad]|(simp only[bd,bh];rw[ad])|skip)
             have v:=Aside0.mk H;clear H;have hf:=K.out;have hh:=T.out;have hj:=q.out;have hk:=P.out;have hl:=y.out;have hm:=W.out;obtain⟨ea,eb,ed,eg⟩:=au i;have hn:=Q.out;have ho:=s.out;have hp:=x.out;have hq:=R.out;obtain⟨ek,el,em,er,es,ev⟩:=bV p;go_wp2_with (first|((with_reducible refine ax (f:=121) rfl ?_);refine zL (some 33) Tryz.func121 #[.int .i64 j,.int .i64 ((ai a b).f0)] ?_;(with_reducible refine(fh.calls j ((ai a b).f0) true _ a2.out).mono ?_);rintro e w' ⟨rfl,⟨nd,rfl⟩⟩;refine⟨_,rfl,?_⟩)|(go_at_call 121;(with_reducible refine(fh.calls j ((ai a b).f1) true _ bw.out).mono ?_);rintro e w' ⟨rfl,⟨nd,rfl⟩⟩))
             go_meet
             case rel=>exact⟨_,(decide (((ai a b).f2)>50)),zT,v,⟨by have:=Y.out;have:=aa.out;first|omega|exact Nat.le_refl _⟩,⟨by refine zk ?_;refine aC ?_ y.out _;refine zk ?_;refine aC ?_ y.out _;exact zK i⟩,⟨by refine zk ?_;refine aC ?_ L.out _;refine zk ?_;refine aC ?_ L.out _;exact zK n⟩,⟨by refine zk ?_;refine aC ?_ x.out _;refine zk ?_;refine aC ?_ x.out _;exact zK p⟩,⟨by refine zk ?_;refine bb (cs:=#[.int .i64 ((ai a b).f0),.int .i64 0]) ?_ 1 _ rfl;refine zk ?_;refine bb (cs:=#[.int .i64 0,.int .i64 0]) ?_ 0 _ rfl;exact zK F⟩,⟨zB⟩⟩
           ·replace av:=Bool.eq_false_iff.mpr av
            subst av;replace H:=zj H;have v:=Aside0.mk H;clear H;have hr:=K.out;have hs:=T.out;have ht:=q.out;have hv:=P.out;have hw:=y.out;have hx:=W.out;obtain⟨ew,ex,ey,e0⟩:=au i;have hy:=Q.out;have hz:=s.out;have hA:=x.out;have hB:=R.out;obtain⟨e1,e2,e3,e4,e5,e6⟩:=bV p;go_wp2_with (first|((with_reducible refine ax (f:=121) rfl ?_);refine zL (some 33) Tryz.func121 #[.int .i64 j,.int .i64 ((ai a b).f0)] ?_;(with_reducible refine(fh.calls j ((ai a b).f0) true _ a2.out).mono ?_);rintro e w' ⟨rfl,⟨nd,rfl⟩⟩;refine⟨_,rfl,?_⟩)|(go_at_call 121;(with_reducible refine(fh.calls j ((ai a b).f1) false _ bw.out).mono ?_);rintro e w' ⟨rfl,⟨nd,rfl⟩⟩))
            go_meet
            case rel=>exact⟨_,(true),zT,v,⟨by have:=Y.out;have:=aa.out;first|omega|exact Nat.le_refl _⟩,⟨by refine zk ?_;refine aC ?_ y.out _;refine zk ?_;refine aC ?_ y.out _;exact zK i⟩,⟨by refine zk ?_;refine aC ?_ L.out _;refine zk ?_;refine aC ?_ L.out _;exact zK n⟩,⟨by refine zk ?_;refine aC ?_ x.out _;refine zk ?_;refine aC ?_ x.out _;exact zK p⟩,⟨by refine zk ?_;refine bb (cs:=#[.int .i64 ((ai a b).f0),.int .i64 0]) ?_ 1 _ rfl;refine zk ?_;refine bb (cs:=#[.int .i64 0,.int .i64 0]) ?_ 0 _ rfl;exact zK F⟩,⟨zB⟩⟩
          ·replace ar:=Bool.eq_false_iff.mpr ar
           subst ar;replace H:=zj H;have v:=Aside0.mk H;clear H;have hC:=K.out;have hD:=T.out;have hE:=q.out;have hG:=P.out;have hH:=y.out;have hI:=W.out;obtain⟨e_,e',fb,fd⟩:=au i;have hJ:=Q.out;have hK:=s.out;have hL:=x.out;have hM:=R.out;obtain⟨fn,fo,fq,fr,ft,fv⟩:=bV p;go_wp2_with (first|((with_reducible refine ax (f:=121) rfl ?_);refine zL (some 33) Tryz.func121 #[.int .i64 j,.int .i64 ((ai a b).f0)] ?_;(with_reducible refine(fh.calls j ((ai a b).f0) false _ a2.out).mono ?_);rintro e w' ⟨rfl,⟨nd,rfl⟩⟩;refine⟨_,rfl,?_⟩))
           go_meet
           case rel=>exact⟨_,(true),zT,v,⟨by have:=Y.out;have:=aa.out;first|omega|exact Nat.le_refl _⟩,⟨by refine zk ?_;refine aC ?_ y.out _;refine zk ?_;refine aC ?_ y.out _;exact zK i⟩,⟨by refine zk ?_;refine aC ?_ L.out _;refine zk ?_;refine aC ?_ L.out _;exact zK n⟩,⟨by refine zk ?_;refine aC ?_ x.out _;refine zk ?_;refine aC ?_ x.out _;exact zK p⟩,⟨by refine zk ?_;refine bb (cs:=#[.int .i64 ((ai a b).f0),.int .i64 0]) ?_ 1 _ rfl;refine zk ?_;refine bb (cs:=#[.int .i64 0,.int .i64 0]) ?_ 0 _ rfl;exact zK F⟩,⟨zB⟩⟩
         case rest=>
          clear bo;try clear c1
          try clear c2
          try clear p2
          try clear q2
          try clear hO
          try clear c3
          try clear c4
          try clear O
          try clear c5
          try clear c6
          try clear Z
          try clear c9
          try clear U
          try clear cd
          try clear an
          try clear co
          try clear ap
          try clear cq
          try clear hQ
          try clear hR
          try clear hT
          try clear hV
          try clear hW
          try clear hX
          try clear hY
          try clear h0
          try clear ar
          try clear av
          try clear X
          try clear ad
          try clear h1
          try clear h2
          try clear h3
          try clear h4
          try clear h5
          try clear h6
          try clear h7
          try clear h8
          try clear h9
          try clear h_
          try clear h'
          try clear ib
          try clear id
          try clear ih
          try clear ii
          try clear im
          try clear io
          try clear ip
          try clear is
          try clear it
          try clear b4
          try clear b5
          try clear b'
          try clear ca
          try clear cv
          try clear cx
          try clear c0
          try clear dk
          try clear dl
          try clear d0
          try clear d1
          try clear d4
          try clear d5
          try clear d6
          try clear ea
          try clear eb
          try clear ek
          try clear el
          try clear em
          try clear ew
          try clear ex
          try clear e1
          try clear e2
          try clear e3
          try clear e_
          try clear e'
          try clear fn
          try clear fo
          try clear fq
          try clear a5
          try clear a9
          try clear bg
          try clear bi
          try clear b6
          try clear b_
          try clear cb
          try clear cc
          try clear c8
          try clear c'
          try clear dd
          try clear ds
          try clear dv
          try clear d2
          try clear d3
          try clear d7
          try clear d8
          try clear d9
          try clear ed
          try clear eg
          try clear er
          try clear es
          try clear ev
          try clear ey
          try clear e0
          try clear e4
          try clear e5
          try clear e6
          try clear fb
          try clear fd
          try clear fr
          try clear ft
          try clear fv
          try clear be
          try clear bf
          try clear bk
          try clear bn
          try clear aP
          try clear aS
          try clear a0
          try clear p2
          try clear aL
          try clear aO
          obtain⟨G,a1,rfl,J,ce,i,n,p,F,m⟩:=hcut;cases G with
          |zero=>exact absurd J.out (by simp[aY.j2])
          |succ bx=>
           have H:=J.out;clear J;simp only[aY.j2] at H;by_cases a3:a1=true
           ·subst a3
            replace H:=zi H;obtain rfl:=Option.some.inj H;go_wp2;go_ret;exact⟨zE,zB⟩
           ·replace a3:=Bool.eq_false_iff.mpr a3
            subst a3;replace H:=zj H;by_cases ak:((ai a b).f0)>((ai a b).f1)
            ·rw[if_pos ak] at H
             have f3:=decide_eq_true ak;clear ak;obtain rfl:=Option.some.inj H;have iv:=P.out;have i0:=q.out;have i1:=Q.out;have i2:=s.out;have i3:=x.out;have i4:=R.out;obtain⟨i5,i6,i7,i8,i9,jj⟩:=bV p;go_wp2;go_ret;exact⟨zE,zB⟩
            ·rw[if_neg ak] at H
             have f3:=decide_eq_false ak;clear ak;obtain⟨t218,cf,H⟩:=zo H;by_cases am:t218>=0
             ·rw[if_pos am] at H
              have f4:=decide_eq_true am;clear am;obtain rfl:=Option.some.inj H;have jp:=P.out;have j1:=q.out;have j3:=Q.out;have j_:=s.out;have j':=x.out;have kd:=R.out;obtain⟨kk,km,ks,kt,kv,kw⟩:=bV p;have kW:=T.out;have k0:=K.out;have k1:=L.out;have k3:=bv.out;obtain⟨k4,k5,k6,k7⟩:=au n;have k8:=W.out;have k9:=y.out;obtain⟨k_,la,lb,lc⟩:=au F;go_wp2_with (first|(go_at_call 122;(with_reducible refine(cW.calls bx E z ((ai a b).f0) ((ai a b).f1) t218 _ cf.out).mono ?_);rintro e ld ⟨rfl,hb⟩;replace i:=zb i hb;replace n:=zb n hb;replace p:=zb p hb;replace F:=zb F hb;replace m:=zS m hb;(try clear hb)))
              go_ret;exact⟨zE,zB⟩
             ·rw[if_neg am] at H
              have f4:=decide_eq_false am;clear am;have v:=Aside0.mk H;clear H;have le:=P.out;have lg:=q.out;have li:=Q.out;have lj:=s.out;have lk:=x.out;have lm:=R.out;obtain⟨lo,lp,ls,lt,lv,lw⟩:=bV p;have l1:=T.out;have l2:=K.out;have l3:=L.out;have l':=bv.out;obtain⟨mb,md,ml,mm⟩:=au n;have mn:=W.out;have mp:=y.out;obtain⟨ms,mt,mv,mx⟩:=au F;go_wp2_with (first|(go_at_call 122;(with_reducible refine(cW.calls bx E z ((ai a b).f0) ((ai a b).f1) t218 _ cf.out).mono ?_);rintro e m0 ⟨rfl,hb⟩;replace i:=zb i hb;replace n:=zb n hb;replace p:=zb p hb;replace F:=zb F hb;replace m:=zS m hb;(try clear hb);obtain⟨m1,m2,m3,m4⟩:=au F;obtain⟨m5,m6,m7,m8⟩:=au n))
              go_roundg bx
              case measure=>have:=Y.out;have:=aa.out;have:=ce.out;omega
              case rel=>exact⟨(wrap64 (b+1)),(((ai a b).f0)),(((ai a b).f1)),zT,v,⟨by have:=Y.out;have:=aa.out;have:=ce.out;omega⟩,⟨by refine zk ?_;refine aC ?_ K.out _;refine zk ?_;refine aC ?_ K.out _;exact zK i⟩,⟨by refine zk ?_;refine bb (cs:=#[.int .i64 ((ai a b).f0),.int .i64 z]) ?_ 1 _ rfl;refine zk ?_;refine bb (cs:=#[.int .i64 E,.int .i64 z]) ?_ 0 _ rfl;exact zK n⟩,⟨zB⟩⟩
        ·rw[if_neg ap] at H
         exact absurd H (by simp)
       ·rw[if_neg an] at H
        exact absurd H (by simp)
      ·rw[if_neg U] at H
       have cd:=decide_eq_false U;clear U;obtain rfl:=Option.some.inj H;go_wp2;go_ret;exact⟨zE,zB⟩
def bQ (N:Int) (x:S83):Bool:=decide (0<=x.f0∧x.f0<N∧0<=x.f1∧x.f1<N∧1<=x.f2∧x.f2<=50)
def dB (N:Int) (a b:Int) (x:S83):Int:=if bQ N x=false then 2 else if x.f0<a∨x.f0=a∧x.f1<=b∨x.f0>x.f1 then 9 else 0
def f_ (N:Int):Int->Int->List S83->Int
 |_,_,[]=>0
 |a,b,x::E=>if dB N a b x=0 then f_ N x.f0 x.f1 E else dB N a b x
def cG (N:Int) (E:List S83):Int:=if N<1∨N>12 then 2 else f_ N (-1) (-1) E
theorem l6 {E:List S83} {i:Nat} (h:i<E.length):E.drop i=ai E i::E.drop (i+1):=by
 rw[List.drop_eq_getElem_cons h];simp[ai,List.getD_eq_getElem?_getD,List.getElem?_eq_getElem h]
theorem sr (N v:Int):fh.f N v=some (decide (0<=v∧v<N)):=by
 unfold fh.f;by_cases h:v>=0
 ·rw[if_pos h];congr 1;simp[show 0<=v from h]
 ·rw[if_neg h];congr 1;simp;omega
theorem yN (a b:Int):gH.f a b=some (if a<b then -1 else if a>b then 1 else 0):=by
 unfold gH.f cmp_isNaN_int.f;simp only[bne_self_eq_false,Option.bind_some,Bool.false_eq_true,if_false];split
 ·rfl
 ·split<;>rfl
theorem yO (a b:Int):Ev (fun k=>cS.f k [a,b]) (if a=0 then b else a):=by
 unfold cS.f;refine Ev.of_succ ?_;simp only[cS.l0,List.length_cons,List.length_nil,rd];by_cases e:a=0
 ·subst e
  refine Ev.of_succ ?_;simp only[cS.l0,List.length_cons,List.length_nil,rd,wrap64];simp;by_cases hb:b=0
  ·subst hb
   refine Ev.of_succ ?_;simp[cS.l0,wrap64];exact Ev.const _
  ·simp[hb];exact Ev.const _
 ·simp[e];exact Ev.const _
theorem yP (a b c d:Int):Ev (fun k=>cW.f k a b c d) (if a<c then -1 else if a>c then 1 else if b<d then -1 else if b>d then 1 else 0):=by
 unfold cW.f;simp only[yN,Option.bind_some];refine Ev.bind (yO _ _) ?_;have e:(if(if a<c then(-1:Int) else if a>c then 1 else 0)=0 then(if b<d then(-1:Int) else if b>d then 1 else 0) else(if a<c then(-1:Int) else if a>c then 1 else 0))=(if a<c then -1 else if a>c then 1 else if b<d then -1 else if b>d then 1 else 0):=by
  by_cases h1:a<c
  ·simp[h1]
  ·by_cases g:a>c
   ·simp[h1,g]
   ·simp[h1,g]
 rw[e];exact Ev.const _
theorem ss (N:Int) (E:List S83) (r:E.length<=1000):∀(m i:Nat) (a g:Int),i+m=E.length->Ev (fun k=>aY.l0 k E E.length i N E a g) (f_ N a g (E.drop i))
 |0,i,a,g,hi=>by
  refine Ev.of_succ ?_;simp only[aY.l0,if_neg (show ¬((i:Int)<(E.length:Int)) by omega)];rw[List.drop_eq_nil_of_le (by omega)];exact Ev.const _
 |m+1,i,a,g,hi=>by
  have o:=ss N E r m (i+1) (ai E i).f0 (ai E i).f1 (by omega);refine Ev.of_succ ?_;simp only[aY.l0,if_pos (show (i:Int)<(E.length:Int) by omega),if_pos (show (0:Int)<=(i:Int) by omega),sr,Option.bind_some];rw[l6 (by omega),f_];generalize u:ai E i=x at o⊢;have key:∀b:Bool,b= !bQ N x->Ev (fun k=>aY.j2 k E E.length i b N E a g x.f0 x.f1 x.f2 x.f0 x.f1) (if dB N a g x=0 then f_ N x.f0 x.f1 (E.drop (i+1)) else dB N a g x):=by
   rintro b rfl;refine Ev.of_succ ?_;simp only[aY.j2];cases l:bQ N x with
   |false=>simp[dB,l];exact Ev.const _
   |true=>
    simp only[Bool.not_true,Bool.false_eq_true,if_false];by_cases n:x.f0>x.f1
    ·have e:dB N a g x=9:=by simp[dB,l,n]
     rw[e];simp only[if_pos n];exact Ev.const _
    ·simp only[if_neg n]
     refine Ev.bind (yP _ _ _ _) ?_;by_cases s:x.f0<a∨x.f0=a∧x.f1<=g
     ·have e:dB N a g x=9:=by
       unfold dB;rw[l,if_neg (by decide),if_pos (by rcases s with h|h;exact .inl h;exact .inr (.inl h))]
      rw[e];have j:(if a<x.f0 then(-1:Int) else if a>x.f0 then 1 else if g<x.f1 then -1 else if g>x.f1 then 1 else 0)>=0:=by
       rw[if_neg (by omega)];split
       ·decide
       ·rw[if_neg (by omega)];split<;>decide
      simp only[if_pos j];exact Ev.const _
     ·have e:dB N a g x=0:=by
       unfold dB;rw[l,if_neg (by decide),if_neg (by omega)]
      rw[e];have j:¬(if a<x.f0 then(-1:Int) else if a>x.f0 then 1 else if g<x.f1 then -1 else if g>x.f1 then 1 else 0)>=0:=by
       split
       ·decide
       ·rw[if_neg (by omega),if_pos (by omega)];decide
      simp only[if_neg j,dU (show i<=1000000 by omega),if_true];exact o
  by_cases p:0<=x.f0∧x.f0<N
  ·simp only[decide_eq_true p,if_true]
   by_cases h1:0<=x.f1∧x.f1<N
   ·simp only[decide_eq_true h1,if_true]
    by_cases q:x.f2<1
    ·simp only[if_pos q]
     exact key true (by simp[bQ];omega)
    ·simp only[if_neg q]
     exact key _ (by unfold bQ;by_cases j:x.f2>50<;>simp[j]<;>omega)
   ·simp only[decide_eq_false h1,Bool.false_eq_true,if_false]
    exact key true (by simp[bQ];omega)
  ·simp only[decide_eq_false p,Bool.false_eq_true,if_false]
   exact key true (by simp[bQ];omega)
theorem ny (N:Int) (E:List S83) (a:E.length<=1000):Ev (fun k=>aY.f k N E) (cG N E):=by
 unfold aY.f cG;have key:∀b:Bool,b=decide (N<1∨N>12)->Ev (fun k=>aY.j0 k b N E) (if N<1∨N>12 then 2 else f_ N (-1) (-1) E):=by
  rintro b rfl;refine Ev.of_succ ?_;simp only[aY.j0];by_cases h:N<1∨N>12
  ·simp[h];exact Ev.const _
  ·simp only[decide_eq_false h,Bool.false_eq_true,if_false,if_neg h]
   have:=ss N E a E.length 0 (-1) (-1) (by omega);simpa using this
 by_cases h:N<1
 ·simp only[if_pos h];exact key true (by simp[h])
 ·simp only[if_neg h];exact key _ (by simp[h])
theorem yQ (N:Int) (E:List S83) (v:Int):fZ.f N E v=some (decide (0<=v∧v<N)):=by
 unfold fZ.f;by_cases h:v>=0
 ·rw[if_pos h];congr 1;simp[show 0<=v from h]
 ·rw[if_neg h];congr 1;simp;omega
def gY (E:List S83) (i:Nat):Int:=if i=0 then -1 else(ai E (i-1:Nat)).f0
def gZ (E:List S83) (i:Nat):Int:=if i=0 then -1 else(ai E (i-1:Nat)).f1
theorem yR {i:Nat} (h:(i:Int)<9223372036854775807):wrap64 ((i:Int)+1)=((i+1:Nat):Int):=by unfold wrap64;omega
theorem yS (N:Int) (E:List S83) (m:E.length<=9223372036854775807) (i:Nat) (hi:i<E.length):Ev (fun k=>eN.f k N E i) (dB N (gY E i) (gZ E i) (ai E i)):=by
 unfold eN.f;simp only[if_pos (show (0:Int)<=(i:Int) by omega),if_pos (show (i:Int)<(E.length:Int) by omega),yQ,Option.bind_some];generalize n:ai E i=x;have key:∀b:Bool,b= !bQ N x->Ev (fun k=>eN.j0 k i b N E x.f0 x.f1 x.f2) (dB N (gY E i) (gZ E i) x):=by
  rintro b rfl;refine Ev.of_succ ?_;simp only[eN.j0];cases h:bQ N x with
  |false=>simp[dB,h];exact Ev.const _
  |true=>
   simp only[Bool.not_true,Bool.false_eq_true,if_false];have o:0<=x.f0:=by simp[bQ] at h;omega
   by_cases l:x.f0>x.f1
   ·have e:dB N (gY E i) (gZ E i) x=9:=by simp[dB,h,l]
    rw[e];simp only[if_pos l];exact Ev.const _
   ·simp only[if_neg l]
    by_cases a:i=0
    ·subst a
     have e:dB N (gY E 0) (gZ E 0) x=0:=by
      unfold dB gY gZ;rw[h,if_neg (by decide),if_neg (by simp;omega)]
     rw[e];simp;exact Ev.const _
    ·simp only[if_pos (show (i:Int)>0 by omega),show wrap64 ((i:Int)-1)=((i-1:Nat):Int) by unfold wrap64;omega,if_pos (show (0:Int)<=((i-1:Nat):Int) by omega),if_pos (show ((i-1:Nat):Int)<(E.length:Int) by omega)]
     unfold gY gZ;rw[if_neg a,if_neg a];generalize ai E (i-1:Nat)=y;unfold dB;rw[h,if_neg (show ¬(true=false) by decide)];by_cases h1:x.f0<y.f0
     ·simp only[if_pos h1];rw[if_pos (.inl h1)];exact Ev.const _
     ·simp only[if_neg h1]
      by_cases g:x.f0=y.f0
      ·simp only[if_pos g]
       by_cases j:x.f1<=y.f1
       ·simp only[if_pos j];rw[if_pos (.inr (.inl ⟨g,j⟩))];exact Ev.const _
       ·simp only[if_neg j];rw[if_neg (by omega)];exact Ev.const _
      ·simp only[if_neg g];rw[if_neg (by omega)];exact Ev.const _
 by_cases a:0<=x.f0∧x.f0<N
 ·simp only[decide_eq_true a,if_true]
  by_cases h1:0<=x.f1∧x.f1<N
  ·simp only[decide_eq_true h1,if_true]
   by_cases g:x.f2<1
   ·simp only[if_pos g]
    exact key true (by simp[bQ];omega)
   ·simp only[if_neg g]
    exact key _ (by unfold bQ;by_cases j:x.f2>50<;>simp[j]<;>omega)
  ·simp only[decide_eq_false h1,Bool.false_eq_true,if_false]
   exact key true (by simp[bQ];omega)
 ·simp only[decide_eq_false a,Bool.false_eq_true,if_false]
  exact key true (by simp[bQ];omega)
theorem su (N:Int) (E:List S83) (a:E.length<=9223372036854775807):∀(m i:Nat),i+m=E.length->Ev (fun k=>cR.l0 k i N E) (f_ N (gY E i) (gZ E i) (E.drop i))
 |0,i,hi=>by
  refine Ev.of_succ ?_;simp only[cR.l0,if_neg (show ¬((i:Int)<(E.length:Int)) by omega)];rw[List.drop_eq_nil_of_le (by omega)];exact Ev.const _
 |m+1,i,hi=>by
  have b:=su N E a m (i+1) (by omega);refine Ev.of_succ ?_;simp only[cR.l0,if_pos (show (i:Int)<(E.length:Int) by omega)];rw[l6 (by omega),f_];refine Ev.bind (yS N E a i (by omega)) ?_;have e:gY E (i+1)=(ai E i).f0:=by simp[gY]
  have g:gZ E (i+1)=(ai E i).f1:=by simp[gZ]
  rw[e,g] at b;by_cases h:dB N (gY E i) (gZ E i) (ai E i)=0
  ·simp only[if_pos h,yR (show (i:Int)<9223372036854775807 by omega)];exact b
  ·simp only[if_neg h];exact Ev.const _
theorem sw (N:Int) (E:List S83) (a:E.length<=9223372036854775807):Ev (fun k=>cR.f k N E) (cG N E):=by
 unfold cR.f cG;have key:∀b:Bool,b=decide (N<1∨N>12)->Ev (fun k=>cR.j0 k b N E) (if N<1∨N>12 then 2 else f_ N (-1) (-1) E):=by
  rintro b rfl;refine Ev.of_succ ?_;simp only[cR.j0];by_cases h:N<1∨N>12
  ·simp[h];exact Ev.const _
  ·simp only[decide_eq_false h,Bool.false_eq_true,if_false,if_neg h]
   have:=su N E a E.length 0 (by omega);simpa [gY,gZ] using this
 by_cases h:N<1
 ·simp only[if_pos h];exact key true (by simp[h])
 ·simp only[if_neg h];exact key _ (by simp[h])
end Go.Proofs.YtffdiakgjakngaaGreat.P
namespace Go.Proofs.YtffdiakgjakngaaGreat.T
set_option linter.unusedVariables false
set_option linter.unusedSimpArgs false
set_option maxHeartbeats 8000000
set_option maxRecDepth 100000
def sN (f:Nat->Int):Nat->Int
 |0=>0
 |n+1=>sN f n+f n
theorem ep (f:Nat->Int) (n:Nat):sN f (n+1)=sN f n+f n:=rfl
theorem bC {f g:Nat->Int}:∀{n:Nat},(∀u,u<n->f u=g u)->sN f n=sN g n
 |0,_=>rfl
 |n+1,h=>by rw[ep,ep,bC (n:=n) (fun u hu=>h u (by omega)),h n (by omega)]
theorem cM {f g:Nat->Int}:∀{n:Nat},(∀u,u<n->f u<=g u)->sN f n<=sN g n
 |0,_=>Int.le_refl _
 |n+1,h=>by
  have h1:=cM (n:=n) (fun u hu=>h u (by omega));have a:=h n (by omega);rw[ep,ep];omega
theorem iZ:∀(n:Nat),sN (fun _=>0) n=0
 |0=>rfl
 |n+1=>by rw[ep,iZ n];rfl
theorem ga {f:Nat->Int} {n:Nat} (h:∀u,u<n->f u=0):sN f n=0:=(bC h).trans (iZ n)
theorem di {f:Nat->Int} {n:Nat} (h:∀u,u<n->0<=f u):0<=sN f n:=by
 have:=cM (f:=fun _=>0) (g:=f) (n:=n) h;rw[iZ] at this;exact this
theorem dn (f g:Nat->Int):∀n:Nat,sN (fun v=>f v+g v) n=sN f n+sN g n
 |0=>rfl
 |n+1=>by rw[ep,ep,ep,dn f g n];omega
theorem c_ (f g:Nat->Int):∀n:Nat,sN (fun v=>f v-g v) n=sN f n-sN g n
 |0=>rfl
 |n+1=>by rw[ep,ep,ep,c_ f g n];omega
theorem l7 (f:Nat->Int):∀n:Nat,sN (fun v=> -f v) n= -sN f n
 |0=>rfl
 |n+1=>by rw[ep,ep,l7 f n];omega
theorem eE (c:Int) (f:Nat->Int):∀n:Nat,sN (fun v=>c*f v) n=c*sN f n
 |0=>by simp[sN]
 |n+1=>by rw[ep,ep,eE c f n,Int.mul_add]
theorem iH (c:Int):∀n:Nat,sN (fun _=>c) n=n*c
 |0=>by simp[sN]
 |n+1=>by rw[ep,iH c n,Int.natCast_add,Int.add_mul];simp
theorem l8 (f:Nat->Nat->Int) (m:Nat):∀n:Nat,sN (fun v=>sN (fun u=>f v u) m) n=sN (fun u=>sN (fun v=>f v u) n) m
 |0=>by show (0:Int)=sN (fun u=>0) m;rw[iZ]
 |n+1=>by
  rw[ep,l8 f m n,<-dn];exact bC fun u _=>rfl
theorem i_ {f:Nat->Int} {v:Nat}:∀{n:Nat},v<n->(∀u,u<n->u≠v->f u=0)->sN f n=f v
 |0,h,_=>by omega
 |n+1,h,a=>by
  rw[ep];by_cases e:v=n
  ·subst e
   rw[ga fun u hu=>a u (by omega) (by omega)];omega
  ·rw[i_ (n:=n) (by omega) fun u hu b=>a u (by omega) b,a n (by omega) (fun h=>e h.symm)];omega
theorem gh {f:Nat->Int} {n v:Nat} (a:v<n) (h:∀u,u<n->0<=f u):f v<=sN f n:=by
 have h1:sN (fun u=>if u=v then f v else 0) n=f v:=by
  rw[i_ (f:=fun u=>if u=v then f v else 0) a (fun u _ hu=>if_neg hu)];exact if_pos rfl
 rw[<-h1];refine cM fun u hu=>?_
 show (if u=v then f v else 0)<=f u
 by_cases e:u=v
 ·subst e;rw[if_pos rfl];exact Int.le_refl _
 ·rw[if_neg e];exact h u hu
theorem pk (s:Nat->Int):∀{n:Nat},0<n->∃v,v<n∧∀u,u<n->s u<=s v
 |0,h=>by omega
 |1,_=>⟨0,by omega,fun u hu=>by
   obtain rfl:u=0:=by omega
   exact Int.le_refl _⟩
 |n+2,_=>by
  obtain⟨v,b,h⟩:=pk s (n:=n+1) (by omega);by_cases a:s (n+1)<=s v
  ·exact⟨v,by omega,fun u hu=>by
    by_cases e:u=n+1
    ·subst e;exact a
    ·exact h u (by omega)⟩
  ·exact⟨n+1,by omega,fun u hu=>by
    by_cases e:u=n+1
    ·subst e;exact Int.le_refl _
    ·have:=h u (by omega);omega⟩
theorem exists_least {P:Nat->Prop} (f:Nat->Nat) (h:∃v,P v):∃v,P v∧∀u,P u->f v<=f u:=by
 obtain⟨v,a⟩:=h;have key:∀(k:Nat) (v:Nat),f v<=k->P v->∃v,P v∧∀u,P u->f v<=f u:=by
  intro k;induction k with
  |zero=>intro v hk a;exact⟨v,a,fun u _=>by omega⟩
  |succ k g=>
   intro v hk a;by_cases b:∃u,P u∧f u<f v
   ·obtain⟨u,hu,e⟩:=b
    exact g u (by omega) hu
   ·exact⟨v,a,fun u hu=>by
     by_cases e:f u<f v
     ·exact absurd ⟨u,hu,e⟩ b
     ·omega⟩
 exact key (f v) v (Nat.le_refl _) a
theorem yT {P:Nat->Prop} (h:∃k,P k):∃k,P k∧∀j,P j->k<=j:=exists_least id h
structure Wt (n:Nat) (t:Nat->Nat->Int):Prop where
 pos:∀u v,0<=t u v
 sym:∀u v,t u v=t v u
 self:∀v,t v v=0
def aN (n:Nat) (t:Nat->Nat->Int) (s:Nat->Int) (v:Nat):Int:=sN (fun u=>t v u*(s v-s u)) n
theorem j9 (n:Nat) (t:Nat->Nat->Int) (s r:Nat->Int) (v:Nat):aN n t (fun u=>s u+r u) v=aN n t s v+aN n t r v:=by
 unfold aN;rw[<-dn];refine bC fun u _=>?_
 rw[<-Int.mul_add];congr 1;show s v+r v- (s u+r u)=_;omega
theorem kP (n:Nat) (t:Nat->Nat->Int) (s:Nat->Int) (v:Nat):aN n t (fun u=> -s u) v= -aN n t s v:=by
 unfold aN;rw[<-l7];refine bC fun u _=>?_
 rw[<-Int.mul_neg];congr 1;show -s v- -s u=_;omega
theorem kQ (n:Nat) (t:Nat->Nat->Int) (s r:Nat->Int) (v:Nat):aN n t (fun u=>s u-r u) v=aN n t s v-aN n t r v:=by
 unfold aN;rw[<-c_];refine bC fun u _=>?_
 rw[<-Int.mul_sub];congr 1;show s v-r v- (s u-r u)=_;omega
theorem sx (n:Nat) (t:Nat->Nat->Int) (c:Int) (s:Nat->Int) (v:Nat):aN n t (fun u=>c*s u) v=c*aN n t s v:=by
 unfold aN;rw[<-eE];refine bC fun u _=>?_
 rw[<-Int.mul_sub,Int.mul_left_comm]
theorem kR {n:Nat} {t:Nat->Nat->Int} {s r:Nat->Int} (h:∀u,u<n->s u=r u) {v:Nat} (a:v<n):aN n t s v=aN n t r v:=by
 unfold aN;refine bC fun u hu=>?_
 rw[h u hu,h v a]
theorem jG (n:Nat) (t:Nat->Nat->Int) (c:Int) (v:Nat):aN n t (fun _=>c) v=0:=by
 unfold aN;exact ga fun u _=>by rw[Int.sub_self,Int.mul_zero]
theorem yU {n:Nat} {t:Nat->Nat->Int} (a:Wt n t) (s h:Nat->Int):sN (fun v=>h v*aN n t s v) n=sN (fun v=>s v*aN n t h v) n:=by
 have b:sN (fun v=>h v*aN n t s v) n=sN (fun v=>h v*s v*sN (fun u=>t v u) n) n-sN (fun v=>sN (fun u=>h v*t v u*s u) n) n:=by
  rw[<-c_];refine bC fun v _=>?_
  unfold aN;rw[<-eE,<-eE,<-c_];refine bC fun u _=>?_
  rw[Int.mul_sub,Int.mul_sub];congr 1
  ·rw[Int.mul_comm (t v u),<-Int.mul_assoc]
  ·rw[<-Int.mul_assoc]
 have e2:sN (fun v=>s v*aN n t h v) n=sN (fun v=>s v*h v*sN (fun u=>t v u) n) n-sN (fun v=>sN (fun u=>s v*t v u*h u) n) n:=by
  rw[<-c_];refine bC fun v _=>?_
  unfold aN;rw[<-eE,<-eE,<-c_];refine bC fun u _=>?_
  rw[Int.mul_sub,Int.mul_sub];congr 1
  ·rw[Int.mul_comm (t v u),<-Int.mul_assoc]
  ·rw[<-Int.mul_assoc]
 rw[b,e2];congr 1
 ·exact bC fun v _=>by rw[Int.mul_comm (h v)]
 ·rw[l8]
  refine bC fun u _=>bC fun v _=>?_
  rw[a.sym v u,Int.mul_comm (h v),Int.mul_comm _ (s u),Int.mul_assoc]
theorem l9 {n:Nat} {t:Nat->Nat->Int} (a:Wt n t) (s:Nat->Int):sN (fun v=>aN n t s v) n=0:=by
 have h:=yU a s (fun _=>1);rw[ga (f:=fun v=>s v*aN n t (fun _=>1) v) fun v _=>by rw[jG,Int.mul_zero]] at h;rw[<-h];exact bC fun v _=>by rw[Int.one_mul]
def bI (n:Nat) (t:Nat->Nat->Int) (D D':Nat->Int):Prop:=∃s:Nat->Int,∀v,v<n->D' v=D v-aN n t s v
theorem bI.refl (n:Nat) (t:Nat->Nat->Int) (D:Nat->Int):bI n t D D:=⟨fun _=>0,fun v _=>by rw[jG];omega⟩
theorem bI.of_eq {n:Nat} {t:Nat->Nat->Int} {D D':Nat->Int} (h:∀v,v<n->D' v=D v):bI n t D D':=⟨fun _=>0,fun v a=>by rw[jG,h v a];omega⟩
theorem bI.symm {n:Nat} {t:Nat->Nat->Int} {D D':Nat->Int} (h:bI n t D D'):bI n t D' D:=by
 obtain⟨s,h⟩:=h;exact⟨fun u=> -s u,fun v a=>by rw[kP,h v a];omega⟩
theorem bI.trans {n:Nat} {t:Nat->Nat->Int} {D D' b:Nat->Int} (h:bI n t D D') (a:bI n t D' b):bI n t D b:=by
 obtain⟨s,h⟩:=h;obtain⟨r,a⟩:=a;exact⟨fun u=>s u+r u,fun v e=>by rw[j9,a v e,h v e];omega⟩
theorem bI.add {n:Nat} {t:Nat->Nat->Int} {D D' F a:Nat->Int} (h:bI n t D D') (b:bI n t F a):bI n t (fun v=>D v+F v) (fun v=>D' v+a v):=by
 obtain⟨s,h⟩:=h;obtain⟨r,b⟩:=b;exact⟨fun u=>s u+r u,fun v e=>by show D' v+a v=D v+F v-_;rw[j9,b v e,h v e];omega⟩
theorem bI.neg {n:Nat} {t:Nat->Nat->Int} {D D':Nat->Int} (h:bI n t D D'):bI n t (fun v=> -D v) (fun v=> -D' v):=by
 obtain⟨s,h⟩:=h;exact⟨fun u=> -s u,fun v a=>by show -D' v= -D v-_;rw[kP,h v a];omega⟩
theorem bI.a6 {n:Nat} {t:Nat->Nat->Int} (a:Wt n t) {D D':Nat->Int} (h:bI n t D D'):sN D' n=sN D n:=by
 obtain⟨s,h⟩:=h;rw[bC h,c_,l9 a];omega
def nz (n:Nat) (D:Nat->Int):Prop:=∀v,v<n->0<=D v
def b7 (n:Nat) (t:Nat->Nat->Int) (D:Nat->Int):Prop:=∃D',bI n t D D'∧nz n D'
theorem b7.fF {n:Nat} {t:Nat->Nat->Int} {D D':Nat->Int} (h:bI n t D D') (hw:b7 n t D):b7 n t D':=by
 obtain⟨F,h1,a⟩:=hw;exact⟨F,h.symm.trans h1,a⟩
theorem yV {n:Nat} {t:Nat->Nat->Int} {D D':Nat->Int} (h:bI n t D D'):b7 n t D↔b7 n t D':=⟨b7.fF h,b7.fF h.symm⟩
theorem b7.mono {n:Nat} {t:Nat->Nat->Int} {D D':Nat->Int} (hw:b7 n t D) (h:∀v,v<n->D v<=D' v):b7 n t D':=by
 obtain⟨F,⟨s,h1⟩,b⟩:=hw;exact⟨fun v=>D' v-aN n t s v,⟨s,fun v _=>rfl⟩,fun v a=>by have:=b v a;have:=h1 v a;have:=h v a;show 0<=D' v-aN n t s v;omega⟩
theorem b7.add {n:Nat} {t:Nat->Nat->Int} {D F:Nat->Int} (h1:b7 n t D) (g:b7 n t F):b7 n t (fun v=>D v+F v):=by
 obtain⟨D',a,b⟩:=h1;obtain⟨h,c,d⟩:=g;exact⟨_,a.add c,fun v e=>by have:=b v e;have:=d v e;show 0<=D' v+h v;omega⟩
theorem b7.pn {n:Nat} {t:Nat->Nat->Int} {D:Nat->Int} (h:nz n D):b7 n t D:=⟨D,bI.refl _ _ _,h⟩
theorem b7.a6 {n:Nat} {t:Nat->Nat->Int} (e:Wt n t) {D:Nat->Int} (h:b7 n t D):0<=sN D n:=by
 obtain⟨D',a,b⟩:=h;rw[<-a.a6 e];exact di b
def fu (n:Nat) (t:Nat->Nat->Int) (pos:Nat->Nat) (v:Nat):Int:=sN (fun u=>if pos u<pos v then t v u else 0) n
def val (n:Nat) (t:Nat->Nat->Int) (v:Nat):Int:=sN (fun u=>t v u) n
def nu (n:Nat) (t:Nat->Nat->Int) (pos:Nat->Nat) (v:Nat):Int:=fu n t pos v-1
theorem yW {n:Nat} {t:Nat->Nat->Int} (a:Wt n t) (hn:0<n) (pos:Nat->Nat) (s:Nat->Int):∃v,v<n∧nu n t pos v-aN n t s v<0:=by
 obtain⟨m,hm,b⟩:=pk s hn;obtain⟨v,⟨g,j⟩,i⟩:=exists_least (P:=fun v=>v<n∧s v=s m) pos ⟨m,hm,rfl⟩;refine⟨v,g,?_⟩;unfold nu fu aN;have:sN (fun u=>if pos u<pos v then t v u else 0) n<=sN (fun u=>t v u*(s v-s u)) n:=by
  refine cM fun u hu=>?_
  have hp:=a.pos v u;have k:=b u hu;by_cases e:pos u<pos v
  ·show (if pos u<pos v then t v u else 0)<=_
   rw[if_pos e];have l:s u≠s m:=fun h=>by have:=i u ⟨hu,h⟩;omega
   have h1:1<=s v-s u:=by omega
   have:=Int.mul_le_mul_of_nonneg_left h1 hp;rw[Int.mul_one] at this;exact this
  ·show (if pos u<pos v then t v u else 0)<=_
   rw[if_neg e];exact Int.mul_nonneg hp (by omega)
 omega
theorem po {n:Nat} {t:Nat->Nat->Int} (b:Wt n t) (hn:0<n) (pos:Nat->Nat):¬b7 n t (nu n t pos):=by
 rintro⟨D',⟨s,h1⟩,e⟩;obtain⟨v,a,h⟩:=yW b hn pos s;have:=h1 v a;have:=e v a;omega
def g_ (n:Nat) (pos:Nat->Nat):Prop:=∀u v,u<n->v<n->pos u=pos v->u=v
theorem sy {n:Nat} {t:Nat->Nat->Int} (b:Wt n t) {pos pos':Nat->Nat} (hi:g_ n pos) (g:∀u v,u<n->v<n->(pos' u<pos' v↔pos v<pos u)) {v:Nat} (a:v<n):fu n t pos v+fu n t pos' v=val n t v:=by
 unfold fu val;rw[<-dn];refine bC fun u hu=>?_
 have h1:=g u v hu a;by_cases e:pos u<pos v
 ·rw[if_pos e,if_neg (by rw[h1];omega)];omega
 ·by_cases e2:pos v<pos u
  ·rw[if_neg e,if_pos (h1.2 e2)];omega
  ·rw[if_neg e,if_neg (fun h=>e2 (h1.1 h))]
   have:=hi u v hu a (by omega);subst this;rw[b.self];rfl
theorem sA (n:Nat) (pos:Nat->Nat):∃pos':Nat->Nat,∀u v,u<n->v<n->(pos' u<pos' v↔pos v<pos u):=by
 obtain⟨B,a⟩:∃B,∀u,u<n->pos u<=B:=by
  induction n with
  |zero=>exact⟨0,fun u hu=>by omega⟩
  |succ n b=>
   obtain⟨B,a⟩:=b;exact⟨max B (pos n),fun u hu=>by
    by_cases e:u=n
    ·subst e;exact Nat.le_max_right _ _
    ·exact Nat.le_trans (a u (by omega)) (Nat.le_max_left _ _)⟩
 refine⟨fun u=>B-pos u,fun u v hu g=>?_⟩;have:=a u hu;have:=a v g;show B-pos u<B-pos v↔_
 omega
theorem yX {n:Nat} {pos pos':Nat->Nat} (hi:g_ n pos) (b:∀u v,u<n->v<n->(pos' u<pos' v↔pos v<pos u)):g_ n pos':=by
 intro u v hu a he;have h1:=b u v hu a;have e:=b v u a hu;refine hi u v hu a ?_;omega
theorem yY {n:Nat} {t:Nat->Nat->Int} (a:Wt n t) {pos pos':Nat->Nat} (b:∀u v,u<n->v<n->(pos' u<pos' v↔pos v<pos u)):sN (fu n t pos) n=sN (fu n t pos') n:=by
 unfold fu;rw[l8];refine bC fun u hu=>bC fun v g=>?_
 have:=b v u g hu;by_cases e:pos u<pos v
 ·rw[if_pos e,if_pos (this.2 e),a.sym]
 ·rw[if_neg e,if_neg (fun h=>e (this.1 h))]
theorem yZ {n:Nat} {t:Nat->Nat->Int} (a:Wt n t) {pos:Nat->Nat} (hi:g_ n pos):2*sN (fu n t pos) n=sN (val n t) n:=by
 obtain⟨pos',b⟩:=sA n pos;have h1:sN (fun v=>fu n t pos v+fu n t pos' v) n=sN (val n t) n:=bC fun v e=>sy a hi b e
 rw[dn] at h1;have g:=yY a b;omega
theorem za {n:Nat} {t:Nat->Nat->Int} (pos:Nat->Nat):sN (nu n t pos) n=sN (fu n t pos) n-n:=by
 have:sN (nu n t pos) n=sN (fun v=>fu n t pos v- (fun _=>(1:Int)) v) n:=rfl;rw[this,c_,iH];omega
theorem zc {n:Nat} {t:Nat->Nat->Int} (a:Wt n t) {pos pos':Nat->Nat} (hi:g_ n pos) (b:∀u v,u<n->v<n->(pos' u<pos' v↔pos v<pos u)) {v:Nat} (e:v<n):val n t v-2-nu n t pos v=nu n t pos' v:=by
 have:=sy a hi b e;unfold nu;omega
def dp (n:Nat) (t:Nat->Nat->Int):Prop:=∀S:Nat->Bool,(∃v,v<n∧S v=true)->(∃v,v<n∧S v=false)->∃u v,u<n∧v<n∧S u=true∧S v=false∧0<t u v
theorem zd {f:Nat->Nat->Int} (h:∀u v,f u v= -f v u) (n:Nat):sN (fun v=>sN (fun u=>f v u) n) n=0:=by
 have h1:=l8 f n n;have a:sN (fun u=>sN (fun v=>f v u) n) n=sN (fun u=> -sN (fun v=>f u v) n) n:=bC fun u _=>by
  rw[<-l7];exact bC fun v _=>h v u
 rw[a,l7] at h1;omega
theorem ze {n:Nat} {t:Nat->Nat->Int} (a:Wt n t) (S:Nat->Bool) (s:Nat->Int):sN (fun v=>if S v=true then aN n t s v else 0) n=sN (fun v=>sN (fun u=>if S v=true∧S u=false then t v u*(s v-s u) else 0) n) n:=by
 have h1:=zd (f:=fun v u=>if S v=true∧S u=true then t v u*(s v-s u) else 0) (fun u v=>by
  by_cases e:S u=true∧S v=true
  ·rw[if_pos e,if_pos ⟨e.2,e.1⟩,a.sym v u,<-Int.mul_neg];congr 1;omega
  ·rw[if_neg e,if_neg (fun h=>e ⟨h.2,h.1⟩)];rfl) n
 have b:sN (fun v=>if S v=true then aN n t s v else 0) n=sN (fun v=>sN (fun u=>if S v=true∧S u=true then t v u*(s v-s u) else 0) n+sN (fun u=>if S v=true∧S u=false then t v u*(s v-s u) else 0) n) n:=by
  refine bC fun v _=>?_
  show (if S v=true then aN n t s v else 0)=_
  by_cases e:S v=true
  ·rw[if_pos e,<-dn]
   unfold aN;refine bC fun u _=>?_
   cases hu:S u<;>simp[e]
  ·rw[if_neg e,ga fun u _=>if_neg (fun h=>e h.1),ga fun u _=>if_neg (fun h=>e h.1)];rfl
 rw[b,dn,h1];omega
theorem zf {n:Nat} {t:Nat->Nat->Int} (g:Wt n t) (S:Nat->Bool) (s:Nat->Int) (M:Int) (m:0<=M) (j:∀u v,u<n->v<n->S u=true->S v=false->M<=s u-s v) {a b:Nat} (h:a<n) (hb:b<n) (k:S a=true) (l:S b=false) (q:0<t a b):
  M<=sN (fun v=>if S v=true then aN n t s v else 0) n:=by
 rw[ze g];have hp:∀v,v<n->∀u,u<n->0<=(if S v=true∧S u=false then t v u*(s v-s u) else 0):=fun v i u hu=>by
  by_cases e:S v=true∧S u=false
  ·rw[if_pos e]
   have:=j v u i hu e.1 e.2;exact Int.mul_nonneg (g.pos _ _) (by omega)
  ·rw[if_neg e];exact Int.le_refl _
 have h1:=gh (f:=fun v=>sN (fun u=>if S v=true∧S u=false then t v u*(s v-s u) else 0) n) h (fun v i=>di (hp v i));have o:=gh (f:=fun u=>if S a=true∧S u=false then t a u*(s a-s u) else 0) hb (hp a h);refine Int.le_trans ?_ (Int.le_trans o h1);show M<=(if S a=true∧S b=false then t a b*(s a-s b) else 0)
 rw[if_pos ⟨k,l⟩];have p:=j a b h hb k l;have r:=Int.mul_le_mul (show (1:Int)<=t a b by omega) p m (g.pos _ _);omega
def bM (S:Nat->Bool):Nat->Nat
 |0=>0
 |n+1=>bM S n+if S n=true then 1 else 0
theorem i' (S:Nat->Bool):∀n,bM S n<=n
 |0=>Nat.le_refl _
 |n+1=>by have:=i' S n;unfold bM;split<;>omega
theorem l_ {S T:Nat->Bool}:∀{n:Nat},(∀v,v<n->S v=true->T v=true)->bM S n<=bM T n
 |0,_=>Nat.le_refl _
 |n+1,h=>by
  have h1:=l_ (n:=n) (fun v b=>h v (by omega));have a:=h n (by omega);unfold bM;cases hS:S n with
  |true=>rw[a hS];simp;exact h1
  |false=>simp only[Bool.false_eq_true,if_false];split<;>omega
theorem nA {S T:Nat->Bool} {w:Nat}:∀{n:Nat},(∀v,v<n->S v=true->T v=true)->w<n->S w=false->T w=true->bM S n<bM T n
 |0,_,h,_,_=>by omega
 |n+1,h,hw,hS,a=>by
  by_cases e:w=n
  ·subst e
   have h1:=l_ (n:=w) (fun v b=>h v (by omega));unfold bM;rw[hS,a];simp;omega
  ·have h1:=nA (n:=n) (fun v b=>h v (by omega)) (by omega) hS a
   have g:=h n (by omega);unfold bM;cases i:S n with
   |true=>rw[g i];simp;omega
   |false=>simp only[Bool.false_eq_true,if_false];split<;>omega
theorem pq {S:Nat->Bool}:∀{n:Nat},n<=bM S n->∀v,v<n->S v=true
 |0,_,v,a=>by omega
 |n+1,h,v,a=>by
  have h1:=i' S n;unfold bM at h;by_cases e:S n=true
  ·rw[if_pos e] at h
   by_cases e2:v=n
   ·subst e2;exact e
   ·exact pq (n:=n) (by omega) v (by omega)
  ·rw[if_neg e] at h;omega
theorem zg {S:Nat->Bool} {w n:Nat} (hw:w<n) (hS:S w=true):1<=bM S n:=by
 have:=nA (S:=fun _=>false) (T:=S) (n:=n) (fun v _ h=>by cases h) hw rfl hS;omega
theorem pr:∀n:Nat,bM (fun _=>true) n=n
 |0=>rfl
 |n+1=>by unfold bM;rw[pr n];simp
theorem jD {n:Nat} {t:Nat->Nat->Int} (r:Wt n t) (s:dp n t) {b:Nat->Int} {v0:Nat} (l:v0<n) (y:b v0<=0) {M:Int} (z:0<=M)
  (h:∀x:Int,0<=x->sN (fun v=>if decide (x<b v)=true then aN n t b v else 0) n<=M):∀v,v<n->b v<=n*M:=by
 have step:∀j:Nat,j+1<=bM (fun v=>decide (b v<=j*M)) n∨n<=bM (fun v=>decide (b v<=j*M)) n:=by
  intro j;induction j with
  |zero=>
   left
   exact zg l (by simp;exact y)
  |succ j i=>
   have k:(((j+1:Nat):Int))*M=j*M+M:=by rw[Int.natCast_add,Int.add_mul];simp
   have m:∀v,v<n->decide (b v<=(j:Int)*M)=true->decide (b v<=((j+1:Nat):Int)*M)=true:=fun v _ g=>by
    have:=of_decide_eq_true g;exact decide_eq_true (by rw[k];omega)
   by_cases hn:n<=bM (fun v=>decide (b v<=j*M)) n
   ·right;exact Nat.le_trans hn (l_ m)
   ·rcases i with i|i
    ·left
     by_cases o:∃w,w<n∧(j:Int)*M<b w∧b w<=j*M+M
     ·obtain⟨w,hw,L,N⟩:=o
      have:=nA (S:=fun v=>decide (b v<=j*M)) (T:=fun v=>decide (b v<=((j+1:Nat):Int)*M)) m hw (decide_eq_false (by omega)) (decide_eq_true (by rw[k];omega));omega
     ·exfalso
      have B:0<=(j:Int)*M:=Int.mul_nonneg (by omega) z;have hex:∃v,v<n∧decide ((j:Int)*M<b v)=true:=by
       refine Classical.byContradiction fun C=>hn ?_
       have D:∀v,v<n->decide (b v<=(j:Int)*M)=true:=fun v g=>by
        by_cases e:b v<=(j:Int)*M
        ·exact decide_eq_true e
        ·exact absurd ⟨v,g,decide_eq_true (by omega)⟩ C
       have p:=pr n;have q:=l_ (S:=fun _=>true) (T:=fun v=>decide (b v<=(j:Int)*M)) (n:=n) (fun v g _=>D v g);omega
      obtain⟨a,c,E,F,G,H,I⟩:=s (fun v=>decide ((j:Int)*M<b v)) hex ⟨v0,l,decide_eq_false (by omega)⟩;have h1:=zf r (fun v=>decide ((j:Int)*M<b v)) b (M+1) (by omega) (fun u v hu g J K=>by
       have k:=of_decide_eq_true J;have e2:=of_decide_eq_false K;have O:¬(b u<=j*M+M):=fun h=>o ⟨u,hu,k,h⟩
       omega) E F G H I
      have p:=h _ B;omega
    ·exact absurd i hn
 intro v g;have h1:=step n;have p:=i' (fun v=>decide (b v<=(n:Int)*M)) n;have q:n<=bM (fun v=>decide (b v<=(n:Int)*M)) n:=by omega
 exact of_decide_eq_true (pq q v g)
theorem sB {α:Type} {P:α->Prop} (f:α->Nat) (B:Nat) (h:∃a,P a) (i:∀a,P a->f a<=B):∃a,P a∧∀c,P c->f c<=f a:=by
 obtain⟨a,b⟩:=h;have key:∀(k:Nat) (a:α),B-f a<=k->P a->∃a,P a∧∀c,P c->f c<=f a:=by
  intro k;induction k with
  |zero=>intro a hk b;exact⟨a,b,fun c g=>by have:=i c g;have:=i a b;omega⟩
  |succ k l=>
   intro a hk b;by_cases j:∃c,P c∧f a<f c
   ·obtain⟨c,g,m⟩:=j
    have:=i c g;exact l c (by omega) g
   ·exact⟨a,b,fun c g=>by
     by_cases e:f a<f c
     ·exact absurd ⟨c,g,e⟩ j
     ·omega⟩
 exact key _ a (Nat.le_refl _) b
def one (w:Nat) (v:Nat):Int:=if v=w then 1 else 0
theorem sC {n:Nat} {t:Nat->Nat->Int} (a:Wt n t) {w:Nat} (hw:w<n):aN n t (one w) w=val n t w:=by
 unfold aN val;refine bC fun u _=>?_
 unfold one;by_cases e:u=w
 ·subst e;rw[a.self];simp
 ·rw[if_pos rfl,if_neg e];simp
theorem sD {n:Nat} {t:Nat->Nat->Int} {w v:Nat} (hw:w<n) (a:v≠w):aN n t (one w) v= -t v w:=by
 unfold aN;rw[i_ (v:=w) hw]
 ·unfold one;rw[if_neg a,if_pos rfl];omega
 ·intro u _ hu
  unfold one;rw[if_neg a,if_neg hu];simp
theorem eY {n w:Nat} (hw:w<n):sN (one w) n=1:=by
 rw[i_ (f:=one w) hw (fun u _ hu=>if_neg hu)];exact if_pos rfl
theorem zh {n:Nat} {t:Nat->Nat->Int} (g:Wt n t) (m:dp n t) {q:Nat} (o:q<n) (D:Nat->Int):∃D',bI n t D D'∧∀v,v<n->v≠q->0<=D' v:=by
 let P:(Nat->Int)->Prop:=fun b=>b q=0∧(∀v,v<n->0<=b v)∧∀v,v<n->0<b v->D v+aN n t b v<=val n t v-1
 have j:∀v,0<=val n t v:=fun v=>di fun u _=>g.pos v u
 have p:∀b,P b->∀v,v<n->b v<=n*(sN (val n t) n+sN (fun v=>((D v).natAbs:Int)) n):=by
  rintro b ⟨h1,k,l⟩;refine jD g m o (by omega) ?_ ?_
  ·have i:0<=sN (val n t) n:=di fun v _=>j v
   have z:0<=sN (fun v=>((D v).natAbs:Int)) n:=di fun v _=>by omega
   omega
  ·intro x B
   have i:sN (fun v=>if decide (x<b v)=true then aN n t b v else 0) n<=sN (fun v=>val n t v+((D v).natAbs:Int)) n:=cM fun v a=>by
    show (if decide (x<b v)=true then aN n t b v else 0)<=_
    by_cases e:x<b v
    ·rw[if_pos (decide_eq_true e)]
     have:=l v a (by omega);omega
    ·rw[if_neg (by simpa using e)]
     have:=j v;omega
   rw[dn] at i;exact i
 obtain⟨b,hb,r⟩:=sB (P:=P) (fun b=>(sN b n).toNat) (sN (fun _=>n*(sN (val n t) n+sN (fun v=>((D v).natAbs:Int)) n)) n).toNat ⟨fun _=>0,rfl,fun _ _=>Int.le_refl _,fun v _ (h:(0:Int)<0)=>by omega⟩ (fun b hb=>by
  have h1:=cM (n:=n) (fun v a=>p b hb v a);have k:=di (f:=b) (n:=n) hb.2.1;show (sN b n).toNat<=_
  omega)
 refine⟨fun v=>D v+aN n t b v,⟨fun u=> -b u,fun v _=>by show D v+aN n t b v=_;rw[kP];omega⟩,fun v a s=>?_⟩;show 0<=D v+aN n t b v
 refine Classical.byContradiction fun C=>?_
 have w:P (fun u=>b u+one v u):=by
  refine⟨by show b q+one v q=0;rw[hb.1];unfold one;rw[if_neg (fun h=>s h.symm)];rfl,fun u hu=>by have:=hb.2.1 u hu;show 0<=b u+one v u;unfold one;split<;>omega,fun u hu y=>?_⟩;rw[j9];by_cases e:u=v
  ·subst e;rw[sC g a];omega
  ·rw[sD a e]
   have E:b u+one v u=b u:=by unfold one;rw[if_neg e];omega
   have:=hb.2.2 u hu (by have:0<b u+one v u:=y;omega);have:=g.pos u v;omega
 have h1:=r (fun u=>b u+one v u) w;have k:sN (fun u=>b u+one v u) n=sN b n+1:=by rw[dn,eY a]
 have l:=di (f:=b) (n:=n) hb.2.1;have i:(sN (fun u=>b u+one v u) n).toNat<=(sN b n).toNat:=h1;omega
def jH (n:Nat) (t:Nat->Nat->Int) (q:Nat) (c:Nat->Int):Prop:=∀S:Nat->Bool,(∃v,v<n∧S v=true)->S q=false->∃v,v<n∧S v=true∧c v<sN (fun u=>if S u=false then t v u else 0) n
def jI (n:Nat) (t:Nat->Nat->Int) (q:Nat) (c:Nat->Int):Prop:=(∀v,v<n->v≠q->0<=c v)∧jH n t q c
def ind (S:Nat->Bool) (v:Nat):Int:=if S v=true then 1 else 0
theorem pv {n:Nat} {t:Nat->Nat->Int} (S:Nat->Bool) (v:Nat):aN n t (ind S) v=if S v=true then sN (fun u=>if S u=false then t v u else 0) n else -sN (fun u=>if S u=true then t v u else 0) n:=by
 unfold aN;by_cases e:S v=true
 ·rw[if_pos e]
  refine bC fun u _=>?_
  unfold ind;cases hu:S u<;>simp[e]
 ·rw[if_neg e,<-l7]
  refine bC fun u _=>?_
  unfold ind;cases hu:S u<;>simp[e]
theorem sE {n:Nat} {t:Nat->Nat->Int} (i:Wt n t) (j:dp n t) {q:Nat} (k:q<n) (D:Nat->Int):∃c,bI n t D c∧jI n t q c:=by
 obtain⟨a,o,p⟩:=zh i j k D;let P:(Nat->Int)->Prop:=fun b=>b q=0∧(∀v,v<n->0<=b v)∧∀v,v<n->v≠q->0<=a v-aN n t b v
 have r:∀b,P b->∀v,v<n->b v<=n*sN (fun v=>((a v).natAbs:Int)) n:=by
  rintro b ⟨h1,l,m⟩;refine jD i j k (by omega) (di fun v _=>by omega) ?_;intro x I;refine cM fun v g=>?_
  show (if decide (x<b v)=true then aN n t b v else 0)<=((a v).natAbs:Int)
  by_cases e:x<b v
  ·rw[if_pos (decide_eq_true e)]
   have:=m v g (fun s=>by subst s;omega);omega
  ·rw[if_neg (by simpa using e)];omega
 obtain⟨b,hb,y⟩:=sB (P:=P) (fun b=>(sN b n).toNat) (sN (fun _=>n*sN (fun v=>((a v).natAbs:Int)) n) n).toNat ⟨fun _=>0,rfl,fun _ _=>Int.le_refl _,fun v g h=>by rw[jG];have:=p v g h;omega⟩ (fun b hb=>by
  have h1:=cM (n:=n) (fun v g=>r b hb v g);have l:=di (f:=b) (n:=n) hb.2.1;show (sN b n).toNat<=_
  omega)
 refine⟨fun v=>a v-aN n t b v,o.trans ⟨b,fun v _=>rfl⟩,hb.2.2,fun S hS z=>?_⟩;refine Classical.byContradiction fun B=>?_
 have C:∀v,v<n->S v=true->sN (fun u=>if S u=false then t v u else 0) n<=a v-aN n t b v:=fun v g E=>by
  refine Classical.byContradiction fun h=>B ⟨v,g,E,?_⟩
  show a v-aN n t b v<_
  omega
 have F:P (fun u=>b u+ind S u):=by
  refine⟨by show b q+ind S q=0;rw[hb.1];unfold ind;rw[z];simp,fun u hu=>by have:=hb.2.1 u hu;show 0<=b u+ind S u;unfold ind;split<;>omega,fun u hu G=>?_⟩;rw[j9,pv];by_cases e:S u=true
  ·rw[if_pos e];have:=C u hu e;omega
  ·rw[if_neg e]
   have:=hb.2.2 u hu G;have:0<=sN (fun w=>if S w=true then t u w else 0) n:=di fun w _=>by
    show 0<=(if S w=true then t u w else 0)
    have:=i.pos u w;split<;>omega
   omega
 obtain⟨w,hw,H⟩:=hS;have h1:=y (fun u=>b u+ind S u) F;have l:sN (fun u=>b u+ind S u) n=sN b n+sN (ind S) n:=dn _ _ _;have m:=di (f:=b) (n:=n) hb.2.1;have J:=gh (f:=ind S) hw (fun u _=>by unfold ind;split<;>omega);have K:ind S w=1:=by unfold ind;rw[if_pos H]
 have L:(sN (fun u=>b u+ind S u) n).toNat<=(sN b n).toNat:=h1;omega
theorem pw {n:Nat} {t:Nat->Nat->Int} (i:Wt n t) (w:dp n t) {q:Nat} (j:q<n) {c g:Nat->Int} (h:jI n t q c) (k:∀v,v<n->v≠q->0<=g v) {s:Nat->Int} (l:∀v,v<n->g v=c v-aN n t s v):∀v,v<n->s v<=s q:=by
 obtain⟨m,hm,b⟩:=pk s (show 0<n by omega);by_cases e:s q=s m
 ·intro v a;rw[e];exact b v a
 ·exfalso
  have x:=b q j;obtain⟨v,a,o,y⟩:=h.2 (fun v=>decide (s v=s m)) ⟨m,hm,by simp⟩ (by simpa using e);have p:s v=s m:=of_decide_eq_true o;have r:v≠q:=fun h=>by subst h;exact e p
  have h1:=k v a r;rw[l v a] at h1;have z:sN (fun u=>if decide (s u=s m)=false then t v u else 0) n<=aN n t s v:=by
   unfold aN;refine cM fun u hu=>?_
   show (if decide (s u=s m)=false then t v u else 0)<=t v u*(s v-s u)
   have hp:=i.pos v u;have hle:=b u hu;by_cases e2:s u=s m
   ·rw[if_neg (by simp[e2])]
    exact Int.mul_nonneg hp (by omega)
   ·rw[if_pos (by simpa using e2)]
    have:=Int.mul_le_mul_of_nonneg_left (show (1:Int)<=s v-s u by omega) hp;omega
  omega
theorem zl {n:Nat} {t:Nat->Nat->Int} (j:Wt n t) (k:dp n t) {q:Nat} (l:q<n) {c g:Nat->Int} (h:jI n t q c) (m:jI n t q g) (he:bI n t c g):∀v,v<n->g v=c v:=by
 obtain⟨s,i⟩:=he;have h1:=pw j k l h m.1 i;have o:=pw j k l m h.1 (s:=fun u=> -s u) (fun v e=>by rw[kP,i v e];omega);intro v e;have:aN n t s v=0:=by
  unfold aN;refine ga fun u hu=>?_
  have a:=h1 u hu;have b:=o u hu;have c:=h1 v e;have d:=o v e;rw[show s v-s u=0 by omega,Int.mul_zero]
 rw[i v e,this];omega
theorem zm (B:Nat->Bool) (n:Nat) {v:Nat} (a:v<n) (b:B v=false):bM B n<bM (fun u=>decide (u=v)||B u) n:=
 nA (fun u _ h=>by simp[h]) a b (by simp)
theorem zn {n:Nat} {t:Nat->Nat->Int} (H:Wt n t) {q:Nat} (Y:q<n) {c:Nat->Int} (P:jH n t q c):
  ∃pos:Nat->Nat,g_ n pos∧pos q=0∧∀v,v<n->v≠q->0<pos v∧c v<=nu n t pos v:=by
 have key:∀(m:Nat) (B:Nat->Bool) (pos:Nat->Nat) (k:Nat),n<=bM B n+m->B q=true->pos q=0->0<k->(∀v,v<n->B v=true->pos v<k)->(∀u v,u<n->v<n->B u=true->B v=true->pos u=pos v->u=v)->
   (∀v,v<n->B v=true->v≠q->0<pos v∧c v<sN (fun u=>if B u=true∧pos u<pos v then t v u else 0) n)->
   ∃pos:Nat->Nat,g_ n pos∧pos q=0∧∀v,v<n->v≠q->0<pos v∧c v<=nu n t pos v:=by
  intro m;induction m with
  |zero=>
   intro B pos k hm r C hk l D E;have o:=pq (S:=B) (n:=n) (by omega);refine⟨pos,fun u v hu g=>D u v hu g (o u hu) (o v g),C,fun v g s=>?_⟩;obtain⟨h1,i⟩:=E v g (o v g) s;refine⟨h1,?_⟩;unfold nu fu;have:sN (fun u=>if B u=true∧pos u<pos v then t v u else 0) n=sN (fun u=>if pos u<pos v then t v u else 0) n:=bC fun u hu=>by
    show (if B u=true∧pos u<pos v then t v u else 0)=(if pos u<pos v then t v u else 0)
    by_cases e:pos u<pos v
    ·rw[if_pos e,if_pos ⟨o u hu,e⟩]
    ·rw[if_neg e,if_neg (fun h=>e h.2)]
   omega
  |succ m I=>
   intro B pos k hm r C hk l D E;by_cases J:∃v,v<n∧B v=false
   ·obtain⟨w,hw,Q⟩:=J
    obtain⟨v,g,j,R⟩:=P (fun u=> !B u) ⟨w,hw,by simp[Q]⟩ (by simp[r]);have j:B v=false:=by simpa using j
    have s:v≠q:=fun h=>by subst h;rw[r] at j;cases j
    refine I (fun u=>decide (u=v)||B u) (fun u=>if u=v then k else pos u) (k+1) (by have:=zm B n g j;omega) (by simp[r]) (by show (if q=v then k else pos q)=0;rw[if_neg (fun h=>s h.symm)];exact C) (by omega) ?_ ?_ ?_
    ·intro u hu F
     show (if u=v then k else pos u)<k+1
     by_cases e:u=v
     ·rw[if_pos e];omega
     ·rw[if_neg e]
      have:=l u hu (by simpa [e] using F);omega
    ·intro a b K hb L M G
     by_cases p:a=v
     ·by_cases e2:b=v
      ·rw[p,e2]
      ·exfalso
       have h1:=l b hb (by simpa [e2] using M);have i:(if a=v then k else pos a)=(if b=v then k else pos b):=G;rw[if_pos p,if_neg e2] at i;omega
     ·by_cases e2:b=v
      ·exfalso
       have h1:=l a K (by simpa [p] using L);have i:(if a=v then k else pos a)=(if b=v then k else pos b):=G;rw[if_neg p,if_pos e2] at i;omega
      ·have i:(if a=v then k else pos a)=(if b=v then k else pos b):=G
       rw[if_neg p,if_neg e2] at i;exact D a b K hb (by simpa [p] using L) (by simpa [e2] using M) i
    ·intro u hu F U
     by_cases e:u=v
     ·subst e
      show 0<(if u=u then k else pos u)∧_
      rw[if_pos rfl];refine⟨hk,Int.lt_of_lt_of_le R (cM fun x N=>?_)⟩;show (if(!B x)=false then t u x else 0)<=(if(decide (x=u)||B x)=true∧(if x=u then k else pos x)<k then t u x else 0)
      cases O:B x with
      |false=>
       rw[if_neg (by simp)];have:=H.pos u x;by_cases y:(decide (x=u)||false)=true∧(if x=u then k else pos x)<k
       ·rw[if_pos y];exact this
       ·rw[if_neg y];exact Int.le_refl _
      |true=>
       have V:x≠u:=fun h=>by subst h;rw[O] at j;cases j
       rw[if_pos (by simp),if_pos (by simp[V];exact l x N O)];exact Int.le_refl _
     ·have W:B u=true:=by simpa [e] using F
      obtain⟨h1,i⟩:=E u hu W U;show 0<(if u=v then k else pos u)∧_
      rw[if_neg e];refine⟨h1,Int.lt_of_lt_of_le i (cM fun x N=>?_)⟩;show (if B x=true∧pos x<pos u then t u x else 0)<=(if(decide (x=v)||B x)=true∧(if x=v then k else pos x)<pos u then t u x else 0)
      by_cases z:B x=true∧pos x<pos u
      ·have X:x≠v:=fun h=>by subst h;rw[j] at z;cases z.1
       rw[if_pos z,if_pos (by simp[X,z])];exact Int.le_refl _
      ·rw[if_neg z]
       have:=H.pos u x;by_cases y:(decide (x=v)||B x)=true∧(if x=v then k else pos x)<pos u
       ·rw[if_pos y];exact this
       ·rw[if_neg y];exact Int.le_refl _
   ·have o:∀v,v<n->B v=true:=fun v g=>by
     cases h:B v with
     |true=>rfl
     |false=>exact absurd ⟨v,g,h⟩ J
    have Z:n<=bM B n:=by
     have i:=pr n;have:=l_ (S:=fun _=>true) (T:=B) (n:=n) (fun v g _=>o v g);omega
    exact I B pos k (by omega) r C hk l D E
 refine key n (fun v=>decide (v=q)) (fun _=>0) 1 (by omega) (by simp) rfl (by omega) (fun _ _ _=>by omega) (fun u v _ _ hu g _=>?_) (fun v _ g s=>absurd (of_decide_eq_true g) s);have h1:u=q:=of_decide_eq_true hu;have i:v=q:=of_decide_eq_true g;rw[h1,i]
theorem zp {n:Nat} {t:Nat->Nat->Int} {pos:Nat->Nat} {q:Nat} (h:pos q=0):nu n t pos q= -1:=by
 unfold nu fu;rw[ga fun u _=>by rw[if_neg (by omega)]];rfl
theorem sF {n:Nat} {t:Nat->Nat->Int} (h:Wt n t) {q:Nat} (i:q<n) {c:Nat->Int} (j:jH n t q c) (hd:c q<0):∃pos:Nat->Nat,g_ n pos∧pos q=0∧(∀v,v<n->v≠q->0<pos v)∧∀v,v<n->c v<=nu n t pos v:=by
 obtain⟨pos,h1,b,g⟩:=zn h i j;refine⟨pos,h1,b,fun v a k=>(g v a k).1,fun v a=>?_⟩;by_cases e:v=q
 ·subst e;rw[zp b];omega
 ·exact(g v a e).2
theorem nB {n:Nat} {t:Nat->Nat->Int} (a:Wt n t) {q:Nat} (g:q<n) {c:Nat->Int} (b:jI n t q c):b7 n t c↔0<=c q:=by
 constructor
 ·intro hw
  refine Classical.byContradiction fun hd=>?_
  obtain⟨pos, -, -, -,h⟩:=sF a g b.2 (by omega);exact po a (by omega) pos (hw.mono h)
 ·intro h
  exact b7.pn fun v i=>by
   by_cases e:v=q
   ·subst e;exact h
   ·exact b.1 v i e
theorem zq {n:Nat} {t:Nat->Nat->Int} (a:Wt n t) (e:dp n t) (hn:0<n) (D:Nat->Int):¬b7 n t D↔∃pos:Nat->Nat,g_ n pos∧b7 n t (fun v=>nu n t pos v-D v):=by
 constructor
 ·intro h
  obtain⟨c,h1,b⟩:=sE a e hn D;have g:c 0<0:=by
   refine Classical.byContradiction fun o=>h ?_
   rw[yV h1];exact(nB a hn b).2 (by omega)
  obtain⟨pos,i, -, -,j⟩:=sF a hn b.2 g;refine⟨pos,i,?_⟩;have k:bI n t (fun v=>nu n t pos v+ -c v) (fun v=>nu n t pos v+ -D v):=(bI.refl _ _ _).add h1.symm.neg;exact b7.fF k (b7.pn fun v l=>by have:=j v l;show 0<=nu n t pos v+ -c v;omega)
 ·rintro⟨pos, -,hw⟩ m
  refine po a hn pos ((hw.add m).mono fun v _=>?_);show nu n t pos v-D v+D v<=_
  omega
def eZ (n:Nat) (t:Nat->Nat->Int) (D:Nat->Int) (k:Int):Prop:=∀F:Nat->Int,nz n F->sN F n=k->b7 n t (fun v=>D v-F v)
def bK (n:Nat) (t:Nat->Nat->Int) (D:Nat->Int) (r:Int):Prop:= -1<=r∧(∀k,0<=k->k<=r->eZ n t D k)∧¬eZ n t D (r+1)
theorem eZ.down {n:Nat} {t:Nat->Nat->Int} (hn:0<n) {D:Nat->Int} {k j:Int} (h:eZ n t D k) (e:j<=k):eZ n t D j:=by
 intro F hF b;have h1:=h (fun v=>F v+(k-j)*one 0 v) (fun v a=>by
  have:=hF v a;show 0<=F v+(k-j)*one 0 v
  unfold one;split
  ·rw[Int.mul_one];omega
  ·rw[Int.mul_zero];omega) (by rw[dn,eE,eY hn,b];omega)
 refine h1.mono fun v a=>?_
 show D v- (F v+(k-j)*one 0 v)<=D v-F v
 unfold one;split
 ·rw[Int.mul_one];omega
 ·rw[Int.mul_zero];omega
theorem bK.px {n:Nat} {t:Nat->Nat->Int} (hn:0<n) {D:Nat->Int} {r:Int} (h:bK n t D r) {k:Int} (hk:0<=k):eZ n t D k↔k<=r:=by
 constructor
 ·intro a
  refine Classical.byContradiction fun b=>h.2.2 (a.down hn (by omega))
 ·exact fun hle=>h.2.1 k hk hle
theorem bK.unique {n:Nat} {t:Nat->Nat->Int} (hn:0<n) {D:Nat->Int} {r a:Int} (h:bK n t D r) (b:bK n t D a):r=a:=by
 have h1:=h.1;have g:=b.1;rcases Int.lt_trichotomy r a with e|e|e
 ·exact absurd (b.2.1 (r+1) (by omega) (by omega)) h.2.2
 ·exact e
 ·exact absurd (h.2.1 (a+1) (by omega) (by omega)) b.2.2
theorem eZ.fF {n:Nat} {t:Nat->Nat->Int} {D D':Nat->Int} (he:bI n t D D') {k:Int} (h:eZ n t D k):eZ n t D' k:=fun F hF a=>by
 have b:bI n t (fun v=>D v+ -F v) (fun v=>D' v+ -F v):=he.add (bI.refl _ _ _);exact b7.fF b (h F hF a)
theorem bK.fF {n:Nat} {t:Nat->Nat->Int} {D D':Nat->Int} (he:bI n t D D') {r:Int} (h:bK n t D r):bK n t D' r:=
 ⟨h.1,fun k a hk=>(h.2.1 k a hk).fF he,fun b=>h.2.2 (b.fF he.symm)⟩
def up (x:Int):Int:=if 0<=x then x else 0
theorem zr (x:Int):0<=up x:=by unfold up;split<;>omega
theorem sG (x:Int):x<=up x:=by unfold up;split<;>omega
theorem py {n:Nat} {t:Nat->Nat->Int} (g:Wt n t) (i:dp n t) (hn:0<n) (D:Nat->Int) (k:Int) (hk:0<=k):eZ n t D k↔∀(D':Nat->Int) (pos:Nat->Nat),bI n t D D'->g_ n pos->k<sN (fun v=>up (D' v-nu n t pos v)) n:=by
 constructor
 ·intro h D' pos he hi
  refine Classical.byContradiction fun hle=>?_
  have hle:sN (fun v=>up (D' v-nu n t pos v)) n<=k:=by omega
  have h1:=(h.down hn hle) (fun v=>up (D' v-nu n t pos v)) (fun v _=>zr _) rfl;have j:bI n t (fun v=>D v+ -up (D' v-nu n t pos v)) (fun v=>D' v+ -up (D' v-nu n t pos v)):=he.add (bI.refl _ _ _);have e:b7 n t (fun v=>D' v+ -up (D' v-nu n t pos v)):=b7.fF j h1;exact po g hn pos (e.mono fun v _=>by
   have:=sG (D' v-nu n t pos v);show D' v+ -up (D' v-nu n t pos v)<=nu n t pos v
   omega)
 ·intro h F hF m
  refine Classical.byContradiction fun l=>?_
  obtain⟨pos,hi,hw⟩:=(zq g i hn _).1 l;obtain⟨a,⟨s,h1⟩,e⟩:=hw;have he:bI n t D (fun v=>nu n t pos v+F v-a v):=⟨fun u=> -s u,fun v b=>by
   have o:a v=nu n t pos v- (D v-F v)-aN n t s v:=h1 v b;rw[kP];show nu n t pos v+F v-a v=_
   omega⟩
  have p:=h _ pos he hi;have q:sN (fun v=>up (nu n t pos v+F v-a v-nu n t pos v)) n<=sN F n:=cM fun v b=>by
   have:=e v b;have:=hF v b;show up (nu n t pos v+F v-a v-nu n t pos v)<=F v
   unfold up;split<;>omega
  omega
def can (n:Nat) (t:Nat->Nat->Int) (v:Nat):Int:=val n t v-2
def ee (n:Nat) (t:Nat->Nat->Int) (g:Int):Prop:=sN (can n t) n=2*g-2
theorem sH {n:Nat} {t:Nat->Nat->Int} (a:Wt n t) {g:Int} (b:ee n t g) {pos:Nat->Nat} (hi:g_ n pos):sN (nu n t pos) n=g-1:=by
 have h1:=yZ a hi;have e:=za (n:=n) (t:=t) pos;have h:sN (can n t) n=sN (val n t) n-n*2:=by
  have:sN (can n t) n=sN (fun v=>val n t v- (fun _=>(2:Int)) v) n:=rfl;rw[this,c_,iH]
 unfold ee at b;omega
theorem zt {n:Nat} {t:Nat->Nat->Int} (a:Wt n t) (e:dp n t) (hn:0<n) {g:Int} (b:ee n t g) {D:Nat->Int} {k:Int} (hk:0<=k) (j:0<=k- (sN D n+1-g)) (h:eZ n t D k):eZ n t (fun v=>can n t v-D v) (k- (sN D n+1-g)):=by
 rw[py a e hn _ _ j];rw[py a e hn _ _ hk] at h;intro D' pos he hi;obtain⟨pos',i⟩:=sA n pos;have hi':=yX hi i;have l:bI n t D (fun v=>can n t v-D' v):=by
  have h1:bI n t (fun v=>can n t v+ -(can n t v-D v)) (fun v=>can n t v+ -D' v):=(bI.refl _ _ _).add he.neg;exact(bI.of_eq (D:=D) (D':=fun v=>can n t v+ -(can n t v-D v)) fun v _=>by show can n t v+ -(can n t v-D v)=D v;omega).trans (h1.trans (bI.of_eq fun v _=>by show can n t v-D' v=can n t v+ -D' v;omega))
 have h1:=h _ pos' l hi';have m:sN (fun v=>up (can n t v-D' v-nu n t pos' v)) n=sN (fun v=>up (D' v-nu n t pos v)) n-sN (fun v=>D' v-nu n t pos v) n:=by
  rw[<-c_];refine bC fun v o=>?_
  have p:=zc a hi i o;show up (can n t v-D' v-nu n t pos' v)=up (D' v-nu n t pos v)- (D' v-nu n t pos v)
  unfold can up;rw[<-p];split<;>split<;>omega
 rw[m,c_,he.a6 a,sH a b hi,c_] at h1;unfold ee at b;rw[b] at h1;omega
theorem bK.pz {n:Nat} {t:Nat->Nat->Int} (b:Wt n t) (hn:0<n) {D:Nat->Int} {r:Int} (h:bK n t D r) (a:0<=r):r<=sN D n:=by
 have h1:=h.2.1 r a (Int.le_refl _) (fun v=>r*one 0 v) (fun v _=>Int.mul_nonneg a (by unfold one;split<;>omega)) (by rw[eE,eY hn,Int.mul_one]);have:=h1.a6 b;rw[c_,eE,eY hn] at this;omega
theorem bK.kS {n:Nat} {t:Nat->Nat->Int} {D:Nat->Int} {r:Int} (hn:0<n) (h:bK n t D r):r= -1↔¬b7 n t D:=by
 have key:eZ n t D 0↔b7 n t D:=by
  constructor
  ·intro b
   exact(b (fun _=>0) (fun _ _=>Int.le_refl _) (iZ n)).mono fun v _=>by show D v-0<=D v;omega
  ·intro hw F hF i
   have e:∀v,v<n->F v=0:=fun v a=>by
    have h1:=gh a hF;have:=hF v a;omega
   exact hw.mono fun v a=>by show D v<=D v-F v;rw[e v a];omega
 have h1:=h.1;have g:=h.px hn (Int.le_refl 0);rw[<-key,g];omega
theorem hU {n:Nat} {t:Nat->Nat->Int} (a:Wt n t) (hn:0<n) (D:Nat->Int):∃r,bK n t D r:=by
 have key:∃k:Nat,¬eZ n t D k:=by
  refine⟨(sN D n).toNat+1,fun h=>?_⟩;have h1:=h (fun v=>(((sN D n).toNat+1:Nat):Int)*one 0 v) (fun v _=>Int.mul_nonneg (by omega) (by unfold one;split<;>omega)) (by rw[eE,eY hn,Int.mul_one]);have:=h1.a6 a;rw[c_,eE,eY hn] at this;omega
 obtain⟨k,hk,b⟩:=yT key;refine⟨(k:Int)-1,by omega,fun j e l=>?_,by rw[show (k:Int)-1+1=k by omega];exact hk⟩;refine Classical.byContradiction fun g=>?_
 obtain⟨i,rfl⟩:=Int.eq_ofNat_of_zero_le e;have:=b i g;omega
theorem pA {n:Nat} {t:Nat->Nat->Int} (j:Wt n t) (l:dp n t) (hn:0<n) {g:Int} (b:ee n t g) {D:Nat->Int} {r a:Int} (h:bK n t D r) (e:bK n t (fun v=>can n t v-D v) a):r-a=sN D n+1-g:=by
 have key:∀{D D':Nat->Int} {r a:Int},(∀v,v<n->D' v=can n t v-D v)->bK n t D r->bK n t D' a->r- (sN D n+1-g)<=a:=by
  intro D D' r a m h e;refine Classical.byContradiction fun s=>?_
  have h1:=h.1;have u:=e.1;have w:sN D' n=2*g-2-sN D n:=by
   rw[bC m,c_];unfold ee at b;rw[b]
  by_cases o:0<=r
  ·have i:=zt j l hn b o (by omega) (h.2.1 r o (Int.le_refl _))
   have k:eZ n t D' (r- (sN D n+1-g)):=i.fF (bI.of_eq m);have p:=(e.px hn (by omega)).1 k;omega
  ·
   have x:r= -1:=by omega
   have q:0<=a+1:=by omega
   have i:¬eZ n t D' (a+1):=e.2.2;rw[py j l hn _ _ q] at i;refine i fun F pos he hi=>?_
   have k:sN (fun v=>F v-nu n t pos v) n<=sN (fun v=>up (F v-nu n t pos v)) n:=cM fun v _=>sG _
   have p:sN (fun v=>F v-nu n t pos v) n=sN D' n- (g-1):=by rw[c_,he.a6 j,sH j b hi]
   omega
 have h1:=key (fun v _=>rfl) h e;have i:=key (D:=fun v=>can n t v-D v) (D':=D) (fun v _=>by show D v=can n t v- (can n t v-D v);omega) e h;have k:sN (fun v=>can n t v-D v) n=2*g-2-sN D n:=by
  rw[c_];unfold ee at b;rw[b]
 omega
theorem zu {n:Nat} {t:Nat->Nat->Int} (q:Wt n t) (hn:0<n) {D:Nat->Int} (hw:b7 n t D) {r:Int} (h:bK n t D r):(∀v,v<n->∀k,bK n t (fun u=>D u-one v u) k->r<=k+1)∧∃v,v<n∧∀k,bK n t (fun u=>D u-one v u) k->r=k+1:=by
 have j:0<=r:=by
  have h1:=h.1;have:=(h.kS hn).1;refine Classical.byContradiction fun g=>this (by omega) hw
 have i:∀v,v<n->∀k,bK n t (fun u=>D u-one v u) k->r<=k+1:=by
  intro v a k hk;have s:=hk.1;refine Classical.byContradiction fun w=>hk.2.2 fun F hF b=>?_
  have h1:=h.2.1 (k+2) (by omega) (by omega) (fun u=>F u+one v u) (fun u hu=>by have:=hF u hu;show 0<=F u+one v u;unfold one;split<;>omega) (by rw[dn,eY a,b];omega);exact h1.mono fun u _=>by show D u- (F u+one v u)<=D u-one v u-F u;omega
 refine⟨i,?_⟩;obtain⟨F,hF,b,l⟩:∃F,nz n F∧sN F n=r+1∧¬b7 n t (fun v=>D v-F v):=by
  refine Classical.byContradiction fun g=>h.2.2 fun F hF b=>?_
  exact Classical.byContradiction fun hw=>g ⟨F,hF,b,hw⟩
 obtain⟨v,a,x⟩:∃v,v<n∧1<=F v:=by
  refine Classical.byContradiction fun g=>?_
  have:sN F n=0:=ga fun v a=>by
   have:=hF v a;refine Classical.byContradiction fun y=>g ⟨v,a,by omega⟩
  omega
 refine⟨v,a,fun k hk=>?_⟩;have h1:=i v a k hk;have m:¬eZ n t (fun u=>D u-one v u) r:=fun o=>by
  have p:=o (fun u=>F u-one v u) (fun u hu=>by
   have:=hF u hu;show 0<=F u-one v u
   unfold one;by_cases e:u=v
   ·subst e;rw[if_pos rfl];omega
   ·rw[if_neg e];omega) (by rw[c_,eY a,b];omega)
  exact l (p.mono fun u _=>by show D u-one v u- (F u-one v u)<=D u-F u;omega)
 have:=hk.px hn j;have:¬r<=k:=fun hle=>m (this.2 hle)
 omega
theorem zv {n:Nat} {t:Nat->Nat->Int} (a:Wt n t) (i:dp n t) (hn:0<n) {g:Int} (b:ee n t g) {D:Nat->Int} (hd:2*g-2<sN D n) {r:Int} (h:bK n t D r):r=sN D n-g:=by
 obtain⟨k,e⟩:=hU a hn (fun v=>can n t v-D v);have h1:=pA a i hn b h e;have j:¬b7 n t (fun v=>can n t v-D v):=fun hw=>by
  have:=hw.a6 a;rw[c_] at this;unfold ee at b;omega
 have:=(e.kS hn).2 j;omega
end Go.Proofs.YtffdiakgjakngaaGreat.T
namespace Go.Proofs.YtffdiakgjakngaaGreat.P
open Go.RowKit Go.Proofs.YtffdiakgjakngaaGreatW.PrintWords Go.Proofs.YtffdiakgjakngaaGreatW.PrintLast Go.Proofs.YtffdiakgjakngaaGreatW.PrintMore
set_option linter.unusedVariables false
set_option linter.unusedSimpArgs false
set_option maxHeartbeats 8000000
set_option maxRecDepth 100000
def cH (f:Nat->Nat->Int) (x:S83):Nat->Nat->Int:=if x.f0=x.f1 then f else fun a b=>if a=x.f1.toNat∧b=x.f0.toNat then x.f2 else if a=x.f0.toNat∧b=x.f1.toNat then x.f2 else f a b
def aj (E:List S83):Nat->Nat->Int:=E.foldl cH (fun _ _=>0)
theorem sI (E:List S83) (k:Nat) (h:k<E.length):aj (E.take (k+1))=cH (aj (E.take k)) (ai E k):=by
 unfold aj;rw[List.take_succ_eq_append_getElem h,List.foldl_append];simp[ai,List.getD_eq_getElem?_getD,List.getElem?_eq_getElem h]
def dV (n:Nat) (E:List S83):Prop:=∀x∈E,0<=x.f0∧x.f0<n∧0<=x.f1∧x.f1<n∧1<=x.f2∧x.f2<=50
theorem dV.get {n:Nat} {E:List S83} (h:dV n E) (k:Nat) (hk:k<E.length):0<=(ai E k).f0∧(ai E k).f0<n∧0<=(ai E k).f1∧(ai E k).f1<n∧1<=(ai E k).f2∧(ai E k).f2<=50:=by
 have e:ai E k=E[k]:=by simp[ai,List.getD_eq_getElem?_getD,List.getElem?_eq_getElem hk]
 rw[e];exact h _ (List.getElem_mem hk)
theorem sJ {n:Nat}:∀(E:List S83) (f:Nat->Nat->Int),(∀x∈E,1<=x.f2∧x.f2<=50)->(∀i j,0<=f i j∧f i j<=50)->∀i j,0<=E.foldl cH f i j∧E.foldl cH f i j<=50
 |[],f,_,hf=>hf
 |x::E,f,h,hf=>by
  refine sJ (n:=n) E _ (fun y b=>h y (List.mem_cons_of_mem _ b)) ?_;intro i j;have e:=h x (List.mem_cons_self ..);have a:=hf i j;unfold cH;split
  ·exact a
  ·dsimp only
   split
   ·omega
   ·split
    ·omega
    ·exact a
theorem dV.times {n:Nat} {E:List S83} (h:dV n E) (i j:Nat):0<=aj E i j∧aj E i j<=50:=sJ (n:=n) E _ (fun x a=>⟨(h x a).2.2.2.2.1,(h x a).2.2.2.2.2⟩) (fun _ _=>by simp) i j
def iI (n:Int) (E:List S83):Bool:=E.all fun x=>decide (0<=x.f0∧x.f0<n∧0<=x.f1∧x.f1<n∧1<=x.f2∧x.f2<=50)
theorem kT {n:Nat} {E:List S83} (h:iI n E=true):dV n E:=fun x a=>by simpa using List.all_eq_true.1 h x a
end Go.Proofs.YtffdiakgjakngaaGreat.P

