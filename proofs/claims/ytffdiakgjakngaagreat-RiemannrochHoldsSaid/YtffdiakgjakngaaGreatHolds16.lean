/- RiemannrochHolds answers true whatever the input (text 16 of 20): own walks and plain laws; no conditions. -/
import Derived.Shelf.SlSortCmp.NoneTotal
import Derived.Test.YtffdiakgjakngaaGreatHolds15
namespace Go.Proofs.YtffdiakgjakngaaGreat.P
open Go.RowKit Go.Proofs.YtffdiakgjakngaaGreatW.PrintWords Go.Proofs.YtffdiakgjakngaaGreatW.PrintLast Go.Proofs.YtffdiakgjakngaaGreatW.PrintMore
set_option linter.unusedVariables false
set_option linter.unusedSimpArgs false
set_option maxHeartbeats 8000000
set_option maxRecDepth 100000
def dI.f (k:Nat) (a:Int) (b:List (S83)):Option (List Int×Int):=(de.f k a b).bind fun t231=>(if t231=0 then((gQ.f k a b).bind fun t232=>(some (t232,0))) else(some (([]:List Int),t231)))
theorem dI.mono:∀a0 a k,ae (dI.f k a0 a) (dI.f (k+1) a0 a):=by
 intro a0 a k;unfold dI.f;repeat' first
   |(with_reducible exact gQ.mono _ _ _)
   |(with_reducible exact de.mono _ _ _)
   |(with_reducible exact ae.refl _)
   |(with_reducible exact ae.none _)
   |(with_reducible refine ae.ite ?_ ?_)
   |(with_reducible refine ae.bind ?_ (fun _=>?_))
   |exact gQ.mono _ _ _
   |exact de.mono _ _ _
   |exact ae.none _
   |refine ae.ite ?_ ?_
   |refine ae.bind ?_ (fun _=>?_)
theorem dI.calls (k:Nat) (g:Int) (j:Option Addr) (l:Nat) (b:List (S83)) (q:List Int) (r:Int) (w:World) (s:Kd.C aK w j b.length b) (u:b.length<=l) (h:dI.f k g b=some (q,r)):
  Calls Tryz.prog 35 #[.agg #[.int .i64 g,.slice j b.length l]] w fun e w'=>∃v:Value,e= .returned (.tuple #[v,.int .i64 r])∧Kd.R (Kd.int .i64) 3 w' w.heap.size (fun _=>True) v q∧Below w.heap.size w w':=by
 have J:=Tryz.underlying24;have o:=Aside0.mk s;have p:=Aside0.mk u;clear s u;have a:=Aside0.mk (Below.refl w.heap.size w);unfold dI.f at h;have H:=h;clear h;obtain⟨t231,x,H⟩:=zo H;by_cases c3:t231=0
 ·rw[if_pos c3] at H
  obtain⟨z,B⟩:=bt c3;clear c3;obtain⟨t232,D,H⟩:=zo H;simp only[Option.some.injEq,Prod.mk.injEq] at H;obtain⟨rfl,rfl⟩:=H;go_enter Tryz.func35,Tryz.ntmps35
  go_wp2_with (first|((with_reducible refine aH (N:=1) rfl ?_);refine zX 1 #[.int .i64 g,.slice j b.length l] 24 ?_;intro E m K n hb;have i:=Aside0.mk (n);have F:=zG a m;have G:=zG a m;replace a:=zS a hb;clear hb n m;obtain⟨L,M,O,P⟩:=au i)|((with_reducible refine ax (f:=55) rfl ?_);refine zL (some 6) Tryz.func55 #[.agg #[.int .i64 g,.slice j b.length l]] ?_;(with_reducible refine(de.calls k g _ _ b t231 _ ?af ?ah x.out).mono ?_);(case af=>exact Kd.al o.out zB);(case ah=>exact p.out);rintro e Q ⟨rfl,hb⟩;refine⟨_,rfl,?_⟩;replace i:=zb i hb;replace a:=zS a hb;(try clear hb);obtain⟨S,T,U,V⟩:=au i)|((with_reducible refine ax (f:=89) rfl ?_);refine zL (some 11) Tryz.func89 #[.agg #[.int .i64 g,.slice j b.length l]] ?_;(with_reducible refine(gQ.calls k g _ _ b t232 _ ?af ?ah D.out).mono ?_);(case af=>exact Kd.al o.out zB);(case ah=>exact p.out);rintro e W ⟨v233,rfl,y,hb⟩;refine⟨_,rfl,?_⟩;have I:=Aside0.mk (Kd.aW y (a_ zB));replace i:=zb i hb;replace a:=zS a hb;(try clear hb);(try clear y)))
  go_ret2;exact⟨_,zE,by(with_reducible repeat(first|apply Kd.aI|apply Kd.ba|apply Kd.a8));exact I.out,zB⟩
 ·rw[if_neg c3] at H
  obtain⟨z,B⟩:=bu c3;simp only[Option.some.injEq,Prod.mk.injEq] at H;obtain⟨rfl,rfl⟩:=H;go_enter Tryz.func35,Tryz.ntmps35
  go_wp2_with (first|((with_reducible refine aH (N:=1) rfl ?_);refine zX 1 #[.int .i64 g,.slice j b.length l] 24 ?_;intro E m X n hb;have i:=Aside0.mk (n);have F:=zG a m;have G:=zG a m;replace a:=zS a hb;clear hb n m;obtain⟨Y,Z,aa,ab⟩:=au i)|((with_reducible refine ax (f:=55) rfl ?_);refine zL (some 6) Tryz.func55 #[.agg #[.int .i64 g,.slice j b.length l]] ?_;(with_reducible refine(de.calls k g _ _ b t231 _ ?af ?ah x.out).mono ?_);(case af=>exact Kd.al o.out zB);(case ah=>exact p.out);rintro e ad ⟨rfl,hb⟩;refine⟨_,rfl,?_⟩;replace i:=zb i hb;replace a:=zS a hb;(try clear hb)))
  go_ret2;exact⟨_,zE,by first|exact Kd.cV _ _ _ _ _|exact Kd.fV _ _ _ _ _|exact Kd.V_nil _ _ _ _ _|exact Kd.Q_nil _ _ _ _ _|exact Kd.fB _ _ _ _ _,zB⟩
def cE.f (k:Nat) (b:Int) (g:List (S83)) (l1:List Int):Option (List Int×Int):=(dI.f k b g).bind fun a=>(if a.2=0 then((bc.f k l1 b).bind fun t240=>(if t240=0 then((gE.f k a.1 l1).bind fun e=>(some (e.1,e.2))) else(some (([]:List Int),t240)))) else(some (([]:List Int),a.2)))
theorem cE.mono:∀a0 a a2 k,ae (cE.f k a0 a a2) (cE.f (k+1) a0 a a2):=by
 intro a0 a a2 k;unfold cE.f;repeat' first
   |(with_reducible exact bc.mono _ _ _)
   |(with_reducible exact gE.mono _ _ _)
   |(with_reducible exact dI.mono _ _ _)
   |(with_reducible exact ae.refl _)
   |(with_reducible exact ae.none _)
   |(with_reducible refine ae.ite ?_ ?_)
   |(with_reducible refine ae.bind ?_ (fun _=>?_))
   |exact bc.mono _ _ _
   |exact gE.mono _ _ _
   |exact dI.mono _ _ _
   |exact ae.none _
   |refine ae.ite ?_ ?_
   |refine ae.bind ?_ (fun _=>?_)
theorem cE.calls (k:Nat) (b:Int) (m:Option Addr) (n:Nat) (i:List (S83)) (q:Option Addr) (c1:Nat) (l1:List Int) (z:List Int) (B:Int) (w:World) (D:Kd.C aK w m i.length i) (E:i.length<=n) (F:Kd.C (Kd.int .i64) w q l1.length l1) (G:l1.length<=c1) (h:cE.f k b i l1=some (z,B)):
  Calls Tryz.prog 32 #[.agg #[.int .i64 b,.slice m i.length n],.slice q l1.length c1] w fun e w'=>∃I:Value,e= .returned (.tuple #[I,.int .i64 B])∧Kd.R (Kd.int .i64) 3 w' w.heap.size (fun _=>True) I z∧Below w.heap.size w w':=by
 have aa:=Tryz.underlying24;have s:=Aside0.mk D;have u:=Aside0.mk E;clear D E;have v:=Aside0.mk F;have x:=Aside0.mk G;clear F G;have a:=Aside0.mk (Below.refl w.heap.size w);unfold cE.f at h;have H:=h;clear h;obtain⟨⟨t236,t239⟩,y,H⟩:=zo H;dsimp only at H;by_cases c4:t239=0
 ·rw[if_pos c4] at H
  obtain⟨P,Q⟩:=bt c4;clear c4;obtain⟨t240,J,H⟩:=zo H;by_cases r:t240=0
  ·rw[if_pos r] at H
   obtain⟨S,T⟩:=bt r;clear r;obtain⟨⟨t241,t242⟩,U,H⟩:=zo H;dsimp only at H;simp only[Option.some.injEq,Prod.mk.injEq] at H;obtain⟨rfl,rfl⟩:=H;go_enter Tryz.func32,Tryz.ntmps32
   go_wp2_with (first|((with_reducible refine aH (N:=2) rfl ?_);refine zX 2 #[.int .i64 b,.slice m i.length n] 24 ?_;intro K l w8 o hb;have g:=Aside0.mk (o);have L:=zG a l;have M:=zG a l;replace a:=zS a hb;clear hb o l;obtain⟨ad,ag,ak,am⟩:=au g)|((with_reducible refine ax (f:=35) rfl ?_);refine zL (some 11) Tryz.func35 #[.agg #[.int .i64 b,.slice m i.length n]] ?_;(with_reducible refine(dI.calls k b _ _ i t236 t239 _ ?af ?ah y.out).mono ?_);(case af=>exact Kd.al s.out zB);(case ah=>exact u.out);rintro e an ⟨O,rfl,j,hb⟩;refine⟨_,rfl,?_⟩;have p:=Aside0.mk (Kd.aW j (a_ zB));replace g:=zb g hb;replace a:=zS a hb;(try clear hb);(try clear j);obtain⟨ap,ar,av,aB⟩:=au g)|((with_reducible refine ax (f:=87) rfl ?_);refine zL (some 20) Tryz.func87 #[.slice q l1.length c1,.int .i64 b] ?_;(with_reducible refine(bc.calls k _ _ l1 b t240 _ ?af ?ah J.out).mono ?_);(case af=>exact Kd.al v.out zB);(case ah=>exact x.out);rintro e w' ⟨rfl,⟨V,rfl⟩⟩;refine⟨_,rfl,?_⟩;obtain⟨W,X,Y⟩:=Kd.aZ p.out;subst Y)|((with_reducible refine ax (f:=16) rfl ?_);refine zL (some 26) Tryz.func16 #[.slice W t236.length X,.slice q l1.length c1] ?_;(with_reducible refine(gE.calls k _ _ t236 _ _ l1 t241 t242 _ ?af ?ah ?aD ?aE U.out).mono ?_);(case af=>exact zC (Kd.aA p.out).2.2);(case ah=>exact(Kd.aA p.out).2.1);(case aD=>exact Kd.al v.out zB);(case aE=>exact x.out);rintro e aF ⟨aL,rfl,j,hb⟩;refine⟨_,rfl,?_⟩;have Z:=Aside0.mk (Kd.aW (Kd.bz j (Kd.aX (zR p))) (a_ zB));replace p:=bB p j hb;replace g:=zb g hb;replace a:=zS a hb;(try clear hb);(try clear j)))
   go_ret2;exact⟨_,zE,by(with_reducible repeat(first|apply Kd.aI|apply Kd.ba|apply Kd.a8));exact Kd.aV Z.out (fun _ hk=>trivial),zB⟩
  ·rw[if_neg r] at H
   obtain⟨S,T⟩:=bu r;simp only[Option.some.injEq,Prod.mk.injEq] at H;obtain⟨rfl,rfl⟩:=H;go_enter Tryz.func32,Tryz.ntmps32
   go_wp2_with (first|((with_reducible refine aH (N:=2) rfl ?_);refine zX 2 #[.int .i64 b,.slice m i.length n] 24 ?_;intro K l aO o hb;have g:=Aside0.mk (o);have L:=zG a l;have M:=zG a l;replace a:=zS a hb;clear hb o l;obtain⟨aP,aS,a0,a1⟩:=au g)|((with_reducible refine ax (f:=35) rfl ?_);refine zL (some 11) Tryz.func35 #[.agg #[.int .i64 b,.slice m i.length n]] ?_;(with_reducible refine(dI.calls k b _ _ i t236 t239 _ ?af ?ah y.out).mono ?_);(case af=>exact Kd.al s.out zB);(case ah=>exact u.out);rintro e a2 ⟨O,rfl,j,hb⟩;refine⟨_,rfl,?_⟩;have p:=Aside0.mk (Kd.aW j (a_ zB));replace g:=zb g hb;replace a:=zS a hb;(try clear hb);(try clear j);obtain⟨a3,a4,a5,a9⟩:=au g)|((with_reducible refine ax (f:=87) rfl ?_);refine zL (some 20) Tryz.func87 #[.slice q l1.length c1,.int .i64 b] ?_;(with_reducible refine(bc.calls k _ _ l1 b t240 _ ?af ?ah J.out).mono ?_);(case af=>exact Kd.al v.out zB);(case ah=>exact x.out);rintro e w' ⟨rfl,⟨V,rfl⟩⟩;refine⟨_,rfl,?_⟩))
   go_ret2;exact⟨_,zE,by first|exact Kd.cV _ _ _ _ _|exact Kd.fV _ _ _ _ _|exact Kd.V_nil _ _ _ _ _|exact Kd.Q_nil _ _ _ _ _|exact Kd.fB _ _ _ _ _,zB⟩
 ·rw[if_neg c4] at H
  obtain⟨P,Q⟩:=bu c4;simp only[Option.some.injEq,Prod.mk.injEq] at H;obtain⟨rfl,rfl⟩:=H;go_enter Tryz.func32,Tryz.ntmps32
  go_wp2_with (first|((with_reducible refine aH (N:=2) rfl ?_);refine zX 2 #[.int .i64 b,.slice m i.length n] 24 ?_;intro K l be o hb;have g:=Aside0.mk (o);have L:=zG a l;have M:=zG a l;replace a:=zS a hb;clear hb o l;obtain⟨bf,bg,bi,bk⟩:=au g)|((with_reducible refine ax (f:=35) rfl ?_);refine zL (some 11) Tryz.func35 #[.agg #[.int .i64 b,.slice m i.length n]] ?_;(with_reducible refine(dI.calls k b _ _ i t236 t239 _ ?af ?ah y.out).mono ?_);(case af=>exact Kd.al s.out zB);(case ah=>exact u.out);rintro e bn ⟨O,rfl,j,hb⟩;refine⟨_,rfl,?_⟩;have p:=Aside0.mk (Kd.aW j (a_ zB));replace g:=zb g hb;replace a:=zS a hb;(try clear hb);(try clear j)))
  go_ret2;exact⟨_,zE,by first|exact Kd.cV _ _ _ _ _|exact Kd.fV _ _ _ _ _|exact Kd.V_nil _ _ _ _ _|exact Kd.Q_nil _ _ _ _ _|exact Kd.fB _ _ _ _ _,zB⟩
noncomputable def df.f (k:Nat) (a:Int) (b:List (S83)) (l1:List Int):Option (Int×Int):=(cE.f k a b l1).bind fun e=>(if e.2=0 then((dZ.f k a b l1).bind fun g=>(if g.2=0 then((dZ.f k a b e.1).bind fun h=>(if h.2=0 then(some (wrap64 (g.1-h.1),0)) else(some (0,h.2)))) else(some (0,g.2)))) else(some (0,e.2)))
theorem df.calls (k:Nat) (i:Int) (l:Option Addr) (m:Nat) (g:List (S83)) (q:Option Addr) (c1:Nat) (l1:List Int) (O:Int) (P:Int) (w:World) (Q:Kd.C aK w l g.length g) (R:g.length<=m) (S:Kd.C (Kd.int .i64) w q l1.length l1) (T:l1.length<=c1) (h:df.f k i g l1=some (O,P)):
  Calls Tryz.prog 27 #[.agg #[.int .i64 i,.slice l g.length m],.slice q l1.length c1] w fun e w'=>e= .returned (.tuple #[.int .i64 O,.int .i64 P])∧Below w.heap.size w w':=by
 have ar:=Tryz.underlying24;have r:=Aside0.mk Q;have s:=Aside0.mk R;clear Q R;have v:=Aside0.mk S;have x:=Aside0.mk T;clear S T;have a:=Aside0.mk (Below.refl w.heap.size w);unfold df.f at h;have H:=h;clear h;obtain⟨⟨u,y⟩,D,H⟩:=zo H;dsimp only at H;by_cases c4:y=0
 ·rw[if_pos c4] at H
  obtain⟨W,X⟩:=bt c4;clear c4;obtain⟨⟨F,E⟩,G,H⟩:=zo H;dsimp only at H;by_cases z:E=0
  ·rw[if_pos z] at H
   obtain⟨Y,Z⟩:=bt z;clear z;obtain⟨⟨U,I⟩,V,H⟩:=zo H;dsimp only at H;by_cases B:I=0
   ·rw[if_pos B] at H
    obtain⟨aa,ab⟩:=bt B;clear B;simp only[Option.some.injEq,Prod.mk.injEq] at H;obtain⟨rfl,rfl⟩:=H;go_enter Tryz.func27,Tryz.ntmps27
    go_wp2_with (first|((with_reducible refine aH (N:=2) rfl ?_);refine zX 2 #[.int .i64 i,.slice l g.length m] 24 ?_;intro J n w9 o hb;have b:=Aside0.mk (o);have K:=zG a n;have L:=zG a n;replace a:=zS a hb;clear hb o n;obtain⟨aB,aF,aL,aO⟩:=au b)|((with_reducible refine ax (f:=32) rfl ?_);refine zL (some 13) Tryz.func32 #[.agg #[.int .i64 i,.slice l g.length m],.slice q l1.length c1] ?_;(with_reducible refine(cE.calls k i _ _ g _ _ l1 u y _ ?af ?ah ?aD ?aE D.out).mono ?_);(case af=>exact Kd.al r.out zB);(case ah=>exact s.out);(case aD=>exact Kd.al v.out zB);(case aE=>exact x.out);rintro e iy ⟨M,rfl,p,hb⟩;refine⟨_,rfl,?_⟩;have j:=Aside0.mk (Kd.aW p (a_ zB));replace b:=zb b hb;replace a:=zS a hb;(try clear hb);(try clear p);obtain⟨aP,aS,a0,a1⟩:=au b)|((with_reducible refine ax (f:=41) rfl ?_);refine zL (some 22) Tryz.func41 #[.agg #[.int .i64 i,.slice l g.length m],.slice q l1.length c1] ?_;(with_reducible refine(dZ.calls k i _ _ g _ _ l1 F E _ ?af ?ah ?aD ?aE G.out).mono ?_);(case af=>exact Kd.al r.out zB);(case ah=>exact s.out);(case aD=>exact Kd.al v.out zB);(case aE=>exact x.out);rintro e a2 ⟨rfl,hb⟩;refine⟨_,rfl,?_⟩;replace j:=aR j hb;replace b:=zb b hb;replace a:=zS a hb;(try clear hb);obtain⟨a3,a4,a5,a9⟩:=au b;obtain⟨ad,ag,ak⟩:=Kd.aZ j.out;subst ak)|((with_reducible refine ax (f:=41) rfl ?_);refine zL (some 31) Tryz.func41 #[.agg #[.int .i64 i,.slice l g.length m],.slice ad u.length ag] ?_;(with_reducible refine(dZ.calls k i _ _ g _ _ u U I _ ?af ?ah ?aD ?aE V.out).mono ?_);(case af=>exact Kd.al r.out zB);(case ah=>exact s.out);(case aD=>exact zC (Kd.aA j.out).2.2);(case aE=>exact(Kd.aA j.out).2.1);rintro e be ⟨rfl,hb⟩;refine⟨_,rfl,?_⟩;replace j:=aR j hb;replace b:=zb b hb;replace a:=zS a hb;(try clear hb)))
    go_ret2;exact⟨zE,zB⟩
   ·rw[if_neg B] at H
    obtain⟨aa,ab⟩:=bu B;simp only[Option.some.injEq,Prod.mk.injEq] at H;obtain⟨rfl,rfl⟩:=H;go_enter Tryz.func27,Tryz.ntmps27
    go_wp2_with (first|((with_reducible refine aH (N:=2) rfl ?_);refine zX 2 #[.int .i64 i,.slice l g.length m] 24 ?_;intro J n bf o hb;have b:=Aside0.mk (o);have K:=zG a n;have L:=zG a n;replace a:=zS a hb;clear hb o n;obtain⟨bg,bi,bk,bn⟩:=au b)|((with_reducible refine ax (f:=32) rfl ?_);refine zL (some 13) Tryz.func32 #[.agg #[.int .i64 i,.slice l g.length m],.slice q l1.length c1] ?_;(with_reducible refine(cE.calls k i _ _ g _ _ l1 u y _ ?af ?ah ?aD ?aE D.out).mono ?_);(case af=>exact Kd.al r.out zB);(case ah=>exact s.out);(case aD=>exact Kd.al v.out zB);(case aE=>exact x.out);rintro e bo ⟨M,rfl,p,hb⟩;refine⟨_,rfl,?_⟩;have j:=Aside0.mk (Kd.aW p (a_ zB));replace b:=zb b hb;replace a:=zS a hb;(try clear hb);(try clear p);obtain⟨bv,bw,bx,b0⟩:=au b)|((with_reducible refine ax (f:=41) rfl ?_);refine zL (some 22) Tryz.func41 #[.agg #[.int .i64 i,.slice l g.length m],.slice q l1.length c1] ?_;(with_reducible refine(dZ.calls k i _ _ g _ _ l1 F E _ ?af ?ah ?aD ?aE G.out).mono ?_);(case af=>exact Kd.al r.out zB);(case ah=>exact s.out);(case aD=>exact Kd.al v.out zB);(case aE=>exact x.out);rintro e b1 ⟨rfl,hb⟩;refine⟨_,rfl,?_⟩;replace j:=aR j hb;replace b:=zb b hb;replace a:=zS a hb;(try clear hb);obtain⟨b2,b3,b4,b5⟩:=au b;obtain⟨am,an,ap⟩:=Kd.aZ j.out;subst ap)|((with_reducible refine ax (f:=41) rfl ?_);refine zL (some 31) Tryz.func41 #[.agg #[.int .i64 i,.slice l g.length m],.slice am u.length an] ?_;(with_reducible refine(dZ.calls k i _ _ g _ _ u U I _ ?af ?ah ?aD ?aE V.out).mono ?_);(case af=>exact Kd.al r.out zB);(case ah=>exact s.out);(case aD=>exact zC (Kd.aA j.out).2.2);(case aE=>exact(Kd.aA j.out).2.1);rintro e b6 ⟨rfl,hb⟩;refine⟨_,rfl,?_⟩;replace j:=aR j hb;replace b:=zb b hb;replace a:=zS a hb;(try clear hb)))
    go_ret2;exact⟨zE,zB⟩
  ·rw[if_neg z] at H
   obtain⟨Y,Z⟩:=bu z;simp only[Option.some.injEq,Prod.mk.injEq] at H;obtain⟨rfl,rfl⟩:=H;go_enter Tryz.func27,Tryz.ntmps27
   go_wp2_with (first|((with_reducible refine aH (N:=2) rfl ?_);refine zX 2 #[.int .i64 i,.slice l g.length m] 24 ?_;intro J n b_ o hb;have b:=Aside0.mk (o);have K:=zG a n;have L:=zG a n;replace a:=zS a hb;clear hb o n;obtain⟨b',ca,cb,cc⟩:=au b)|((with_reducible refine ax (f:=32) rfl ?_);refine zL (some 13) Tryz.func32 #[.agg #[.int .i64 i,.slice l g.length m],.slice q l1.length c1] ?_;(with_reducible refine(cE.calls k i _ _ g _ _ l1 u y _ ?af ?ah ?aD ?aE D.out).mono ?_);(case af=>exact Kd.al r.out zB);(case ah=>exact s.out);(case aD=>exact Kd.al v.out zB);(case aE=>exact x.out);rintro e cd ⟨M,rfl,p,hb⟩;refine⟨_,rfl,?_⟩;have j:=Aside0.mk (Kd.aW p (a_ zB));replace b:=zb b hb;replace a:=zS a hb;(try clear hb);(try clear p);obtain⟨ce,cf,ch,ci⟩:=au b)|((with_reducible refine ax (f:=41) rfl ?_);refine zL (some 22) Tryz.func41 #[.agg #[.int .i64 i,.slice l g.length m],.slice q l1.length c1] ?_;(with_reducible refine(dZ.calls k i _ _ g _ _ l1 F E _ ?af ?ah ?aD ?aE G.out).mono ?_);(case af=>exact Kd.al r.out zB);(case ah=>exact s.out);(case aD=>exact Kd.al v.out zB);(case aE=>exact x.out);rintro e cj ⟨rfl,hb⟩;refine⟨_,rfl,?_⟩;replace j:=aR j hb;replace b:=zb b hb;replace a:=zS a hb;(try clear hb)))
   go_ret2;exact⟨zE,zB⟩
 ·rw[if_neg c4] at H
  obtain⟨W,X⟩:=bu c4;simp only[Option.some.injEq,Prod.mk.injEq] at H;obtain⟨rfl,rfl⟩:=H;go_enter Tryz.func27,Tryz.ntmps27
  go_wp2_with (first|((with_reducible refine aH (N:=2) rfl ?_);refine zX 2 #[.int .i64 i,.slice l g.length m] 24 ?_;intro J n ck o hb;have b:=Aside0.mk (o);have K:=zG a n;have L:=zG a n;replace a:=zS a hb;clear hb o n;obtain⟨cl,co,cq,cr⟩:=au b)|((with_reducible refine ax (f:=32) rfl ?_);refine zL (some 13) Tryz.func32 #[.agg #[.int .i64 i,.slice l g.length m],.slice q l1.length c1] ?_;(with_reducible refine(cE.calls k i _ _ g _ _ l1 u y _ ?af ?ah ?aD ?aE D.out).mono ?_);(case af=>exact Kd.al r.out zB);(case ah=>exact s.out);(case aD=>exact Kd.al v.out zB);(case aE=>exact x.out);rintro e cs ⟨M,rfl,p,hb⟩;refine⟨_,rfl,?_⟩;have j:=Aside0.mk (Kd.aW p (a_ zB));replace b:=zb b hb;replace a:=zS a hb;(try clear hb);(try clear p)))
  go_ret2;exact⟨zE,zB⟩
def bl.l0:Nat->List Int->List Int->Int->Int->Option (Bool)
 |0,_,_,_,_=>none
 |k+1,b,x1,e,a=>if a<e then(if 0<=a then(if a<(b.length:Int) then(if a<(x1.length:Int) then(if(rd b a)=(rd x1 a) then(bl.l0 k b x1 e (wrap64 (a+1))) else(some false)) else(none)) else(none)) else(none)) else(some true)
def bl.f (k:Nat) (l0:List Int) (l1:List Int):Option (Bool):=if(l0.length:Int)=(l1.length:Int) then(bl.l0 k l0 l1 (l0.length:Int) 0) else(some false)
theorem bl.bW:∀k,(∀a b e g,ae (bl.l0 k a b e g) (bl.l0 (k+1) a b e g))
 |0=>fun _ _ _ _ r h=>by simp[bl.l0] at h
 |k+1=>by
  have i:=bl.bW k
  ·intro a b e g
   unfold bl.l0;repeat' first
   |(with_reducible exact i _ _ _ _)
   |(with_reducible exact ae.refl _)
   |(with_reducible exact ae.none _)
   |(with_reducible refine ae.ite ?_ ?_)
   |(with_reducible refine ae.bind ?_ (fun _=>?_))
   |exact i _ _ _ _
   |exact ae.none _
   |refine ae.ite ?_ ?_
   |refine ae.bind ?_ (fun _=>?_)
theorem bl.mono:∀a0 a k,ae (bl.f k a0 a) (bl.f (k+1) a0 a):=by
 intro a0 a k;have b:=bl.bW k;unfold bl.f;repeat' first
   |(with_reducible exact b _ _ _ _)
   |(with_reducible exact ae.refl _)
   |(with_reducible exact ae.none _)
   |(with_reducible refine ae.ite ?_ ?_)
   |(with_reducible refine ae.bind ?_ (fun _=>?_))
   |exact b _ _ _ _
   |exact ae.none _
   |refine ae.ite ?_ ?_
   |refine ae.bind ?_ (fun _=>?_)
theorem bl.calls (k:Nat) (A0:Option Addr) (c0:Nat) (l0:List Int) (v:Option Addr) (c1:Nat) (l1:List Int) (r:Bool) (w:World) (x:Kd.C (Kd.int .i64) w A0 l0.length l0) (y:l0.length<=c0) (z:Kd.C (Kd.int .i64) w v l1.length l1) (B:l1.length<=c1) (h:bl.f k l0 l1=some r):
  Calls Tryz.prog 33 #[.slice A0 l0.length c0,.slice v l1.length c1] w fun e w'=>e= .returned (.bool r)∧az w w':=by
 have D:=Aside0.mk x;have U:=Aside0.mk y;clear x y;have E:=Aside0.mk z;have V:=Aside0.mk B;clear z B;unfold bl.f at h;have H:=h;clear h;by_cases c3:(l0.length:Int)=(l1.length:Int)
 ·rw[if_pos c3] at H
  obtain⟨F,G⟩:=bt c3;have I:(l0.length==l1.length)=true:=by first|simpa using c3|(simp at c3⊢;omega)
  clear c3;have m:=Aside0.mk H;clear H;go_enter Tryz.func33,Tryz.ntmps33
  go_wp2;repeat(go_quiet (fail);try go_wp2)
  go_loopg [13] k (fun J L w'=>∃(a:Int),L= .int .i64 a∧Aside0 (bl.l0 J l0 l1 (l0.length:Int) a=some r)∧Aside0 (J<=k)∧az w w')
  case atStart=>exact⟨(0),zT,m,⟨Nat.le_refl _⟩,by repeat(first|exact az.refl _|apply az.step)⟩
  case round=>
   clear m;try clear c1
   try clear W
   try clear c3
   try clear F
   try clear G
   try clear I
   obtain⟨a,rfl,q,K,⟨m1,rfl⟩⟩:=hrel;cases gk with
   |zero=>exact absurd q.out (by simp[bl.l0])
   |succ M=>
    have H:=q.out;clear q;simp only[bl.l0] at H;by_cases c4:a<(l0.length:Int)
    ·rw[if_pos c4] at H
     have N:=decide_eq_true c4;clear c4;by_cases n:0<=a
     ·rw[if_pos n] at H
      have X:=decide_eq_true n;clear n;by_cases o:a<(l0.length:Int)
      ·rw[if_pos o] at H
       have Y:=decide_eq_true o;clear o;by_cases p:a<(l1.length:Int)
       ·rw[if_pos p] at H
        have Z:=decide_eq_true p;clear p;by_cases l:(rd l0 a)=(rd l1 a)
        ·rw[if_pos l] at H
         obtain⟨O,P⟩:=bt l;clear l;have m:=Aside0.mk H;clear H;have b:0<=(a:Int):=of_decide_eq_true ‹_›;have g:a<(l0.length:Int):=of_decide_eq_true ‹_›;obtain⟨Q,s,R⟩:=Kd.bG D.out a b g;cases s;replace b:=eq_true b;replace g:=eq_true g;have i:0<=(a:Int):=of_decide_eq_true ‹_›;have j:a<(l1.length:Int):=of_decide_eq_true ‹_›;obtain⟨S,u,T⟩:=Kd.bG E.out a i j;cases u;replace i:=eq_true i;replace j:=eq_true j;go_wp2;repeat(go_quiet (fail);try go_wp2)
         go_roundg M
         case measure=>have:=K.out;omega
         case rel=>exact⟨(wrap64 (a+1)),zT,m,⟨by have:=K.out;omega⟩,by repeat(first|exact az.refl _|apply az.step)⟩
        ·rw[if_neg l] at H
         obtain⟨O,P⟩:=bu l;obtain rfl:=Option.some.inj H;have b:0<=(a:Int):=of_decide_eq_true ‹_›;have g:a<(l0.length:Int):=of_decide_eq_true ‹_›;obtain⟨Q,s,R⟩:=Kd.bG D.out a b g;cases s;replace b:=eq_true b;replace g:=eq_true g;have i:0<=(a:Int):=of_decide_eq_true ‹_›;have j:a<(l1.length:Int):=of_decide_eq_true ‹_›;obtain⟨S,u,T⟩:=Kd.bG E.out a i j;cases u;replace i:=eq_true i;replace j:=eq_true j;go_wp2;repeat(go_quiet (fail);try go_wp2)
         go_ret;exact⟨zT,by repeat(first|exact az.refl _|apply az.step)⟩
       ·rw[if_neg p] at H
        exact absurd H (by simp)
      ·rw[if_neg o] at H
       exact absurd H (by simp)
     ·rw[if_neg n] at H
      exact absurd H (by simp)
    ·rw[if_neg c4] at H
     have N:=decide_eq_false c4;clear c4;obtain rfl:=Option.some.inj H;go_wp2;repeat(go_quiet (fail);try go_wp2)
     go_ret;exact⟨zT,by repeat(first|exact az.refl _|apply az.step)⟩
 ·rw[if_neg c3] at H
  obtain⟨F,G⟩:=bu c3;have I:(l0.length==l1.length)=false:=by first|simpa using c3|(simp at c3⊢;omega)
  obtain rfl:=Option.some.inj H;go_enter Tryz.func33,Tryz.ntmps33
  go_wp2;repeat(go_quiet (fail);try go_wp2)
  go_ret;exact⟨zT,by repeat(first|exact az.refl _|apply az.step)⟩
theorem qL {n:Nat} {E:List S83} {d:List Int} (h:dW n 0 E d) (a:cG n E=0) {n' g:Int} {b:List S83} (i:Ev (fun k=>dy.f k n E) (n',b,(0:Int))) (j:Ev (fun k=>dx.f k n' b) (g,(0:Int))) (l:T.ee n (aj E) g) {r:Int} (m:Rk n (aj E) d r):
  Ev (fun k=>dZ.f k n E d) (r,(0:Int)):=by
 unfold dZ.f;refine Ev.bind (D5 h a) ?_;have e:=h.ok a;simp only[if_true,Int.toNat_natCast];simp only[Int.ofNat_zero] at e;simp only[if_pos e];refine Ev.bind i ?_;simp only[if_true];refine Ev.bind j ?_;have o:T.sN (T.can n (aj E)) n=2*g-2:=l;simp only[if_true,if_pos o,vU h.n1 m];exact Ev.const _
mutual
def bU.j0:Nat->Int->Bool->Int->List (S83)->Option ((List (List Int))×Int)
 |0,_,_,_,_=>none
 |k+1,x1,b,e,g=>if b=true then(some (([]:List (List Int)),2)) else((fl.f k e g x1).bind fun a=>(if a.2=0 then(bU.l0 k x1 ([]:List (List Int)) a.1 (a.1.length:Int) 0) else(some (([]:List (List Int)),a.2))))
def bU.l0:Nat->Int->List (List Int)->List (List Int)->Int->Int->Option ((List (List Int))×Int)
 |0,_,_,_,_,_=>none
 |k+1,x1,b,e,g,a=>if a<g then(if 0<=a then(if a<(e.length:Int) then((fw.f (aT e a)).bind fun h=>(if 0<=x1 then(if x1<(h.length:Int) then(if b.length<5864062014805 then(bU.l0 k x1 (b++[(h.set (x1:Int).toNat (-1))]) e g (wrap64 (a+1))) else(none)) else(none)) else(none))) else(none)) else(none)) else(some (b,0))
end
def bU.f (k:Nat) (a:Int) (e:List (S83)) (b:Int):Option ((List (List Int))×Int):=(de.f k a e).bind fun g=>(if g=0 then(if b<0 then(bU.j0 k b true a e) else(bU.j0 k b (decide (b>=a)) a e)) else(some (([]:List (List Int)),g)))
theorem bU.bW:∀k,(∀a b e g,ae (bU.j0 k a b e g) (bU.j0 (k+1) a b e g))∧(∀a b e g l,ae (bU.l0 k a b e g l) (bU.l0 (k+1) a b e g l))
 |0=>⟨fun _ _ _ _ r h=>by simp[bU.j0] at h,fun _ _ _ _ _ r h=>by simp[bU.l0] at h⟩
 |k+1=>by
  obtain⟨i,j⟩:=bU.bW k;refine⟨?_,?_⟩
  ·intro a b e g
   unfold bU.j0;repeat' first
   |(with_reducible exact i _ _ _ _)
   |(with_reducible exact j _ _ _ _ _)
   |(with_reducible exact de.mono _ _ _)
   |(with_reducible exact fl.mono _ _ _ _)
   |(with_reducible exact ae.refl _)
   |(with_reducible exact ae.none _)
   |(with_reducible refine ae.ite ?_ ?_)
   |(with_reducible refine ae.bind ?_ (fun _=>?_))
   |exact i _ _ _ _
   |exact j _ _ _ _ _
   |exact de.mono _ _ _
   |exact fl.mono _ _ _ _
   |exact ae.none _
   |refine ae.ite ?_ ?_
   |refine ae.bind ?_ (fun _=>?_)
  ·intro a b e g l
   unfold bU.l0;repeat' first
   |(with_reducible exact i _ _ _ _)
   |(with_reducible exact j _ _ _ _ _)
   |(with_reducible exact de.mono _ _ _)
   |(with_reducible exact fl.mono _ _ _ _)
   |(with_reducible exact ae.refl _)
   |(with_reducible exact ae.none _)
   |(with_reducible refine ae.ite ?_ ?_)
   |(with_reducible refine ae.bind ?_ (fun _=>?_))
   |exact i _ _ _ _
   |exact j _ _ _ _ _
   |exact de.mono _ _ _
   |exact fl.mono _ _ _ _
   |exact ae.none _
   |refine ae.ite ?_ ?_
   |refine ae.bind ?_ (fun _=>?_)
theorem bU.mono:∀a0 a a2 k,ae (bU.f k a0 a a2) (bU.f (k+1) a0 a a2):=by
 intro a0 a a2 k;obtain⟨b,e⟩:=bU.bW k;unfold bU.f;repeat' first
   |(with_reducible exact b _ _ _ _)
   |(with_reducible exact e _ _ _ _ _)
   |(with_reducible exact de.mono _ _ _)
   |(with_reducible exact fl.mono _ _ _ _)
   |(with_reducible exact ae.refl _)
   |(with_reducible exact ae.none _)
   |(with_reducible refine ae.ite ?_ ?_)
   |(with_reducible refine ae.bind ?_ (fun _=>?_))
   |exact b _ _ _ _
   |exact e _ _ _ _ _
   |exact de.mono _ _ _
   |exact fl.mono _ _ _ _
   |exact ae.none _
   |refine ae.ite ?_ ?_
   |refine ae.bind ?_ (fun _=>?_)
theorem bU.calls (k:Nat) (o:Int) (B:Option Addr) (D:Nat) (n:List (S83)) (l:Int) (T:List (List Int)) (U:Int) (w:World) (cb:Kd.C aK w B n.length n) (cc:n.length<=D) (h:bU.f k o n l=some (T,U)):
  Calls Tryz.prog 15 #[.agg #[.int .i64 o,.slice B n.length D],.int .i64 l] w fun e w'=>∃cd:Value,e= .returned (.tuple #[cd,.int .i64 U])∧Kd.N (Kd.slice 3 (Kd.int .i64)) 26 w' w.heap.size (fun a=>(w.heap.size<=a)) cd T∧Below w.heap.size w w':=by
 have f0:=Tryz.underlying24;have an:=Aside0.mk cb;have ap:=Aside0.mk cc;clear cb cc;have j:=Aside0.mk (Below.refl w.heap.size w);unfold bU.f at h;have H:=h;clear h;obtain⟨bk,A3,H⟩:=zo H;by_cases c4:bk=0
 ·rw[if_pos c4] at H
  obtain⟨bn,bo⟩:=bt c4;clear c4;have bv:=Aside0.mk H;clear H;go_enter Tryz.func15,Tryz.ntmps15
  go_upto_region 4 with (first|((with_reducible refine aH (N:=2) rfl ?_);refine zX 2 #[.int .i64 o,.slice B n.length D] 24 ?_;intro q m w6 Z hb;have g:=Aside0.mk (Z);have d3:=zG j m;have d4:=zG j m;replace j:=zS j hb;clear hb Z m;obtain⟨cf,ch,ci,cj⟩:=au g)|((with_reducible refine ax (f:=55) rfl ?_);refine zL (some 14) Tryz.func55 #[.agg #[.int .i64 o,.slice B n.length D]] ?_;(with_reducible refine(de.calls k o _ _ n bk _ ?af ?ah A3.out).mono ?_);(case af=>exact Kd.al an.out zB);(case ah=>exact ap.out);rintro e w8 ⟨rfl,hb⟩;refine⟨_,rfl,?_⟩;replace g:=zb g hb;replace j:=zS j hb;(try clear hb)))
  (try simp only[Act.put,List.setIfInBounds_toArray,List.set_cons_zero,List.set_cons_succ])
  go_cut [25] (fun v25 wc=>∃(L:Nat) (ar:Bool),v25= .bool ar∧Aside0 (bU.j0 L l ar o n=some (T,U))∧Aside0 (L<=k)∧Aside0 (wc.heap[q]? =some (.cells #[.int .i64 o,(.slice B n.length D)] 24 (0,0)))∧Aside0 (Below w.heap.size w wc))
  case first=>
   have H:=bv.out;clear bv;by_cases I:l<0
   ·rw[if_pos I] at H
    have O:=decide_eq_true I;clear I
    (first|rw[O]|(simp only[bd,bh];rw[O])|skip)
    have J:=Aside0.mk H;clear H;go_wp2;go_meet
    case rel=>exact⟨_,(true),zT,J,⟨by first|omega|exact Nat.le_refl _⟩,⟨zK g⟩,⟨zB⟩⟩
   ·rw[if_neg I] at H
    have O:=decide_eq_false I;clear I
    (first|rw[O]|(simp only[bd,bh];rw[O])|skip)
    have J:=Aside0.mk H;clear H;obtain⟨ck,cl,co,cq⟩:=au g;go_wp2;go_meet
    case rel=>exact⟨_,(decide (l>=o)),zT,J,⟨by first|omega|exact Nat.le_refl _⟩,⟨zK g⟩,⟨zB⟩⟩
  case rest=>
   clear bv;try clear c1
   try clear p2
   try clear c4
   try clear bn
   try clear bo
   try clear c5
   try clear I
   try clear O
   try clear ck
   try clear cl
   try clear cf
   try clear ch
   try clear co
   try clear cq
   try clear ci
   try clear cj
   obtain⟨L,ar,rfl,P,cs,g,j⟩:=hcut;cases L with
   |zero=>exact absurd P.out (by simp[bU.j0])
   |succ av=>
    have H:=P.out;clear P;simp only[bU.j0] at H;by_cases aa:ar=true
    ·subst aa
     replace H:=zi H;simp only[Option.some.injEq,Prod.mk.injEq] at H;obtain⟨rfl,rfl⟩:=H;go_wp2;go_ret2;exact⟨_,zE,by first|exact Kd.fB _ _ _ _ _|exact Kd.fV _ _ _ _ _|exact Kd.V_nil _ _ _ _ _|exact Kd.Q_nil _ _ _ _ _|exact Kd.cV _ _ _ _ _,zB⟩
    ·replace aa:=Bool.eq_false_iff.mpr aa
     subst aa;replace H:=zj H;obtain⟨⟨i,bw⟩,cv,H⟩:=zo H;dsimp only at H;by_cases W:bw=0
     ·rw[if_pos W] at H
      obtain⟨cx,c0⟩:=bt W;clear W;have J:=Aside0.mk H;clear H;obtain⟨d6,d7,d8,d9⟩:=au g;go_wp2_with (first|((with_reducible refine ax (f:=56) rfl ?_);refine zL (some 29) Tryz.func56 #[.agg #[.int .i64 o,.slice B n.length D],.int .i64 l] ?_;(with_reducible refine(fl.calls av o _ _ n l i bw _ ?af ?ah cv.out).mono ?_);(case af=>exact Kd.al an.out zB);(case ah=>exact ap.out);rintro e f3 ⟨ea,rfl,z,hb⟩;refine⟨_,rfl,?_⟩;have bx:=Aside0.mk (Kd.lR (Kd.en (ok':=fun a=>(w.heap.size<=a)∧a≠q) z (fun a ab=>⟨(Nat.le_trans (a_ zB) ab),(Kd.kG (zK g) a ab)⟩)) (a_ zB));replace g:=zb g hb;replace j:=zS j hb;(try clear hb);(try clear z);obtain⟨c2,G,eb⟩:=Kd.lT bx.out;subst eb))
      go_loopg [9,37] av (fun L v9 v37 w'=>∃(K:List (List Int)) (r:Int),v37= .int .i64 r∧Aside0 (bU.l0 L l K i (i.length:Int) r=some (T,U))∧Aside0 (L<=av)∧Aside0 (Kd.N (Kd.slice 3 (Kd.int .i64)) 26 w' w.heap.size (fun a=>(w.heap.size<=a)∧some a≠((.slice c2 i.length G):Value).ownBlock∧a≠q) v9 K)∧Aside0 (Kd.N (Kd.slice 3 (Kd.int .i64)) 26 w' w.heap.size (fun a=>(w.heap.size<=a)∧some a≠(v9:Value).ownBlock∧a≠q) (.slice c2 i.length G) i)∧Aside0 (w'.heap[q]? =some (.cells #[.int .i64 o,(.slice B n.length D)] 24 (0,0)))∧Aside0 (Below w.heap.size w w'))
      case atStart=>exact⟨(([]:List (List Int))),(0),zT,J,⟨Nat.le_refl _⟩,⟨by first|exact Kd.fB _ _ _ _ _|exact Kd.fV _ _ _ _ _|exact Kd.V_nil _ _ _ _ _|exact Kd.Q_nil _ _ _ _ _|exact Kd.cV _ _ _ _ _⟩,⟨by(with_reducible repeat(first|apply Kd.eD|apply Kd.fD|apply Kd.fC));exact Kd.en bx.out (fun _ hk=>⟨hk.1,⟨(by simp[Value.ownBlock]),hk.2⟩⟩)⟩,⟨zK g⟩,⟨zB⟩⟩
      case round=>
       clear J;try clear c1
       try clear p2
       try clear c4
       try clear bn
       try clear bo
       try clear c5
       try clear I
       try clear O
       try clear aa
       try clear W
       try clear cx
       try clear c0
       try clear f4
       try clear ck
       try clear cl
       try clear d6
       try clear d7
       try clear cf
       try clear ch
       try clear co
       try clear cq
       try clear d8
       try clear d9
       try clear ci
       try clear cj
       try clear p2
       obtain⟨K,r,rfl,P,c3,E,u,g,j⟩:=hrel;cases gk with
       |zero=>exact absurd P.out (by simp[bU.l0])
       |succ k2=>
        have H:=P.out;clear P;simp only[bU.l0] at H;by_cases X:r<(i.length:Int)
        ·rw[if_pos X] at H
         have ed:=decide_eq_true X;clear X;by_cases a0:0<=r
         ·rw[if_pos a0] at H
          have f5:=decide_eq_true a0;clear a0;by_cases a2:r<(i.length:Int)
          ·rw[if_pos a2] at H
           have f6:=decide_eq_true a2;clear a2;obtain⟨s,eg,H⟩:=zo H;by_cases a3:0<=l
           ·rw[if_pos a3] at H
            have f7:=decide_eq_true a3;clear a3;by_cases a4:l<(s.length:Int)
            ·rw[if_pos a4] at H
             have f8:=decide_eq_true a4;clear a4;obtain⟨a5,ad⟩:∃y_:List Int,y_=(s.set (l:Int).toNat (-1)):=⟨_,rfl⟩;replace H:(if K.length<5864062014805 then(bU.l0 k2 l (K++[a5]) i (i.length:Int) (wrap64 (r+1))) else(none))=some (T,U):=by first|(rw[ad];with_reducible exact H)|(have Q:=(Option.bind_some _ _).symm.trans H;rw[ad];with_reducible exact Q)|(have Q:=(Option.bind_some _ _).symm.trans H;with_reducible exact Q)|with_reducible exact H|(rw[ad];exact H)|exact H
             have ek:=Aside0.mk ad;clear ad;by_cases a9:K.length<5864062014805
             ·rw[if_pos a9] at H
              have el:=Aside0.mk a9;clear a9;obtain⟨c6,ag⟩:∃y_:List (List Int),y_=(K++[a5]):=⟨_,rfl⟩;replace H:(bU.l0 k2 l c6 i (i.length:Int) (wrap64 (r+1)))=some (T,U):=by first|(rw[ag];with_reducible exact H)|(have Q:=(Option.bind_some _ _).symm.trans H;rw[ag];with_reducible exact Q)|(have Q:=(Option.bind_some _ _).symm.trans H;with_reducible exact Q)|with_reducible exact H|(rw[ag];exact H)|exact H
              have em:=Aside0.mk ag;clear ag;have J:=Aside0.mk H;clear H;have be:0<=(r:Int):=of_decide_eq_true ‹_›;have bf:r<(i.length:Int):=of_decide_eq_true ‹_›;obtain⟨S,er,es,ev,ew,c7,c8⟩:=fE (Kd.iD u.out).2.2 r be bf;cases ev;obtain⟨f9,ex,ey,c'⟩:=Kd.nf u.out [] r be (by first|exact bf|exact of_decide_eq_true ‹_› |(have e_:=(Kd.iD u.out).1;omega));obtain⟨gb,gc,rfl,b2,b3⟩:=Kd.j6 ey;have bg:=c' 0 _ rfl;rw[Nat.add_zero,show ((Kd.slice 3 (Kd.int .i64))).sz=1 from rfl,Nat.mul_one] at bg;replace bg:=Option.some.inj (bg.symm.trans ew);injection bg with dd e0 dk
              rw[dd] at b3;rw[dk] at b2;have Y:=Aside0.mk (show Kd.V (Kd.int .i64) 3 _ w.heap.size _ _ (aT i r) from Kd.o_ b2 b3);clear dd e0 dk b3 b2;clear c' ex;have ak:=Aside0.mk c8;have e1:=Aside0.mk c7;clear c8 c7;replace be:=eq_true be;replace bf:=eq_true bf;go_wp2_with (first|((with_reducible refine ax (f:=57) rfl ?_);refine zL (some 42) Tryz.func57 #[.slice er (aT i r).length es] ?_;(with_reducible refine(fw.calls _ _ (aT i r) s _ ?af ?ah eg.out).mono ?_);(case af=>repeat(first|exact(by repeat(first|(with_reducible exact ak.out)|(with_reducible refine Kd.br ?_ _)|(with_reducible refine Kd.fs ?_ _)|(with_reducible refine Kd.eV ?_)|exact ak.out))|(with_reducible refine Kd.br ?_ _)|(with_reducible refine Kd.fs ?_ _)|(with_reducible refine Kd.eV ?_)));(case ah=>exact e1.out);rintro e dl ⟨gd,rfl,z,hb⟩;refine⟨_,rfl,?_⟩;replace E:=fX E z hb;replace u:=fX u z hb;replace Y:=Aside0.mk (Kd.nh (by(with_reducible repeat(first|apply Kd.V_alloc|apply Kd.kM|apply Kd.V_drew));exact Y.out) (Kd.dK z) hb);have x:=Aside0.mk (Kd.aW (Kd.yB (M:=fun a=>(w.heap.size<=a)) z (a_ zB) (fun a h_=>h_)) (a_ zB));replace g:=zb g hb;replace ak:=Aside0.mk (Kd.al (by repeat(first|(with_reducible exact ak.out)|(with_reducible refine Kd.br ?_ _)|(with_reducible refine Kd.fs ?_ _)|(with_reducible refine Kd.eV ?_)|exact ak.out)) hb);replace j:=zS j hb;(try clear hb);(try clear z);have b4:0<=(l:Int):=of_decide_eq_true ‹_›;have b5:(l:Int)<((s.length:Int):Int):=of_decide_eq_true ‹_›;obtain⟨y,F,ds,dv,e3,ge,d0⟩:=Kd.fg x.out (by omega);(first|cases ds|(injection ds with bi e4 e5;(first|subst bi|(injection bi with bi;subst bi));subst e5;clear e4));have e6:=Aside0.mk dv;have gf:=Aside0.mk d0;clear dv e3 d0;obtain⟨gg,gi⟩:=Kd.bJ 0 x.out (l:Int) b4 b5;replace b4:=eq_true b4;replace b5:=eq_true b5;have n_:=Aside0.mk (Kd.aV (ok':=(fun a=>(w.heap.size<=a))) x.out (fun a hk=>hk.1));clear x;have x:=n_;clear n_;obtain⟨gl,gm⟩:=Kd.bJ 0 x.out (l:Int) (of_decide_eq_true ‹_›) (of_decide_eq_true ‹_›);have b6:=Kd.cZ x.out (l:Int) (-1))|((with_reducible refine jz (t:=3) (p:=45) rfl ?_);refine jy (t:=3) (p:=45) (v:=?FA) (w1:=(dl.setCell ⟨y,(l:Int).toNat,none⟩ (.int .i64 (-1)))) ?m ?ho ?hn ?hr ?_;(case ho=>rfl);(case m=>rfl);(case hn=>rfl);(case hr=>first|(go_simp;done)|(go_simp;rfl));intro b_ hw;have m:dl.grownBy b_ (some y):=(by rw[hw];exact b6.2);have d2:Kd.R (Kd.int .i64) 3 b_ w.heap.size (fun a=>(w.heap.size<=a)) (.slice (some ⟨y,0,none⟩) s.length F) a5:=(by rw[hw,ek.out];exact b6.1);clear b6;replace E:=Aside0.mk (Kd.pa (v:=(.slice (some ⟨y,0,none⟩) s.length F)) (v1:=(.slice (some ⟨y,0,none⟩) s.length F)) (ok:=(fun a=>(w.heap.size<=a)∧some a≠(.slice (some S) i.length G:Value).ownBlock∧a≠q)) (zN E) m (.inl rfl));replace u:=Aside0.mk (Kd.pa (v:=(.slice (some ⟨y,0,none⟩) s.length F)) (v1:=(.slice (some ⟨y,0,none⟩) s.length F)) (ok:=(fun a=>(w.heap.size<=a)∧some a≠(u9:Value).ownBlock∧a≠q)) (zN u) m (.inl rfl));replace g:=Aside0.mk (cI (zK g) m (Kd.dh x.out g.out (by decide)));replace Y:=Aside0.mk (Kd.r9 (v:=(.slice (some ⟨y,0,none⟩) s.length F)) (v1:=(.slice (some ⟨y,0,none⟩) s.length F)) (ok:=(fun a=>(w.heap.size<=a)∧some a≠(u9:Value).ownBlock∧some a≠(.slice (some S) i.length G:Value).ownBlock∧a≠q)) (by(with_reducible repeat(first|apply Kd.V_alloc|apply Kd.kM|apply Kd.V_drew));exact Kd.r8 Y.out (fun _ hk=>⟨⟨hk.1.1.1,⟨hk.1.1.2.1,⟨hk.1.2,hk.1.1.2.2⟩⟩⟩,hk.2⟩)) m (.inl rfl));replace x:=Aside0.mk (d2);replace j:=Aside0.mk ((by rw[hw];exact ec (j.out) e6.out:Below w.heap.size w b_));clear m hw d2)|((with_reducible refine o9 (b:=.append) (xs:=#[.tmp 46,.tmp 48]) rfl ?_);at_builtin;refine Kd.yx (Kd.slice 3 (Kd.int .i64)) (w0:=w) w.heap.size rfl (.tmp 46) (.tmp 48) 33 26 (.slice none 0 0) 24 rfl Tryz.underlying33 ph rfl (by decide) (by omega) u9 K a5 [.slice (some ⟨y,0,none⟩) s.length F] (fun a=>(w.heap.size<=a)∧some a≠(.slice (some S) i.length G:Value).ownBlock∧a≠q) (fun a=>((fun a=>(w.heap.size<=a)∧some a≠(.slice (some S) i.length G:Value).ownBlock∧a≠q)) a∧some a≠(u9:Value).ownBlock) rfl rfl ?aP (fun _ hk=>hk) ?aF ?aO ?aB ?aS ?aL ?_;(case aP=>have ft:=(Kd.aA x.out).1;have b':=Aside0.mk x.out;rw[ft] at b'⊢;exact(Kd.yz (Kd.aA (Kd.aV (ok':=(fun a=>((fun a=>(w.heap.size<=a)∧some a≠(.slice (some S) i.length G:Value).ownBlock∧a≠q)) a∧some a≠(u9:Value).ownBlock)) (Kd.dT (Kd.mS (Kd.mS (b'.out) (Kd.nc u.out) (by decide)) (Kd.nc E.out) (by decide)) g.out (by decide)) (fun a hk=>⟨⟨hk.1.1.1,⟨hk.1.1.2,hk.2⟩⟩,hk.1.2⟩))).2.1 (Kd.yh (Kd.aV (ok':=(fun a=>((fun a=>(w.heap.size<=a)∧some a≠(.slice (some S) i.length G:Value).ownBlock∧a≠q)) a∧some a≠(u9:Value).ownBlock)) (Kd.dT (Kd.mS (Kd.mS (b'.out) (Kd.nc u.out) (by decide)) (Kd.nc E.out) (by decide)) g.out (by decide)) (fun a hk=>⟨⟨hk.1.1.1,⟨hk.1.1.2,hk.2⟩⟩,hk.1.2⟩)))));(case aB=>exact zB);(case aF=>exact(fun a hk=>⟨(Nat.le_trans (a_ zB) hk),Kd.jV (Kd.rZ (zN u)) a hk,Kd.kG (zK g) a hk⟩));(case aO=>exact(by(with_reducible repeat(first|apply Kd.eD|apply Kd.fD|apply Kd.fC));exact Kd.en E.out (fun _ hk=>⟨hk.1.1,⟨hk.1.2.1,hk.1.2.2⟩⟩)));(case aS=>exact(a_ zB));(case aL=>have:=el.out;omega);intro gn go ho hb m ca;rw[<-em.out] at ho;replace u:=Aside0.mk (Kd.pa (ok:=(fun a=>(w.heap.size<=a)∧some a≠(.slice (some ⟨y,0,none⟩) s.length F:Value).ownBlock∧a≠q)) (by(with_reducible repeat(first|apply Kd.eD|apply Kd.fD|apply Kd.fC));exact Kd.en u.out (fun _ hk=>⟨⟨hk.1.1,⟨hk.2,hk.1.2.2⟩⟩,hk.1.2.1⟩)) m ca);replace g:=Aside0.mk (cI (zK g) m (Kd.ym E.out g.out (by decide)));replace Y:=Aside0.mk (Kd.r9 (ok:=(fun a=>(w.heap.size<=a)∧some a≠(.slice (some S) i.length G:Value).ownBlock∧some a≠(.slice (some ⟨y,0,none⟩) s.length F:Value).ownBlock∧a≠q)) (by(with_reducible repeat(first|apply Kd.V_alloc|apply Kd.kM|apply Kd.V_drew));exact Kd.r8 Y.out (fun _ hk=>⟨⟨hk.1.1,⟨hk.1.2.2.1,⟨hk.2,hk.1.2.2.2⟩⟩⟩,hk.1.2.1⟩)) m ca);replace j:=Aside0.mk (hb);have fv:=Aside0.mk (ho);clear E x;clear ho hb m ca))
              go_roundg k2
              case measure=>have:=cs.out;have:=c3.out;omega
              case rel=>exact⟨(c6),(wrap64 (r+1)),zT,J,⟨by have:=cs.out;have:=c3.out;omega⟩,⟨zN fv⟩,⟨by(with_reducible repeat(first|apply Kd.eD|apply Kd.fD|apply Kd.fC));exact Kd.en u.out (fun _ hk=>⟨hk.1.1,⟨hk.2,hk.1.2.2⟩⟩)⟩,⟨zK g⟩,⟨zB⟩⟩
             ·rw[if_neg a9] at H
              exact absurd H (by simp)
            ·rw[if_neg a4] at H
             exact absurd H (by simp)
           ·rw[if_neg a3] at H
            exact absurd H (by simp)
          ·rw[if_neg a2] at H
           exact absurd H (by simp)
         ·rw[if_neg a0] at H
          exact absurd H (by simp)
        ·rw[if_neg X] at H
         have ed:=decide_eq_false X;clear X;simp only[Option.some.injEq,Prod.mk.injEq] at H;obtain⟨rfl,rfl⟩:=H;go_wp2;go_ret2;exact⟨_,zE,by(with_reducible repeat(first|apply Kd.eD|apply Kd.fD|apply Kd.fC));exact Kd.en E.out (fun _ hk=>hk.1),zB⟩
     ·rw[if_neg W] at H
      obtain⟨cx,c0⟩:=bu W;simp only[Option.some.injEq,Prod.mk.injEq] at H;obtain⟨rfl,rfl⟩:=H;obtain⟨gp,gq,gr,gs⟩:=au g;go_wp2_with (first|((with_reducible refine ax (f:=56) rfl ?_);refine zL (some 29) Tryz.func56 #[.agg #[.int .i64 o,.slice B n.length D],.int .i64 l] ?_;(with_reducible refine(fl.calls av o _ _ n l i bw _ ?af ?ah cv.out).mono ?_);(case af=>exact Kd.al an.out zB);(case ah=>exact ap.out);rintro e gt ⟨ea,rfl,z,hb⟩;refine⟨_,rfl,?_⟩;have bx:=Aside0.mk (Kd.lR (Kd.en (ok':=fun a=>(w.heap.size<=a)∧a≠q) z (fun a ab=>⟨(Nat.le_trans (a_ zB) ab),(Kd.kG (zK g) a ab)⟩)) (a_ zB));replace g:=zb g hb;replace j:=zS j hb;(try clear hb);(try clear z)))
      go_ret2;exact⟨_,zE,by first|exact Kd.fB _ _ _ _ _|exact Kd.fV _ _ _ _ _|exact Kd.V_nil _ _ _ _ _|exact Kd.Q_nil _ _ _ _ _|exact Kd.cV _ _ _ _ _,zB⟩
 ·rw[if_neg c4] at H
  obtain⟨bn,bo⟩:=bu c4;simp only[Option.some.injEq,Prod.mk.injEq] at H;obtain⟨rfl,rfl⟩:=H;go_enter Tryz.func15,Tryz.ntmps15
  go_wp2_with (first|((with_reducible refine aH (N:=2) rfl ?_);refine zX 2 #[.int .i64 o,.slice B n.length D] 24 ?_;intro q m gx Z hb;have g:=Aside0.mk (Z);have d3:=zG j m;have d4:=zG j m;replace j:=zS j hb;clear hb Z m;obtain⟨g0,g1,g2,g3⟩:=au g)|((with_reducible refine ax (f:=55) rfl ?_);refine zL (some 14) Tryz.func55 #[.agg #[.int .i64 o,.slice B n.length D]] ?_;(with_reducible refine(de.calls k o _ _ n bk _ ?af ?ah A3.out).mono ?_);(case af=>exact Kd.al an.out zB);(case ah=>exact ap.out);rintro e g4 ⟨rfl,hb⟩;refine⟨_,rfl,?_⟩;replace g:=zb g hb;replace j:=zS j hb;(try clear hb)))
  go_ret2;exact⟨_,zE,by first|exact Kd.fB _ _ _ _ _|exact Kd.fV _ _ _ _ _|exact Kd.V_nil _ _ _ _ _|exact Kd.Q_nil _ _ _ _ _|exact Kd.cV _ _ _ _ _,zB⟩
theorem Ef {n:Nat} {E:List S83} (a:E.length<=1000) (b:cG n E=0) (hp:partsOf E n=1):Ev (fun k=>de.f k n E) 0:=by
 unfold de.f;refine Ev.bind (qG a b hp) ?_;simp only[if_true];exact Ev.const _
theorem Curve.gy {n:Nat} {E:List S83} {d:List Int} (h:Curve n E d) (hn:1<=n) {c:List Int} (b:c.length=n) (hb:∀v:Nat,v<n-> -200<=rd c v∧rd c v<=200):dW n 0 E c:=by
 have a:=h.small 0 (by omega);have e:=a.n5;have g:=a.len;have i:=h.val;exact⟨hn,by omega,by omega,by omega,a.right,a.conn,by omega,b,hb⟩
def mL (v:Int) (x:S83):Int:=if x.f0≠x.f1∧(x.f0=v∨x.f1=v) then x.f2 else 0
theorem vV {v:Int} {x:S83} (e:x.f0=x.f1):mL v x=0:=if_neg (fun h=>h.1 e)
theorem vW {v:Int} {x:S83} (e:¬x.f0=x.f1) (h:x.f0=v∨x.f1=v):mL v x=x.f2:=if_pos ⟨e,h⟩
theorem Eg {v:Int} {x:S83} (a:¬x.f0=v) (h1:¬x.f1=v):mL v x=0:=if_neg (fun h=>h.2.elim a h1)
def js (v:Nat):List S83->Int
 |[]=>0
 |x::E=>mL v x+js v E
theorem qM {n:Nat} {u:Nat} (hu:u<n):∀(E:List S83) (f:Nat->Nat->Int),(∀x∈E,bQ n x=true∧x.f0<=x.f1∧(x.f0≠x.f1->f x.f0.toNat x.f1.toNat=0∧f x.f1.toNat x.f0.toNat=0))->E.Pairwise gI->T.val n (E.foldl cH f) u=T.val n f u+js u E
 |[],f,_,_=>by simp[js]
 |x::E,f,h,hp=>by
  obtain⟨l,g⟩:=List.pairwise_cons.1 hp;obtain⟨h1,s,b⟩:=h x (List.mem_cons_self ..);simp[bQ] at h1;by_cases e:x.f0=x.f1
  ·rw[List.foldl_cons,show cH f x=f from if_pos e,js,vV e,Int.zero_add]
   exact qM hu E f (fun y a=>h y (List.mem_cons_of_mem _ a)) g
  ·obtain⟨b,m⟩:=b e
   have o:=val_step_eq (n:=n) (f:=f) (x:=x) (by omega) (by omega) e b m hu;have p:=qM hu E (cH f x) (fun y a=>by
    obtain⟨i,q,j⟩:=h y (List.mem_cons_of_mem _ a);have hb:=l y a;unfold gI at hb;have r:=i;simp[bQ] at r;refine⟨i,q,fun k=>?_⟩;unfold cH;rw[if_neg e];refine⟨?_,?_⟩
    ·show (if _ then _ else _)=_
     rw[if_neg (by omega),if_neg (by omega)];exact(j k).1
    ·show (if _ then _ else _)=_
     rw[if_neg (by omega),if_neg (by omega)];exact(j k).2) g
   rw[List.foldl_cons,p,o,js];unfold mL T.one;by_cases c0:u=x.f0.toNat
   ·rw[if_neg (show ¬u=x.f1.toNat by omega),if_pos c0,if_pos ⟨e,.inl (by omega)⟩];omega
   ·by_cases c1:u=x.f1.toNat
    ·rw[if_pos c1,if_neg c0,if_pos ⟨e,.inr (by omega)⟩];omega
    ·rw[if_neg c1,if_neg c0,if_neg (fun h=>by rcases h.2 with h|h<;>omega)];omega
theorem Eh {n:Nat} {E:List S83} (a:bm n E) {v:Nat} (e:v<n):T.val n (aj E) v=js v E:=by
 have h:=qM e E (fun _ _=>0) (fun x b=>⟨a.ok x b,a.le x b,fun _=>⟨rfl,rfl⟩⟩) a.order;have g:T.val n (fun _ _=>0) v=0:=T.iZ n;rw[g,Int.zero_add] at h;exact h
theorem Ei {E:List S83} {i:Nat} (h:i<E.length):ai E i∈E:=by
 have e:ai E i=E[i]:=by simp[ai,List.getD_eq_getElem?_getD,List.getElem?_eq_getElem h]
 rw[e];exact List.getElem_mem h
theorem vX {n:Nat} {E:List S83} (h:bm n E) (l:E.length<=1000) (v:Nat):∀(m i:Nat) (s:Int),i+m=E.length->0<=s->s<=50*i->Ev (fun k=>b9.l0 k v s E E.length i) (s+js v (E.drop i),(0:Int))
 |0,i,s,hi,o,h1=>by
  refine Ev.of_succ ?_;simp only[b9.l0,if_neg (show ¬(i:Int)<E.length by omega),List.drop_of_length_le (show E.length<=i by omega),js,Int.add_zero];exact Ev.const _
 |m+1,i,s,hi,o,h1=>by
  have b:=fun s=>vX h l v m (i+1) s (by omega)
  have j:=h.ok _ (Ei (E:=E) (i:=i) (by omega));simp[bQ] at j;refine Ev.of_succ ?_;simp only[b9.l0,if_pos (show (i:Int)<E.length by omega),if_pos (show (0:Int)<=i by omega),dU (show i<=1000000 by omega)];rw[l6 (show i<E.length by omega),js];generalize ai E i=x at j⊢;have hw:wrap64 (s+x.f2)=s+x.f2:=l5 (by omega);by_cases e:x.f0=x.f1
  ·have:=b s (by omega) (by omega)
   rw[vV e,Int.zero_add];simp only[if_pos e];exact this
  ·by_cases a:x.f0=v
   ·have:=b (s+x.f2) (by omega) (by omega)
    rw[vW e (.inl a),<-Int.add_assoc];simp only[if_neg e,if_pos a,hw];exact this
   ·by_cases g:x.f1=v
    ·have:=b (s+x.f2) (by omega) (by omega)
     rw[vW e (.inr g),<-Int.add_assoc];simp only[if_neg e,if_neg a,if_pos g,hw];exact this
    ·have:=b s (by omega) (by omega)
     rw[Eg a g,Int.zero_add];simp only[if_neg e,if_neg a,if_neg g];exact this
theorem Ej {n:Nat} {E:List S83} (b:bm n E) (e:E.length<=1000) (g:cG n E=0) {v:Nat} (h:v<n):Ev (fun k=>b9.f k n E v) (T.val n (aj E) v,(0:Int)):=by
 unfold b9.f;refine Ev.bind (a:=(0:Int)) ?_ ?_
 ·unfold cP.f
  have h1:=ny n E e;rw[g] at h1;refine Ev.bind h1 ?_;simp only[if_true];refine Ev.of_succ ?_;simp only[cP.l0,List.length_cons,List.length_nil,Nat.zero_add,Int.natCast_one,Int.ofNat_one,if_pos (show (0:Int)<1 by decide),if_pos (show (0:Int)<=0 by decide),show rd [(v:Int)] 0=v from rfl,sr,Option.bind_some,decide_eq_true (show (0:Int)<=v∧(v:Int)<n by omega),if_true];refine Ev.of_succ ?_;rw[show wrap64 (0+1)=1 from l5 (x:=1) (by decide)];simp only[cP.l0,if_neg (show ¬(1:Int)<1 by decide)];exact Ev.const _
 ·simp only[if_true]
  have:=vX b e v E.length 0 0 (by omega) (by omega) (by omega);rw[List.drop_zero,Int.zero_add,<-Eh b h] at this;exact this
theorem vY {n:Nat} {E:List S83} (a:bm n E) (b:E.length<=1000) (e:cG n E=0):∀v,v<=n->Ev (fun k=>ky k n E v) ((List.range v).map fun u=>T.val n (aj E) u)
 |0,_=>Ev.const _
 |v+1,h=>by
  have g:=vY a b e v (by omega);have i:=Ej a b e (v:=v) (by omega);simp only[ky];refine Ev.bind g ?_;refine Ev.bind i ?_;rw[List.range_succ,List.map_append];exact Ev.const _
def dg (n:Nat) (E:List S83):List Int:=(List.range n).map fun u=>T.can n (aj E) u
theorem oF {n:Nat} {E:List S83} {v:Nat} (a:v<n):rd (dg n E) (v:Int)=T.can n (aj E) v:=by
 simp[dg,rd,List.getD_eq_getElem?_getD,a]
theorem Ek {n:Nat} {E:List S83} (hn:1<=n) (i:n<=12) (e:E.length<=1000) (b:cG n E=0) (hp:partsOf E n=1) (g:∀v:Nat,v<n->0<=T.val n (aj E) v∧T.val n (aj E) v<=1000):Ev (fun k=>dI.f k n E) (dg n E,(0:Int)):=by
 unfold dI.f;refine Ev.bind (Ef e b hp) ?_;simp only[if_true];refine Ev.bind (a:=dg n E) ?_ (Ev.const _);unfold gQ.f;simp only[if_pos (show (1:Int)<=n∧(n:Int)<=1000 by omega),Int.toNat_natCast];refine Ev.bind (vY (gJ b).2.2 e b n (Nat.le_refl _)) ?_;rw[show jq ((List.range n).map fun u=>T.val n (aj E) u) n n=dg n E from by
  unfold jq dg;refine List.map_congr_left fun u hu=>?_
  have hu:=List.mem_range.1 hu;have h:=g u hu;rw[if_pos hu,show rd ((List.range n).map fun u=>T.val n (aj E) u) (u:Int)=T.val n (aj E) u by simp[rd,List.getD_eq_getElem?_getD,hu]];unfold T.can;exact l5 (by omega)]
 exact Ev.const _
section
attribute [local go_sem] Oper.semAt_some
theorem El (A:Option Addr) (n c:Nat) (a6:Int) (w:World):Calls Tryz.prog 182 #[.slice A n c,.int .i64 a6] w fun e w'=>e= .returned (.func (.func 202) #[] #[.pointer (some ⟨w.heap.size,0,none⟩),.pointer (some ⟨w.heap.size+1,0,none⟩)])∧w'=(w.alloc (.cells #[.slice A n c] 33)).alloc (.cells #[.int .i64 a6] 3):=by
 go_enter Tryz.func182,Tryz.ntmps182
 go_wp2;go_ret;exact⟨rfl,rfl⟩
def jt (a6:Int) (c:List Int):Int:=c.foldl (fun s x=>wrap64 (s-x)) a6
def cF (a6:Int) (c:List Int):List Int:=c.set 0 (jt a6 (c.drop 1))
theorem Em (a6:Int) (c:List Int) (x:Int):jt a6 (c++[x])=wrap64 (jt a6 c-x):=by simp[jt,List.foldl_append]
theorem En (a6:Int) {c:List Int} {j:Nat} (h:j<c.length-1):jt a6 ((c.drop 1).take (j+1))=wrap64 (jt a6 ((c.drop 1).take j)-c.getD (j+1) 0):=by
 rw[List.take_succ_eq_append_getElem (by simpa using h),Em,List.getElem_drop,List.getD_eq_getElem?_getD,List.getElem?_eq_getElem (show j+1<c.length by omega)];simp[Nat.add_comm]
theorem vZ {W:World} {e base:Nat} {ok:Nat->Prop} {A:Option Addr} {cap:Nat} {L:List (List Int)} (h:Kd.N (Kd.slice 3 (Kd.int .i64)) e W base ok (.slice A L.length cap) L) (i:Nat) (hi:i<L.length):
  ∃g a cc,A=some ⟨g,0,none⟩∧W.cell? ⟨g,i,none⟩=some (.slice a (L.getD i []).length cc)∧(L.getD i []).length<=cc∧Kd.F (Kd.int .i64) W ok a (L.getD i []).length (L.getD i []):=by
 have hC:=(Kd.iD h).2.2;obtain⟨ad,he,_⟩:=hC.2.2 (by omega);subst he;obtain⟨g,rfl⟩:∃g,ad=⟨g,0,none⟩:=by
  obtain⟨_,rows,_,j,_⟩:=h;exact Kd.kI j
 obtain⟨ce,o,k,l⟩:=Kd.nf h [] (i:Int) (by omega) (by omega);obtain⟨m,n,rfl,ul,ge⟩:=Kd.j6 k;have b:=l 0 _ rfl;rw[Nat.add_zero,show ((Kd.slice 3 (Kd.int .i64))).sz=1 from rfl,Nat.mul_one,Int.toNat_natCast,add_plain] at b;rw[Int.toNat_natCast] at ul ge;exact⟨g,m,n,rfl,b,ul,Kd.mZ ge (fun _ hk=>hk.1)⟩
theorem Eo {W:World} {e base:Nat} {ok:Nat->Prop} {v:Value} {xs:List Int} (h:(Kd.int .i64).R e W base ok v xs) (hp:0<xs.length):∃g c,v= .slice (some ⟨g,0,none⟩) xs.length c:=by
 obtain⟨A,c,rfl⟩:=Kd.aZ h;obtain⟨ad,he,_⟩:=(Kd.aA h).2.2.2.2 hp;subst he;obtain⟨g,rfl⟩:=Kd.kI h;exact⟨g,c,rfl⟩
theorem Ep {c:List Int} {x:Int} (h:0<c.length):bH 0 (c.set 0 x) 0=x:=by
 cases c with
 |nil=>simp at h
 |cons a c=>rfl
theorem Er {W:World} {ok:Nat->Prop} {A:Option Addr} {c:List Int} (h:Kd.F (Kd.int .i64) W ok A c.length c) (hp:0<c.length):∃ad,A=some ad:=by
 obtain⟨ad,he,_⟩:=(Kd.jE h).2.2 hp;exact⟨ad,he⟩
theorem Es {W:World} {ad:Addr} {c:List Int} (h:(Kd.int .i64).C W (some ad) c.length c) {j:Nat} (a:j<c.length-1):W.cell? ⟨ad.block,ad.off+1+j,none⟩=some (.int .i64 (c.getD (j+1) 0)):=by
 have h1:=Kd.yA h ((j+1:Nat):Int) (by omega) (by omega);rw[Int.toNat_natCast] at h1;have e:ad.add (j+1)=⟨ad.block,ad.off+1+j,none⟩:=by unfold Addr.add;rw[if_neg (by omega)];simp only[Addr.mk.injEq,and_true,true_and];omega
 rw[e] at h1;simpa [rd] using h1
def Et (a b e gd:Nat) (X Y:World):Prop:=∀k,(a<=k∧k<b∨k=e∨k=gd)->k<X.heap.size->Y.heap[k]? =X.heap[k]?
theorem Eu (a gd I y n:Nat) (s:Option Addr) (cl base:Nat) (L:List (List Int)) (a6:Int) (W:World) (ca:y<=a) (hg:a<gd) (hn:2<=n) (cd:n<=12) (hL:∀c∈L,c.length=n) (ce:L.length<=16384)
  (hR:Kd.N (Kd.slice 3 (Kd.int .i64)) 26 W base (fun k=>I<=k∧k<y) (.slice s L.length cl) L)
  (K:W.heap[a]? =some (.cells #[.slice s L.length cl] 33 (0,0))) (am:W.heap[gd]? =some (.cells #[.int .i64 a6] 3 (0,0))):
  iJ (σ:=Unit) Fence.wide 9 Tryz.prog 202 #[.pointer (some ⟨a,0,none⟩),.pointer (some ⟨gd,0,none⟩)] (fun x:List Int×Value=>#[x.2]) (fun _ W W1=>W1=W) (fun _ A B=>Below A.heap.size A B) (fun _ x A B=>(∃c,c∈L∧x.1=cF a6 c)∧(Kd.int .i64).R 3 B A.heap.size (fun _=>True) x.2 x.1∧Below A.heap.size A B)
   (fun _ X Y=>Et I y a gd X Y)
   (fun _ xs W'=>xs.map Prod.fst=L.map (cF a6)) (fun _ _ _=>True) (fun pre=>pre.length<L.length) W:=by
 intro lp J Jx an ap ar av;have bi:=Aside0.mk an;have ch:=Aside0.mk ap;have hY:=Aside0.mk av;have HL:=Aside0.mk hL;have aB:=ar () W rfl;clear an ap ar av hL;refine callsIn_of_wp Tryz.func202 rfl trivial ?_ rfl;simp only[Tryz.ntmps202,List.size_toArray,List.length_cons,List.length_nil,Nat.reduceAdd,Nat.reduceSub,Array.replicate_succ,Array.replicate_zero,List.push_toArray,List.append_toArray,List.nil_append,List.cons_append];have x0:W.cell? ⟨a,0,none⟩=some (.slice s L.length cl):=(ao K 0).trans rfl;have b:=Aside0.mk K;have o:=Aside0.mk am;have h:=Aside0.mk hR;have ci:L.length<=9223372036854775807:=by omega
 clear K am hR;gi_wp2;clear x0;gi_loopg [11] (L.length) (fun M i wr=>∃(v:Nat) (xs:List (List Int×Value)),i= .int .i64 v∧v<=L.length∧Aside0 (J () xs wr)∧Aside0 (xs.map Prod.fst=(L.take v).map (cF a6))∧Aside0 (wr.heap[a]? =some (.cells #[.slice s L.length cl] 33 (0,0)))∧Aside0 (wr.heap[gd]? =some (.cells #[.int .i64 a6] 3 (0,0)))∧Aside0 (Kd.N (Kd.slice 3 (Kd.int .i64)) 26 wr base (fun k=>I<=k∧k<y) (.slice s L.length cl) L)∧Aside0 (M=L.length-v))
 case atStart=>exact⟨0,[],rfl,Nat.zero_le _,⟨aB⟩,⟨rfl⟩,b,o,h,⟨rfl⟩⟩
 case round=>
  clear aB b o h;obtain⟨v,xs,rfl,hv,z,O,b,o,h,HK⟩:=hrel;by_cases l:v<L.length
  ·have ck:(0:Int)<=(v:Int):=by omega
   have co:(v:Int)<(L.length:Int):=by omega
   obtain⟨g,Ac,cc,rfl,y1,y2,u⟩:=vZ h.out v l;have aO:=HL.out (L.getD v []) (by rw[List.getD_eq_getElem?_getD,List.getElem?_eq_getElem l];exact List.getElem_mem l);have aP:=Aside0.mk (show (L.take (v+1)).map (cF a6)=(L.take v).map (cF a6)++[cF a6 (L.getD v [])] by rw[List.take_succ_eq_append_getElem l,List.map_append,List.getD_eq_getElem?_getD,List.getElem?_eq_getElem l];rfl);have aS:=Aside0.mk (show L.getD v []∈L by rw[List.getD_eq_getElem?_getD,List.getElem?_eq_getElem l];exact List.getElem_mem l);generalize L.getD v []=c at y1 y2 u aO aP aS;subst aO;obtain⟨ad,rfl⟩:=Er u (by omega);have P:=Aside0.mk u;have cr:=Kd.ye u;have bw:Aside0 (∀W,(Kd.int .i64).C W (some ad) c.length c->Calls Tryz.prog 57 #[.slice (some ad) c.length cc] W fun e w'=>∃a0:Value,e= .returned (a0)∧Kd.R (Kd.int .i64) 3 w' W.heap.size (fun _=>True) a0 c∧Below W.heap.size W w'):=⟨fun W hC=>fw.calls (some ad) cc c c W hC y2 (by unfold fw.f clone.f;rw[if_pos (by omega)])⟩;clear u;have cs:(0:Int)<(c.length:Int):=by omega
   have cv:(1:Int)<=(c.length:Int):=by omega
   have cx:¬cc=1:=by omega
   gi_wp2_with (refine⟨trivial,?_⟩;gi_at_call 57;refine(callsIn_wide.2 (bw.out _ (Kd.jE P.out))).mono ?_;rintro e w3 ⟨vd,rfl,D,m⟩;obtain⟨g0,c0,rfl⟩:=Eo D (by omega);have Q:=Aside0.mk D;have S:=Aside0.mk (bi.out () _ _ _ z.out m);have T:=Aside0.mk (aG b.out m);have E:=Aside0.mk (aG o.out m);have U:=Aside0.mk (Kd.fW h.out m);have bx:=Aside0.mk (Kd.o5 P.out m);have a1:=Aside0.mk m;have z1:w3.cell? ⟨gd,0,none⟩=some (.int .i64 a6):=(ao E.out 0).trans rfl;obtain⟨z2,z3⟩:=Kd.bJ 0 D (0:Int) (by omega) (by omega);simp only[Int.toNat_zero] at z2 z3;clear D m y1)
   have a2:=Aside0.mk (show wr.heap.size<=g0 from Kd.dK Q.out g0 rfl);have c2:=Aside0.mk (ay b.out);have F:=Aside0.mk (Kd.cZ Q.out 0 a6).1;have V:=Aside0.mk (Below.setCell (p:=⟨g0,0,none⟩) a1.out a2.out (.int .i64 a6));simp only[Int.toNat_zero] at F;clear S T E U bx a1 Q z1 z2 z3;generalize w3.setCell ⟨g0,0,none⟩ (.int .i64 a6)=w4 at F V⊢;obtain⟨q,rfl⟩:∃q:World,q=wr:=⟨_,rfl⟩;gi_loopg [23] (c.length-1) (fun M i wi=>∃j:Nat,i= .int .i64 j∧j<=c.length-1∧Aside0 (Kd.R (Kd.int .i64) 3 wi q.heap.size (fun _=>True) (.slice (some ⟨g0,0,none⟩) c.length c0) (c.set 0 (jt a6 ((c.drop 1).take j))))∧Aside0 (Below q.heap.size q wi)∧Aside0 (M=c.length-1-j))
   case atStart=>exact⟨0,rfl,Nat.zero_le _,F,V,⟨rfl⟩⟩
   case round=>
    clear F V;obtain⟨j,rfl,hj,w,r,b2⟩:=hrel;by_cases a3:j<c.length-1
    ·have c5:(0:Int)<=(j:Int):=by omega
     have c6:(j:Int)<((c.length-1:Nat):Int):=by omega
     have z1:=Es (Kd.jE (Kd.o5 P.out r.out)) a3;obtain⟨z2,z3⟩:=Kd.bJ 0 w.out (0:Int) (by omega) (by simp;omega);rw[Ep (by omega)] at z2;simp only[Int.toNat_zero] at z2 z3;have Z:=Aside0.mk (En a6 a3);have G:=Aside0.mk (Kd.cZ w.out 0 (wrap64 (jt a6 ((c.drop 1).take j)-c.getD (j+1) 0))).1;have aa:=Aside0.mk (Below.setCell (p:=⟨g0,0,none⟩) r.out a2.out (.int .i64 (wrap64 (jt a6 ((c.drop 1).take j)-c.getD (j+1) 0))));simp only[Int.toNat_zero,List.set_set] at G;rw[<-Z.out] at G;rw[<-Z.out] at aa;gi_wp2;gi_roundg (c.length-1- (j+1))
     case measure=>rw[b2.out];omega
     case rel=>
      have e:=Z.out;rw[List.drop_one,List.getD_eq_getElem?_getD] at e;rw[List.drop_one] at G aa;rw[<-e];exact⟨j+1,by go_num,by omega,by rw[List.drop_one];exact G,aa,⟨rfl⟩⟩
    ·obtain rfl:j=c.length-1:=by omega
     rw[List.take_of_length_le (by simp)] at w;have a4:Aside0 (Kd.R (Kd.int .i64) 3 wr q.heap.size (fun _=>True) (.slice (some ⟨g0,0,none⟩) c.length c0) (cF a6 c)):=w;have c7:xs.length=v:=by have:=congrArg List.length O.out;simp at this;omega
     obtain⟨fn,tmps,c8,c9,hy,a5⟩:=hY.out () xs (cF a6 c,.slice (some ⟨g0,0,none⟩) c.length c0) _ _ z.out ⟨⟨c,aS.out,rfl⟩,a4.out,r.out⟩ (by omega);have b3:=Aside0.mk a5;have a9:=Aside0.mk (aG b.out r.out);have be:=Aside0.mk (aG o.out r.out);have b4:=Aside0.mk (Kd.fW h.out r.out);have b5:=Aside0.mk (ay be.out);have b6:=Aside0.mk (ay a9.out);simp only at hy;clear a5 z b o h w a4;gi_wp2;refine b3.out.mono ?_;rintro e W3 (⟨rfl,bf,H⟩|⟨rfl,bg⟩)
     ·have S:=Aside0.mk bf
      have T:=Aside0.mk ((H a (.inr (.inl rfl)) b6.out).trans a9.out);have E:=Aside0.mk ((H gd (.inr (.inr rfl)) b5.out).trans be.out);have U:=Aside0.mk (Kd.lS b4.out (fun k hk b_=>H k (.inl hk) b_));clear bf H hy;gi_wp2;gi_roundg (L.length- (v+1))
      case measure=>rw[HK.out];omega
      case rel=>exact⟨v+1,xs++[(cF a6 c,.slice (some ⟨g0,0,none⟩) c.length c0)],by go_num,by omega,S,⟨by rw[aP.out,List.map_append,O.out];rfl⟩,T,E,U,⟨rfl⟩⟩
     ·have b':=Aside0.mk bg
      clear bg hy;gi_wp2;refine bodyPost_ret (results_none rfl _ _ _) rfl ?_;exact⟨⟨_,rfl⟩,.inr ⟨(),_,trivial,b'.out⟩⟩
  ·obtain rfl:v=L.length:=by omega
   gi_wp2;go_end0;exact⟨⟨_,rfl⟩,.inl ⟨(),xs,by rw[O.out,List.take_length],z.out⟩⟩
end
def da.l0:Nat->List Int->List Int->List Int->Int->Int->Option (Int)
 |0,_,_,_,_,_=>none
 |k+1,e,x1,b,g,a=>if a<g then(if 0<=a then(if a<(b.length:Int) then(if a>=(x1.length:Int) then(some 1) else(if a<(x1.length:Int) then((gH.f (rd b a) (rd x1 a)).bind fun h=>(if h=0 then(da.l0 k e x1 b g (wrap64 (a+1))) else(some h))) else(none))) else(none)) else(none)) else(if(e.length:Int)<(x1.length:Int) then(some (-1)) else(some 0))
def da.f (k:Nat) (l0:List Int) (l1:List Int):Option (Int):=da.l0 k l0 l1 l0 (l0.length:Int) 0
theorem da.bW:∀k,(∀a b e g i,ae (da.l0 k a b e g i) (da.l0 (k+1) a b e g i))
 |0=>fun _ _ _ _ _ r h=>by simp[da.l0] at h
 |k+1=>by
  have j:=da.bW k
  ·intro a b e g i
   unfold da.l0;repeat' first
   |(with_reducible exact j _ _ _ _ _)
   |(with_reducible exact ae.refl _)
   |(with_reducible exact ae.none _)
   |(with_reducible refine ae.ite ?_ ?_)
   |(with_reducible refine ae.bind ?_ (fun _=>?_))
   |exact j _ _ _ _ _
   |exact ae.none _
   |refine ae.ite ?_ ?_
   |refine ae.bind ?_ (fun _=>?_)
theorem da.mono:∀a0 a k,ae (da.f k a0 a) (da.f (k+1) a0 a):=by
 intro a0 a k;have b:=da.bW k;unfold da.f;repeat' first
   |(with_reducible exact b _ _ _ _ _)
   |(with_reducible exact ae.refl _)
   |(with_reducible exact ae.none _)
   |(with_reducible refine ae.ite ?_ ?_)
   |(with_reducible refine ae.bind ?_ (fun _=>?_))
   |exact b _ _ _ _ _
   |exact ae.none _
   |refine ae.ite ?_ ?_
   |refine ae.bind ?_ (fun _=>?_)
theorem da.calls (k:Nat) (A0:Option Addr) (c0:Nat) (l0:List Int) (z:Option Addr) (c1:Nat) (l1:List Int) (r:Int) (w:World) (B:Kd.C (Kd.int .i64) w A0 l0.length l0) (D:l0.length<=c0) (E:Kd.C (Kd.int .i64) w z l1.length l1) (F:l1.length<=c1) (h:da.f k l0 l1=some r):
  Calls Tryz.prog 51 #[.slice A0 l0.length c0,.slice z l1.length c1] w fun e w'=>e= .returned (.int .i64 r)∧az w w':=by
 have u:=Aside0.mk B;have X:=Aside0.mk D;clear B D;have G:=Aside0.mk E;have Y:=Aside0.mk F;clear E F;have H:(da.l0 k l0 l1 l0 (l0.length:Int) 0)=some r:=h;clear h;have p:=Aside0.mk H;clear H;go_enter Tryz.func51,Tryz.ntmps51
 go_wp2;go_loopg [11] k (fun I v11 w'=>∃(a:Int),v11= .int .i64 a∧Aside0 (da.l0 I l0 l1 l0 (l0.length:Int) a=some r)∧Aside0 (I<=k)∧az w w')
 case atStart=>exact⟨(0),zT,p,⟨Nat.le_refl _⟩,by repeat(first|exact az.refl _|apply az.step)⟩
 case round=>
  clear p;try clear c1
  try clear Z
  obtain⟨a,rfl,v,J,⟨m1,rfl⟩⟩:=hrel;cases gk with
  |zero=>exact absurd v.out (by simp[da.l0])
  |succ N=>
   have H:=v.out;clear v;simp only[da.l0] at H;by_cases c3:a<(l0.length:Int)
   ·rw[if_pos c3] at H
    have O:=decide_eq_true c3;clear c3;by_cases c4:0<=a
    ·rw[if_pos c4] at H
     have aa:=decide_eq_true c4;clear c4;by_cases q:a<(l0.length:Int)
     ·rw[if_pos q] at H
      have ab:=decide_eq_true q;clear q;by_cases m:a>=(l1.length:Int)
      ·rw[if_pos m] at H
       have P:=decide_eq_true m;clear m;obtain rfl:=Option.some.inj H;have b:0<=(a:Int):=of_decide_eq_true ‹_›;have g:a<(l0.length:Int):=of_decide_eq_true ‹_›;obtain⟨K,n,L⟩:=Kd.bG u.out a b g;cases n;replace b:=eq_true b;replace g:=eq_true g;go_wp2;go_ret;exact⟨zT,by repeat(first|exact az.refl _|apply az.step)⟩
      ·rw[if_neg m] at H
       have P:=decide_eq_false m;clear m;by_cases s:a<(l1.length:Int)
       ·rw[if_pos s] at H
        have ad:=decide_eq_true s;clear s;obtain⟨x,M,H⟩:=zo H;by_cases o:x=0
        ·rw[if_pos o] at H
         obtain⟨Q,R⟩:=bt o;clear o;have p:=Aside0.mk H;clear H;have b:0<=(a:Int):=of_decide_eq_true ‹_›;have g:a<(l0.length:Int):=of_decide_eq_true ‹_›;obtain⟨K,n,L⟩:=Kd.bG u.out a b g;cases n;replace b:=eq_true b;replace g:=eq_true g;have j:0<=(a:Int):=of_decide_eq_true ‹_›;have l:a<(l1.length:Int):=of_decide_eq_true ‹_›;obtain⟨S,y,T⟩:=Kd.bG G.out a j l;cases y;replace j:=eq_true j;replace l:=eq_true l;go_wp2_with (first|((with_reducible refine ax (f:=107) rfl ?_);refine zL (some 26) Tryz.func107 #[.int .i64 (rd l0 a),.int .i64 (rd l1 a)] ?_;(with_reducible refine(gH.calls (rd l0 a) (rd l1 a) x _ M.out).mono ?_);rintro e w' ⟨rfl,⟨U,rfl⟩⟩;refine⟨_,rfl,?_⟩))
         go_roundg N
         case measure=>have:=J.out;omega
         case rel=>exact⟨(wrap64 (a+1)),zT,p,⟨by have:=J.out;omega⟩,by repeat(first|exact az.refl _|apply az.step)⟩
        ·rw[if_neg o] at H
         obtain⟨Q,R⟩:=bu o;obtain rfl:=Option.some.inj H;have b:0<=(a:Int):=of_decide_eq_true ‹_›;have g:a<(l0.length:Int):=of_decide_eq_true ‹_›;obtain⟨K,n,L⟩:=Kd.bG u.out a b g;cases n;replace b:=eq_true b;replace g:=eq_true g;have j:0<=(a:Int):=of_decide_eq_true ‹_›;have l:a<(l1.length:Int):=of_decide_eq_true ‹_›;obtain⟨S,y,T⟩:=Kd.bG G.out a j l;cases y;replace j:=eq_true j;replace l:=eq_true l;go_wp2_with (first|((with_reducible refine ax (f:=107) rfl ?_);refine zL (some 26) Tryz.func107 #[.int .i64 (rd l0 a),.int .i64 (rd l1 a)] ?_;(with_reducible refine(gH.calls (rd l0 a) (rd l1 a) x _ M.out).mono ?_);rintro e w' ⟨rfl,⟨U,rfl⟩⟩;refine⟨_,rfl,?_⟩))
         go_ret;exact⟨zT,by repeat(first|exact az.refl _|apply az.step)⟩
       ·rw[if_neg s] at H
        exact absurd H (by simp)
     ·rw[if_neg q] at H
      exact absurd H (by simp)
    ·rw[if_neg c4] at H
     exact absurd H (by simp)
   ·rw[if_neg c3] at H
    have O:=decide_eq_false c3;clear c3;by_cases i:(l0.length:Int)<(l1.length:Int)
    ·rw[if_pos i] at H
     have V:=decide_eq_true i;have W:decide (l0.length<l1.length)=true:=decide_eq_true (Int.ofNat_lt.mp i);clear i;obtain rfl:=Option.some.inj H;go_wp2;go_ret;exact⟨zT,by repeat(first|exact az.refl _|apply az.step)⟩
    ·rw[if_neg i] at H
     have V:=decide_eq_false i;have W:decide (l0.length<l1.length)=false:=decide_eq_false (fun h=>i (Int.ofNat_lt.mpr h));clear i;obtain rfl:=Option.some.inj H;go_wp2;go_ret;exact⟨zT,by repeat(first|exact az.refl _|apply az.step)⟩
end Go.Proofs.YtffdiakgjakngaaGreat.P
namespace Go.Proofs.YtffdiakgjakngaaGreat.P
open Go.RowKit Go.Proofs.YtffdiakgjakngaaGreatW.PrintWords Go.Proofs.YtffdiakgjakngaaGreatW.PrintLast Go.Proofs.YtffdiakgjakngaaGreatW.PrintMore
open Go.Sort Go.Shelf
set_option linter.unusedVariables false
set_option linter.unusedSimpArgs false
set_option maxHeartbeats 8000000
set_option maxRecDepth 100000
section
def Ew:Go.Shelf.Ren:=⟨fun|6=>49|15=>106|14=>105|28=>162|29=>163|20=>154|21=>155|22=>156|23=>157|24=>158|25=>159|26=>160|27=>161|46=>188|47=>189|48=>190|49=>191|50=>192|57=>205|n=>n,fun|22=>33|24=>26|25=>79|3=>3|39=>133|0=>0|53=>184|55=>186|4=>4|46=>178|45=>177|50=>173|5=>5|9=>9|66=>209|70=>213|76=>222|77=>55|n=>n,fun|n=>n⟩
theorem Ex:SlLaysF.n6 Tryz.prog Ew:={
 mixed:=by kernel_rfl,
 f6:=⟨Tryz.f49.name,by decide,Tryz.func49.trans (congrArg some (by kernel_rfl))⟩,
 f14:=⟨Tryz.f105.name,by decide,Tryz.func105.trans (congrArg some (by kernel_rfl))⟩,
 f15:=Tryz.func106.trans (congrArg some (by kernel_rfl)),
 f20:=⟨Tryz.f154.name,by decide,Tryz.func154.trans (congrArg some (by kernel_rfl))⟩,
 f21:=⟨Tryz.f155.name,by decide,Tryz.func155.trans (congrArg some (by kernel_rfl))⟩,
 f22:=⟨Tryz.f156.name,by decide,Tryz.func156.trans (congrArg some (by kernel_rfl))⟩,
 f23:=⟨Tryz.f157.name,by decide,Tryz.func157.trans (congrArg some (by kernel_rfl))⟩,
 f24:=⟨Tryz.f158.name,by decide,Tryz.func158.trans (congrArg some (by kernel_rfl))⟩,
 f25:=⟨Tryz.f159.name,by decide,Tryz.func159.trans (congrArg some (by kernel_rfl))⟩,
 f26:=⟨Tryz.f160.name,by decide,Tryz.func160.trans (congrArg some (by kernel_rfl))⟩,
 f27:=⟨Tryz.f161.name,by decide,Tryz.func161.trans (congrArg some (by kernel_rfl))⟩,
 f28:=Tryz.func162.trans (congrArg some (by kernel_rfl)),
 f29:=Tryz.func163.trans (congrArg some (by kernel_rfl)),
 f46:=⟨Tryz.f188.name,by decide,Tryz.func188.trans (congrArg some (by kernel_rfl))⟩,
 f47:=Tryz.func189.trans (congrArg some (by kernel_rfl)),
 f48:=Tryz.func190.trans (congrArg some (by kernel_rfl)),
 f49:=⟨Tryz.f191.name,by decide,Tryz.func191.trans (congrArg some (by kernel_rfl))⟩,
 f50:=⟨Tryz.f192.name,by decide,Tryz.func192.trans (congrArg some (by kernel_rfl))⟩,
 f57:=⟨Tryz.f205.name,by decide,Tryz.func205.trans (congrArg some (by kernel_rfl))⟩,
 t0:=Tryz.underlying0,
 a0:=Tryz.isAgg0,
 z0:=Tryz.sizeOf0,
 v0:=Tryz.zeroValue0,
 t3:=Tryz.underlying3,
 a3:=Tryz.isAgg3,
 z3:=Tryz.sizeOf3,
 v3:=Tryz.zeroValue3,
 t4:=Tryz.underlying4,
 a4:=Tryz.isAgg4,
 z4:=Tryz.sizeOf4,
 v4:=Tryz.zeroValue4,
 t5:=Tryz.underlying5,
 a5:=Tryz.isAgg5,
 z5:=Tryz.sizeOf5,
 v5:=Tryz.zeroValue5,
 t9:=Tryz.underlying9,
 a9:=Tryz.isAgg9,
 z9:=Tryz.sizeOf9,
 v9:=Tryz.zeroValue9,
 t22:=Tryz.underlying33,
 a22:=Tryz.isAgg33,
 z22:=Tryz.sizeOf33,
 v22:=Tryz.zeroValue33,
 a24:=Tryz.isAgg26,
 z24:=Tryz.sizeOf26,
 t25:=Tryz.underlying79,
 a25:=Tryz.isAgg79,
 z25:=Tryz.sizeOf79,
 v25:=Tryz.zeroValue79,
 t39:=Tryz.underlying133,
 a39:=Tryz.isAgg133,
 z39:=Tryz.sizeOf133,
 v39:=Tryz.zeroValue133,
 t45:=Tryz.underlying177,
 a45:=Tryz.isAgg177,
 z45:=Tryz.sizeOf177,
 v45:=Tryz.zeroValue177,
 t46:=Tryz.underlying178,
 a46:=Tryz.isAgg178,
 z46:=Tryz.sizeOf178,
 v46:=Tryz.zeroValue178,
 t50:=Tryz.underlying173,
 a50:=Tryz.isAgg173,
 z50:=Tryz.sizeOf173,
 v50:=Tryz.zeroValue173,
 t53:=Tryz.underlying184,
 a53:=Tryz.isAgg184,
 z53:=Tryz.sizeOf184,
 v53:=Tryz.zeroValue184,
 t55:=Tryz.underlying186,
 a55:=Tryz.isAgg186,
 z55:=Tryz.sizeOf186,
 v55:=Tryz.zeroValue186,
 t66:=Tryz.underlying209,
 a66:=Tryz.isAgg209,
 z66:=Tryz.sizeOf209,
 v66:=Tryz.zeroValue209,
 t70:=Tryz.underlying213,
 a70:=Tryz.isAgg213,
 z70:=Tryz.sizeOf213,
 v70:=Tryz.zeroValue213,
 t76:=Tryz.underlying222,
 a76:=Tryz.isAgg222,
 z76:=Tryz.sizeOf222,
 v76:=Tryz.zeroValue222,
 t77:=Tryz.underlying55,
 a77:=Tryz.isAgg55,
 z77:=Tryz.sizeOf55,
 v77:=Tryz.zeroValue55}
def v_ (G:Nat):Prop:=∀(k:Nat) (A B:Option Addr) (c d:Nat) (a lb:List Int) (r:Int) (W:World),(Kd.int .i64).C W A a.length a->a.length<=c->(Kd.int .i64).C W B lb.length lb->lb.length<=d->da.f k a lb=some r->
  Calls Tryz.prog G #[.slice A a.length c,.slice B lb.length d] W fun e w'=>e= .returned (.int .i64 r)∧az W w'
theorem Ey:v_ 183:=fun k A B c d b lb r W a g hb i h=>by
 have H:=Aside0.mk (da.calls k A c b B d lb r W a g hb i h);clear h a hb;go_enter Tryz.func183,Tryz.ntmps183
 go_wp2_with (go_at_call 51;refine H.out.mono ?_;rintro e w' ⟨rfl,hd⟩;have j:=Aside0.mk hd;clear hd)
 go_ret;exact⟨rfl,j.out⟩
section
variable {α:Type} [Inhabited α] {enc:α->Value}
theorem Ez {w:World} {g n:Nat} {os:Array Obj} {cur:Array Value} {e:TypeId} {fr:Nat×Nat} (d:Array α) (hb:w.heap[g]? =some (.cells cur e fr)):
  (Go.Sort.grow (putRow enc (Sort.ahead w n) g 0 d) os).heap[g]? =some (.cells (putCells enc 0 d cur) e fr):=by
 have a:g<w.heap.size:=(Array.getElem?_eq_some_iff.1 hb).1;rw[heap_grow_old _ _ (by simpa using a)];simp[putRow,mapBlock,Sort.ahead,Array.getElem?_modify,hb,onCells]
theorem wa {w:World} {g n:Nat} {os:Array Obj} (d:Array α):w.grownBy (Go.Sort.grow (putRow enc (Sort.ahead w n) g 0 d) os) (some g):=by
 refine⟨rfl,rfl,rfl,by simp,fun k hk a=>?_⟩;rw[heap_grow_old _ _ (by simpa using hk)];have:g≠k:=fun e=>a (by rw[e])
 simp[putRow,mapBlock,Sort.ahead,Array.getElem?_modify,this]
theorem EA (cur:Array Value) (a:List α) (h:a.length<=cur.size):(putCells enc 0 a.toArray cur).toList.take a.length=a.map enc:=by
 apply List.ext_getElem?
 intro j;by_cases b:j<a.length
 ·rw[List.getElem?_take_of_lt b,Array.getElem?_toList]
  simp[putCells,b,show j<cur.size by omega]
 ·rw[List.getElem?_take_eq_none (by omega),List.getElem?_eq_none (by simp;omega)]
end
theorem EB {G:Nat} (HG:v_ G) (eg:∀args w,(callFunc G args).run Tryz.prog w= .ok (.enter G args) w) {k m g cap base:Nat} {ok:Nat->Prop} {L:List (List Int)} (a:Fin (m+1)->Fin (m+1)->Int) {W:World} (R:L.length=m+1) (hm:m<4000000)
  (hR:Kd.N (Kd.slice 3 (Kd.int .i64)) 26 W base ok (.slice (some ⟨g,0,none⟩) L.length cap) L) (am:∀i j:Fin (m+1),da.f k (L.getD i.1 []) (L.getD j.1 [])=some (a i j)) (hO:SWO (Go.Proofs.ltOf a)):
  Calls Tryz.prog 49 #[.slice (some ⟨g,0,none⟩) L.length cap,.func (.func G) #[] #[]] W fun e w'=>e= .returned (.tuple #[])∧∃idx:List (Fin (m+1)),idx.Perm (List.finRange (m+1))∧idx.Pairwise (fun i j=>Go.Proofs.ltOf a j i=false)∧Kd.N (Kd.slice 3 (Kd.int .i64)) 26 w' base ok (.slice (some ⟨g,0,none⟩) L.length cap) (idx.map fun i=>L.getD i.1 [])∧W.grownBy w' (some g):=by
 obtain⟨S,rows,a9,⟨h1,inner,F,H⟩,hf⟩:=hR;have an:=F;obtain⟨T,F⟩:=an;rcases F with⟨I,_⟩|⟨g2,be,cur,I,ap,z,hn,ar,J,K⟩
 ·cases I
 injection I with r bf av
 injection r with r
 injection r with r
 subst r av;have aQ:(Kd.raw (Kd.slice 3 (Kd.int .i64)).sz).sz=1:=rfl;rw[aQ] at T J K H;rw[Nat.mul_one] at T J K;have U:∀i,i<m+1->rows[i]? =some [inner.getD i undef]:=fun i hi=>by
  have V:rows[i]? =some rows[i]:=List.getElem?_eq_getElem (by omega);have C:=(H.2 i _ V).1;rw[V,<-C,Nat.mul_one,List.take_one,List.head?_drop,List.getD_eq_getElem?_getD,List.getElem?_eq_getElem (show i<inner.length by omega)];rfl
 have X:∀i,i<m+1->(inner.getD i undef).oneCell'=true:=fun i hi=>by
  have h:=H.2 i _ (U i hi);exact h.2.2 _ (by rw[h.1];simp)
 obtain⟨enc,D⟩:∃enc:Fin (m+1)->Value,enc=fun i=>inner.getD i.1 undef:=⟨_,rfl⟩
 have M:∀i:Fin (m+1),Kd.FK (Kd.slice 3 (Kd.int .i64)) W (fun k=>ok k∧some k≠(Value.slice (some ⟨g,0,none⟩) L.length cap).ownBlock) (L.getD i.1 []) [enc i]:=fun i=>by
  have E:L[i.1]? =some (L.getD i.1 []):=by rw[List.getD_eq_getElem?_getD,List.getElem?_eq_getElem (show i.1<L.length by omega)];rfl
  rw[D];exact hf i.1 _ _ E (U i.1 i.2)
 have hlen:(List.finRange (m+1)).toArray.size=m+1:=by simp
 have Y:∀(l:Nat) (os:Array Obj) (o:Array (Fin (m+1))) (b:Nat),b≠g->b<W.heap.size->(sortWorld enc W g 0 l o os).heap[b]? =W.heap[b]? :=fun l os o b hb s=>by
  unfold sortWorld;exact(wa (enc:=enc) (w:=W) (g:=g) (n:=l) (os:=os) o).block b s (fun e=>hb (Option.some.inj e))
 have aB:CmpReads Tryz.prog G #[] enc a g 0 (List.finRange (m+1)).toArray.size W:=fun l os o bg x y=>by
  obtain⟨A,c,ex,aF,aL⟩:=Kd.j6 (M x);obtain⟨B,d,O,aO,aP⟩:=Kd.j6 (M y);injection ex with ex
  injection O with O
  rw[ex,O];have Z:∀b,(ok b∧some b≠(Value.slice (some ⟨g,0,none⟩) L.length cap).ownBlock)->b<W.heap.size->(sortWorld enc W g 0 l o os).heap[b]? =W.heap[b]? :=fun b hb s=>Y l os o b (fun e=>hb.2 (by rw[e];rfl)) s
  refine(HG k A B c d _ _ (a x y) _ (Kd.jE (Kd.oZ aL Z)) aF (Kd.jE (Kd.oZ aP Z)) aO (am x y)).mono ?_;rintro e w' ⟨rfl,hd⟩;exact⟨rfl,hd.out⟩
 have aS:Holds enc W g 0 (List.finRange (m+1)).toArray:=fun j q=>by
  rw[hlen] at q;refine⟨?_,by simp[World.frozen?,z]⟩;have C:(cur.toList.take rows.length)[j]? =inner[j]? :=by rw[K]
  rw[List.getElem?_take_of_lt (by omega),Array.getElem?_toList] at C;simp only[World.cell?,z,Nat.zero_add,Option.isSome_none,Bool.false_eq_true,if_false];rw[C,List.getElem?_eq_getElem (by omega),D];simp[show j<m+1 from q,show j<inner.length by omega]
 have aa:=Any.slices_SortFunc Ex enc (fun i=>by rw[D];exact X i.1 i.2) a hO G #[] g 0 cap (List.finRange (m+1)).toArray W eg aB.lays aS ((Array.getElem?_eq_some_iff.1 z).1) (by rw[hlen];omega);rw[hlen] at aa;rw[R];have a0:Calls Tryz.prog 49 _ _ _:=aa;refine a0.mono ?_;rintro e w' ⟨rfl,d',n,os,hp,hs,rfl⟩;obtain⟨P,_,ab⟩:=hp;rw[hlen] at P;have Q:d'.toList.length=m+1:=by simpa using P
 refine⟨rfl,d'.toList,?_,?_,?_,wa (enc:=enc) (n:=n) (os:=os) d'⟩
 ·have e1:d'.extract 0 (m+1)=d':=Array.extract_eq_self_of_le (by omega)
  rw[e1,Array.extract_eq_self_of_le (by simp)] at ab;exact ab
 ·refine List.pairwise_iff_getElem.2 fun i j hi q a3=>?_
  have h:=hs i j (Nat.zero_le _) a3 (by omega);rw[getElem!_pos d' i (by omega),getElem!_pos d' j (by omega)] at h;simpa using h
 ·have a4:(Go.Sort.grow (putRow enc (Sort.ahead W n) g 0 d') os).heap[g]? =some (.cells (putCells enc 0 d' cur) 26 (0,0)):=Ez d' z
  have a5:(putCells enc 0 d' cur).toList.take (m+1)=d'.toList.map enc:=by
   have h:=EA (enc:=enc) cur d'.toList (by rw[Q];omega);rw[Q] at h;exact h
  refine⟨by rw[R] at S;exact S,d'.toList.map fun i=>[enc i],by simp,⟨fun k hk=>hk.symm,d'.toList.map enc,⟨by rw[aQ];simp,.inr ⟨g,cap,_,?_,ap,a4,?_,ar,?_,?_⟩⟩,?_⟩,?_⟩
  ·simp[P]
  ·simp;omega
  ·rw[aQ];simp[putCells,J]
  ·rw[aQ];simp only[List.length_map,Nat.mul_one,Q];exact a5
  ·refine⟨by rw[aQ];simp,fun j p q=>?_⟩
   rw[List.getElem?_map] at q;obtain⟨i,hi,rfl⟩:=Option.map_eq_some_iff.1 q;have bi:=(List.getElem?_eq_some_iff.1 hi).1;have e2:((d'.toList.map enc).drop (j*(Kd.raw (Kd.slice 3 (Kd.int .i64)).sz).sz)).take (Kd.raw (Kd.slice 3 (Kd.int .i64)).sz).sz=[enc i]:=by
    rw[aQ,Nat.mul_one,List.take_one,List.head?_drop,List.getElem?_map,hi];rfl
   rw[e2];refine⟨rfl,rfl,fun u hu=>?_⟩;rw[List.mem_singleton.1 hu,D];exact X i.1 i.2
  ·intro j x c E v
   rw[List.getElem?_map] at E v;obtain⟨i,hi,rfl⟩:=Option.map_eq_some_iff.1 E;rw[hi] at v;injection v with v
   subst v;refine Kd.kL (Kd.j5 (M i) (fun k hk=>⟨hk.1,hk.2⟩)) (fun b hb s=>Y n os d' b (fun e=>hb.2 (by rw[e];rfl)) s)
end
end Go.Proofs.YtffdiakgjakngaaGreat.P

