/- Balances answers true whatever the input (text 6 of 8): own walks and plain laws; no conditions. -/
import Derived.Shelf.SlSortCmp.NoneTotal
import Derived.Test.YtffdiakgjakngaaGreatBalances5
namespace Go.Proofs.YtffdiakgjakngaaGreat.P
open Go.RowKit Go.Proofs.YtffdiakgjakngaaGreatW.PrintWords Go.Proofs.YtffdiakgjakngaaGreatW.PrintLast Go.Proofs.YtffdiakgjakngaaGreatW.PrintMore
set_option linter.unusedVariables false
set_option linter.unusedSimpArgs false
set_option maxHeartbeats 8000000
set_option maxRecDepth 100000
def et.f (k:Nat) (a:Int) (b:List (S83)):Option (List Int×Int):=(dO.f k a b).bind fun t231=>(if t231=0 then((jm.f k a b).bind fun t232=>(some (t232,0))) else(some (([]:List Int),t231)))
theorem et.mono:∀a0 a k,al (et.f k a0 a) (et.f (k+1) a0 a):=by
 intro a0 a k;unfold et.f;with_reducible repeat' first|exact jm.mono _ _ _|exact dO.mono _ _ _|exact al.refl _|exact al.none _|refine al.ite ?_ ?_|refine al.bind ?_ (fun _=>?_)
theorem et.calls (k:Nat) (g:Int) (j:Option Addr) (l:Nat) (b:List (S83)) (q:List Int) (r:Int) (w:World) (s:Kd.C aW w j b.length b) (u:b.length<=l) (h:et.f k g b=some (q,r)):
  Calls Tryz.prog 35 #[.agg #[.int .i64 g,.slice j b.length l]] w fun e w'=>∃v:Value,e= .returned (.tuple #[v,.int .i64 r])/\Kd.R (Kd.int .i64) 3 w' w.heap.size (fun _=>True) v q/\Below w.heap.size w w':=by
 have J:=Tryz.underlying24;have o:=zA s;have p:=zA u;clear s u;have a:=zA (ao w.heap.size w);unfold et.f at h;have H:=h;clear h;obtain⟨t231,x,H⟩:=zo H;by_cases c3:t231=0
 ·rw[if_pos c3] at H
  obtain⟨z,B⟩:=bG c3;clear c3;obtain⟨t232,D,H⟩:=zo H;simp only[Option.some.injEq,Prod.mk.injEq] at H;obtain⟨rfl,rfl⟩:=H;go_enter Tryz.func35,Tryz.ntmps35
  go_wp2_with (first|((with_reducible refine aJ (N:=1) rfl ?_);refine zX 1 #[.int .i64 g,.slice j b.length l] 24 ?_;intro E m K n hb;have i:=zA (n);have F:=zG a m;have G:=zG a m;replace a:=zS a hb;clear hb n m;obtain⟨L,M,O,P⟩:=ax i)|((with_reducible refine aC (f:=55) rfl ?_);refine zL (some 6) Tryz.func55 #[.agg #[.int .i64 g,.slice j b.length l]] ?_;(with_reducible refine(dO.calls k g _ _ b t231 _ ?af ?ah x.out).mono ?_);(case af=>exact Kd.aq o.out zB);(case ah=>exact p.out);rintro e Q ⟨rfl,hb⟩;refine⟨_,rfl,?_⟩;replace i:=zb i hb;replace a:=zS a hb;(try clear hb);obtain⟨S,T,U,V⟩:=ax i)|((with_reducible refine aC (f:=89) rfl ?_);refine zL (some 11) Tryz.func89 #[.agg #[.int .i64 g,.slice j b.length l]] ?_;(with_reducible refine(jm.calls k g _ _ b t232 _ ?af ?ah D.out).mono ?_);(case af=>exact Kd.aq o.out zB);(case ah=>exact p.out);rintro e W ⟨v233,rfl,y,hb⟩;refine⟨_,rfl,?_⟩;have I:=zA (Kd.bh y (ba zB));replace i:=zb i hb;replace a:=zS a hb;(try clear hb);(try clear y)))
  go_ret2;exact⟨_,zE,by(with_reducible repeat(first|apply Kd.aK|apply Kd.bu|apply Kd.bl));exact I.out,zB⟩
 ·rw[if_neg c3] at H
  obtain⟨z,B⟩:=bI c3;simp only[Option.some.injEq,Prod.mk.injEq] at H;obtain⟨rfl,rfl⟩:=H;go_enter Tryz.func35,Tryz.ntmps35
  go_wp2_with (first|((with_reducible refine aJ (N:=1) rfl ?_);refine zX 1 #[.int .i64 g,.slice j b.length l] 24 ?_;intro E m X n hb;have i:=zA (n);have F:=zG a m;have G:=zG a m;replace a:=zS a hb;clear hb n m;obtain⟨Y,Z,aa,ab⟩:=ax i)|((with_reducible refine aC (f:=55) rfl ?_);refine zL (some 6) Tryz.func55 #[.agg #[.int .i64 g,.slice j b.length l]] ?_;(with_reducible refine(dO.calls k g _ _ b t231 _ ?af ?ah x.out).mono ?_);(case af=>exact Kd.aq o.out zB);(case ah=>exact p.out);rintro e ad ⟨rfl,hb⟩;refine⟨_,rfl,?_⟩;replace i:=zb i hb;replace a:=zS a hb;(try clear hb)))
  go_ret2;exact⟨_,zE,by first|exact Kd.cY _ _ _ _ _|exact Kd.fQ _ _ _ _ _|exact Kd.fR _ _ _ _ _|exact Kd.Q_nil _ _ _ _ _|exact Kd.fw _ _ _ _ _,zB⟩
def dP.f (k:Nat) (b:Int) (g:List (S83)) (l1:List Int):Option (List Int×Int):=(et.f k b g).bind fun a=>(if a.2=0 then((bA.f k l1 b).bind fun t240=>(if t240=0 then((iO.f k a.1 l1).bind fun e=>(some (e.1,e.2))) else(some (([]:List Int),t240)))) else(some (([]:List Int),a.2)))
theorem dP.mono:∀a0 a a2 k,al (dP.f k a0 a a2) (dP.f (k+1) a0 a a2):=by
 intro a0 a a2 k;unfold dP.f;with_reducible repeat' first|exact bA.mono _ _ _|exact iO.mono _ _ _|exact et.mono _ _ _|exact al.refl _|exact al.none _|refine al.ite ?_ ?_|refine al.bind ?_ (fun _=>?_)
theorem dP.calls (k:Nat) (b:Int) (m:Option Addr) (n:Nat) (i:List (S83)) (q:Option Addr) (c1:Nat) (l1:List Int) (z:List Int) (B:Int) (w:World) (D:Kd.C aW w m i.length i) (E:i.length<=n) (F:Kd.C (Kd.int .i64) w q l1.length l1) (G:l1.length<=c1) (h:dP.f k b i l1=some (z,B)):
  Calls Tryz.prog 32 #[.agg #[.int .i64 b,.slice m i.length n],.slice q l1.length c1] w fun e w'=>∃I:Value,e= .returned (.tuple #[I,.int .i64 B])/\Kd.R (Kd.int .i64) 3 w' w.heap.size (fun _=>True) I z/\Below w.heap.size w w':=by
 have aa:=Tryz.underlying24;have s:=zA D;have u:=zA E;clear D E;have v:=zA F;have x:=zA G;clear F G;have a:=zA (ao w.heap.size w);unfold dP.f at h;have H:=h;clear h;obtain⟨⟨t236,t239⟩,y,H⟩:=zo H;dsimp only at H;by_cases c4:t239=0
 ·rw[if_pos c4] at H
  obtain⟨P,Q⟩:=bG c4;clear c4;obtain⟨t240,J,H⟩:=zo H;by_cases r:t240=0
  ·rw[if_pos r] at H
   obtain⟨S,T⟩:=bG r;clear r;obtain⟨⟨t241,t242⟩,U,H⟩:=zo H;dsimp only at H;simp only[Option.some.injEq,Prod.mk.injEq] at H;obtain⟨rfl,rfl⟩:=H;go_enter Tryz.func32,Tryz.ntmps32
   go_wp2_with (first|((with_reducible refine aJ (N:=2) rfl ?_);refine zX 2 #[.int .i64 b,.slice m i.length n] 24 ?_;intro K l w8 o hb;have g:=zA (o);have L:=zG a l;have M:=zG a l;replace a:=zS a hb;clear hb o l;obtain⟨ad,ag,ak,am⟩:=ax g)|((with_reducible refine aC (f:=35) rfl ?_);refine zL (some 11) Tryz.func35 #[.agg #[.int .i64 b,.slice m i.length n]] ?_;(with_reducible refine(et.calls k b _ _ i t236 t239 _ ?af ?ah y.out).mono ?_);(case af=>exact Kd.aq s.out zB);(case ah=>exact u.out);rintro e an ⟨O,rfl,j,hb⟩;refine⟨_,rfl,?_⟩;have p:=zA (Kd.bh j (ba zB));replace g:=zb g hb;replace a:=zS a hb;(try clear hb);(try clear j);obtain⟨ap,ar,av,aB⟩:=ax g)|((with_reducible refine aC (f:=87) rfl ?_);refine zL (some 20) Tryz.func87 #[.slice q l1.length c1,.int .i64 b] ?_;(with_reducible refine(bA.calls k _ _ l1 b t240 _ ?af ?ah J.out).mono ?_);(case af=>exact Kd.aq v.out zB);(case ah=>exact x.out);rintro e w' ⟨rfl,⟨V,rfl⟩⟩;refine⟨_,rfl,?_⟩;obtain⟨W,X,Y⟩:=Kd.bm p.out;subst Y)|((with_reducible refine aC (f:=16) rfl ?_);refine zL (some 26) Tryz.func16 #[.slice W t236.length X,.slice q l1.length c1] ?_;(with_reducible refine(iO.calls k _ _ t236 _ _ l1 t241 t242 _ ?af ?ah ?aU ?aT U.out).mono ?_);(case af=>exact zC (Kd.aH p.out).2.2);(case ah=>exact(Kd.aH p.out).2.1);(case aU=>exact Kd.aq v.out zB);(case aT=>exact x.out);rintro e aF ⟨aL,rfl,j,hb⟩;refine⟨_,rfl,?_⟩;have Z:=zA (Kd.bh (Kd.bR j (Kd.bj (zR p))) (ba zB));replace p:=bU p j hb;replace g:=zb g hb;replace a:=zS a hb;(try clear hb);(try clear j)))
   go_ret2;exact⟨_,zE,by(with_reducible repeat(first|apply Kd.aK|apply Kd.bu|apply Kd.bl));exact Kd.a_ Z.out (fun _ hk=>trivial),zB⟩
  ·rw[if_neg r] at H
   obtain⟨S,T⟩:=bI r;simp only[Option.some.injEq,Prod.mk.injEq] at H;obtain⟨rfl,rfl⟩:=H;go_enter Tryz.func32,Tryz.ntmps32
   go_wp2_with (first|((with_reducible refine aJ (N:=2) rfl ?_);refine zX 2 #[.int .i64 b,.slice m i.length n] 24 ?_;intro K l aO o hb;have g:=zA (o);have L:=zG a l;have M:=zG a l;replace a:=zS a hb;clear hb o l;obtain⟨aP,aR,aS,a0⟩:=ax g)|((with_reducible refine aC (f:=35) rfl ?_);refine zL (some 11) Tryz.func35 #[.agg #[.int .i64 b,.slice m i.length n]] ?_;(with_reducible refine(et.calls k b _ _ i t236 t239 _ ?af ?ah y.out).mono ?_);(case af=>exact Kd.aq s.out zB);(case ah=>exact u.out);rintro e a1 ⟨O,rfl,j,hb⟩;refine⟨_,rfl,?_⟩;have p:=zA (Kd.bh j (ba zB));replace g:=zb g hb;replace a:=zS a hb;(try clear hb);(try clear j);obtain⟨a2,a3,a4,a5⟩:=ax g)|((with_reducible refine aC (f:=87) rfl ?_);refine zL (some 20) Tryz.func87 #[.slice q l1.length c1,.int .i64 b] ?_;(with_reducible refine(bA.calls k _ _ l1 b t240 _ ?af ?ah J.out).mono ?_);(case af=>exact Kd.aq v.out zB);(case ah=>exact x.out);rintro e w' ⟨rfl,⟨V,rfl⟩⟩;refine⟨_,rfl,?_⟩))
   go_ret2;exact⟨_,zE,by first|exact Kd.cY _ _ _ _ _|exact Kd.fQ _ _ _ _ _|exact Kd.fR _ _ _ _ _|exact Kd.Q_nil _ _ _ _ _|exact Kd.fw _ _ _ _ _,zB⟩
 ·rw[if_neg c4] at H
  obtain⟨P,Q⟩:=bI c4;simp only[Option.some.injEq,Prod.mk.injEq] at H;obtain⟨rfl,rfl⟩:=H;go_enter Tryz.func32,Tryz.ntmps32
  go_wp2_with (first|((with_reducible refine aJ (N:=2) rfl ?_);refine zX 2 #[.int .i64 b,.slice m i.length n] 24 ?_;intro K l a9 o hb;have g:=zA (o);have L:=zG a l;have M:=zG a l;replace a:=zS a hb;clear hb o l;obtain⟨be,bf,bg,bi⟩:=ax g)|((with_reducible refine aC (f:=35) rfl ?_);refine zL (some 11) Tryz.func35 #[.agg #[.int .i64 b,.slice m i.length n]] ?_;(with_reducible refine(et.calls k b _ _ i t236 t239 _ ?af ?ah y.out).mono ?_);(case af=>exact Kd.aq s.out zB);(case ah=>exact u.out);rintro e bk ⟨O,rfl,j,hb⟩;refine⟨_,rfl,?_⟩;have p:=zA (Kd.bh j (ba zB));replace g:=zb g hb;replace a:=zS a hb;(try clear hb);(try clear j)))
  go_ret2;exact⟨_,zE,by first|exact Kd.cY _ _ _ _ _|exact Kd.fQ _ _ _ _ _|exact Kd.fR _ _ _ _ _|exact Kd.Q_nil _ _ _ _ _|exact Kd.fw _ _ _ _ _,zB⟩
noncomputable def fM.f (k:Nat) (a:Int) (b:List (S83)) (l1:List Int):Option (Int×Int):=(dP.f k a b l1).bind fun e=>(if e.2=0 then((eJ.f k a b l1).bind fun g=>(if g.2=0 then((eJ.f k a b e.1).bind fun h=>(if h.2=0 then(some (wrap64 (g.1-h.1),0)) else(some (0,h.2)))) else(some (0,g.2)))) else(some (0,e.2)))
theorem fM.calls (k:Nat) (i:Int) (l:Option Addr) (m:Nat) (g:List (S83)) (q:Option Addr) (c1:Nat) (l1:List Int) (O:Int) (P:Int) (w:World) (Q:Kd.C aW w l g.length g) (R:g.length<=m) (S:Kd.C (Kd.int .i64) w q l1.length l1) (T:l1.length<=c1) (h:fM.f k i g l1=some (O,P)):
  Calls Tryz.prog 27 #[.agg #[.int .i64 i,.slice l g.length m],.slice q l1.length c1] w fun e w'=>e= .returned (.tuple #[.int .i64 O,.int .i64 P])/\Below w.heap.size w w':=by
 have ar:=Tryz.underlying24;have r:=zA Q;have s:=zA R;clear Q R;have v:=zA S;have x:=zA T;clear S T;have a:=zA (ao w.heap.size w);unfold fM.f at h;have H:=h;clear h;obtain⟨⟨u,y⟩,D,H⟩:=zo H;dsimp only at H;by_cases c4:y=0
 ·rw[if_pos c4] at H
  obtain⟨W,X⟩:=bG c4;clear c4;obtain⟨⟨F,E⟩,G,H⟩:=zo H;dsimp only at H;by_cases z:E=0
  ·rw[if_pos z] at H
   obtain⟨Y,Z⟩:=bG z;clear z;obtain⟨⟨U,I⟩,V,H⟩:=zo H;dsimp only at H;by_cases B:I=0
   ·rw[if_pos B] at H
    obtain⟨aa,ab⟩:=bG B;clear B;simp only[Option.some.injEq,Prod.mk.injEq] at H;obtain⟨rfl,rfl⟩:=H;go_enter Tryz.func27,Tryz.ntmps27
    go_wp2_with (first|((with_reducible refine aJ (N:=2) rfl ?_);refine zX 2 #[.int .i64 i,.slice l g.length m] 24 ?_;intro J n w9 o hb;have b:=zA (o);have K:=zG a n;have L:=zG a n;replace a:=zS a hb;clear hb o n;obtain⟨aB,aF,aL,aO⟩:=ax b)|((with_reducible refine aC (f:=32) rfl ?_);refine zL (some 13) Tryz.func32 #[.agg #[.int .i64 i,.slice l g.length m],.slice q l1.length c1] ?_;(with_reducible refine(dP.calls k i _ _ g _ _ l1 u y _ ?af ?ah ?aU ?aT D.out).mono ?_);(case af=>exact Kd.aq r.out zB);(case ah=>exact s.out);(case aU=>exact Kd.aq v.out zB);(case aT=>exact x.out);rintro e iB ⟨M,rfl,p,hb⟩;refine⟨_,rfl,?_⟩;have j:=zA (Kd.bh p (ba zB));replace b:=zb b hb;replace a:=zS a hb;(try clear hb);(try clear p);obtain⟨aP,aR,aS,a0⟩:=ax b)|((with_reducible refine aC (f:=41) rfl ?_);refine zL (some 22) Tryz.func41 #[.agg #[.int .i64 i,.slice l g.length m],.slice q l1.length c1] ?_;(with_reducible refine(eJ.calls k i _ _ g _ _ l1 F E _ ?af ?ah ?aU ?aT G.out).mono ?_);(case af=>exact Kd.aq r.out zB);(case ah=>exact s.out);(case aU=>exact Kd.aq v.out zB);(case aT=>exact x.out);rintro e a1 ⟨rfl,hb⟩;refine⟨_,rfl,?_⟩;replace j:=bt j hb;replace b:=zb b hb;replace a:=zS a hb;(try clear hb);obtain⟨a2,a3,a4,a5⟩:=ax b;obtain⟨ad,ag,ak⟩:=Kd.bm j.out;subst ak)|((with_reducible refine aC (f:=41) rfl ?_);refine zL (some 31) Tryz.func41 #[.agg #[.int .i64 i,.slice l g.length m],.slice ad u.length ag] ?_;(with_reducible refine(eJ.calls k i _ _ g _ _ u U I _ ?af ?ah ?aU ?aT V.out).mono ?_);(case af=>exact Kd.aq r.out zB);(case ah=>exact s.out);(case aU=>exact zC (Kd.aH j.out).2.2);(case aT=>exact(Kd.aH j.out).2.1);rintro e a9 ⟨rfl,hb⟩;refine⟨_,rfl,?_⟩;replace j:=bt j hb;replace b:=zb b hb;replace a:=zS a hb;(try clear hb)))
    go_ret2;exact⟨zE,zB⟩
   ·rw[if_neg B] at H
    obtain⟨aa,ab⟩:=bI B;simp only[Option.some.injEq,Prod.mk.injEq] at H;obtain⟨rfl,rfl⟩:=H;go_enter Tryz.func27,Tryz.ntmps27
    go_wp2_with (first|((with_reducible refine aJ (N:=2) rfl ?_);refine zX 2 #[.int .i64 i,.slice l g.length m] 24 ?_;intro J n be o hb;have b:=zA (o);have K:=zG a n;have L:=zG a n;replace a:=zS a hb;clear hb o n;obtain⟨bf,bg,bi,bk⟩:=ax b)|((with_reducible refine aC (f:=32) rfl ?_);refine zL (some 13) Tryz.func32 #[.agg #[.int .i64 i,.slice l g.length m],.slice q l1.length c1] ?_;(with_reducible refine(dP.calls k i _ _ g _ _ l1 u y _ ?af ?ah ?aU ?aT D.out).mono ?_);(case af=>exact Kd.aq r.out zB);(case ah=>exact s.out);(case aU=>exact Kd.aq v.out zB);(case aT=>exact x.out);rintro e bn ⟨M,rfl,p,hb⟩;refine⟨_,rfl,?_⟩;have j:=zA (Kd.bh p (ba zB));replace b:=zb b hb;replace a:=zS a hb;(try clear hb);(try clear p);obtain⟨bo,bv,bw,bx⟩:=ax b)|((with_reducible refine aC (f:=41) rfl ?_);refine zL (some 22) Tryz.func41 #[.agg #[.int .i64 i,.slice l g.length m],.slice q l1.length c1] ?_;(with_reducible refine(eJ.calls k i _ _ g _ _ l1 F E _ ?af ?ah ?aU ?aT G.out).mono ?_);(case af=>exact Kd.aq r.out zB);(case ah=>exact s.out);(case aU=>exact Kd.aq v.out zB);(case aT=>exact x.out);rintro e b0 ⟨rfl,hb⟩;refine⟨_,rfl,?_⟩;replace j:=bt j hb;replace b:=zb b hb;replace a:=zS a hb;(try clear hb);obtain⟨b1,b2,b3,b4⟩:=ax b;obtain⟨am,an,ap⟩:=Kd.bm j.out;subst ap)|((with_reducible refine aC (f:=41) rfl ?_);refine zL (some 31) Tryz.func41 #[.agg #[.int .i64 i,.slice l g.length m],.slice am u.length an] ?_;(with_reducible refine(eJ.calls k i _ _ g _ _ u U I _ ?af ?ah ?aU ?aT V.out).mono ?_);(case af=>exact Kd.aq r.out zB);(case ah=>exact s.out);(case aU=>exact zC (Kd.aH j.out).2.2);(case aT=>exact(Kd.aH j.out).2.1);rintro e b5 ⟨rfl,hb⟩;refine⟨_,rfl,?_⟩;replace j:=bt j hb;replace b:=zb b hb;replace a:=zS a hb;(try clear hb)))
    go_ret2;exact⟨zE,zB⟩
  ·rw[if_neg z] at H
   obtain⟨Y,Z⟩:=bI z;simp only[Option.some.injEq,Prod.mk.injEq] at H;obtain⟨rfl,rfl⟩:=H;go_enter Tryz.func27,Tryz.ntmps27
   go_wp2_with (first|((with_reducible refine aJ (N:=2) rfl ?_);refine zX 2 #[.int .i64 i,.slice l g.length m] 24 ?_;intro J n b6 o hb;have b:=zA (o);have K:=zG a n;have L:=zG a n;replace a:=zS a hb;clear hb o n;obtain⟨b_,b',ca,cb⟩:=ax b)|((with_reducible refine aC (f:=32) rfl ?_);refine zL (some 13) Tryz.func32 #[.agg #[.int .i64 i,.slice l g.length m],.slice q l1.length c1] ?_;(with_reducible refine(dP.calls k i _ _ g _ _ l1 u y _ ?af ?ah ?aU ?aT D.out).mono ?_);(case af=>exact Kd.aq r.out zB);(case ah=>exact s.out);(case aU=>exact Kd.aq v.out zB);(case aT=>exact x.out);rintro e cc ⟨M,rfl,p,hb⟩;refine⟨_,rfl,?_⟩;have j:=zA (Kd.bh p (ba zB));replace b:=zb b hb;replace a:=zS a hb;(try clear hb);(try clear p);obtain⟨cd,ce,cf,ch⟩:=ax b)|((with_reducible refine aC (f:=41) rfl ?_);refine zL (some 22) Tryz.func41 #[.agg #[.int .i64 i,.slice l g.length m],.slice q l1.length c1] ?_;(with_reducible refine(eJ.calls k i _ _ g _ _ l1 F E _ ?af ?ah ?aU ?aT G.out).mono ?_);(case af=>exact Kd.aq r.out zB);(case ah=>exact s.out);(case aU=>exact Kd.aq v.out zB);(case aT=>exact x.out);rintro e ci ⟨rfl,hb⟩;refine⟨_,rfl,?_⟩;replace j:=bt j hb;replace b:=zb b hb;replace a:=zS a hb;(try clear hb)))
   go_ret2;exact⟨zE,zB⟩
 ·rw[if_neg c4] at H
  obtain⟨W,X⟩:=bI c4;simp only[Option.some.injEq,Prod.mk.injEq] at H;obtain⟨rfl,rfl⟩:=H;go_enter Tryz.func27,Tryz.ntmps27
  go_wp2_with (first|((with_reducible refine aJ (N:=2) rfl ?_);refine zX 2 #[.int .i64 i,.slice l g.length m] 24 ?_;intro J n cj o hb;have b:=zA (o);have K:=zG a n;have L:=zG a n;replace a:=zS a hb;clear hb o n;obtain⟨ck,cl,co,cq⟩:=ax b)|((with_reducible refine aC (f:=32) rfl ?_);refine zL (some 13) Tryz.func32 #[.agg #[.int .i64 i,.slice l g.length m],.slice q l1.length c1] ?_;(with_reducible refine(dP.calls k i _ _ g _ _ l1 u y _ ?af ?ah ?aU ?aT D.out).mono ?_);(case af=>exact Kd.aq r.out zB);(case ah=>exact s.out);(case aU=>exact Kd.aq v.out zB);(case aT=>exact x.out);rintro e cr ⟨M,rfl,p,hb⟩;refine⟨_,rfl,?_⟩;have j:=zA (Kd.bh p (ba zB));replace b:=zb b hb;replace a:=zS a hb;(try clear hb);(try clear p)))
  go_ret2;exact⟨zE,zB⟩
def bO.l0:Nat->List Int->List Int->Int->Int->Option (Bool)
 |0,_,_,_,_=>none
 |k+1,b,x1,e,a=>if a<e then(if 0<=a then(if a<(b.length:Int) then(if a<(x1.length:Int) then(if(rd b a)=(rd x1 a) then(bO.l0 k b x1 e (wrap64 (a+1))) else(some false)) else(none)) else(none)) else(none)) else(some true)
def bO.f (k:Nat) (l0:List Int) (l1:List Int):Option (Bool):=if(l0.length:Int)=(l1.length:Int) then(bO.l0 k l0 l1 (l0.length:Int) 0) else(some false)
theorem bO.ct:∀k,(∀a b e g,al (bO.l0 k a b e g) (bO.l0 (k+1) a b e g))
 |0=>fun _ _ _ _ r h=>by simp[bO.l0] at h
 |k+1=>by
  have i:=bO.ct k
  ·intro a b e g
   unfold bO.l0;with_reducible repeat' first|exact i _ _ _ _|exact al.refl _|exact al.none _|refine al.ite ?_ ?_|refine al.bind ?_ (fun _=>?_)
theorem bO.mono:∀a0 a k,al (bO.f k a0 a) (bO.f (k+1) a0 a):=by
 intro a0 a k;have b:=bO.ct k;unfold bO.f;with_reducible repeat' first|exact b _ _ _ _|exact al.refl _|exact al.none _|refine al.ite ?_ ?_|refine al.bind ?_ (fun _=>?_)
theorem bO.calls (k:Nat) (A0:Option Addr) (c0:Nat) (l0:List Int) (v:Option Addr) (c1:Nat) (l1:List Int) (r:Bool) (w:World) (x:Kd.C (Kd.int .i64) w A0 l0.length l0) (y:l0.length<=c0) (z:Kd.C (Kd.int .i64) w v l1.length l1) (B:l1.length<=c1) (h:bO.f k l0 l1=some r):
  Calls Tryz.prog 33 #[.slice A0 l0.length c0,.slice v l1.length c1] w fun e w'=>e= .returned (.bool r)/\aA w w':=by
 have D:=zA x;have U:=zA y;clear x y;have E:=zA z;have V:=zA B;clear z B;unfold bO.f at h;have H:=h;clear h;by_cases c3:(l0.length:Int)=(l1.length:Int)
 ·rw[if_pos c3] at H
  obtain⟨F,G⟩:=bG c3;have I:(l0.length==l1.length)=true:=by first|simpa using c3|(simp at c3⊢;omega)
  clear c3;have m:=zA H;clear H;go_enter Tryz.func33,Tryz.ntmps33
  go_wp2;repeat(go_quiet (fail);try go_wp2)
  go_loopg [13] k (fun J L w'=>∃(a:Int),L= .int .i64 a/\Aside0 (bO.l0 J l0 l1 (l0.length:Int) a=some r)/\Aside0 (J<=k)/\aA w w')
  case atStart=>exact⟨(0),zT,m,⟨aI _⟩,by repeat(first|exact aA.refl _|apply aA.step)⟩
  case round=>
   clear m;clear F G I;obtain⟨a,rfl,q,K,⟨m1,rfl⟩⟩:=hrel;cases gk with
   |zero=>exact absurd q.out (by simp[bO.l0])
   |succ M=>
    have H:=q.out;clear q;simp only[bO.l0] at H;by_cases c4:a<(l0.length:Int)
    ·rw[if_pos c4] at H
     have N:=az c4;clear c4;by_cases n:0<=a
     ·rw[if_pos n] at H
      have W:=az n;clear n;by_cases o:a<(l0.length:Int)
      ·rw[if_pos o] at H
       have X:=az o;clear o;by_cases p:a<(l1.length:Int)
       ·rw[if_pos p] at H
        have Y:=az p;clear p;by_cases l:(rd l0 a)=(rd l1 a)
        ·rw[if_pos l] at H
         obtain⟨O,P⟩:=bG l;clear l;have m:=zA H;clear H;have b:0<=(a:Int):=aw ‹_›;have g:a<(l0.length:Int):=aw ‹_›;obtain⟨Q,s,R⟩:=Kd.bM D.out a b g;cases s;replace b:=eq_true b;replace g:=eq_true g;have i:0<=(a:Int):=aw ‹_›;have j:a<(l1.length:Int):=aw ‹_›;obtain⟨S,u,T⟩:=Kd.bM E.out a i j;cases u;replace i:=eq_true i;replace j:=eq_true j;go_wp2;repeat(go_quiet (fail);try go_wp2)
         go_roundg M
         case measure=>have:=K.out;omega
         case rel=>exact⟨(wrap64 (a+1)),zT,m,⟨by have:=K.out;omega⟩,by repeat(first|exact aA.refl _|apply aA.step)⟩
        ·rw[if_neg l] at H
         obtain⟨O,P⟩:=bI l;obtain rfl:=aE H;have b:0<=(a:Int):=aw ‹_›;have g:a<(l0.length:Int):=aw ‹_›;obtain⟨Q,s,R⟩:=Kd.bM D.out a b g;cases s;replace b:=eq_true b;replace g:=eq_true g;have i:0<=(a:Int):=aw ‹_›;have j:a<(l1.length:Int):=aw ‹_›;obtain⟨S,u,T⟩:=Kd.bM E.out a i j;cases u;replace i:=eq_true i;replace j:=eq_true j;go_wp2;repeat(go_quiet (fail);try go_wp2)
         go_ret;exact⟨zT,by repeat(first|exact aA.refl _|apply aA.step)⟩
       ·rw[if_neg p] at H
        exact absurd H (by simp)
      ·rw[if_neg o] at H
       exact absurd H (by simp)
     ·rw[if_neg n] at H
      exact absurd H (by simp)
    ·rw[if_neg c4] at H
     have N:=aZ c4;clear c4;obtain rfl:=aE H;go_wp2;repeat(go_quiet (fail);try go_wp2)
     go_ret;exact⟨zT,by repeat(first|exact aA.refl _|apply aA.step)⟩
 ·rw[if_neg c3] at H
  obtain⟨F,G⟩:=bI c3;have I:(l0.length==l1.length)=false:=by first|simpa using c3|(simp at c3⊢;omega)
  obtain rfl:=aE H;go_enter Tryz.func33,Tryz.ntmps33
  go_wp2;repeat(go_quiet (fail);try go_wp2)
  go_ret;exact⟨zT,by repeat(first|exact aA.refl _|apply aA.step)⟩
theorem r9 {n:Nat} {E:List S83} {d:List Int} (h:dX n 0 E d) (a:cD n E=0) {n' g:Int} {b:List S83} (i:Ev (fun k=>fk.f k n E) (n',b,(0:Int))) (j:Ev (fun k=>fj.f k n' b) (g,(0:Int))) (l:T.e7 n (ai E) g) {r:Int} (m:Rk n (ai E) d r):
  Ev (fun k=>eJ.f k n E d) (r,(0:Int)):=by
 unfold eJ.f;refine Ev.bind (Fl h a) ?_;have e:=h.ok a;simp only[if_true,aV];simp only[Int.ofNat_zero] at e;simp only[if_pos e];refine Ev.bind i ?_;simp only[if_true];refine Ev.bind j ?_;have o:T.sN (T.can n (ai E)) n=2*g-2:=l;simp only[if_true,if_pos o,xr h.n1 m];exact Ev.const _
mutual
def cy.j0:Nat->Int->Bool->Int->List (S83)->Option ((List (List Int))×Int)
 |0,_,_,_,_=>none
 |k+1,x1,b,e,g=>if b=true then(some (([]:List (List Int)),2)) else((iz.f k e g x1).bind fun a=>(if a.2=0 then(cy.l0 k x1 ([]:List (List Int)) a.1 (a.1.length:Int) 0) else(some (([]:List (List Int)),a.2))))
def cy.l0:Nat->Int->List (List Int)->List (List Int)->Int->Int->Option ((List (List Int))×Int)
 |0,_,_,_,_,_=>none
 |k+1,x1,b,e,g,a=>if a<g then(if 0<=a then(if a<(e.length:Int) then((gD.f (aY e a)).bind fun h=>(if 0<=x1 then(if x1<(h.length:Int) then(if b.length<5864062014805 then(cy.l0 k x1 (b++[(h.set (x1:Int).toNat (-1))]) e g (wrap64 (a+1))) else(none)) else(none)) else(none))) else(none)) else(none)) else(some (b,0))
end
def cy.f (k:Nat) (a:Int) (e:List (S83)) (b:Int):Option ((List (List Int))×Int):=(dO.f k a e).bind fun g=>(if g=0 then(if b<0 then(cy.j0 k b true a e) else(cy.j0 k b (decide (b>=a)) a e)) else(some (([]:List (List Int)),g)))
theorem cy.ct:∀k,(∀a b e g,al (cy.j0 k a b e g) (cy.j0 (k+1) a b e g))/\(∀a b e g i,al (cy.l0 k a b e g i) (cy.l0 (k+1) a b e g i))
 |0=>⟨fun _ _ _ _ r h=>by simp[cy.j0] at h,fun _ _ _ _ _ r h=>by simp[cy.l0] at h⟩
 |k+1=>by
  obtain⟨j,l⟩:=cy.ct k;refine⟨?_,?_⟩
  ·intro a b e g
   unfold cy.j0;with_reducible repeat' first|exact j _ _ _ _|exact l _ _ _ _ _|exact dO.mono _ _ _|exact iz.mono _ _ _ _|exact al.refl _|exact al.none _|refine al.ite ?_ ?_|refine al.bind ?_ (fun _=>?_)
  ·intro a b e g i
   unfold cy.l0;with_reducible repeat' first|exact j _ _ _ _|exact l _ _ _ _ _|exact dO.mono _ _ _|exact iz.mono _ _ _ _|exact al.refl _|exact al.none _|refine al.ite ?_ ?_|refine al.bind ?_ (fun _=>?_)
theorem cy.mono:∀a0 a a2 k,al (cy.f k a0 a a2) (cy.f (k+1) a0 a a2):=by
 intro a0 a a2 k;obtain⟨b,e⟩:=cy.ct k;unfold cy.f;with_reducible repeat' first|exact b _ _ _ _|exact e _ _ _ _ _|exact dO.mono _ _ _|exact iz.mono _ _ _ _|exact al.refl _|exact al.none _|refine al.ite ?_ ?_|refine al.bind ?_ (fun _=>?_)
theorem cy.calls (k:Nat) (n:Int) (z:Option Addr) (B:Nat) (m:List (S83)) (l:Int) (O:List (List Int)) (P:Int) (w:World) (b4:Kd.C aW w z m.length m) (b5:m.length<=B) (h:cy.f k n m l=some (O,P)):
  Calls Tryz.prog 15 #[.agg #[.int .i64 n,.slice z m.length B],.int .i64 l] w fun e w'=>∃b6:Value,e= .returned (.tuple #[b6,.int .i64 P])/\Kd.N (Kd.slice 3 (Kd.int .i64)) 26 w' w.heap.size (fun a=>(w.heap.size<=a)) b6 O/\Below w.heap.size w w':=by
 have ew:=Tryz.underlying24;have aa:=zA b4;have ab:=zA b5;clear b4 b5;have j:=zA (ao w.heap.size w);unfold cy.f at h;have H:=h;clear h;obtain⟨a5,A3,H⟩:=zo H;by_cases c4:a5=0
 ·rw[if_pos c4] at H
  obtain⟨b',ca⟩:=bG c4;clear c4;have a9:=zA H;clear H;go_enter Tryz.func15,Tryz.ntmps15
  go_upto_region 4 with (first|((with_reducible refine aJ (N:=2) rfl ?_);refine zX 2 #[.int .i64 n,.slice z m.length B] 24 ?_;intro o hg w6 U hb;have g:=zA (U);have c2:=zG j hg;have c3:=zG j hg;replace j:=zS j hb;clear hb U hg;obtain⟨c5,c6,c7,c8⟩:=ax g)|((with_reducible refine aC (f:=55) rfl ?_);refine zL (some 14) Tryz.func55 #[.agg #[.int .i64 n,.slice z m.length B]] ?_;(with_reducible refine(dO.calls k n _ _ m a5 _ ?af ?ah A3.out).mono ?_);(case af=>exact Kd.aq aa.out zB);(case ah=>exact ab.out);rintro e w8 ⟨rfl,hb⟩;refine⟨_,rfl,?_⟩;replace g:=zb g hb;replace j:=zS j hb;(try clear hb)))
  (try simp only[Act.put,List.setIfInBounds_toArray,List.set_cons_zero,List.set_cons_succ])
  go_cut [25] (fun v25 wc=>∃(J:Nat) (ad:Bool),v25= .bool ad/\Aside0 (cy.j0 J l ad n m=some (O,P))/\Aside0 (J<=k)/\Aside0 (wc.heap[o]? =some (.cells #[.int .i64 n,(.slice z m.length B)] 24 (0,0)))/\Aside0 (Below w.heap.size w wc))
  case first=>
   have H:=a9.out;clear a9;by_cases Q:l<0
   ·rw[if_pos Q] at H
    have W:=az Q;clear Q
    (first|rw[W]|(simp only[a8,bb];rw[W])|skip)
    have G:=zA H;clear H;go_wp2;go_meet
    case rel=>exact⟨_,(true),zT,G,⟨by first|omega|exact aI _⟩,⟨zK g⟩,⟨zB⟩⟩
   ·rw[if_neg Q] at H
    have W:=aZ Q;clear Q
    (first|rw[W]|(simp only[a8,bb];rw[W])|skip)
    have G:=zA H;clear H;obtain⟨e0,e1,e2,e3⟩:=ax g;go_wp2;go_meet
    case rel=>exact⟨_,(decide (l>=n)),zT,G,⟨by first|omega|exact aI _⟩,⟨zK g⟩,⟨zB⟩⟩
  case rest=>
   clear a9;clear b' ca c5 c6 c7 c8;obtain⟨J,ad,rfl,K,cb,g,j⟩:=hcut;cases J with
   |zero=>exact absurd K.out (by simp[cy.j0])
   |succ ag=>
    have H:=K.out;clear K;simp only[cy.j0] at H;by_cases ak:ad=true
    ·subst ak
     replace H:=zi H;simp only[Option.some.injEq,Prod.mk.injEq] at H;obtain⟨rfl,rfl⟩:=H;go_wp2;go_ret2;exact⟨_,zE,by first|exact Kd.fw _ _ _ _ _|exact Kd.fQ _ _ _ _ _|exact Kd.fR _ _ _ _ _|exact Kd.Q_nil _ _ _ _ _|exact Kd.cY _ _ _ _ _,zB⟩
    ·replace ak:=Bool.eq_false_iff.mpr ak
     subst ak;replace H:=zj H;obtain⟨⟨i,be⟩,cc,H⟩:=zo H;dsimp only at H;by_cases X:be=0
     ·rw[if_pos X] at H
      obtain⟨cd,ce⟩:=bG X;clear X;have G:=zA H;clear H;obtain⟨c',dd,dk,dl⟩:=ax g;go_wp2_with (first|((with_reducible refine aC (f:=56) rfl ?_);refine zL (some 29) Tryz.func56 #[.agg #[.int .i64 n,.slice z m.length B],.int .i64 l] ?_;(with_reducible refine(iz.calls ag n _ _ m l i be _ ?af ?ah cc.out).mono ?_);(case af=>exact Kd.aq aa.out zB);(case ah=>exact ab.out);rintro e e4 ⟨ds,rfl,y,hb⟩;refine⟨_,rfl,?_⟩;have bf:=zA (Kd.kF (Kd.dz (ok':=fun a=>(w.heap.size<=a)/\a≠o) y (fun a Y=>⟨(Nat.le_trans (ba zB) Y),(Kd.jM (zK g) a Y)⟩)) (ba zB));replace g:=zb g hb;replace j:=zS j hb;(try clear hb);(try clear y);obtain⟨cf,F,dv⟩:=Kd.jt bf.out;subst dv))
      go_loopg [9,37] ag (fun J v9 v37 w'=>∃(I:List (List Int)) (q:Int),v37= .int .i64 q/\Aside0 (cy.l0 J l I i (i.length:Int) q=some (O,P))/\Aside0 (J<=ag)/\Aside0 (Kd.N (Kd.slice 3 (Kd.int .i64)) 26 w' w.heap.size (fun a=>(w.heap.size<=a)/\some a≠((.slice cf i.length F):Value).ownBlock/\a≠o) v9 I)/\Aside0 (Kd.N (Kd.slice 3 (Kd.int .i64)) 26 w' w.heap.size (fun a=>(w.heap.size<=a)/\some a≠(v9:Value).ownBlock/\a≠o) (.slice cf i.length F) i)/\Aside0 (w'.heap[o]? =some (.cells #[.int .i64 n,(.slice z m.length B)] 24 (0,0)))/\Aside0 (Below w.heap.size w w'))
      case atStart=>exact⟨(([]:List (List Int))),(0),zT,G,⟨aI _⟩,⟨by first|exact Kd.fw _ _ _ _ _|exact Kd.fQ _ _ _ _ _|exact Kd.fR _ _ _ _ _|exact Kd.Q_nil _ _ _ _ _|exact Kd.cY _ _ _ _ _⟩,⟨by(with_reducible repeat(first|apply Kd.dA|apply Kd.eG|apply Kd.ee));exact Kd.dz bf.out (fun _ hk=>⟨hk.1,⟨(by simp[Value.ownBlock]),hk.2⟩⟩)⟩,⟨zK g⟩,⟨zB⟩⟩
      case round=>
       clear G;clear cd ce c' dd dk dl;obtain⟨I,q,rfl,K,ch,D,s,g,j⟩:=hrel;cases gk with
       |zero=>exact absurd K.out (by simp[cy.l0])
       |succ k2=>
        have H:=K.out;clear K;simp only[cy.l0] at H;by_cases S:q<(i.length:Int)
        ·rw[if_pos S] at H
         have d0:=az S;clear S;by_cases am:0<=q
         ·rw[if_pos am] at H
          have e5:=az am;clear am;by_cases an:q<(i.length:Int)
          ·rw[if_pos an] at H
           have e6:=az an;clear an;obtain⟨r,d1,H⟩:=zo H;by_cases ap:0<=l
           ·rw[if_pos ap] at H
            have e':=az ap;clear ap;by_cases ar:l<(r.length:Int)
            ·rw[if_pos ar] at H
             have fb:=az ar;clear ar;obtain⟨av,bi⟩:∃y_:List Int,y_=(r.set (l:Int).toNat (-1)):=⟨_,rfl⟩;replace H:(if I.length<5864062014805 then(cy.l0 k2 l (I++[av]) i (i.length:Int) (wrap64 (q+1))) else(none))=some (O,P):=zh bi H;have d2:=zA bi;clear bi;by_cases aR:I.length<5864062014805
             ·rw[if_pos aR] at H
              have d3:=zA aR;clear aR;obtain⟨ci,bn⟩:∃y_:List (List Int),y_=(I++[av]):=⟨_,rfl⟩;replace H:(cy.l0 k2 l ci i (i.length:Int) (wrap64 (q+1)))=some (O,P):=zh bn H;have d4:=zA bn;clear bn;have G:=zA H;clear H;have a0:0<=(q:Int):=aw ‹_›;have a2:q<(i.length:Int):=aw ‹_›;obtain⟨L,d5,d6,d7,d8,cj,ck⟩:=fy (Kd.fx s.out).2.2 q a0 a2;cases d7;obtain⟨fd,d9,ea,cl⟩:=Kd.kG s.out [] q a0 (by first|exact a2|exact aw ‹_› |(have e_:=(Kd.fx s.out).1;omega));obtain⟨fo,fq,rfl,bo,bv⟩:=Kd.iS ea;have a3:=cl 0 _ rfl;rw[Nat.add_zero,show ((Kd.slice 3 (Kd.int .i64))).sz=1 from rfl,Nat.mul_one] at a3;replace a3:=aE (a3.symm.trans d8);injection a3 with co eb cq
              rw[co] at bv;rw[cq] at bo;have T:=zA (show Kd.V (Kd.int .i64) 3 _ w.heap.size _ _ (aY i q) from Kd.lx bo bv);clear co eb cq bv bo;clear cl d9;have Z:=zA ck;have ed:=zA cj;clear ck cj;replace a0:=eq_true a0;replace a2:=eq_true a2;go_wp2_with (first|((with_reducible refine aC (f:=57) rfl ?_);refine zL (some 42) Tryz.func57 #[.slice d5 (aY i q).length d6] ?_;(with_reducible refine(gD.calls _ _ (aY i q) r _ ?af ?ah d1.out).mono ?_);(case af=>repeat(first|exact(by repeat(first|(with_reducible exact Z.out)|(with_reducible refine Kd.bz ?_ _)|(with_reducible refine Kd.dR ?_ _)|(with_reducible refine Kd.dy ?_)|exact Z.out))|(with_reducible refine Kd.bz ?_ _)|(with_reducible refine Kd.dR ?_ _)|(with_reducible refine Kd.dy ?_)));(case ah=>exact ed.out);rintro e cr ⟨fr,rfl,y,hb⟩;refine⟨_,rfl,?_⟩;replace D:=fS D y hb;replace s:=fS s y hb;replace T:=zA (Kd.l7 (by(with_reducible repeat(first|apply Kd.V_alloc|apply Kd.hZ|apply Kd.V_drew));exact T.out) (Kd.dF y) hb);have u:=zA (Kd.bh (Kd.nc (M:=fun a=>(w.heap.size<=a)) y (ba zB) (fun a h_=>h_)) (ba zB));replace g:=zb g hb;replace Z:=zA (Kd.aq (by repeat(first|(with_reducible exact Z.out)|(with_reducible refine Kd.bz ?_ _)|(with_reducible refine Kd.dR ?_ _)|(with_reducible refine Kd.dy ?_)|exact Z.out)) hb);replace j:=zS j hb;(try clear hb);(try clear y);have bw:0<=(l:Int):=aw ‹_›;have bx:(l:Int)<((r.length:Int):Int):=aw ‹_›;obtain⟨x,E,cs,cv,ek,ft,cx⟩:=Kd.fs u.out (by omega);(first|cases cs|(injection cs with a4 el em;(first|subst a4|(injection a4 with a4;subst a4));subst em;clear el));have er:=zA cv;have fv:=zA cx;clear cv ek cx;obtain⟨f0,f1⟩:=Kd.bT 0 u.out (l:Int) bw bx;replace bw:=eq_true bw;replace bx:=eq_true bx;have n_:=zA (Kd.a_ (ok':=(fun a=>(w.heap.size<=a))) u.out (fun a hk=>hk.1));clear u;have u:=n_;clear n_;obtain⟨f2,f3⟩:=Kd.bT 0 u.out (l:Int) (aw ‹_›) (aw ‹_›);have b0:=Kd.dm u.out (l:Int) (-1))|((with_reducible refine jO (t:=3) (p:=45) rfl ?_);refine jN (t:=3) (p:=45) (v:=?Hd) (w1:=(cr.setCell ⟨x,(l:Int).toNat,none⟩ (.int .i64 (-1)))) ?hg ?ho ?hn ?hr ?_;(case ho=>rfl);(case hg=>rfl);(case hn=>rfl);(case hr=>first|(go_simp;done)|(go_simp;rfl));intro b1 hw;have hg:cr.grownBy b1 (some x):=(by rw[hw];exact b0.2);have c1:Kd.R (Kd.int .i64) 3 b1 w.heap.size (fun a=>(w.heap.size<=a)) (.slice (some ⟨x,0,none⟩) r.length E) av:=(by rw[hw,d2.out];exact b0.1);clear b0;replace D:=zA (Kd.l6 (v:=(.slice (some ⟨x,0,none⟩) r.length E)) (v1:=(.slice (some ⟨x,0,none⟩) r.length E)) (ok:=(fun a=>(w.heap.size<=a)/\some a≠(.slice (some L) i.length F:Value).ownBlock/\a≠o)) (zN D) hg (.inl rfl));replace s:=zA (Kd.l6 (v:=(.slice (some ⟨x,0,none⟩) r.length E)) (v1:=(.slice (some ⟨x,0,none⟩) r.length E)) (ok:=(fun a=>(w.heap.size<=a)/\some a≠(u9:Value).ownBlock/\a≠o)) (zN s) hg (.inl rfl));replace g:=zA (cT (zK g) hg (Kd.di u.out g.out (by decide)));replace T:=zA (Kd.oE (v:=(.slice (some ⟨x,0,none⟩) r.length E)) (v1:=(.slice (some ⟨x,0,none⟩) r.length E)) (ok:=(fun a=>(w.heap.size<=a)/\some a≠(u9:Value).ownBlock/\some a≠(.slice (some L) i.length F:Value).ownBlock/\a≠o)) (by(with_reducible repeat(first|apply Kd.V_alloc|apply Kd.hZ|apply Kd.V_drew));exact Kd.ly T.out (fun _ hk=>⟨⟨hk.1.1.1,⟨hk.1.1.2.1,⟨hk.1.2,hk.1.1.2.2⟩⟩⟩,hk.2⟩)) hg (.inl rfl));replace u:=zA (c1);replace j:=zA ((by rw[hw];exact dG (j.out) er.out:Below w.heap.size w b1));clear hg hw c1)|((with_reducible refine l5 (b:=.append) (xs:=#[.tmp 46,.tmp 48]) rfl ?_);at_builtin;refine Kd.tq (Kd.slice 3 (Kd.int .i64)) (w0:=w) w.heap.size rfl (.tmp 46) (.tmp 48) 33 26 (.slice none 0 0) 24 rfl Tryz.underlying33 qt rfl (by decide) (by omega) u9 I av [.slice (some ⟨x,0,none⟩) r.length E] (fun a=>(w.heap.size<=a)/\some a≠(.slice (some L) i.length F:Value).ownBlock/\a≠o) (fun a=>((fun a=>(w.heap.size<=a)/\some a≠(.slice (some L) i.length F:Value).ownBlock/\a≠o)) a/\some a≠(u9:Value).ownBlock) rfl rfl ?aP (fun _ hk=>hk) ?aF ?aO ?aB ?aS ?aL ?_;(case aP=>have es:=(Kd.aH u.out).1;have b2:=zA u.out;rw[es] at b2⊢;exact(Kd.qi (Kd.aH (Kd.a_ (ok':=(fun a=>((fun a=>(w.heap.size<=a)/\some a≠(.slice (some L) i.length F:Value).ownBlock/\a≠o)) a/\some a≠(u9:Value).ownBlock)) (Kd.gL (Kd.kx (Kd.kx (b2.out) (Kd.kE s.out) (by decide)) (Kd.kE D.out) (by decide)) g.out (by decide)) (fun a hk=>⟨⟨hk.1.1.1,⟨hk.1.1.2,hk.2⟩⟩,hk.1.2⟩))).2.1 (Kd.qd (Kd.a_ (ok':=(fun a=>((fun a=>(w.heap.size<=a)/\some a≠(.slice (some L) i.length F:Value).ownBlock/\a≠o)) a/\some a≠(u9:Value).ownBlock)) (Kd.gL (Kd.kx (Kd.kx (b2.out) (Kd.kE s.out) (by decide)) (Kd.kE D.out) (by decide)) g.out (by decide)) (fun a hk=>⟨⟨hk.1.1.1,⟨hk.1.1.2,hk.2⟩⟩,hk.1.2⟩)))));(case aB=>exact zB);(case aF=>exact(fun a hk=>⟨(Nat.le_trans (ba zB) hk),Kd.jL (Kd.oD (zN s)) a hk,Kd.jM (zK g) a hk⟩));(case aO=>exact(by(with_reducible repeat(first|apply Kd.dA|apply Kd.eG|apply Kd.ee));exact Kd.dz D.out (fun _ hk=>⟨hk.1.1,⟨hk.1.2.1,hk.1.2.2⟩⟩)));(case aS=>exact(ba zB));(case aL=>have:=d3.out;omega);intro f4 f5 ho hb hg b3;rw[<-d4.out] at ho;replace s:=zA (Kd.l6 (ok:=(fun a=>(w.heap.size<=a)/\some a≠(.slice (some ⟨x,0,none⟩) r.length E:Value).ownBlock/\a≠o)) (by(with_reducible repeat(first|apply Kd.dA|apply Kd.eG|apply Kd.ee));exact Kd.dz s.out (fun _ hk=>⟨⟨hk.1.1,⟨hk.2,hk.1.2.2⟩⟩,hk.1.2.1⟩)) hg b3);replace g:=zA (cT (zK g) hg (Kd.Ab D.out g.out (by decide)));replace T:=zA (Kd.oE (ok:=(fun a=>(w.heap.size<=a)/\some a≠(.slice (some L) i.length F:Value).ownBlock/\some a≠(.slice (some ⟨x,0,none⟩) r.length E:Value).ownBlock/\a≠o)) (by(with_reducible repeat(first|apply Kd.V_alloc|apply Kd.hZ|apply Kd.V_drew));exact Kd.ly T.out (fun _ hk=>⟨⟨hk.1.1,⟨hk.1.2.2.1,⟨hk.2,hk.1.2.2.2⟩⟩⟩,hk.1.2.1⟩)) hg b3);replace j:=zA (hb);have ev:=zA (ho);clear D u;clear ho hb hg b3))
              go_roundg k2
              case measure=>have:=cb.out;have:=ch.out;omega
              case rel=>exact⟨(ci),(wrap64 (q+1)),zT,G,⟨by have:=cb.out;have:=ch.out;omega⟩,⟨zN ev⟩,⟨by(with_reducible repeat(first|apply Kd.dA|apply Kd.eG|apply Kd.ee));exact Kd.dz s.out (fun _ hk=>⟨hk.1.1,⟨hk.2,hk.1.2.2⟩⟩)⟩,⟨zK g⟩,⟨zB⟩⟩
             ·rw[if_neg aR] at H
              exact absurd H (by simp)
            ·rw[if_neg ar] at H
             exact absurd H (by simp)
           ·rw[if_neg ap] at H
            exact absurd H (by simp)
          ·rw[if_neg an] at H
           exact absurd H (by simp)
         ·rw[if_neg am] at H
          exact absurd H (by simp)
        ·rw[if_neg S] at H
         have d0:=aZ S;clear S;simp only[Option.some.injEq,Prod.mk.injEq] at H;obtain⟨rfl,rfl⟩:=H;go_wp2;go_ret2;exact⟨_,zE,by(with_reducible repeat(first|apply Kd.dA|apply Kd.eG|apply Kd.ee));exact Kd.dz D.out (fun _ hk=>hk.1),zB⟩
     ·rw[if_neg X] at H
      obtain⟨cd,ce⟩:=bI X;simp only[Option.some.injEq,Prod.mk.injEq] at H;obtain⟨rfl,rfl⟩:=H;obtain⟨f6,f7,f8,f9⟩:=ax g;go_wp2_with (first|((with_reducible refine aC (f:=56) rfl ?_);refine zL (some 29) Tryz.func56 #[.agg #[.int .i64 n,.slice z m.length B],.int .i64 l] ?_;(with_reducible refine(iz.calls ag n _ _ m l i be _ ?af ?ah cc.out).mono ?_);(case af=>exact Kd.aq aa.out zB);(case ah=>exact ab.out);rintro e f' ⟨ds,rfl,y,hb⟩;refine⟨_,rfl,?_⟩;have bf:=zA (Kd.kF (Kd.dz (ok':=fun a=>(w.heap.size<=a)/\a≠o) y (fun a Y=>⟨(Nat.le_trans (ba zB) Y),(Kd.jM (zK g) a Y)⟩)) (ba zB));replace g:=zb g hb;replace j:=zS j hb;(try clear hb);(try clear y)))
      go_ret2;exact⟨_,zE,by first|exact Kd.fw _ _ _ _ _|exact Kd.fQ _ _ _ _ _|exact Kd.fR _ _ _ _ _|exact Kd.Q_nil _ _ _ _ _|exact Kd.cY _ _ _ _ _,zB⟩
 ·rw[if_neg c4] at H
  obtain⟨b',ca⟩:=bI c4;simp only[Option.some.injEq,Prod.mk.injEq] at H;obtain⟨rfl,rfl⟩:=H;go_enter Tryz.func15,Tryz.ntmps15
  go_wp2_with (first|((with_reducible refine aJ (N:=2) rfl ?_);refine zX 2 #[.int .i64 n,.slice z m.length B] 24 ?_;intro o hg gb U hb;have g:=zA (U);have c2:=zG j hg;have c3:=zG j hg;replace j:=zS j hb;clear hb U hg;obtain⟨gc,gd,ge,gf⟩:=ax g)|((with_reducible refine aC (f:=55) rfl ?_);refine zL (some 14) Tryz.func55 #[.agg #[.int .i64 n,.slice z m.length B]] ?_;(with_reducible refine(dO.calls k n _ _ m a5 _ ?af ?ah A3.out).mono ?_);(case af=>exact Kd.aq aa.out zB);(case ah=>exact ab.out);rintro e gg ⟨rfl,hb⟩;refine⟨_,rfl,?_⟩;replace g:=zb g hb;replace j:=zS j hb;(try clear hb)))
  go_ret2;exact⟨_,zE,by first|exact Kd.fw _ _ _ _ _|exact Kd.fQ _ _ _ _ _|exact Kd.fR _ _ _ _ _|exact Kd.Q_nil _ _ _ _ _|exact Kd.cY _ _ _ _ _,zB⟩
theorem xt {n:Nat} {E:List S83} (a:E.length<=1000) (b:cD n E=0) (hp:partsOf E n=1):Ev (fun k=>dO.f k n E) 0:=by
 unfold dO.f;refine Ev.bind (rY a b hp) ?_;simp only[if_true];exact Ev.const _
theorem Curve.gR {n:Nat} {E:List S83} {d:List Int} (h:Curve n E d) (hn:1<=n) {c:List Int} (b:c.length=n) (hb:∀v:Nat,v<n-> -200<=rd c v/\rd c v<=200):dX n 0 E c:=by
 have a:=h.small 0 (by omega);have e:=a.n5;have g:=a.len;have i:=h.val;exact⟨hn,by omega,by omega,by omega,a.right,a.conn,by omega,b,hb⟩
def nW (v:Int) (x:S83):Int:=if x.f0≠x.f1/\(x.f0=v\/x.f1=v) then x.f2 else 0
theorem xu {v:Int} {x:S83} (e:x.f0=x.f1):nW v x=0:=if_neg (fun h=>h.1 e)
theorem xw {v:Int} {x:S83} (e:¬x.f0=x.f1) (h:x.f0=v\/x.f1=v):nW v x=x.f2:=if_pos ⟨e,h⟩
theorem Fy {v:Int} {x:S83} (a:¬x.f0=v) (h1:¬x.f1=v):nW v x=0:=if_neg (fun h=>h.2.elim a h1)
def ko (v:Nat):List S83->Int
 |[]=>0
 |x::E=>nW v x+ko v E
theorem r_ {n:Nat} {u:Nat} (hu:u<n):∀(E:List S83) (f:Nat->Nat->Int),(∀x∈E,b8 n x=true/\x.f0<=x.f1/\(x.f0≠x.f1->f x.f0.toNat x.f1.toNat=0/\f x.f1.toNat x.f0.toNat=0))->E.Pairwise iG->T.val n (E.foldl cW f) u=T.val n f u+ko u E
 |[],f,_,_=>by simp[ko]
 |x::E,f,h,hp=>by
  obtain⟨l,g⟩:=List.pairwise_cons.1 hp;obtain⟨h1,s,b⟩:=h x (List.mem_cons_self ..);simp[b8] at h1;by_cases e:x.f0=x.f1
  ·rw[List.foldl_cons,show cW f x=f from if_pos e,ko,xu e,Int.zero_add]
   exact r_ hu E f (fun y a=>h y (List.mem_cons_of_mem _ a)) g
  ·obtain⟨b,m⟩:=b e
   have o:=val_step_eq (n:=n) (f:=f) (x:=x) (by omega) (by omega) e b m hu;have p:=r_ hu E (cW f x) (fun y a=>by
    obtain⟨i,q,j⟩:=h y (List.mem_cons_of_mem _ a);have hb:=l y a;unfold iG at hb;have r:=i;simp[b8] at r;refine⟨i,q,fun k=>?_⟩;unfold cW;rw[if_neg e];refine⟨?_,?_⟩
    ·show (if _ then _ else _)=_
     rw[if_neg (by omega),if_neg (by omega)];exact(j k).1
    ·show (if _ then _ else _)=_
     rw[if_neg (by omega),if_neg (by omega)];exact(j k).2) g
   rw[List.foldl_cons,p,o,ko];unfold nW T.one;by_cases c0:u=x.f0.toNat
   ·rw[if_neg (show ¬u=x.f1.toNat by omega),if_pos c0,if_pos ⟨e,.inl (by omega)⟩];omega
   ·by_cases c1:u=x.f1.toNat
    ·rw[if_pos c1,if_neg c0,if_pos ⟨e,.inr (by omega)⟩];omega
    ·rw[if_neg c1,if_neg c0,if_neg (fun h=>by rcases h.2 with h|h<;>omega)];omega
theorem Fz {n:Nat} {E:List S83} (a:bB n E) {v:Nat} (e:v<n):T.val n (ai E) v=ko v E:=by
 have h:=r_ e E (fun _ _=>0) (fun x b=>⟨a.ok x b,a.le x b,fun _=>⟨rfl,rfl⟩⟩) a.order;have g:T.val n (fun _ _=>0) v=0:=T.jw n;rw[g,Int.zero_add] at h;exact h
theorem FA {E:List S83} {i:Nat} (h:i<E.length):ae E i∈E:=by
 have e:ae E i=E[i]:=by simp[ae,bc,bS h]
 rw[e];exact List.getElem_mem h
theorem xx {n:Nat} {E:List S83} (h:bB n E) (l:E.length<=1000) (v:Nat):∀(m i:Nat) (s:Int),i+m=E.length->0<=s->s<=50*i->Ev (fun k=>cF.l0 k v s E E.length i) (s+ko v (E.drop i),(0:Int))
 |0,i,s,hi,o,h1=>by
  refine Ev.of_succ ?_;simp only[cF.l0,if_neg (show ¬(i:Int)<E.length by omega),List.drop_of_length_le (show E.length<=i by omega),ko,Int.add_zero];exact Ev.const _
 |m+1,i,s,hi,o,h1=>by
  have b:=fun s=>xx h l v m (i+1) s (by omega)
  have j:=h.ok _ (FA (E:=E) (i:=i) (by omega));simp[b8] at j;refine Ev.of_succ ?_;simp only[cF.l0,if_pos (show (i:Int)<E.length by omega),if_pos (show (0:Int)<=i by omega),cV (show i<=1000000 by omega)];rw[nh (show i<E.length by omega),ko];generalize ae E i=x at j⊢;have hw:wrap64 (s+x.f2)=s+x.f2:=f_ (by omega);by_cases e:x.f0=x.f1
  ·have:=b s (by omega) (by omega)
   rw[xu e,Int.zero_add];simp only[if_pos e];exact this
  ·by_cases a:x.f0=v
   ·have:=b (s+x.f2) (by omega) (by omega)
    rw[xw e (.inl a),<-Int.add_assoc];simp only[if_neg e,if_pos a,hw];exact this
   ·by_cases g:x.f1=v
    ·have:=b (s+x.f2) (by omega) (by omega)
     rw[xw e (.inr g),<-Int.add_assoc];simp only[if_neg e,if_neg a,if_pos g,hw];exact this
    ·have:=b s (by omega) (by omega)
     rw[Fy a g,Int.zero_add];simp only[if_neg e,if_neg a,if_neg g];exact this
theorem FB {n:Nat} {E:List S83} (b:bB n E) (e:E.length<=1000) (g:cD n E=0) {v:Nat} (h:v<n):Ev (fun k=>cF.f k n E v) (T.val n (ai E) v,(0:Int)):=by
 unfold cF.f;refine Ev.bind (a:=(0:Int)) ?_ ?_
 ·unfold dt.f
  have h1:=ma n E e;rw[g] at h1;refine Ev.bind h1 ?_;simp only[if_true];refine Ev.of_succ ?_;simp only[dt.l0,List.length_cons,List.length_nil,Nat.zero_add,Int.natCast_one,Int.ofNat_one,if_pos (show (0:Int)<1 by decide),if_pos (show (0:Int)<=0 by decide),show rd [(v:Int)] 0=v from rfl,tI,Option.bind_some,az (show (0:Int)<=v/\(v:Int)<n by omega),if_true];refine Ev.of_succ ?_;rw[show wrap64 (0+1)=1 from f_ (x:=1) (by decide)];simp only[dt.l0,if_neg (show ¬(1:Int)<1 by decide)];exact Ev.const _
 ·simp only[if_true]
  have:=xx b e v E.length 0 0 (by omega) (by omega) (by omega);rw[List.drop_zero,Int.zero_add,<-Fz b h] at this;exact this
theorem xz {n:Nat} {E:List S83} (a:bB n E) (b:E.length<=1000) (e:cD n E=0):∀v,v<=n->Ev (fun k=>lO k n E v) ((List.range v).map fun u=>T.val n (ai E) u)
 |0,_=>Ev.const _
 |v+1,h=>by
  have g:=xz a b e v (by omega);have i:=FB a b e (v:=v) (by omega);simp only[lO];refine Ev.bind g ?_;refine Ev.bind i ?_;rw[List.range_succ,List.map_append];exact Ev.const _
def cR (n:Nat) (E:List S83):List Int:=(List.range n).map fun u=>T.can n (ai E) u
theorem xA {n:Nat} {E:List S83} {v:Nat} (a:v<n):rd (cR n E) (v:Int)=T.can n (ai E) v:=by
 simp[cR,rd,bc,a]
theorem xB {n:Nat} {E:List S83} (hn:1<=n) (i:n<=12) (e:E.length<=1000) (b:cD n E=0) (hp:partsOf E n=1) (g:∀v:Nat,v<n->0<=T.val n (ai E) v/\T.val n (ai E) v<=1000):Ev (fun k=>et.f k n E) (cR n E,(0:Int)):=by
 unfold et.f;refine Ev.bind (xt e b hp) ?_;simp only[if_true];refine Ev.bind (a:=cR n E) ?_ (Ev.const _);unfold jm.f;simp only[if_pos (show (1:Int)<=n/\(n:Int)<=1000 by omega),aV];refine Ev.bind (xz (ig b).2.2 e b n (aI _)) ?_;rw[show kj ((List.range n).map fun u=>T.val n (ai E) u) n n=cR n E from by
  unfold kj cR;refine List.map_congr_left fun u hu=>?_
  have hu:=List.mem_range.1 hu;have h:=g u hu;rw[if_pos hu,show rd ((List.range n).map fun u=>T.val n (ai E) u) (u:Int)=T.val n (ai E) u by simp[rd,bc,hu]];unfold T.can;exact f_ (by omega)]
 exact Ev.const _
section
theorem FC {n:Nat} (h1:1<=n) (hn:n<=12) {x d:List Int} (h:x.length=n) (hd:d.length=n) (i:∀v:Nat,v<n-> -2000<=rd x v/\rd x v<=2000) (j:∀v:Nat,v<n-> -2000<=rd d v/\rd d v<=2000):Ev (fun k=>iO.f k x d) (cw x d,(0:Int)):=by
 have l:∀c:List Int,c.length=n->(∀v:Nat,v<n-> -4000<=rd c v/\rd c v<=4000)->c.all cI=true:=fun c w hb=>by
  refine List.all_eq_true.2 fun y o=>?_
  obtain⟨v,g,rfl⟩:=List.getElem_of_mem o;have p:=hb v (by omega);have e:rd c (v:Int)=c[v]:=by simp[rd,bc,bS g]
  rw[e] at p;unfold cI;exact az (by omega)
 have q:gF x x.length=0:=by rw[h];exact mH h1 hn h (fun v g=>by have:=i v g;omega)
 have e2:gF d d.length=0:=by rw[hd];exact mH h1 hn hd (fun v g=>by have:=j v g;omega)
 have m:=EI x d (by omega) (by omega);have r:pD x d=0:=by unfold pD;rw[if_pos q,if_pos e2,if_pos (by omega)]
 rw[r] at m;unfold iO.f;refine Ev.bind m ?_;have s:nU x d=true:=by
  unfold nU;rw[l x h (fun v g=>by have:=i v g;omega),l d hd (fun v g=>by have:=j v g;omega),az ⟨by omega,by omega,by omega⟩];rfl
 have u:(cw x d).all cI=true:=l _ (by unfold cw;rw[kn];exact h) (fun v g=>by
  rw[mG (by omega)];have a:=i v g;have b:=j v g;omega)
 simp only[if_true,if_pos s,if_pos u];exact Ev.const _
theorem xC (c:List Int) (b:c.length<=12) (hb:∀v:Nat,v<c.length-> -2000<=rd c v/\rd c v<=2000):∀(m i:Nat),i+m=c.length->Ev (fun k=>dL.l0 k c (T.sN (fun v=>rd c (v:Nat)) i) i) (T.sN (fun v=>rd c (v:Nat)) c.length)
 |0,i,hi=>by
  obtain rfl:i=c.length:=by omega
  refine Ev.of_succ ?_;simp only[dL.l0,if_neg (show ¬((c.length:Int)<(c.length:Int)) by omega)];exact Ev.const _
 |m+1,i,hi=>by
  have a:=xC c b hb m (i+1) (by omega);have e:∀j,j<=c.length-> -(2000*j:Int)<=T.sN (fun v=>rd c (v:Nat)) j/\T.sN (fun v=>rd c (v:Nat)) j<=2000*j:=fun j=>by
   induction j with
   |zero=>intro _;simp[T.sN]
   |succ j g=>
    intro l;have h1:=g (by omega);have h:=hb j (by omega);rw[T.dp];omega
  have h1:=e i (by omega);have h:=hb i (by omega);refine Ev.of_succ ?_;simp only[dL.l0,if_pos (show (i:Int)<(c.length:Int) by omega),if_pos (show (0:Int)<=(i:Int) by omega),cV (show i<=1000000 by omega),f_ (show -1000000000<=T.sN (fun v=>rd c (v:Nat)) i+rd c i/\T.sN (fun v=>rd c (v:Nat)) i+rd c i<=1000000000 by omega)];rw[T.dp] at a;exact a
theorem sa (c:List Int) (a:c.length<=12) (hb:∀v:Nat,v<c.length-> -2000<=rd c v/\rd c v<=2000):Ev (fun k=>dL.f k c) (T.sN (fun v=>rd c (v:Nat)) c.length):=by
 unfold dL.f;exact xC c a hb c.length 0 (by omega)
namespace Curve
variable {n:Nat} {E:List S83} {d:List Int} (h:Curve n E d) (hn:1<=n)
include h hn
theorem facts:n<=5/\E.length<=40/\bB n E/\fD n E/\partsOf E n=1:=by
 have a:=h.small 0 (by omega);exact⟨a.n5,a.len,a.right,a.conn,(jz hn a.right).2 a.conn⟩
theorem lQ:∀v:Nat,v<n->0<=T.val n (ai E) v/\T.val n (ai E) v<=14:=fun v a=>by
 have e:=(h.facts hn).2.2.1.wt;have b:∀u,u<n->0<=T.val n (ai E) u:=fun u hu=>T.db fun w _=>e.pos _ _
 have h1:=T.fA a b;have g:=h.val;exact⟨b v a,by omega⟩
theorem pJ:∀v:Nat,v<n-> -2<=rd (cR n E) v/\rd (cR n E) v<=12:=fun v a=>by
 have h1:=h.lQ hn v a;rw[xA a];unfold T.can;omega
theorem sb:Ev (fun k=>et.f k n E) (cR n E,(0:Int)):=by
 obtain⟨f1,f2,f3,f4,f5⟩:=h.facts hn;exact xB hn (by omega) (by omega) h.check f5 (fun v a=>by have:=h.lQ hn v a;omega)
theorem FD {c:List Int} (b:c.length=n) (hb:∀v:Nat,v<n-> -1000<=rd c v/\rd c v<=1000):Ev (fun k=>dP.f k n E c) (cw (cR n E) c,(0:Int)):=by
 obtain⟨f1,f2,f3,f4,f5⟩:=h.facts hn;unfold dP.f;refine Ev.bind (h.sb hn) ?_;simp only[if_true];have hk:=kQ c n (by omega);rw[mH hn (by omega) b (fun v a=>by have:=hb v a;omega)] at hk;refine Ev.bind hk ?_;simp only[if_true];refine Ev.bind (FC hn (by omega) (x:=cR n E) (d:=c) (by simp[cR]) b (fun v a=>by have:=h.pJ hn v a;omega) (fun v a=>by have:=hb v a;omega)) ?_;exact Ev.const _
theorem FE:∃g:Nat,Ev (fun k=>fj.f k n (dE E)) ((g:Int),(0:Int))/\T.e7 n (ai E) g:=by
 obtain⟨f1,f2,f3,f4,f5⟩:=h.facts hn;exact EC hn (by omega) f2 h.check f4
theorem loop:Ev (fun k=>fk.f k n E) ((n:Int),dE E,(0:Int)):=by
 obtain⟨f1,f2,f3,f4,f5⟩:=h.facts hn;exact Ew (by omega) h.check
theorem xD {c:List Int} (a:c.length=n) (hb:∀v:Nat,v<n-> -200<=rd c v/\rd c v<=200) {r:Int} (b:Rk n (ai E) c r):Ev (fun k=>eJ.f k n E c) (r,(0:Int)):=by
 obtain⟨g,e,hi⟩:=h.FE hn;exact r9 (h.gR hn a hb) h.check (h.loop hn) e hi b
end Curve
end
theorem sd (f:Nat->Int):∀n:Nat,T.sN f (n+1)=f 0+T.sN (fun v=>f (v+1)) n
 |0=>by simp[T.sN]
 |n+1=>by rw[T.dp,sd f n,T.dp];omega
theorem pK (k:Int) (x:List Int):rd (k::x) ((0:Nat):Int)=k:=rfl
theorem pL (k:Int) (x:List Int) (v:Nat):rd (k::x) ((v+1:Nat):Int)=rd x (v:Int):=by
 have:((v+1:Nat):Int).toNat=v+1:=by omega
 simp[rd,this]
def eK:Nat->Nat->List (List Int)
 |0,d=>[[(d:Int)]]
 |n+1,d=>(List.range (d+1)).flatMap fun k=>(eK n (d-k)).map fun x=>(k:Int)::x
structure FF (n d:Nat) (x:List Int):Prop where
 len:x.length=n+1
 pos:∀v:Nat,v<n+1->0<=rd x v
 sum:T.sN (fun v=>rd x (v:Nat)) (n+1)=d
theorem mK:∀(n d:Nat) (x:List Int),x∈eK n d↔FF n d x
 |0,d,x=>by
  constructor
  ·intro h
   obtain rfl:x=[(d:Int)]:=by simpa [eK] using h
   refine⟨rfl,fun v j=>?_,?_⟩
   ·obtain rfl:v=0:=by omega
    show (0:Int)<=(d:Int);omega
   ·rw[T.dp];show T.sN _ 0+(d:Int)=d;simp[T.sN]
  ·rintro⟨h1,e,b⟩
   obtain⟨a,rfl⟩:∃a,x=[a]:=by
    match x,h1 with
    |[a],_=>exact⟨a,rfl⟩
   rw[T.dp] at b;have l:T.sN (fun v=>rd [a] (v:Nat)) 0+a=d:=b;simp[T.sN] at l;subst l;simp[eK]
 |n+1,d,x=>by
  simp only[eK,List.mem_flatMap,List.mem_range,List.mem_map];constructor
  ·rintro⟨k,hk,y,i,rfl⟩
   obtain⟨h1,e,b⟩:=(mK n (d-k) y).1 i;refine⟨by simp[h1],fun v j=>?_,?_⟩
   ·cases v with
    |zero=>rw[pK];omega
    |succ v=>rw[pL];exact e v (by omega)
   ·rw[sd,T.bJ (g:=fun v=>rd y (v:Nat)) (fun v _=>pL _ _ v),b,pK];omega
  ·rintro⟨h1,e,b⟩
   obtain⟨a,y,rfl⟩:∃a y,x=a::y:=by
    match x,h1 with
    |a::y,_=>exact⟨a,y,rfl⟩
   rw[sd,T.bJ (g:=fun v=>rd y (v:Nat)) (fun v _=>pL _ _ v),pK] at b;have m:0<=a:=by have:=e 0 (by omega);rwa [pK] at this
   have i:∀v:Nat,v<n+1->0<=rd y v:=fun v j=>by have:=e (v+1) (by omega);rwa [pL] at this
   have o:=T.db (f:=fun v=>rd y (v:Nat)) (n:=n+1) i;refine⟨a.toNat,by omega,y,(mK n (d-a.toNat) y).2 ⟨by simpa using h1,i,by omega⟩,?_⟩;rw[Int.toNat_of_nonneg m]
end Go.Proofs.YtffdiakgjakngaaGreat.P
namespace Go.Proofs.YtffdiakgjakngaaGreat.T
set_option linter.unusedVariables false
set_option linter.unusedSimpArgs false
set_option maxHeartbeats 8000000
set_option maxRecDepth 100000
structure gJ (n:Nat) (t:Nat->Nat->Int) (D b:Nat->Int):Prop where
 pos:∀v,v<n->0<=b v
 low:∀v,v<n->0<b v->D v+aX n t b v<=val n t v-1
 under:∀p:Nat->Int,(∀v,v<n->0<=p v)->(∀v,v<n->0<=D v+aX n t p v)->∀v,v<n->b v<=p v
theorem gJ.start (n:Nat) (t:Nat->Nat->Int) (D:Nat->Int):gJ n t D (fun _=>0):=
 ⟨fun _ _=>Int.le_refl _,fun v _ h=>by omega,fun p hp _ v a=>hp v a⟩
theorem gJ.step {n:Nat} {t:Nat->Nat->Int} (a:Wt n t) {D b:Nat->Int} (h:gJ n t D b) {v:Nat} (g:v<n) (hd:D v+aX n t b v<0):gJ n t D (fun u=>b u+one v u):=by
 have j:∀u,0<=one v u:=fun u=>by unfold one;split<;>omega
 refine⟨fun u hu=>by have:=h.pos u hu;have:=j u;show 0<=b u+one v u;omega,fun u hu hp=>?_,fun p hp i u hu=>?_⟩
 ·rw[jY]
  by_cases e:u=v
  ·subst e;rw[oN a g];omega
  ·rw[oO g e]
   have l:b u+one v u=b u:=by unfold one;rw[if_neg e];omega
   have h1:=h.low u hu (by have:0<b u+one v u:=hp;omega);have:=a.pos u v;omega
 ·have h1:=h.under p hp i
  show b u+one v u<=p u
  by_cases e:u=v
  ·subst e
   have k:one u u=1:=if_pos rfl;have m:=h1 u hu;by_cases e2:b u=p u
   ·exfalso
    have o:aX n t p u<=aX n t b u:=by
     unfold aX;refine cN fun w hw=>Int.mul_le_mul_of_nonneg_left ?_ (a.pos _ _)
     have:=h1 w hw;omega
    have:=i u hu;omega
   ·omega
  ·have k:one v u=0:=if_neg e
   have:=h1 u hu;omega
theorem gJ.lost {n:Nat} {t:Nat->Nat->Int} (hn:0<n) {D b:Nat->Int} (h:gJ n t D b) (g:∀v,v<n->1<=b v):¬bZ n t D:=by
 rintro⟨D',⟨s,h1⟩,i⟩;obtain⟨m,hm,j⟩:=oK s hn;have:=h.under (fun u=>s m-s u) (fun u hu=>by have:=j u hu;show 0<=s m-s u;omega) (fun v a=>by
  have e:aX n t (fun u=>s m-s u) v= -aX n t s v:=by
   rw[lC n t (fun _=>s m) s v,jx];omega
  rw[e];have:=h1 v a;have:=i v a;omega) m hm
 have k:=g m hm;have:b m<=s m-s m:=this;omega
theorem gJ.nV {n:Nat} {t:Nat->Nat->Int} {D b:Nat->Int} (h:∀v,v<n->0<=D v+aX n t b v):bZ n t D:=
 ⟨fun v=>D v+aX n t b v,⟨fun u=> -b u,fun v _=>by rw[lB];show D v+aX n t b v=_;omega⟩,h⟩
theorem gJ.FG {n:Nat} {t:Nat->Nat->Int} (i:Wt n t) (j:dI n t) {D b:Nat->Int} (h:gJ n t D b) {q:Nat} (k:q<n) (hb:b q=0) {M:Int} (l:0<=M) (m:∀v,v<n->val n t v-1-D v<=M):sN b n<=n*(n*(n*M)):=by
 have h1:=ny i j k hb l (fun v a hp=>by
  have:=h.low v a hp;have:=m v a;omega)
 have e:=cN (g:=fun _=>(n:Int)*(n*M)) h1;rw[iW] at e;exact e
end Go.Proofs.YtffdiakgjakngaaGreat.T
namespace Go.Proofs.YtffdiakgjakngaaGreat.P
open Go.RowKit Go.Proofs.YtffdiakgjakngaaGreatW.PrintWords Go.Proofs.YtffdiakgjakngaaGreatW.PrintLast Go.Proofs.YtffdiakgjakngaaGreatW.PrintMore
set_option linter.unusedVariables false
set_option linter.unusedSimpArgs false
set_option maxHeartbeats 8000000
set_option maxRecDepth 100000
def eR.l0:Nat->List Int->Int->Option (Int)
 |0,_,_=>none
 |k+1,a,x3=>if x3<(a.length:Int) then(if 0<=x3 then(if(rd a x3)<0 then(some x3) else(eR.l0 k a (wrap64 (x3+1)))) else(none)) else(some (-1))
def eR.f (k:Nat) (l0:List Int):Option (Int):=eR.l0 k l0 0
theorem eR.calls (k:Nat) (A0:Option Addr) (c0:Nat) (l0:List Int) (r:Int) (w:World) (m:Kd.C (Kd.int .i64) w A0 l0.length l0) (n:l0.length<=c0) (h:eR.f k l0=some r):
  Calls Tryz.prog 145 #[.slice A0 l0.length c0] w fun e w'=>e= .returned (.int .i64 r)/\aA w w':=by
 have o:=zA m;have z:=zA n;clear m n;have H:(eR.l0 k l0 0)=some r:=h;clear h;have i:=zA H;clear H;go_enter Tryz.func145,Tryz.ntmps145
 go_wp2;go_loopg [3] k (fun p v3 w'=>∃(a:Int),v3= .int .i64 a/\Aside0 (eR.l0 p l0 a=some r)/\Aside0 (p<=k)/\aA w w')
 case atStart=>exact⟨(0),zT,i,⟨aI _⟩,by repeat(first|exact aA.refl _|apply aA.step)⟩
 case round=>
  clear i;obtain⟨a,rfl,j,q,⟨m1,rfl⟩⟩:=hrel;cases gk with
  |zero=>exact absurd j.out (by simp[eR.l0])
  |succ s=>
   have H:=j.out;clear j;simp only[eR.l0] at H;by_cases c2:a<(l0.length:Int)
   ·rw[if_pos c2] at H
    have u:=az c2;clear c2;by_cases c3:0<=a
    ·rw[if_pos c3] at H
     have B:=az c3;clear c3;by_cases c4:(rd l0 a)<0
     ·rw[if_pos c4] at H
      have v:=az c4;clear c4;obtain rfl:=aE H;have b:0<=(a:Int):=aw ‹_›;have g:a<(l0.length:Int):=aw ‹_›;obtain⟨x,l,y⟩:=Kd.bM o.out a b g;cases l;replace b:=eq_true b;replace g:=eq_true g;go_wp2;go_ret;exact⟨zT,by repeat(first|exact aA.refl _|apply aA.step)⟩
     ·rw[if_neg c4] at H
      have v:=aZ c4;clear c4;have i:=zA H;clear H;have b:0<=(a:Int):=aw ‹_›;have g:a<(l0.length:Int):=aw ‹_›;obtain⟨x,l,y⟩:=Kd.bM o.out a b g;cases l;replace b:=eq_true b;replace g:=eq_true g;go_wp2;go_roundg s
      case measure=>have:=q.out;omega
      case rel=>exact⟨(wrap64 (a+1)),zT,i,⟨by have:=q.out;omega⟩,by repeat(first|exact aA.refl _|apply aA.step)⟩
    ·rw[if_neg c3] at H
     exact absurd H (by simp)
   ·rw[if_neg c2] at H
    have u:=aZ c2;clear c2;obtain rfl:=aE H;go_wp2;go_ret;exact⟨zT,by repeat(first|exact aA.refl _|apply aA.step)⟩
def eS.l0:Nat->List Bool->Int->Option (Bool)
 |0,_,_=>none
 |k+1,a,x3=>if x3<(a.length:Int) then(if 0<=x3 then(if bQ false a x3=true then(eS.l0 k a (wrap64 (x3+1))) else(some false)) else(none)) else(some true)
def eS.f (k:Nat) (l0:List Bool):Option (Bool):=eS.l0 k l0 0
theorem eS.calls (k:Nat) (A0:Option Addr) (c0:Nat) (l0:List Bool) (r:Bool) (w:World) (p:Kd.C Kd.bool w A0 l0.length l0) (q:l0.length<=c0) (h:eS.f k l0=some r):
  Calls Tryz.prog 146 #[.slice A0 l0.length c0] w fun e w'=>e= .returned (.bool r)/\aA w w':=by
 have s:=zA p;have F:=zA q;clear p q;have H:(eS.l0 k l0 0)=some r:=h;clear h;have i:=zA H;clear H;go_enter Tryz.func146,Tryz.ntmps146
 go_wp2;go_loopg [3] k (fun u v3 w'=>∃(a:Int),v3= .int .i64 a/\Aside0 (eS.l0 u l0 a=some r)/\Aside0 (u<=k)/\aA w w')
 case atStart=>exact⟨(0),zT,i,⟨aI _⟩,by repeat(first|exact aA.refl _|apply aA.step)⟩
 case round=>
  clear i;obtain⟨a,rfl,l,v,⟨m1,rfl⟩⟩:=hrel;cases gk with
  |zero=>exact absurd l.out (by simp[eS.l0])
  |succ x=>
   have H:=l.out;clear l;simp only[eS.l0] at H;by_cases c2:a<(l0.length:Int)
   ·rw[if_pos c2] at H
    have B:=az c2;clear c2;by_cases c3:0<=a
    ·rw[if_pos c3] at H
     have G:=az c3;clear c3;obtain⟨y,m⟩:∃D:Bool,D=(bQ false l0 a):=⟨_,rfl⟩;replace H:(if y=true then(eS.l0 x l0 (wrap64 (a+1))) else(some false))=some r:=by rw[<-m] at H;exact H
     have z:=zA m;clear m;by_cases j:y=true
     ·subst j
      replace H:=zi H;have i:=zA H;clear H;have b:0<=(a:Int):=aw ‹_›;have g:a<(l0.length:Int):=aw ‹_›;obtain⟨E,n,o⟩:=Kd.js s.out a b g
      (try rw[<-z.out] at o)
      cases n;replace b:=eq_true b;replace g:=eq_true g;go_wp2;go_roundg x
      case measure=>have:=v.out;omega
      case rel=>exact⟨(wrap64 (a+1)),zT,i,⟨by have:=v.out;omega⟩,by repeat(first|exact aA.refl _|apply aA.step)⟩
     ·replace j:=Bool.eq_false_iff.mpr j
      subst j;replace H:=zj H;obtain rfl:=aE H;have b:0<=(a:Int):=aw ‹_›;have g:a<(l0.length:Int):=aw ‹_›;obtain⟨E,n,o⟩:=Kd.js s.out a b g
      (try rw[<-z.out] at o)
      cases n;replace b:=eq_true b;replace g:=eq_true g;go_wp2;go_ret;exact⟨zT,by repeat(first|exact aA.refl _|apply aA.step)⟩
    ·rw[if_neg c3] at H
     exact absurd H (by simp)
   ·rw[if_neg c2] at H
    have B:=aZ c2;clear c2;obtain rfl:=aE H;go_wp2;go_ret;exact⟨zT,by repeat(first|exact aA.refl _|apply aA.step)⟩
end Go.Proofs.YtffdiakgjakngaaGreat.P


namespace Go.Proofs.YtffdiakgjakngaaGreat.P
open Go.RowKit Go.Proofs.YtffdiakgjakngaaGreatW.PrintWords Go.Proofs.YtffdiakgjakngaaGreatW.PrintLast Go.Proofs.YtffdiakgjakngaaGreatW.PrintMore
set_option linter.unusedVariables false
set_option linter.unusedSimpArgs false
set_option maxHeartbeats 8000000
set_option maxRecDepth 100000
mutual
def bK.l0:Nat->List Int->List Bool->Int->Int->List (S83)->Option (Bool)
 |0,_,_,_,_,_=>none
 |k+1,x1,b,e,g,h=>if e<10000000 then((eR.f k x1).bind fun a=>(if a<0 then(some true) else((eS.f k b).bind fun i=>(if i=true then(some false) else(if 0<=a then(if a<(b.length:Int) then(bK.l1 k x1 (b.set (a:Int).toNat true) e a 0 g h) else(none)) else(none)))))) else(some false)
def bK.l1:Nat->List Int->List Bool->Int->Int->Int->Int->List (S83)->Option (Bool)
 |0,_,_,_,_,_,_,_=>none
 |k+1,x1,h,i,b,a,e,g=>if a<e then(if a=b then(bK.l1 k x1 h i b (wrap64 (a+1)) e g) else(if 0<=a then(if a<(x1.length:Int) then((dq.f k e g a b).bind fun l=>((some (x1.set (a:Int).toNat (wrap64 ((rd x1 a)-l)):List Int)).bind fun j=>(if 0<=b then(if b<(x1.length:Int) then((dq.f k e g a b).bind fun m=>(bK.l1 k (j.set (b:Int).toNat (wrap64 ((rd j b)+m))) h i b (wrap64 (a+1)) e g)) else(none)) else(none)))) else(none)) else(none))) else(bK.l0 k x1 h (wrap64 (i+1)) e g)
end
def bK.f (k:Nat) (a:Int) (e:List (S83)) (l1:List Int):Option (Bool):=(dL.f k l1).bind fun g=>(if g<0 then(some false) else((some (([]:List Int):List Int)).bind fun b=>(if b.length+l1.length<17592186044416 then(if 0<=a then(if(a:Int).toNat<=281474976710656 then(bK.l0 k (b++l1) (List.replicate (a:Int).toNat false) 0 a e) else(none)) else(none)) else(none))))
def bK.xE:Bool×List (List Nat×List Nat):=(true,[([],[]),([],[]),([0,1],[0,1]),([2],[2]),([],[]),([],[]),([],[]),([4,5,6],[4,5,6]),([3,7],[3,7]),([0,1,0,1,2,3,4,5,6,7,8],[0,1]),([9,8,7,0,1,2,3,4,5,6,7,8],[8,9])])
def bK.FH:List Nat:=[0,0,3,7,0,0,0,112,255,511,1023]
theorem bK.FJ:dw .any (opsOf Tryz.f92 18)=bK.xE:=by kernel_rfl
theorem bK.FL:iT bK.xE.2 bK.FH=true:=by kernel_rfl
def bK.xF:Bool×List (List Nat×List Nat):=(true,[([],[]),([],[]),([0,1],[0,1]),([2],[2]),([],[]),([],[]),([],[]),([4,5,6],[4,5,6]),([3,7],[3,7]),([0,1,0,1,2,3,4,5,6,7,8],[0,1]),([9,8,7,0,1,2,3,4,5,6,7,8],[8,9])])
def bK.FM:List Nat:=[0,0,3,7,0,0,0,112,255,511,1023]
theorem bK.FN:dw .any (opsOf Tryz.f92 19)=bK.xF:=by kernel_rfl
theorem bK.FO:iT bK.xF.2 bK.FM=true:=by kernel_rfl
theorem bK.calls (k:Nat) (q:Int) (E:Option Addr) (F:Nat) (s:List (S83)) (A1:Option Addr) (c1:Nat) (l1:List Int) (r:Bool) (w:World) (d6:Kd.C aW w E s.length s) (d7:s.length<=F) (d8:Kd.C (Kd.int .i64) w A1 l1.length l1) (d9:l1.length<=c1) (h:bK.f k q s l1=some r):
  Calls Tryz.prog 92 #[.agg #[.int .i64 q,.slice E s.length F],.slice A1 l1.length c1] w fun e w'=>e= .returned (.bool r)/\Below w.heap.size w w':=by
 have hj:=Tryz.underlying24;have ea:=zA d6;have eb:=zA d7;clear d6 d7;have cb:=zA d8;have ed:=zA d9;clear d8 d9;have o:=zA (ao w.heap.size w);unfold bK.f at h;have H:=h;clear h;obtain⟨cc,A3,H⟩:=zo H;by_cases c4:cc<0
 ·rw[if_pos c4] at H
  have ek:=az c4;clear c4;obtain rfl:=aE H;go_enter Tryz.func92,Tryz.ntmps92
  go_wp2_with (first|((with_reducible refine aJ (N:=2) rfl ?_);refine zX 2 #[.int .i64 q,.slice E s.length F] 24 ?_;intro O hg w5 a1 hb;have a:=zA (a1);have fr:=zG o hg;have cd:=zG o hg;replace o:=zS o hb;clear hb a1 hg)|((with_reducible refine aC (f:=22) rfl ?_);refine zL (some 10) Tryz.func22 #[.slice A1 l1.length c1] ?_;(with_reducible refine(dL.calls k _ _ l1 cc _ ?af ?ah A3.out).mono ?_);(case af=>exact Kd.aq cb.out zB);(case ah=>exact ed.out);rintro e w' ⟨rfl,⟨nd,rfl⟩⟩;refine⟨_,rfl,?_⟩))
  go_ret;exact⟨zE,zB⟩
 ·rw[if_neg c4] at H
  have ek:=aZ c4;clear c4;obtain⟨a2,ce⟩:∃G:List Int,G=(([]:List Int)):=⟨_,rfl⟩;replace H:(if a2.length+l1.length<17592186044416 then(if 0<=q then(if(q:Int).toNat<=281474976710656 then(bK.l0 k (a2++l1) (List.replicate (q:Int).toNat false) 0 q s) else(none)) else(none)) else(none))=some r:=zh ce H;have el:=zA ce;clear ce;by_cases c6:a2.length+l1.length<17592186044416
  ·rw[if_pos c6] at H
   have ft:=zA c6;clear c6;obtain⟨cf,ch⟩:∃G:List Int,G=(a2++l1):=⟨_,rfl⟩;replace H:(if 0<=q then(if(q:Int).toNat<=281474976710656 then(bK.l0 k cf (List.replicate (q:Int).toNat false) 0 q s) else(none)) else(none))=some r:=zh ch H;have fv:=zA ch;clear ch;by_cases c7:0<=q
   ·rw[if_pos c7] at H
    have f0:=eq_true c7;have f1:=az c7;clear c7;by_cases c8:(q:Int).toNat<=281474976710656
    ·rw[if_pos c8] at H
     have f2:=eq_true c8;have f3:=az c8;clear c8;obtain⟨em,ci⟩:∃G:List Bool,G=(List.replicate (q:Int).toNat false):=⟨_,rfl⟩;replace H:(bK.l0 k cf em 0 q s)=some r:=zh ci H;have er:=zA ci;clear ci;have I:=zA H;clear H;go_enter Tryz.func92,Tryz.ntmps92
     go_wp2_with (first|((with_reducible refine aJ (N:=2) rfl ?_);refine zX 2 #[.int .i64 q,.slice E s.length F] 24 ?_;intro O hg w9 a1 hb;have a:=zA (a1);have fr:=zG o hg;have cd:=zG o hg;replace o:=zS o hb;clear hb a1 hg)|((with_reducible refine aC (f:=22) rfl ?_);refine zL (some 10) Tryz.func22 #[.slice A1 l1.length c1] ?_;(with_reducible refine(dL.calls k _ _ l1 cc _ ?af ?ah A3.out).mono ?_);(case af=>exact Kd.aq cb.out zB);(case ah=>exact ed.out);rintro e w' ⟨rfl,⟨nd,rfl⟩⟩;refine⟨_,rfl,?_⟩)|((with_reducible refine aJ (N:=12) rfl ?_);refine Kd.eF (Kd.int .i64) _ 3 ?hg (N:=12) ?hd (xs:=([]:List Int)) (inner:=[]) (ok:=fun _=>True) (okp:=fun _=>True) ?hr ?hp (fun _ hk=>hk) trivial (ao _ _) (aI _) (by simp) ?_;(case hd=>rfl);(case hg=>rfl);(case hr=>first|(go_simp;done)|(go_simp;rfl));(case hp=>exact(aQ.none _ _));intro f4 hq a5 hb cj ck;clear cj ck;(first|rw[<-el.out] at a5|(simp only[Int.reduceToNat] at a5;rw[<-el.out] at a5));have cl:=zA (Kd.bh a5 (ba zB));replace a:=zb a hb;replace o:=zS o hb;clear hb a5)|((with_reducible refine l5 (b:=.append) (xs:=#[.tmp 12,.tmp 13]) rfl ?_);at_builtin;refine Kd.sY (Kd.int .i64) (w0:=w) w.heap.size rfl (.tmp 12) (.tmp 13) 25 3 (.int .i64 0) 8 rfl Tryz.underlying25 gA rfl (by decide) (by omega) f4 a2 l1 _ _ _ (fun _=>True) (fun _=>False) rfl rfl ?aO ?aR (fun _ _ h=>h) (fun _ h=>h.elim) ?aF ?aB ?aS ?aL ?_;(case aR=>exact Kd.aq cb.out zB);(case aB=>exact zB);(case aF=>exact(fun _ _=>trivial));(case aO=>exact(zR cl));(case aS=>exact(ba zB));(case aL=>have:=ft.out;omega);intro f5 hs ho hb hg f6;rw[<-fv.out] at ho;replace a:=zA (cT (zK a) hg (Kd.di cl.out a.out (by decide)));replace o:=zA (hb);have co:=zA (ho);clear cl;clear ho hb hg f6;obtain⟨f7,f8,f9,f'⟩:=ax a)|((with_reducible refine aJ (N:=17) rfl ?_);refine Kd.jK Kd.bool _ 4 rfl (N:=17) rfl 43 _ _ rfl q rfl rfl Tryz.underlying43 (.bool false) 1 l_ rfl (by decide) (by omega) false (ok:=fun _=>True) (okp:=fun _=>True) rfl (fun _ hk=>hk) trivial (aw ‹_›) (Nat.le_trans (Nat.mul_le_mul_right _ (aw ‹_› :q.toNat<=281474976710656)) (by omega)) (ao _ _) (aI _) ?_;intro es ht a9 hb cj ck;clear cj ck;(first|rw[<-er.out] at a9|(simp only[Int.reduceToNat] at a9;rw[<-er.out] at a9));replace co:=bt co hb;have gb:=zA (Kd.bh a9 (ba zB));replace a:=zb a hb;replace o:=zS o hb;clear hb a9))
     go_loopg [6] k (fun kq v6 w'=>∃(y:List Int) (z:List Bool) (P:Int),v6= .int .i64 P/\Aside0 (bK.l0 kq y z P q s=some r)/\Aside0 (kq<=k)/\Aside0 (Kd.R (Kd.int .i64) 3 w' w.heap.size (fun _=>True) f5 y)/\Aside0 (Kd.R Kd.bool 4 w' w.heap.size (fun _=>True) es z)/\Aside0 (w'.heap[O]? =some (.cells #[.int .i64 q,(.slice E s.length F)] 24 (0,0)))/\Aside0 (Below w.heap.size w w'))
     case atStart=>exact⟨(cf),(em),(0),zT,I,⟨aI _⟩,⟨zR co⟩,⟨zR gb⟩,⟨zK a⟩,⟨zB⟩⟩
     case round=>
      clear I;clear ek f0 f1 f2 f3 f7 f8 f9 f';obtain⟨y,z,P,rfl,HA,ak,g,l,a,o⟩:=hrel;cases gk with
      |zero=>exact absurd HA.out (by simp[bK.l0])
      |succ k1=>
       have H:=HA.out;clear HA;simp only[bK.l0] at H;by_cases am:P<10000000
       ·rw[if_pos am] at H
        have ev:=az am;clear am;obtain⟨j,cq,H⟩:=zo H;by_cases an:j<0
        ·rw[if_pos an] at H
         have ew:=az an;clear an;obtain rfl:=aE H;obtain⟨gc,gd,ge⟩:=Kd.bm g.out;subst ge;go_wp2_with (first|((with_reducible refine aC (f:=145) rfl ?_);refine zL (some 23) Tryz.func145 #[.slice gc y.length gd] ?_;(with_reducible refine(eR.calls k1 _ _ y j _ ?af ?ah cq.out).mono ?_);(case af=>exact zC (Kd.aH g.out).2.2);(case ah=>exact(Kd.aH g.out).2.1);rintro e w' ⟨rfl,⟨nd,rfl⟩⟩;refine⟨_,rfl,?_⟩))
         go_ret;exact⟨zE,zB⟩
        ·rw[if_neg an] at H
         have ew:=aZ an;clear an;obtain⟨gf,ex,H⟩:=zo H;by_cases bx:gf=true
         ·subst bx
          replace H:=zi H;obtain rfl:=aE H;obtain⟨gg,gi,gl⟩:=Kd.bm g.out;subst gl;go_wp2_with (first|((with_reducible refine aC (f:=145) rfl ?_);refine zL (some 23) Tryz.func145 #[.slice gg y.length gi] ?_;(with_reducible refine(eR.calls k1 _ _ y j _ ?af ?ah cq.out).mono ?_);(case af=>exact zC (Kd.aH g.out).2.2);(case ah=>exact(Kd.aH g.out).2.1);rintro e w' ⟨rfl,⟨nd,rfl⟩⟩;refine⟨_,rfl,?_⟩;obtain⟨gm,gn,go⟩:=Kd.bm l.out;subst go)|((with_reducible refine aC (f:=146) rfl ?_);refine zL (some 27) Tryz.func146 #[.slice gm z.length gn] ?_;(with_reducible refine(eS.calls k1 _ _ z true _ ?af ?ah ex.out).mono ?_);(case af=>exact zC (Kd.aH l.out).2.2);(case ah=>exact(Kd.aH l.out).2.1);rintro e w' ⟨rfl,⟨nd,rfl⟩⟩;refine⟨_,rfl,?_⟩))
          go_ret;exact⟨zE,zB⟩
         ·replace bx:=Bool.eq_false_iff.mpr bx
          subst bx;replace H:=zj H;by_cases b0:0<=j
          ·rw[if_pos b0] at H
           have gp:=az b0;clear b0;by_cases b1:j<(z.length:Int)
           ·rw[if_pos b1] at H
            have gq:=az b1;clear b1;obtain⟨Q,cr⟩:∃G:List Bool,G=(z.set (j:Int).toNat true):=⟨_,rfl⟩;replace H:(bK.l1 k1 y Q P j 0 q s)=some r:=zh cr H;have gr:=zA cr;clear cr;have I:=zA H;clear H;obtain⟨b2,bf,gs⟩:=Kd.bm g.out;subst gs;go_wp2_with (first|((with_reducible refine aC (f:=145) rfl ?_);refine zL (some 23) Tryz.func145 #[.slice b2 y.length bf] ?_;(with_reducible refine(eR.calls k1 _ _ y j _ ?af ?ah cq.out).mono ?_);(case af=>exact zC (Kd.aH g.out).2.2);(case ah=>exact(Kd.aH g.out).2.1);rintro e w' ⟨rfl,⟨nd,rfl⟩⟩;refine⟨_,rfl,?_⟩;(try(rw[tr wr];generalize J:World.drewN wr _=wr;have T:Aside0 (Kd.R (Kd.int .i64) 3 wr w.heap.size (fun _=>True) (.slice b2 y.length bf) y):=⟨by rw[<-J];exact(zR g)⟩;have U:Aside0 (Kd.R Kd.bool 4 wr w.heap.size (fun _=>True) es z):=⟨by rw[<-J];exact(zR l)⟩;have V:Aside0 (wr.heap[O]? =some (.cells #[.int .i64 q,.slice E s.length F] 24 (0,0))):=⟨by rw[<-J];exact(zK a)⟩;have W:Aside0 (Below w.heap.size w wr):=⟨by rw[<-J];exact zB⟩;clear g l a o J;have g:=T;have l:=U;have a:=V;have o:=W;clear T U V W));obtain⟨ey,ap,gt⟩:=Kd.bm l.out;subst gt)|((with_reducible refine aC (f:=146) rfl ?_);refine zL (some 27) Tryz.func146 #[.slice ey z.length ap] ?_;(with_reducible refine(eS.calls k1 _ _ z false _ ?af ?ah ex.out).mono ?_);(case af=>exact zC (Kd.aH l.out).2.2);(case ah=>exact(Kd.aH l.out).2.1);rintro e w' ⟨rfl,⟨nd,rfl⟩⟩;refine⟨_,rfl,?_⟩;(try(rw[tr wr];generalize J:World.drewN wr _=wr;have T:Aside0 (Kd.R (Kd.int .i64) 3 wr w.heap.size (fun _=>True) (.slice b2 y.length bf) y):=⟨by rw[<-J];exact(zR g)⟩;have U:Aside0 (Kd.R Kd.bool 4 wr w.heap.size (fun _=>True) (.slice ey z.length ap) z):=⟨by rw[<-J];exact(zR l)⟩;have V:Aside0 (wr.heap[O]? =some (.cells #[.int .i64 q,.slice E s.length F] 24 (0,0))):=⟨by rw[<-J];exact(zK a)⟩;have W:Aside0 (Below w.heap.size w wr):=⟨by rw[<-J];exact zB⟩;clear g l a o J;have g:=T;have l:=U;have a:=V;have o:=W;clear T U V W));have b3:0<=(j:Int):=aw ‹_›;have b4:(j:Int)<((z.length:Int):Int):=aw ‹_›;obtain⟨ar,hv,e0,e1,gx,hx,e2⟩:=Kd.fs l.out (by omega);(first|cases e0|(injection e0 with X cs cv;(first|subst X|(injection X with X;subst X));subst cv;clear cs));have g0:=zA e1;have hy:=zA e2;clear e1 gx e2;obtain⟨g1,hz⟩:=Kd.bT false l.out (j:Int) b3 b4;replace b3:=eq_true b3;replace b4:=eq_true b4;obtain⟨hA,hB⟩:=Kd.bT false l.out (j:Int) (aw ‹_›) (aw ‹_›);have cx:=Kd.dm l.out (j:Int) true)|((with_reducible refine jO (t:=4) (p:=30) rfl ?_);refine jN (t:=4) (p:=30) (v:=?Kv) (w1:=(wr.setCell ⟨ar,(j:Int).toNat,none⟩ (.bool true))) ?hg ?ho ?hn ?hr ?_;(case ho=>rfl);(case hg=>rfl);(case hn=>rfl);(case hr=>first|(go_simp;done)|(go_simp;rfl));intro c0 hw;have hg:wr.grownBy c0 (some ar):=(by rw[hw];exact cx.2);have e3:Kd.R Kd.bool 4 c0 w.heap.size (fun _=>True) (.slice (some ⟨ar,0,none⟩) z.length ap) Q:=(by rw[hw,gr.out];exact cx.1);clear cx;replace g:=zA (Kd.p4 (v:=(.slice (some ⟨ar,0,none⟩) z.length ap)) (zR g) (Kd.gM l.out) (by decide) hg);replace a:=zA (cT (zK a) hg (Kd.di l.out a.out (by decide)));replace l:=zA (e3);replace o:=zA ((by rw[hw];exact dG (o.out) g0.out:Below w.heap.size w c0));clear hg hw e3))
            go_loopg [8] k1 (fun kq v8 w'=>∃(u:List Int) (m:Int),v8= .int .i64 m/\Aside0 (bK.l1 kq u Q P j m q s=some r)/\Aside0 (kq<=k1)/\Aside0 (Kd.R (Kd.int .i64) 3 w' w.heap.size (fun _=>True) (.slice b2 y.length bf) u)/\Aside0 (Kd.R Kd.bool 4 w' w.heap.size (fun _=>True) (.slice (some ⟨ar,0,none⟩) z.length ap) Q)/\Aside0 (w'.heap[O]? =some (.cells #[.int .i64 q,(.slice E s.length F)] 24 (0,0)))/\Aside0 (Below w.heap.size w w'))
            case atStart=>exact⟨(y),(0),zT,I,⟨aI _⟩,⟨zR g⟩,⟨zR l⟩,⟨zK a⟩,⟨zB⟩⟩
            case round=>
             clear I;clear ev ew gp gq b3 b4 g1;obtain⟨u,m,rfl,HA,av,g,l,a,o⟩:=hrel;have B:=(Kd.aH g.out).1;rw[B] at g
             (try simp only[B])
             (try simp only[B] at a)
             (try simp only[B] at l)
             have D:=(Kd.aH l.out).1;rw[D] at l
             (try simp only[D])
             (try simp only[D] at a)
             (try simp only[D] at g)
             cases gk with
             |zero=>exact absurd HA.out (by simp[bK.l1])
             |succ k2=>
              have H:=HA.out;clear HA;simp only[bK.l1] at H;by_cases aP:m<q
              ·rw[if_pos aP] at H
               have g3:=az aP;clear aP;by_cases bg:m=j
               ·rw[if_pos bg] at H
                obtain⟨g4,g5⟩:=bG bg;clear bg;have I:=zA H;clear H;obtain⟨hC,hD,hE,hG⟩:=ax a;go_wp2
                (try simp only[<-B,<-D])
                go_roundg k2
                case measure=>have:=ak.out;have:=av.out;omega
                case rel=>exact⟨(u),(wrap64 (m+1)),zT,I,⟨by have:=ak.out;have:=av.out;omega⟩,⟨by(try simp only[B]);(try simp only[D]);(with_reducible repeat(first|apply Kd.aK|apply Kd.bu|apply Kd.bl));exact g.out⟩,⟨by(try simp only[B]);(try simp only[D]);(with_reducible repeat(first|apply Kd.aK|apply Kd.bu|apply Kd.bl));exact l.out⟩,⟨by(try simp only[B]);(try simp only[D]);exact zK a⟩,⟨zB⟩⟩
               ·rw[if_neg bg] at H
                obtain⟨g4,g5⟩:=bI bg;by_cases b5:0<=m
                ·rw[if_pos b5] at H
                 have hH:=az b5;clear b5;by_cases b6:m<(u.length:Int)
                 ·rw[if_pos b6] at H
                  have hI:=az b6;clear b6;obtain⟨Y,g6,H⟩:=zo H;obtain⟨Z,c2⟩:∃G:List Int,G=(u.set (m:Int).toNat (wrap64 ((rd u m)-Y))):=⟨_,rfl⟩;replace H:(if 0<=j then(if j<(u.length:Int) then((dq.f k2 q s m j).bind fun a0=>(bK.l1 k2 (Z.set (j:Int).toNat (wrap64 ((rd Z j)+a0))) Q P j (wrap64 (m+1)) q s)) else(none)) else(none))=some r:=zh c2 H;have e4:=zA c2;clear c2;by_cases b_:0<=j
                  ·rw[if_pos b_] at H
                   have hJ:=az b_;clear b_;by_cases b':j<(u.length:Int)
                   ·rw[if_pos b'] at H
                    have hL:=az b';clear b';obtain⟨a0,g7,H⟩:=zo H;obtain⟨e5,c3⟩:∃G:List Int,G=(Z.set (j:Int).toNat (wrap64 ((rd Z j)+a0))):=⟨_,rfl⟩;replace H:(bK.l1 k2 e5 Q P j (wrap64 (m+1)) q s)=some r:=zh c3 H;have g8:=zA c3;clear c3;have I:=zA H;clear H;obtain⟨hM,hN,hO,hP⟩:=ax a;try go_wp2
                    replace g:=zA (Kd.bl g.out);replace l:=zA (Kd.bl l.out);replace a:=zA (eL a.out);replace o:=zA (bP o.out);have c5:0<=(m:Int):=aw ‹_›;have c9:m<(u.length:Int):=aw ‹_›;obtain⟨g9,g',c'⟩:=Kd.bM (Kd.aH g.out).2.2 m c5 c9;cases g';replace c5:=eq_true c5;replace c9:=eq_true c9;refine jP (n:=11) (S:=fun w'=>w'.cell? ⟨O,0,none⟩=some (.int .i64 q)/\w'.cell? ⟨O,1,none⟩=some (.slice E s.length F)/\w'.cell? (g9.add (m).toNat)=some (.int .i64 (rd u m))) (ds:=[10]) #[false,false,false,false,false,false,false,false,false,false,false] (by kernel_rfl) rfl rfl ⟨(aj a.out 0).trans rfl,(aj a.out 1).trans rfl,c'⟩ (fun hHeld=>?_);refine jW bK.FJ bK.FL (fun x bi=>?_);generalize wr.drew=hQ at g l a o c' hHeld⊢;refine zs 11 0 0 (by kernel_rfl) ?_;iterate 3 (refine zn (v:=?_) (a':=?_) (by simp only[Nat.reduceAdd];rfl) x rfl rfl (by kernel_rfl) (Or.inl ⟨by rfl,?_⟩) ?_ ?_;rotate_left;(focus (intro w';go_simp;with_reducible rfl));rotate_left;(focus (simp only[Act.put,List.setIfInBounds_toArray,List.set_cons_zero,List.set_cons_succ,a8,bb];rfl)))
                    refine zs 11 7 5 (by kernel_rfl) ?_;iterate 2 (refine zn (v:=?_) (a':=?_) (by simp only[Nat.reduceAdd];rfl) x rfl rfl (by kernel_rfl) (Or.inl ⟨by rfl,?_⟩) ?_ ?_;rotate_left;(focus (intro w';go_simp;with_reducible rfl));rotate_left;(focus (simp only[Act.put,List.setIfInBounds_toArray,List.set_cons_zero,List.set_cons_succ,a8,bb];rfl)))
                    refine eW (i:=3) (N:=some 43) (v:=?_) (a':=?_) #[true,true,true,true,false,true,true,false,false,false,false] rfl rfl (eX x.out bi.out (by kernel_rfl)) (fun _ _ _ h=>h) (Or.inl ⟨by rfl,?_⟩) hHeld ?_ ?_;rotate_left
                    ·rintro w' ⟨s0,s1,s2⟩
                     go_simp
                     with_reducible rfl
                    rotate_left
                    ·simp only[Act.put,List.setIfInBounds_toArray,List.set_cons_zero,List.set_cons_succ,a8,bb]
                     rfl
                    refine eW (i:=4) (N:=some 44) (v:=?_) (a':=?_) #[true,true,true,true,true,true,true,false,false,false,false] rfl rfl (eX x.out bi.out (by kernel_rfl)) (fun _ _ _ h=>h) (Or.inl ⟨by rfl,?_⟩) hHeld ?_ ?_;rotate_left
                    ·rintro w' ⟨s0,s1,s2⟩
                     go_simp
                     with_reducible rfl
                    rotate_left
                    ·simp only[Act.put,List.setIfInBounds_toArray,List.set_cons_zero,List.set_cons_succ,a8,bb]
                     rfl
                    refine fY (i:=7) (N:=some 47) #[true,true,true,true,true,true,true,true,false,false,false] rfl rfl (fg x.out (by kernel_rfl)) (by decide) (fun K L=>?_);refine gz Tryz.func147 (by kernel_rfl) rfl #[.agg #[.int .i64 q,.slice E s.length F],.int .i64 m,.int .i64 j] (by rfl) rfl rfl (by(try simp only[List.map_toArray,List.map_cons,List.map_nil]);first|done|rfl|(simp only[List.length_drop,List.length_take];rfl)) ?_;with_reducible refine(dq.calls k2 q _ _ s m j Y _ ?af ?ah g6.out).mono ?_
                    (case af=>exact Kd.aq ea.out zB)
                    (case ah=>exact eb.out)
                    rintro e bk ⟨rfl,hb⟩;have dd:=(hb.cell (br _ _ (hHeld.2.2))).trans (hHeld.2.2);refine⟨_,rfl,?_⟩;replace g:=bt g hb;replace l:=bt l hb;replace a:=zb a hb;replace o:=zS o hb
                    (try clear hb)
                    skip;skip;skip;have dk:0<=(m:Int):=aw ‹_›;have dl:(m:Int)<((u.length:Int):Int):=aw ‹_›;obtain⟨M,hR,e6,e',ha,hT,fb⟩:=Kd.fs g.out (by omega)
                    (first|cases e6|(injection e6 with X cs cv;(first|subst X|(injection X with X;subst X));subst cv;clear cs))
                    have fd:=zA e';have dv:=zA fb;clear e' ha fb
                    (first|simp only[add_plain] at c'|skip)
                    obtain⟨hV,hW⟩:=Kd.bT 0 g.out (m:Int) dk dl;replace dk:=eq_true dk;replace dl:=eq_true dl;have d0:=Kd.p5 g.out (m:Int) (wrap64 ((rd u m)-Y));rw[<-e4.out] at d0;have fn:=zA d0;clear d0;refine L.out _ _ ⟨(aj a.out 0).trans rfl,(aj a.out 1).trans rfl,dd⟩ (fun hHeld=>?_);clear L K;refine fZ (a':=?_) ?_ ?_;rotate_left
                    ·show Act.put _ (some 47) _=_
                     simp only[Act.put,List.setIfInBounds_toArray,List.set_cons_zero,List.set_cons_succ,a8,bb];rfl
                    refine zs 11 255 8 (by kernel_rfl) ?_;iterate 2 (refine zn (v:=?_) (a':=?_) (by simp only[Nat.reduceAdd];rfl) x rfl rfl (by kernel_rfl) (Or.inl ⟨by rfl,?_⟩) ?_ ?_;rotate_left;(focus (intro w';go_simp;with_reducible rfl));rotate_left;(focus (simp only[Act.put,List.setIfInBounds_toArray,List.set_cons_zero,List.set_cons_succ,a8,bb];rfl)))
                    refine p6 (i:=10) (N:=none) #[true,true,true,true,true,true,true,true,true,true,true] rfl rfl (fg x.out (by kernel_rfl)) (by decide) (fun K L=>?_);refine p9 (w1:=?_) (by rfl) rfl ?_ ?_;rotate_left
                    ·go_simp
                     rfl
                    refine L.out _ _ ?_;clear L K;refine jQ (jV x.out (by kernel_rfl)) ?_;try go_wp2
                    have T:Aside0 (Kd.R (Kd.int .i64) 3 (bk.setCell ⟨M,(m:Int).toNat,none⟩ (.int .i64 (wrap64 ((rd u m)-Y)))) w.heap.size (fun _=>True) (.slice (some ⟨M,0,none⟩) u.length bf) Z):=⟨zR fn⟩;have U:Aside0 (Kd.R Kd.bool 4 (bk.setCell ⟨M,(m:Int).toNat,none⟩ (.int .i64 (wrap64 ((rd u m)-Y)))) w.heap.size (fun _=>True) (.slice (some ⟨ar,0,none⟩) Q.length ap) Q):=⟨by(with_reducible repeat(first|apply Kd.aK|apply Kd.bu|apply Kd.bl));exact Kd.a_ (Kd.dQ (p:=⟨M,(m:Int).toNat,none⟩) (Kd.gL l.out dv.out (by decide)) (fun _ hk=>hk.2) (.int .i64 (wrap64 ((rd u m)-Y)))) (fun _ hk=>trivial)⟩;have V:Aside0 ((bk.setCell ⟨M,(m:Int).toNat,none⟩ (.int .i64 (wrap64 ((rd u m)-Y)))).heap[O]? =some (.cells #[.int .i64 q,.slice E s.length F] 24 (0,0))):=⟨by refine zk ?_;refine aG ?_ (by have h_:=Kd.di g.out a.out (by decide);intro e_;exact h_ (by rw[e_];rfl)) _;exact zK a⟩;have W:Aside0 (Below w.heap.size w (bk.setCell ⟨M,(m:Int).toNat,none⟩ (.int .i64 (wrap64 ((rd u m)-Y))))):=⟨by repeat(first|(with_reducible first|exact o.out|apply au|apply bY|apply bP|refine dG ?_ fd.out|refine dG ?_ cd.out)|exact o.out)⟩
                    (try clear g)
                    (try clear l)
                    (try clear a)
                    (try clear o)
                    generalize (bk.setCell ⟨M,(m:Int).toNat,none⟩ (.int .i64 (wrap64 ((rd u m)-Y))))=hc at T U V W⊢;have g:=T;have l:=U;have a:=V;have o:=W;clear T U V W;replace g:=zA (Kd.bl g.out);replace l:=zA (Kd.bl l.out);replace a:=zA (eL a.out);replace o:=zA (bP o.out);have d1:0<=(j:Int):=aw ‹_›;have d2:j<(Z.length:Int):=(by have h_:(j:Int)<((u.length:Int):Int):=aw ‹_›;first|(have e_:=(Kd.aH g.out).1;omega)|simpa only[e4.out,List.length_set] using h_);have hX:((j:Int)<((u.length:Int):Int))=True:=eq_true (aw ‹_›);obtain⟨he,hf,bo⟩:=Kd.bM (Kd.aH g.out).2.2 j d1 d2;obtain rfl:(⟨M,0,none⟩:Addr)=he:=(by injection hf)
                    (first|simp only[add_plain] at bo|simp only[iD] at bo|simp only[Addr.add,Nat.zero_add] at bo|skip)
                    replace d1:=eq_true d1;replace d2:=eq_true d2;refine jP (n:=11) (S:=fun w'=>w'.cell? ⟨O,0,none⟩=some (.int .i64 q)/\w'.cell? ⟨O,1,none⟩=some (.slice E s.length F)/\w'.cell? ⟨M,(j).toNat,none⟩=some (.int .i64 (rd Z j))) (ds:=[10]) #[false,false,false,false,false,false,false,false,false,false,false] (by kernel_rfl) rfl rfl ⟨(aj a.out 0).trans rfl,(aj a.out 1).trans rfl,bo⟩ (fun hHeld=>?_);refine jW bK.FN bK.FO (fun x bi=>?_);generalize hc.drew=hY at g l a o fn bo hHeld⊢;refine zs 11 0 0 (by kernel_rfl) ?_;iterate 3 (refine zn (v:=?_) (a':=?_) (by simp only[Nat.reduceAdd];rfl) x rfl rfl (by kernel_rfl) (Or.inl ⟨by rfl,?_⟩) ?_ ?_;rotate_left;(focus (intro w';go_simp;with_reducible rfl));rotate_left;(focus (simp only[Act.put,List.setIfInBounds_toArray,List.set_cons_zero,List.set_cons_succ,a8,bb];rfl)))
                    refine zs 11 7 5 (by kernel_rfl) ?_;iterate 2 (refine zn (v:=?_) (a':=?_) (by simp only[Nat.reduceAdd];rfl) x rfl rfl (by kernel_rfl) (Or.inl ⟨by rfl,?_⟩) ?_ ?_;rotate_left;(focus (intro w';go_simp;with_reducible rfl));rotate_left;(focus (simp only[Act.put,List.setIfInBounds_toArray,List.set_cons_zero,List.set_cons_succ,a8,bb];rfl)))
                    refine eW (i:=3) (N:=some 53) (v:=?_) (a':=?_) #[true,true,true,true,false,true,true,false,false,false,false] rfl rfl (eX x.out bi.out (by kernel_rfl)) (fun _ _ _ h=>h) (Or.inl ⟨by rfl,?_⟩) hHeld ?_ ?_;rotate_left
                    ·rintro w' ⟨s0,s1,s2⟩
                     go_simp
                     with_reducible rfl
                    rotate_left
                    ·simp only[Act.put,List.setIfInBounds_toArray,List.set_cons_zero,List.set_cons_succ,a8,bb]
                     rfl
                    refine eW (i:=4) (N:=some 54) (v:=?_) (a':=?_) #[true,true,true,true,true,true,true,false,false,false,false] rfl rfl (eX x.out bi.out (by kernel_rfl)) (fun _ _ _ h=>h) (Or.inl ⟨by rfl,?_⟩) hHeld ?_ ?_;rotate_left
                    ·rintro w' ⟨s0,s1,s2⟩
                     go_simp
                     with_reducible rfl
                    rotate_left
                    ·simp only[Act.put,List.setIfInBounds_toArray,List.set_cons_zero,List.set_cons_succ,a8,bb]
                     rfl
                    refine fY (i:=7) (N:=some 57) #[true,true,true,true,true,true,true,true,false,false,false] rfl rfl (fg x.out (by kernel_rfl)) (by decide) (fun K L=>?_);refine gz Tryz.func147 (by kernel_rfl) rfl #[.agg #[.int .i64 q,.slice E s.length F],.int .i64 m,.int .i64 j] (by rfl) rfl rfl (by(try simp only[List.map_toArray,List.map_cons,List.map_nil]);first|done|rfl|(simp only[List.length_drop,List.length_take];rfl)) ?_;with_reducible refine(dq.calls k2 q _ _ s m j a0 _ ?af ?ah g7.out).mono ?_
                    (case af=>exact Kd.aq ea.out zB)
                    (case ah=>exact eb.out)
                    rintro e h0 ⟨rfl,hb⟩;have dd:=(hb.cell (br _ _ (hHeld.2.2))).trans (hHeld.2.2);refine⟨_,rfl,?_⟩;replace g:=bt g hb;replace l:=bt l hb;replace a:=zb a hb;replace o:=zS o hb
                    (try clear hb)
                    skip;skip;skip;have d3:0<=(j:Int):=aw ‹_›;have d4:(j:Int)<((u.length:Int):Int):=aw ‹_›;obtain⟨h1,h2⟩:=Kd.bT 0 g.out (j:Int) d3 d4;replace d3:=eq_true d3;replace d4:=eq_true d4;have d5:=Kd.p5 g.out (j:Int) (wrap64 ((rd Z j)+a0));rw[<-g8.out] at d5;have hh:=zA d5;clear d5;refine L.out _ _ ⟨(aj a.out 0).trans rfl,(aj a.out 1).trans rfl,dd⟩ (fun hHeld=>?_);clear L K;refine fZ (a':=?_) ?_ ?_;rotate_left
                    ·show Act.put _ (some 57) _=_
                     simp only[Act.put,List.setIfInBounds_toArray,List.set_cons_zero,List.set_cons_succ,a8,bb];rfl
                    refine zs 11 255 8 (by kernel_rfl) ?_;iterate 2 (refine zn (v:=?_) (a':=?_) (by simp only[Nat.reduceAdd];rfl) x rfl rfl (by kernel_rfl) (Or.inl ⟨by rfl,?_⟩) ?_ ?_;rotate_left;(focus (intro w';go_simp;with_reducible rfl));rotate_left;(focus (simp only[Act.put,List.setIfInBounds_toArray,List.set_cons_zero,List.set_cons_succ,a8,bb];rfl)))
                    refine p6 (i:=10) (N:=none) #[true,true,true,true,true,true,true,true,true,true,true] rfl rfl (fg x.out (by kernel_rfl)) (by decide) (fun K L=>?_);refine p9 (w1:=?_) (by rfl) rfl ?_ ?_;rotate_left
                    ·go_simp
                     rfl
                    refine L.out _ _ ?_;clear L K;refine jQ (jV x.out (by kernel_rfl)) ?_;try go_wp2
                    (try simp only[<-B,<-D])
                    obtain⟨i_,fo⟩:=Kd.jr g.out;obtain⟨k_,H_⟩:=jq fo M rfl;have dv:=zA H_;clear H_ fo;go_roundg k2
                    case measure=>have:=ak.out;have:=av.out;omega
                    case rel=>exact⟨(e5),(wrap64 (m+1)),zT,I,⟨by have:=ak.out;have:=av.out;omega⟩,⟨by(try simp only[B]);(try simp only[D]);(with_reducible repeat(first|apply Kd.aK|apply Kd.bu|apply Kd.bl));exact hh.out⟩,⟨by(try simp only[B]);(try simp only[D]);(with_reducible repeat(first|apply Kd.aK|apply Kd.bu|apply Kd.bl));exact Kd.a_ (Kd.dQ (p:=⟨M,(j:Int).toNat,none⟩) (Kd.gL l.out dv.out (by decide)) (fun _ hk=>hk.2) (.int .i64 (wrap64 ((rd Z j)+a0)))) (fun _ hk=>trivial)⟩,⟨by(try simp only[B]);(try simp only[D]);refine zk ?_;refine aG ?_ (by have h_:=Kd.di g.out a.out (by decide);intro e_;exact h_ (by rw[e_];rfl)) _;exact zK a⟩,⟨by repeat(first|(with_reducible first|exact o.out|apply au|apply bY|apply bP|refine dG ?_ fd.out|refine dG ?_ cd.out)|exact o.out)⟩⟩
                   ·rw[if_neg b'] at H
                    exact absurd H (by simp)
                  ·rw[if_neg b_] at H
                   exact absurd H (by simp)
                 ·rw[if_neg b6] at H
                  exact absurd H (by simp)
                ·rw[if_neg b5] at H
                 exact absurd H (by simp)
              ·rw[if_neg aP] at H
               have g3:=aZ aP;clear aP;have I:=zA H;clear H;obtain⟨h5,h6,h7,h8⟩:=ax a;go_wp2
               (try simp only[<-B,<-D])
               go_roundg k2
               case measure=>have:=ak.out;have:=av.out;omega
               case rel=>exact⟨(u),(Q),(wrap64 (P+1)),zT,I,⟨by have:=ak.out;have:=av.out;omega⟩,⟨by(try simp only[B]);(try simp only[D]);(with_reducible repeat(first|apply Kd.aK|apply Kd.bu|apply Kd.bl));exact g.out⟩,⟨by(try simp only[B]);(try simp only[D]);(with_reducible repeat(first|apply Kd.aK|apply Kd.bu|apply Kd.bl));exact l.out⟩,⟨by(try simp only[B]);(try simp only[D]);exact zK a⟩,⟨zB⟩⟩
           ·rw[if_neg b1] at H
            exact absurd H (by simp)
          ·rw[if_neg b0] at H
           exact absurd H (by simp)
       ·rw[if_neg am] at H
        have ev:=aZ am;clear am;obtain rfl:=aE H;go_wp2;go_ret;exact⟨zE,zB⟩
    ·rw[if_neg c8] at H
     exact absurd H (by simp)
   ·rw[if_neg c7] at H
    exact absurd H (by simp)
  ·rw[if_neg c6] at H
   exact absurd H (by simp)
theorem se (c:List Int) (a:c.length<=1000):∀(m i:Nat),i+m=c.length->(∀v:Nat,v<i->0<=rd c v)->∃r,Ev (fun k=>eR.l0 k c i) r/\(r= -1/\(∀v:Nat,v<c.length->0<=rd c v)\/∃v:Nat,v<c.length/\r=v/\rd c v<0)
 |0,i,hi,hp=>by
  refine⟨-1,Ev.of_succ ?_,.inl ⟨rfl,fun v b=>hp v (by omega)⟩⟩;simp only[eR.l0,if_neg (show ¬(i:Int)<c.length by omega)];exact Ev.const _
 |m+1,i,hi,hp=>by
  by_cases e:rd c i<0
  ·refine⟨i,Ev.of_succ ?_,.inr ⟨i,by omega,rfl,e⟩⟩
   simp only[eR.l0,if_pos (show (i:Int)<c.length by omega),if_pos (show (0:Int)<=i by omega),if_pos e];exact Ev.const _
  ·obtain⟨r,g,h⟩:=se c a m (i+1) (by omega) (fun v b=>by
    by_cases e2:v=i
    ·subst e2;omega
    ·exact hp v (by omega))
   refine⟨r,Ev.of_succ ?_,h⟩;simp only[eR.l0,if_pos (show (i:Int)<c.length by omega),if_pos (show (0:Int)<=i by omega),if_neg e,cV (show i<=1000000 by omega)];exact g
theorem sg (o:List Bool) (b:o.length<=1000):∀(m i:Nat),i+m=o.length->(∀v:Nat,v<i->bd o v=true)->∃r,Ev (fun k=>eS.l0 k o i) r/\(r=true↔∀v:Nat,v<o.length->bd o v=true)
 |0,i,hi,hp=>by
  refine⟨true,Ev.of_succ ?_,⟨fun _ v g=>hp v (by omega),fun _=>rfl⟩⟩;simp only[eS.l0,if_neg (show ¬(i:Int)<o.length by omega)];exact Ev.const _
 |m+1,i,hi,hp=>by
  have a:bQ false o (i:Int)=bd o i:=by simp[bQ,bd]
  by_cases e:bd o i=true
  ·obtain⟨r,j,h⟩:=sg o b m (i+1) (by omega) (fun v g=>by
    by_cases e2:v=i
    ·subst e2;exact e
    ·exact hp v (by omega))
   refine⟨r,Ev.of_succ ?_,h⟩;simp only[eS.l0,if_pos (show (i:Int)<o.length by omega),if_pos (show (0:Int)<=i by omega),a,if_pos e,cV (show i<=1000000 by omega)];exact j
  ·refine⟨false,Ev.of_succ ?_,⟨nofun,fun h=>absurd (h i (by omega)) e⟩⟩
   simp only[eS.l0,if_pos (show (i:Int)<o.length by omega),if_pos (show (0:Int)<=i by omega),a,if_neg e];exact Ev.const _
def cG (n:Nat) (t:Nat->Nat->Int) (c:List Int) (v i:Nat):List Int:=(List.range n).map fun u=>if u=v then rd c v+T.sN (fun w=>t w v) i else if u<i then rd c u-t u v else rd c u
theorem kp (n:Nat) (t:Nat->Nat->Int) (c:List Int) (v i:Nat):(cG n t c v i).length=n:=by simp[cG]
theorem FP {n:Nat} (t:Nat->Nat->Int) {c:List Int} (a:c.length=n) (v:Nat):cG n t c v 0=c:=by
 refine nI (kp ..) a fun u hu=>?_
 unfold cG;rw[gv _ hu];by_cases e:u=v
 ·subst e;simp[T.sN]
 ·simp[e]
theorem FQ {n:Nat} {t:Nat->Nat->Int} (c:List Int) {v:Nat} (a:t v v=0):cG n t c v (v+1)=cG n t c v v:=by
 unfold cG;refine List.map_congr_left fun u hu=>?_
 by_cases e:u=v
 ·rw[if_pos e,if_pos e,T.dp,a,Int.add_zero]
 ·rw[if_neg e,if_neg e]
  by_cases e2:u<v
  ·rw[if_pos e2,if_pos (by omega)]
  ·rw[if_neg e2,if_neg (by omega)]
theorem FT {n:Nat} {t:Nat->Nat->Int} (c:List Int) {v i:Nat} (h:v<n) (hi:i<n) (a:i≠v):((cG n t c v i).set i (rd (cG n t c v i) i-t i v)).set v (rd ((cG n t c v i).set i (rd (cG n t c v i) i-t i v)) v+t i v)=cG n t c v (i+1):=by
 have j:rd (cG n t c v i) (i:Int)=rd c i:=by
  unfold cG;rw[gv _ hi,if_neg a,if_neg (by omega)]
 have e2:rd ((cG n t c v i).set i (rd (cG n t c v i) i-t i v)) (v:Int)=rd c v+T.sN (fun w=>t w v) i:=by
  rw[gj _ _ _ _ a];unfold cG;rw[gv _ h,if_pos rfl]
 rw[e2,j];refine nI (n:=n) (by simp[kp]) (kp ..) fun u hu=>?_
 have l:rd (cG n t c v (i+1)) (u:Int)=if u=v then rd c v+T.sN (fun w=>t w v) (i+1) else if u<i+1 then rd c u-t u v else rd c u:=by
  unfold cG;rw[gv _ hu]
 rw[l];by_cases e:u=v
 ·subst e
  rw[iI _ _ _ (by simp[kp];exact hu),if_pos rfl,T.dp,Int.add_assoc]
 ·rw[gj _ _ _ _ (fun k=>e k.symm),if_neg e]
  by_cases b:u=i
  ·subst b
   rw[iI _ _ _ (by rw[kp];exact hu),if_pos (by omega)]
  ·rw[gj _ _ _ _ (fun k=>b k.symm)]
   unfold cG;rw[gv _ hu,if_neg e];by_cases g:u<i
   ·rw[if_pos g,if_pos (by omega)]
   ·rw[if_neg g,if_neg (by omega)]
theorem xG {n:Nat} {E:List S83} (hn:n<=12) (q:E.length<=1000) (a:bB n E) {v:Nat} (b:v<n) {c:List Int} (hb:∀u:Nat,u<n-> -10000000<=rd c u/\rd c u<=10000000) (o:List Bool) (l:Int) {r:Bool} (h:Ev (fun k=>bK.l0 k (cG n (ai E) c v n) o (wrap64 (l+1)) n E) r):
  ∀(m i:Nat),i+m=n->Ev (fun k=>bK.l1 k (cG n (ai E) c v i) o l v i n E) r
 |0,i,hi=>by
  obtain rfl:i=n:=by omega
  refine Ev.of_succ ?_;simp only[bK.l1,if_neg (show ¬(i:Int)<(i:Int) by omega)];exact h
 |m+1,i,hi=>by
  have g:=xG hn q a b hb o l h m (i+1) (by omega);refine Ev.of_succ ?_;by_cases e:i=v
  ·subst e
   rw[FQ _ (a.wt.self i)] at g;simp only[bK.l1,if_pos (show (i:Int)<(n:Int) by omega),if_true,cV (show i<=1000000 by omega)];exact g
  ·have p:=oR (n:Int) E (i:Int) (v:Int) q
   rw[<-j4 a i v e] at p;have z:0<=ai E i v/\ai E i v<=50:=by rw[j4 a i v e];exact qE a _ _
   have s:∀j:Nat,j<=12-> -(50*j:Int)<=T.sN (fun w=>ai E w v) j/\T.sN (fun w=>ai E w v) j<=50*j:=fun j=>by
    induction j with
    |zero=>intro _;simp[T.sN]
    |succ j x=>
     intro B;have h1:=x (by omega);have C:0<=ai E j v/\ai E j v<=50:=by
      by_cases e2:j=v
      ·subst e2;rw[a.wt.self j];omega
      ·rw[j4 a j v e2];exact qE a _ _
     rw[T.dp];omega
   have y:rd (cG n (ai E) c v i) (i:Int)=rd c i:=by
    unfold cG;rw[gv _ (show i<n by omega),if_neg e,if_neg (by omega)]
   have e2:rd ((cG n (ai E) c v i).set i (rd (cG n (ai E) c v i) i-ai E i v)) (v:Int)=rd c v+T.sN (fun w=>ai E w v) i:=by
    rw[gj _ _ _ _ e];unfold cG;rw[gv _ b,if_pos rfl]
   have w1:wrap64 (rd (cG n (ai E) c v i) (i:Int)-ai E i v)=rd (cG n (ai E) c v i) (i:Int)-ai E i v:=f_ (by have:=hb i (by omega);rw[y];omega);have w2:wrap64 (rd ((cG n (ai E) c v i).set i (rd (cG n (ai E) c v i) i-ai E i v)) (v:Int)+ai E i v)=rd ((cG n (ai E) c v i).set i (rd (cG n (ai E) c v i) i-ai E i v)) (v:Int)+ai E i v:=f_ (by have:=hb v b;have:=s i (by omega);rw[e2];omega);rw[<-FT c b (by omega) e] at g;simp only[bK.l1,kp,if_pos (show (i:Int)<(n:Int) by omega),if_neg (show ¬(i:Int)=(v:Int) by omega),if_pos (show (0:Int)<=(i:Int) by omega)];refine Ev.bind p ?_;simp only[Option.bind_some,aV,w1,List.length_set,kp,if_pos (show (0:Int)<=(v:Int) by omega),if_pos (show (v:Int)<(n:Int) by omega)];refine Ev.bind p ?_;simp only[w2,cV (show i<=1000000 by omega)];exact g
structure xH (n:Nat) (E:List S83) (d:List Int) (b:Nat->Int) (c:List Int) (o:List Bool):Prop where
 g:T.gJ n (ai E) (fun v=>rd d (v:Nat)) b
 cl:c.length=n
 ol:o.length=n
 c:∀v:Nat,v<n->rd c v=rd d v+T.aX n (ai E) b v
 o:∀v:Nat,v<n->(bd o v=true↔0<b v)
theorem FU {n:Nat} {t:Nat->Nat->Int} (g:T.Wt n t) {V B:Int} (j:T.sN (T.val n t) n<=V) (k:0<=B) {b:Nat->Int} (hb:∀v,v<n->0<=b v/\b v<=B) {v:Nat} (h:v<n): -(V*B)<=T.aX n t b v/\T.aX n t b v<=V*B:=by
 have hp:∀u,u<n->0<=T.val n t u:=fun u _=>T.db fun w _=>g.pos _ _
 have h1:T.val n t v*B<=V*B:=Int.mul_le_mul_of_nonneg_right (Int.le_trans (T.fA h hp) j) k;have i:T.aX n t b v<=T.sN (fun u=>B*t v u) n:=T.cN fun u hu=>by
  rw[Int.mul_comm B];exact Int.mul_le_mul_of_nonneg_left (by have:=hb u hu;have:=hb v h;omega) (g.pos _ _)
 have a:T.sN (fun u=>(-B)*t v u) n<=T.aX n t b v:=T.cN fun u hu=>by
  rw[Int.mul_comm (-B)];exact Int.mul_le_mul_of_nonneg_left (by have:=hb u hu;have:=hb v h;omega) (g.pos _ _)
 rw[T.eZ] at i a;rw[Int.neg_mul] at a;have e:T.sN (fun u=>t v u) n=T.val n t v:=rfl;rw[e] at i a;rw[Int.mul_comm B] at i;rw[Int.mul_comm B] at a;omega
theorem FV {n:Nat} {E:List S83} {d:List Int} (h:dX n 0 E d):∀(m:Nat) (b:Nat->Int) (c:List Int) (o:List Bool),xH n E d b c o->(∃q,q<n/\b q=0)->(400000:Int)-T.sN b n<=m->0<=T.sN b n->
  ∃r,Ev (fun k=>bK.l0 k c o (T.sN b n) n E) r/\(r=true↔T.bZ n (ai E) (fun v=>rd d (v:Nat))):=by
 have aS:=h.n1;have hn:=h.n12;have l:=h.right.wt;have J:=h.right.conn h.conn;have K:∀v,v<n->0<=T.val n (ai E) v:=fun v a=>T.db fun w _=>l.pos _ _
 have z:∀(b:Nat->Int),T.gJ n (ai E) (fun v=>rd d (v:Nat)) b->(∃q,q<n/\b q=0)->T.sN b n<=378432:=fun b L ⟨q,i,C⟩=>by
  have h1:=L.FG l J i C (M:=219) (by omega) (fun v a=>by
   have N:=T.fA a K;have p:=h.val;have O:=h.d v a;show T.val n (ai E) v-1-rd d (v:Nat)<=219
   omega)
  have P:(n:Int)*219<=12*219:=by omega
  have Q:(n:Int)*((n:Int)*219)<=12*(12*219):=Int.mul_le_mul (by omega) P (by omega) (by omega);have h7:(n:Int)*((n:Int)*((n:Int)*219))<=12*(12*(12*219)):=Int.mul_le_mul (by omega) Q (Int.mul_nonneg (by omega) (by omega)) (by omega);omega
 intro m;induction m with
 |zero=>
  intro b c o hp i hm R;have:=z b hp.g i;omega
 |succ m S=>
  intro b c o hp i hm R;have U:=z b hp.g i;obtain⟨V,W,X⟩:=se c (by rw[hp.cl];omega) c.length 0 (by omega) (fun v a=>by omega);have D:Ev (fun k=>eR.f k c) V:=by unfold eR.f;exact W
  rcases X with⟨rfl,s⟩|⟨v,a,rfl,Y⟩
  ·refine⟨true,Ev.of_succ ?_,⟨fun _=>?_,fun _=>rfl⟩⟩
   ·simp only[bK.l0,if_pos (show T.sN b n<10000000 by omega)]
    refine Ev.bind D ?_;simp only[if_pos (show (-1:Int)<0 by decide)];exact Ev.const _
   ·refine T.gJ.nV (b:=b) fun v a=>?_
    have:=s v (by rw[hp.cl];exact a);rw[hp.c v a] at this;exact this
  ·rw[hp.cl] at a
   obtain⟨x,Z,aa⟩:=sg o (by rw[hp.ol];omega) o.length 0 (by omega) (fun v a=>by omega);have ab:Ev (fun k=>eS.f k o) x:=by unfold eS.f;exact Z
   obtain⟨q,i,C⟩:=i;have ad:x=false:=by
    cases x with
    |false=>rfl
    |true=>
     have:=(hp.o q i).1 (aa.1 rfl q (by rw[hp.ol];exact i));omega
   subst ad;have ag:rd d (v:Nat)+T.aX n (ai E) b v<0:=by rw[<-hp.c v a];exact Y
   have y:=hp.g.step l a ag;have ak:T.sN (fun u=>b u+T.one v u) n=T.sN b n+1:=by rw[T.dH,T.fB a]
   have am:∀u,u<n->0<=b u/\b u<=378432:=fun u hu=>⟨hp.g.pos u hu,Int.le_trans (T.fA hu hp.g.pos) U⟩
   have an:∀u:Nat,u<n-> -10000000<=rd c u/\rd c u<=10000000:=fun u hu=>by
    have h1:=FU l h.val (B:=378432) (by omega) am hu;have N:=h.d u hu;rw[hp.c u hu];omega
   have j:xH n E d (fun u=>b u+T.one v u) (cG n (ai E) c v n) (o.set v true):=by
    refine⟨y,kp ..,by simp[hp.ol],fun u hu=>?_,fun u hu=>?_⟩
    ·unfold cG
     rw[gv _ hu,T.jY];by_cases e:u=v
     ·subst e
      rw[if_pos rfl,T.oN l hu,hp.c u hu,T.bJ (g:=fun w=>ai E u w) (fun w _=>l.sym w u)];unfold T.val;omega
     ·rw[if_neg e,if_pos hu,T.oO a e,hp.c u hu]
      omega
    ·have p:=hp.o u hu
     have O:=hp.g.pos u hu;unfold bd at p⊢;rw[bc,List.getElem?_set];show _↔0<b u+T.one v u
     unfold T.one;by_cases e:v=u
     ·subst e
      rw[if_pos rfl,if_pos (by rw[hp.ol];exact a),if_pos rfl];exact⟨fun _=>by omega,fun _=>rfl⟩
     ·rw[if_neg e,if_neg (fun k=>e k.symm),<-bc,p]
      omega
   have key:∃r,Ev (fun k=>bK.l0 k (cG n (ai E) c v n) (o.set v true) (wrap64 (T.sN b n+1)) n E) r/\(r=true↔T.bZ n (ai E) (fun v=>rd d (v:Nat))):=by
    rw[f_ (show -1000000000<=T.sN b n+1/\T.sN b n+1<=1000000000 by omega),<-ak];by_cases hex:∃q,q<n/\b q+T.one v q=0
    ·exact S (fun u=>b u+T.one v u) _ _ j hex (by omega) (by omega)
    ·have F:∀u,u<n->1<=b u+T.one v u:=fun u hu=>by
      have h1:=y.pos u hu;by_cases e:b u+T.one v u=0
      ·exact absurd ⟨u,hu,e⟩ hex
      ·have:0<=b u+T.one v u:=h1
       omega
     have G:=y.lost (by omega) F;obtain⟨r3,ar,av⟩:=se (cG n (ai E) c v n) (by rw[kp];omega) (cG n (ai E) c v n).length 0 (by omega) (fun v a=>by omega);have aB:Ev (fun k=>eR.f k (cG n (ai E) c v n)) r3:=by unfold eR.f;exact ar
     obtain⟨H,aF,aL⟩:=sg (o.set v true) (by rw[j.ol];omega) (o.set v true).length 0 (by omega) (fun v a=>by omega);have aO:Ev (fun k=>eS.f k (o.set v true)) H:=by unfold eS.f;exact aF
     rcases av with⟨rfl,s⟩|⟨w,hw,rfl,a1⟩
     ·exact absurd (T.gJ.nV (b:=fun u=>b u+T.one v u) fun u hu=>by
       have:=s u (by rw[j.cl];exact hu);rw[j.c u hu] at this;exact this) G
     ·have aP:H=true:=aL.2 fun u hu=>(j.o u (by rw[j.ol] at hu;exact hu)).2 (by have:=F u (by rw[j.ol] at hu;exact hu);show 0<b u+T.one v u;omega)
      subst aP;refine⟨false,Ev.of_succ ?_,⟨nofun,fun k=>absurd k G⟩⟩;simp only[bK.l0,if_pos (show T.sN (fun u=>b u+T.one v u) n<10000000 by omega)];refine Ev.bind aB ?_;simp only[if_neg (show ¬(w:Int)<0 by omega)];refine Ev.bind aO ?_;simp only[if_true];exact Ev.const _
   obtain⟨r,he,hr⟩:=key;refine⟨r,Ev.of_succ ?_,hr⟩;have I:=xG hn h.len h.right a an (o.set v true) (T.sN b n) he n 0 (by omega);rw[FP _ hp.cl] at I;simp only[bK.l0,if_pos (show T.sN b n<10000000 by omega)];refine Ev.bind D ?_;simp only[if_neg (show ¬(v:Int)<0 by omega)];refine Ev.bind ab ?_;simp only[Bool.false_eq_true,if_false,if_pos (show (0:Int)<=(v:Int) by omega),if_pos (show (v:Int)<(o.length:Int) by rw[hp.ol];omega),aV];exact I
theorem FW {n:Nat} {E:List S83} {d:List Int} (h:dX n 0 E d):∃r,Ev (fun k=>bK.f k n E d) r/\(r=true↔T.bZ n (ai E) (fun v=>rd d (v:Nat))):=by
 have l:=h.n1;have hn:=h.n12;have i:=h.right.wt;have b:=sa d (by rw[h.dl];omega) (fun v a=>by have:=h.d v (by rw[<-h.dl];exact a);omega);rw[h.dl] at b;by_cases g:T.sN (fun v=>rd d (v:Nat)) n<0
 ·refine⟨false,?_,⟨nofun,fun k=>by have:=k.bq i;omega⟩⟩
  unfold bK.f;refine Ev.bind b ?_;simp only[if_pos g];exact Ev.const _
 ·have e:T.sN (fun _=>(0:Int)) n=0:=T.jw n
  obtain⟨r,he,j⟩:=FV h 400000 (fun _=>0) d (List.replicate n false) ⟨T.gJ.start _ _ _,h.dl,by simp,fun v a=>by rw[T.jx];omega,fun v a=>by simp[bd,bc,a]⟩ ⟨0,by omega,rfl⟩ (by rw[e];omega) (by rw[e];omega);rw[e] at he;refine⟨r,?_,j⟩;unfold bK.f;refine Ev.bind b ?_;simp only[if_neg g,Option.bind_some,List.length_nil,List.nil_append,Nat.zero_add,if_pos (show d.length<17592186044416 by rw[h.dl];omega),if_pos (show (0:Int)<=(n:Int) by omega),aV,if_pos (show n<=281474976710656 by omega)];exact he
def lR.f (a0:Int):Option (Bool):=if a0>=(-1048576) then(some (decide (a0<=1048576))) else(some false)
theorem lR.calls (a0:Int) (r:Bool) (w:World) (h:lR.f a0=some r):
  Calls Tryz.prog 91 #[.int .i64 a0] w fun e w'=>e= .returned (.bool r)/\aA w w':=by
 have H:(if a0>=(-1048576) then(some (decide (a0<=1048576))) else(some false))=some r:=h;clear h;by_cases c2:a0>=(-1048576)
 ·rw[if_pos c2] at H
  have a:=az c2;clear c2;obtain rfl:=aE H;go_enter Tryz.func91,Tryz.ntmps91
  go_wp2;go_ret;exact⟨zT,by repeat(first|exact aA.refl _|apply aA.step)⟩
 ·rw[if_neg c2] at H
  have a:=aZ c2;clear c2;obtain rfl:=aE H;go_enter Tryz.func91,Tryz.ntmps91
  go_wp2;go_ret;exact⟨zT,by repeat(first|exact aA.refl _|apply aA.step)⟩
def eT.l0:Nat->List Int->Int->Int->List (S83)->Option (List Int×Int)
 |0,_,_,_,_=>none
 |k+1,b,a,e,g=>if a<e then(if 0<=a then(if a<(b.length:Int) then((lR.f (rd b a)).bind fun h=>(if h=true then(eT.l0 k b (wrap64 (a+1)) e g) else(some (([]:List Int),11)))) else(none)) else(none)) else(some (b,0))
def eT.f (k:Nat) (a:Int) (b:List (S83)) (l1:List Int):Option (List Int×Int):=(fI.f k a b l1).bind fun e=>(if e=0 then((jk.f k a b l1).bind fun g=>(eT.l0 k g 0 a b)) else(some (([]:List Int),e)))
theorem eT.calls (k:Nat) (j:Int) (m:Option Addr) (n:Nat) (g:List (S83)) (u:Option Addr) (c1:Nat) (l1:List Int) (D:List Int) (E:Int) (w:World) (O:Kd.C aW w m g.length g) (P:g.length<=n) (Q:Kd.C (Kd.int .i64) w u l1.length l1) (S:l1.length<=c1) (h:eT.f k j g l1=some (D,E)):
  Calls Tryz.prog 37 #[.agg #[.int .i64 j,.slice m g.length n],.slice u l1.length c1] w fun e w'=>∃T:Value,e= .returned (.tuple #[T,.int .i64 E])/\Kd.R (Kd.int .i64) 3 w' w.heap.size (fun _=>True) T D/\Below w.heap.size w w':=by
 have be:=Tryz.underlying24;have F:=zA O;have G:=zA P;clear O P;have I:=zA Q;have J:=zA S;clear Q S;have i:=zA (ao w.heap.size w);unfold eT.f at h;have H:=h;clear h;obtain⟨K,U,H⟩:=zo H;by_cases c4:K=0
 ·rw[if_pos c4] at H
  obtain⟨V,W⟩:=bG c4;clear c4;obtain⟨l,A5,H⟩:=zo H;have x:=zA H;clear H;go_enter Tryz.func37,Tryz.ntmps37
  go_wp2_with (first|((with_reducible refine aJ (N:=2) rfl ?_);refine zX 2 #[.int .i64 j,.slice m g.length n] 24 ?_;intro X o w6 v hb;have b:=zA (v);have ag:=zG i o;have ak:=zG i o;replace i:=zS i hb;clear hb v o;obtain⟨am,an,ap,ar⟩:=ax b)|((with_reducible refine aC (f:=80) rfl ?_);refine zL (some 11) Tryz.func80 #[.agg #[.int .i64 j,.slice m g.length n],.slice u l1.length c1] ?_;(with_reducible refine(fI.calls k j _ _ g _ _ l1 K _ ?af ?ah ?aU ?aT U.out).mono ?_);(case af=>exact Kd.aq F.out zB);(case ah=>exact G.out);(case aU=>exact Kd.aq I.out zB);(case aT=>exact J.out);rintro e w8 ⟨rfl,hb⟩;refine⟨_,rfl,?_⟩;replace b:=zb b hb;replace i:=zS i hb;(try clear hb);obtain⟨av,aB,aF,aL⟩:=ax b)|((with_reducible refine aC (f:=81) rfl ?_);refine zL (some 17) Tryz.func81 #[.agg #[.int .i64 j,.slice m g.length n],.slice u l1.length c1] ?_;(with_reducible refine(jk.calls k j _ _ g _ _ l1 l _ ?af ?ah ?aU ?aT A5.out).mono ?_);(case af=>exact Kd.aq F.out zB);(case ah=>exact G.out);(case aU=>exact Kd.aq I.out zB);(case aT=>exact J.out);rintro e bi ⟨aO,rfl,Y,hb⟩;refine⟨_,rfl,?_⟩;have aP:=zA (Kd.bh Y (ba zB));replace b:=zb b hb;replace i:=zS i hb;(try clear hb);(try clear Y)))
  go_loopg [8] k (fun Z v8 w'=>∃(a:Int),v8= .int .i64 a/\Aside0 (eT.l0 Z l a j g=some (D,E))/\Aside0 (Z<=k)/\Aside0 (Kd.R (Kd.int .i64) 3 w' w.heap.size (fun _=>True) aO l)/\Aside0 (w'.heap[X]? =some (.cells #[.int .i64 j,(.slice m g.length n)] 24 (0,0)))/\Aside0 (Below w.heap.size w w'))
  case atStart=>exact⟨(0),zT,x,⟨aI _⟩,⟨zR aP⟩,⟨zK b⟩,⟨zB⟩⟩
  case round=>
   clear x;clear V W am an av aB ap ar aF aL;obtain⟨a,rfl,L,aa,r,b,i⟩:=hrel;cases gk with
   |zero=>exact absurd L.out (by simp[eT.l0])
   |succ k1=>
    have H:=L.out;clear L;simp only[eT.l0] at H;by_cases s:a<j
    ·rw[if_pos s] at H
     have a0:=az s;clear s;by_cases y:0<=a
     ·rw[if_pos y] at H
      have bk:=az y;clear y;by_cases z:a<(l.length:Int)
      ·rw[if_pos z] at H
       have bn:=az z;clear z;obtain⟨a1,ab,H⟩:=zo H;by_cases B:a1=true
       ·subst B
        replace H:=zi H;have x:=zA H;clear H;obtain⟨bo,bv,bw,bx⟩:=ax b;obtain⟨b0,b1,a2⟩:=Kd.bm r.out;subst a2;have p:0<=(a:Int):=aw ‹_›;have q:a<(l.length:Int):=aw ‹_›;obtain⟨a3,M,a4⟩:=Kd.bM (Kd.aH r.out).2.2 a p q;cases M;replace p:=eq_true p;replace q:=eq_true q;go_wp2_with (first|((with_reducible refine aC (f:=91) rfl ?_);refine zL (some 28) Tryz.func91 #[.int .i64 (rd l a)] ?_;(with_reducible refine(lR.calls (rd l a) true _ ab.out).mono ?_);rintro e w' ⟨rfl,⟨nd,rfl⟩⟩;refine⟨_,rfl,?_⟩))
        go_roundg k1
        case measure=>have:=aa.out;omega
        case rel=>exact⟨(wrap64 (a+1)),zT,x,⟨by have:=aa.out;omega⟩,⟨zR r⟩,⟨zK b⟩,⟨zB⟩⟩
       ·replace B:=Bool.eq_false_iff.mpr B
        subst B;replace H:=zj H;simp only[Option.some.injEq,Prod.mk.injEq] at H;obtain⟨rfl,rfl⟩:=H;obtain⟨b2,b3,b4,b5⟩:=ax b;obtain⟨b6,b_,a9⟩:=Kd.bm r.out;subst a9;have p:0<=(a:Int):=aw ‹_›;have q:a<(l.length:Int):=aw ‹_›;obtain⟨a3,M,a4⟩:=Kd.bM (Kd.aH r.out).2.2 a p q;cases M;replace p:=eq_true p;replace q:=eq_true q;go_wp2_with (first|((with_reducible refine aC (f:=91) rfl ?_);refine zL (some 28) Tryz.func91 #[.int .i64 (rd l a)] ?_;(with_reducible refine(lR.calls (rd l a) false _ ab.out).mono ?_);rintro e w' ⟨rfl,⟨nd,rfl⟩⟩;refine⟨_,rfl,?_⟩))
        go_ret2;exact⟨_,zE,by first|exact Kd.cY _ _ _ _ _|exact Kd.fQ _ _ _ _ _|exact Kd.fR _ _ _ _ _|exact Kd.Q_nil _ _ _ _ _|exact Kd.fw _ _ _ _ _,zB⟩
      ·rw[if_neg z] at H
       exact absurd H (by simp)
     ·rw[if_neg y] at H
      exact absurd H (by simp)
    ·rw[if_neg s] at H
     have a0:=aZ s;clear s;simp only[Option.some.injEq,Prod.mk.injEq] at H;obtain⟨rfl,rfl⟩:=H;obtain⟨b',ca,cb,cc⟩:=ax b;go_wp2;go_ret2;exact⟨_,zE,by(with_reducible repeat(first|apply Kd.aK|apply Kd.bu|apply Kd.bl));exact r.out,zB⟩
 ·rw[if_neg c4] at H
  obtain⟨V,W⟩:=bI c4;simp only[Option.some.injEq,Prod.mk.injEq] at H;obtain⟨rfl,rfl⟩:=H;go_enter Tryz.func37,Tryz.ntmps37
  go_wp2_with (first|((with_reducible refine aJ (N:=2) rfl ?_);refine zX 2 #[.int .i64 j,.slice m g.length n] 24 ?_;intro X o cd v hb;have b:=zA (v);have ag:=zG i o;have ak:=zG i o;replace i:=zS i hb;clear hb v o;obtain⟨ce,cf,ch,ci⟩:=ax b)|((with_reducible refine aC (f:=80) rfl ?_);refine zL (some 11) Tryz.func80 #[.agg #[.int .i64 j,.slice m g.length n],.slice u l1.length c1] ?_;(with_reducible refine(fI.calls k j _ _ g _ _ l1 K _ ?af ?ah ?aU ?aT U.out).mono ?_);(case af=>exact Kd.aq F.out zB);(case ah=>exact G.out);(case aU=>exact Kd.aq I.out zB);(case aT=>exact J.out);rintro e cj ⟨rfl,hb⟩;refine⟨_,rfl,?_⟩;replace b:=zb b hb;replace i:=zS i hb;(try clear hb)))
  go_ret2;exact⟨_,zE,by first|exact Kd.cY _ _ _ _ _|exact Kd.fQ _ _ _ _ _|exact Kd.fR _ _ _ _ _|exact Kd.Q_nil _ _ _ _ _|exact Kd.fw _ _ _ _ _,zB⟩
mutual
def cZ.l0:Nat->Int->Int->List (List Int)->Int->Option ((List (List Int)))
 |0,_,_,_,_=>none
 |k+1,b,x1,e,a=>if a<=x1 then((cZ.f k (wrap64 (b-1)) (wrap64 (x1-a))).bind fun g=>(cZ.l1 k b x1 e a g 0)) else(some e)
def cZ.l1:Nat->Int->Int->List (List Int)->Int->List (List Int)->Int->Option ((List (List Int)))
 |0,_,_,_,_,_,_=>none
 |k+1,h,x1,e,g,b,a=>if a<(b.length:Int) then((some (([g]:List Int):List Int)).bind fun i=>(if 0<=a then(if i.length+(aY b a).length<17592186044416 then(if e.length<5864062014805 then(cZ.l1 k h x1 (e++[(i++(aY b a))]) g b (wrap64 (a+1))) else(none)) else(none)) else(none))) else(cZ.l0 k h x1 e (wrap64 (g+1)))
def cZ.f:Nat->Int->Int->Option ((List (List Int)))
 |0,_,_=>none
 |k+1,a0,a=>if a<0 then(some ([]:List (List Int))) else(if a0=1 then(some (([(([a]:List Int))]:List (List Int)))) else(cZ.l0 k a0 a ([]:List (List Int)) 0))
end
theorem cZ.calls (k:Nat):∀(a0:Int) (j:Int) (r:List (List Int)) (w:World) (h:cZ.f k a0 j=some r),
  Calls Tryz.prog 184 #[.int .i64 a0,.int .i64 j] w fun e w'=>∃be:Value,e= .returned (be)/\Kd.N (Kd.slice 3 (Kd.int .i64)) 25 w' w.heap.size (fun a=>(w.heap.size<=a)) be r/\Below w.heap.size w w':=by
 induction k using Nat.strongRecOn with
 |_ k ih=>
 intro a0 j r w h;cases k with
 |zero=>exact absurd h (by simp[cZ.f])
 |succ k=>
 simp only[cZ.f] at h;have o:=zA (ao w.heap.size w);have H:=h;clear h;by_cases c3:j<0
 ·rw[if_pos c3] at H
  have bf:=az c3;clear c3;obtain rfl:=aE H;go_enter Tryz.func184,Tryz.ntmps184
  go_wp2;go_ret;exact⟨_,zE,by first|exact Kd.fw _ _ _ _ _|exact Kd.fQ _ _ _ _ _|exact Kd.fR _ _ _ _ _|exact Kd.Q_nil _ _ _ _ _|exact Kd.cY _ _ _ _ _,zB⟩
 ·rw[if_neg c3] at H
  have bf:=aZ c3;clear c3;by_cases c4:a0=1
  ·rw[if_pos c4] at H
   obtain⟨bg,bi⟩:=bG c4;clear c4;obtain⟨C,ag⟩:∃q:List Int,q=(([j]:List Int)):=⟨_,rfl⟩;replace H:(some (([C]:List (List Int))))=some r:=zh ag H;have bk:=zA ag;clear ag;obtain⟨cc,ak⟩:∃q:List (List Int),q=(([C]:List (List Int))):=⟨_,rfl⟩;replace H:(some cc)=some r:=zh ak H;have bn:=zA ak;clear ak;obtain rfl:=aE H;go_enter Tryz.func184,Tryz.ntmps184
   go_wp2_with (first|((with_reducible refine aJ (N:=14) rfl ?_);refine Kd.eF (Kd.int .i64) _ 3 ?hg (N:=14) ?hd (xs:=([j]:List Int)) (inner:=[.int .i64 j]) (ok:=fun _=>True) (okp:=fun _=>True) ?hr ?hp (fun _ hk=>hk) trivial (ao _ _) (aI _) (by simp) ?_;(case hd=>rfl);(case hg=>rfl);(case hr=>first|(go_simp;done)|(go_simp;rfl));(case hp=>exact(aQ.one (show Kd.M (Kd.int .i64) _ _ _ j [.int .i64 j] from rfl) (aQ.none _ _)));intro c9 w5 G hb I J;clear I J;(first|rw[<-bk.out] at G|(simp only[Int.reduceToNat] at G;rw[<-bk.out] at G));have R:=zA (Kd.bh (Kd.nc (M:=fun a=>(w.heap.size<=a)) G (ba zB) (fun a h_=>h_)) (ba zB));replace o:=zS o hb;clear hb G;obtain⟨bo,bv,ce⟩:=Kd.bm R.out;subst ce)|((with_reducible refine aJ (N:=15) rfl ?_);refine Kd.As (Kd.slice 3 (Kd.int .i64)) _ 25 ?hg (N':=15) ?hd (xs:=([C]:List (List Int))) (inner:=[.slice bo C.length bv]) (ok:=(fun a=>(w.heap.size<=a))) (okp:=(fun a=>(w.heap.size<=a))) ?hr ?hp (fun _ hk=>hk) ((show ∀a,w5.heap.size<=a->(fun a=>(w.heap.size<=a)) a from fun a hk=>(Nat.le_trans (ba zB) hk)) _ (aI _)) (ao _ _) (aI _) (by simp) ?_;(case hd=>rfl);(case hg=>rfl);(case hr=>first|(go_simp;done)|(go_simp;rfl));(case hp=>exact(aQ.one (show Kd.FK (Kd.slice 3 (Kd.int .i64)) _ _ C [.slice bo C.length bv] from(Kd.qi (Kd.aH (Kd.a_ (ok':=(fun a=>(w.heap.size<=a))) (R.out) (fun a hk=>hk.1))).2.1 (Kd.qd (Kd.a_ (ok':=(fun a=>(w.heap.size<=a))) (R.out) (fun a hk=>hk.1))))) (aQ.none _ _)));intro c' w8 K hb I J;clear I J;(first|rw[<-bn.out] at K|(simp only[Int.reduceToNat] at K;rw[<-bn.out] at K));have cf:=zA (Kd.kF K (ba zB));replace o:=zS o hb;clear R;clear hb K))
   go_ret;exact⟨_,zE,by(with_reducible repeat(first|apply Kd.dA|apply Kd.eG|apply Kd.ee));exact cf.out,zB⟩
  ·rw[if_neg c4] at H
   obtain⟨bg,bi⟩:=bI c4;have s:=zA H;clear H;go_enter Tryz.func184,Tryz.ntmps184
   go_wp2;go_loopg [5,6] k (fun L v5 v6 w'=>∃(S:List (List Int)) (l:Int),v6= .int .i64 l/\Aside0 (cZ.l0 L a0 j S l=some r)/\Aside0 (L<=k)/\Aside0 (Kd.N (Kd.slice 3 (Kd.int .i64)) 25 w' w.heap.size (fun a=>(w.heap.size<=a)) v5 S)/\Aside0 (Below w.heap.size w w'))
   case atStart=>exact⟨(([]:List (List Int))),(0),zT,s,⟨aI _⟩,⟨by first|exact Kd.fw _ _ _ _ _|exact Kd.fQ _ _ _ _ _|exact Kd.fR _ _ _ _ _|exact Kd.Q_nil _ _ _ _ _|exact Kd.cY _ _ _ _ _⟩,⟨zB⟩⟩
   case round=>
    clear s;clear bf c4 bg bi;obtain⟨S,l,rfl,v,O,m,o⟩:=hrel;cases gk with
    |zero=>exact absurd v.out (by simp[cZ.l0])
    |succ k1=>
     have H:=v.out;clear v;simp only[cZ.l0] at H;by_cases D:l<=j
     ·rw[if_pos D] at H
      have bw:=az D;clear D;obtain⟨g,ch,H⟩:=zo H;have s:=zA H;clear H;go_wp2_with (first|((with_reducible refine aC (f:=184) rfl ?_);refine zL (some 26) Tryz.func184 #[.int .i64 (wrap64 (a0-1)),.int .i64 (wrap64 (j-l))] ?_;(with_reducible refine(ih k1 (by have:=O.out;omega) (wrap64 (a0-1)) (wrap64 (j-l)) g _ ch.out).mono ?_);rintro e dk ⟨bx,rfl,ap,hb⟩;refine⟨_,rfl,?_⟩;have ci:=zA (Kd.kF (Kd.dz (ok':=fun a=>(w.heap.size<=a)/\some a≠(u5:Value).ownBlock) ap (fun a b0=>⟨(Nat.le_trans (ba zB) b0),(Kd.jL (Kd.oD (zN m)) a b0)⟩)) (ba zB));replace m:=AE m ap hb;replace o:=zS o hb;(try clear hb);(try clear ap)))
      go_loopg [5,8] k1 (fun L v5 v8 w'=>∃(p:List (List Int)) (i:Int),v8= .int .i64 i/\Aside0 (cZ.l1 L a0 j p l g i=some r)/\Aside0 (L<=k1)/\Aside0 (Kd.N (Kd.slice 3 (Kd.int .i64)) 25 w' w.heap.size (fun a=>(w.heap.size<=a)/\some a≠(bx:Value).ownBlock) v5 p)/\Aside0 (Kd.N (Kd.slice 3 (Kd.int .i64)) 25 w' w.heap.size (fun a=>(w.heap.size<=a)/\some a≠(v5:Value).ownBlock) bx g)/\Aside0 (Below w.heap.size w w'))
      case atStart=>exact⟨(S),(0),zT,s,⟨aI _⟩,⟨zN m⟩,⟨zN ci⟩,⟨zB⟩⟩
      case round=>
       clear s;clear bw;obtain⟨p,i,rfl,v,T,m,n,o⟩:=hrel;cases gk with
       |zero=>exact absurd v.out (by simp[cZ.l1])
       |succ P=>
        have H:=v.out;clear v;simp only[cZ.l1] at H;by_cases E:i<(g.length:Int)
        ·rw[if_pos E] at H
         have ck:=az E;clear E;obtain⟨Q,ar⟩:∃q:List Int,q=(([l]:List Int)):=⟨_,rfl⟩;replace H:(if 0<=i then(if Q.length+(aY g i).length<17592186044416 then(if p.length<5864062014805 then(cZ.l1 P a0 j (p++[(Q++(aY g i))]) l g (wrap64 (i+1))) else(none)) else(none)) else(none))=some r:=zh ar H;have b1:=zA ar;clear ar;by_cases U:0<=i
         ·rw[if_pos U] at H
          have dl:=az U;clear U;by_cases W:Q.length+(aY g i).length<17592186044416
          ·rw[if_pos W] at H
           have cl:=zA W;clear W;obtain⟨F,av⟩:∃q:List Int,q=(Q++(aY g i)):=⟨_,rfl⟩;replace H:(if p.length<5864062014805 then(cZ.l1 P a0 j (p++[F]) l g (wrap64 (i+1))) else(none))=some r:=zh av H;have co:=zA av;clear av;by_cases X:p.length<5864062014805
           ·rw[if_pos X] at H
            have cq:=zA X;clear X;obtain⟨b2,a2⟩:∃q:List (List Int),q=(p++[F]):=⟨_,rfl⟩;replace H:(cZ.l1 P a0 j b2 l g (wrap64 (i+1)))=some r:=zh a2 H;have cr:=zA a2;clear a2;have s:=zA H;clear H;obtain⟨ds,x,cs⟩:=Kd.jt n.out;subst cs;go_wp2_with (first|((with_reducible refine aJ (N:=35) rfl ?_);refine Kd.eF (Kd.int .i64) _ 3 ?hg (N:=35) ?hd (xs:=([l]:List Int)) (inner:=[.int .i64 l]) (ok:=fun _=>True) (okp:=fun _=>True) ?hr ?hp (fun _ hk=>hk) trivial (ao _ _) (aI _) (by simp) ?_;(case hd=>rfl);(case hg=>rfl);(case hr=>first|(go_simp;done)|(go_simp;rfl));(case hp=>exact(aQ.one (show Kd.M (Kd.int .i64) _ _ _ l [.int .i64 l] from rfl) (aQ.none _ _)));intro cv dv y hb I J;clear I J;(first|rw[<-b1.out] at y|(simp only[Int.reduceToNat] at y;rw[<-b1.out] at y));replace m:=fS m y hb;replace n:=fS n y hb;have b3:=zA (Kd.bh (Kd.nc (M:=fun a=>(w.heap.size<=a)) y (ba zB) (fun a h_=>h_)) (ba zB));replace o:=zS o hb;clear hb y;have Y:0<=(i:Int):=aw ‹_›;have Z:i<(g.length:Int):=aw ‹_›;obtain⟨z,d0,d1,cx,c0,b4,b5⟩:=fy (Kd.fx n.out).2.2 i Y Z;cases cx;obtain⟨d2,c1,c2,b6⟩:=Kd.kG n.out [] i Y (by first|exact Z|exact aw ‹_› |(have e_:=(Kd.fx n.out).1;omega));obtain⟨d4,d5,rfl,a3,a4⟩:=Kd.iS c2;have aa:=b6 0 _ rfl;rw[Nat.add_zero,show ((Kd.slice 3 (Kd.int .i64))).sz=1 from rfl,Nat.mul_one] at aa;replace aa:=aE (aa.symm.trans c0);injection aa with b_ c5 b';rw[b_] at a4;rw[b'] at a3;have ab:=zA (show Kd.V (Kd.int .i64) 3 _ w.heap.size _ _ (aY g i) from Kd.lx a3 a4);clear b_ c5 b' a4 a3;clear b6 c1;have ca:=zA b5;have d6:=zA b4;clear b5 b4;replace Y:=eq_true Y;replace Z:=eq_true Z)|((with_reducible refine l5 (b:=.append) (xs:=#[.tmp 35,.tmp 39]) rfl ?_);at_builtin;refine Kd.sY (Kd.int .i64) (w0:=w) w.heap.size rfl (.tmp 35) (.tmp 39) 25 3 (.int .i64 0) 8 rfl Tryz.underlying25 gA rfl (by decide) (by omega) cv Q (aY g i) _ _ _ (fun a=>(w.heap.size<=a)) (fun _=>False) rfl rfl ?aO ?aR (fun _ _ h=>h) (fun _ h=>h.elim) ?aF ?aB ?aS ?aL ?_;(case aR=>repeat(first|exact(by repeat(first|(with_reducible exact ca.out)|(with_reducible refine Kd.bz ?_ _)|(with_reducible refine Kd.dR ?_ _)|(with_reducible refine Kd.dy ?_)|exact ca.out))|(with_reducible refine Kd.bz ?_ _)|(with_reducible refine Kd.dR ?_ _)|(with_reducible refine Kd.dy ?_)));(case aB=>exact zB);(case aF=>exact(fun a hk=>(Nat.le_trans (ba zB) hk)));(case aO=>exact(by(with_reducible repeat(first|apply Kd.aK|apply Kd.bu|apply Kd.bl));exact Kd.a_ b3.out (fun _ hk=>hk.1)));(case aS=>exact(ba zB));(case aL=>have:=cl.out;omega);intro d7 d8 B hb hg u;rw[<-co.out] at B;replace m:=zA (Kd.l6 (ok:=(fun a=>(w.heap.size<=a)/\some a≠(.slice (some z) g.length x:Value).ownBlock)) (zN m) hg u);replace n:=zA (Kd.l6 (ok:=(fun a=>(w.heap.size<=a)/\some a≠(u5:Value).ownBlock)) (zN n) hg u);replace ab:=zA (Kd.oE (ok:=(fun a=>(w.heap.size<=a)/\some a≠(u5:Value).ownBlock/\some a≠(.slice (some z) g.length x:Value).ownBlock)) (by(with_reducible repeat(first|apply Kd.V_alloc|apply Kd.hZ|apply Kd.V_drew));exact Kd.ly ab.out (fun _ hk=>⟨⟨hk.1.1.1,⟨hk.1.1.2,hk.2⟩⟩,hk.1.2⟩)) hg u);replace o:=zA (hb);have ad:=zA (B);clear b3;clear B hb hg u;obtain⟨a5,a9,c6⟩:=Kd.bm ad.out;subst c6)|((with_reducible refine l5 (b:=.append) (xs:=#[.tmp 33,.tmp 41]) rfl ?_);at_builtin;refine Kd.tq (Kd.slice 3 (Kd.int .i64)) (w0:=w) w.heap.size rfl (.tmp 33) (.tmp 41) 73 25 (.slice none 0 0) 24 rfl Tryz.underlying73 qq rfl (by decide) (by omega) u5 p F [.slice a5 F.length a9] (fun a=>(w.heap.size<=a)/\some a≠(.slice (some z) g.length x:Value).ownBlock) (fun a=>((fun a=>(w.heap.size<=a)/\some a≠(.slice (some z) g.length x:Value).ownBlock)) a/\some a≠(u5:Value).ownBlock) rfl rfl ?aP (fun _ hk=>hk) ?aF ?aO ?aB ?aS ?aL ?_;(case aP=>exact(Kd.qi (Kd.aH (Kd.a_ (ok':=(fun a=>((fun a=>(w.heap.size<=a)/\some a≠(.slice (some z) g.length x:Value).ownBlock)) a/\some a≠(u5:Value).ownBlock)) (Kd.kx (Kd.kx (ad.out) (Kd.kE n.out) (by decide)) (Kd.kE m.out) (by decide)) (fun a hk=>⟨⟨hk.1.1,hk.1.2⟩,hk.2⟩))).2.1 (Kd.qd (Kd.a_ (ok':=(fun a=>((fun a=>(w.heap.size<=a)/\some a≠(.slice (some z) g.length x:Value).ownBlock)) a/\some a≠(u5:Value).ownBlock)) (Kd.kx (Kd.kx (ad.out) (Kd.kE n.out) (by decide)) (Kd.kE m.out) (by decide)) (fun a hk=>⟨⟨hk.1.1,hk.1.2⟩,hk.2⟩)))));(case aB=>exact zB);(case aF=>exact(fun a hk=>⟨(Nat.le_trans (ba zB) hk),Kd.jL (Kd.oD (zN n)) a hk⟩));(case aO=>exact(by(with_reducible repeat(first|apply Kd.dA|apply Kd.eG|apply Kd.ee));exact Kd.dz m.out (fun _ hk=>⟨hk.1.1,hk.1.2⟩)));(case aS=>exact(ba zB));(case aL=>have:=cq.out;omega);intro d9 ea B hb hg u;rw[<-cr.out] at B;replace n:=zA (Kd.l6 (ok:=(fun a=>(w.heap.size<=a)/\some a≠(.slice a5 F.length a9:Value).ownBlock)) (by(with_reducible repeat(first|apply Kd.dA|apply Kd.eG|apply Kd.ee));exact Kd.dz n.out (fun _ hk=>⟨⟨hk.1.1,hk.2⟩,hk.1.2⟩)) hg u);replace ab:=zA (Kd.oE (ok:=(fun a=>(w.heap.size<=a)/\some a≠(.slice (some z) g.length x:Value).ownBlock/\some a≠(.slice a5 F.length a9:Value).ownBlock)) (by(with_reducible repeat(first|apply Kd.V_alloc|apply Kd.hZ|apply Kd.V_drew));exact Kd.ly ab.out (fun _ hk=>⟨⟨hk.1.1,⟨hk.1.2.2,hk.2⟩⟩,hk.1.2.1⟩)) hg u);replace o:=zA (hb);have c7:=zA (B);clear m ad;clear B hb hg u))
            go_roundg P
            case measure=>have:=O.out;have:=T.out;omega
            case rel=>exact⟨(b2),(wrap64 (i+1)),zT,s,⟨by have:=O.out;have:=T.out;omega⟩,⟨zN c7⟩,⟨by(with_reducible repeat(first|apply Kd.dA|apply Kd.eG|apply Kd.ee));exact Kd.dz n.out (fun _ hk=>⟨hk.1.1,hk.2⟩)⟩,⟨zB⟩⟩
           ·rw[if_neg X] at H
            exact absurd H (by simp)
          ·rw[if_neg W] at H
           exact absurd H (by simp)
         ·rw[if_neg U] at H
          exact absurd H (by simp)
        ·rw[if_neg E] at H
         have ck:=aZ E;clear E;have s:=zA H;clear H;obtain⟨eb,ed,c8⟩:=Kd.jt n.out;subst c8;go_wp2;go_roundg P
         case measure=>have:=O.out;have:=T.out;omega
         case rel=>exact⟨(p),(wrap64 (l+1)),zT,s,⟨by have:=O.out;have:=T.out;omega⟩,⟨by(with_reducible repeat(first|apply Kd.dA|apply Kd.eG|apply Kd.ee));exact Kd.dz m.out (fun _ hk=>hk.1)⟩,⟨zB⟩⟩
     ·rw[if_neg D] at H
      have bw:=aZ D;clear D;obtain rfl:=aE H;go_wp2;go_ret;exact⟨_,zE,by(with_reducible repeat(first|apply Kd.dA|apply Kd.eG|apply Kd.ee));exact m.out,zB⟩
end Go.Proofs.YtffdiakgjakngaaGreat.P


namespace Go.Proofs.YtffdiakgjakngaaGreat.P
open Go.RowKit Go.Proofs.YtffdiakgjakngaaGreatW.PrintWords Go.Proofs.YtffdiakgjakngaaGreatW.PrintLast Go.Proofs.YtffdiakgjakngaaGreatW.PrintMore
set_option linter.unusedVariables false
set_option linter.unusedSimpArgs false
set_option maxHeartbeats 8000000
set_option maxRecDepth 100000
def du.l0:Nat->List Int->List (List Int)->Int->Int->List (S83)->Option (List Int×Bool)
 |0,_,_,_,_,_=>none
 |k+1,x1,b,a,e,g=>if a<(b.length:Int) then(if 0<=a then((cX.f k x1 (aY b a) (-1)).bind fun h=>((bK.f k e g h).bind fun i=>(if i=true then(du.l0 k x1 b (wrap64 (a+1)) e g) else(some (aY b a,true))))) else(none)) else(some (([]:List Int),false))
def du.f (k:Nat) (a:Int) (b:List (S83)) (l1:List Int) (a2:Int):Option (List Int×Bool):=(cZ.f k a a2).bind fun e=>(du.l0 k l1 e 0 a b)
def du.T5:Bool×List (List Nat×List Nat):=(true,[([],[]),([],[]),([],[]),([],[]),([2,3],[2,3]),([4],[4]),([1,5],[1,5]),([0,6,6],[0,6]),([7],[7])])
def du.B5:List Nat:=[0,0,0,0,12,28,62,127,255]
theorem du.py:dw .any (opsOf Tryz.f139 5)=du.T5:=by kernel_rfl
theorem du.pz:iT du.T5.2 du.B5=true:=by kernel_rfl
theorem du.calls (k:Nat) (r:Int) (E:Option Addr) (F:Nat) (q:List (S83)) (A1:Option Addr) (c1:Nat) (l1:List Int) (a2:Int) (r1:List Int) (r2:Bool) (w:World) (bk:Kd.C aW w E q.length q) (bn:q.length<=F) (bo:Kd.C (Kd.int .i64) w A1 l1.length l1) (bv:l1.length<=c1) (h:du.f k r q l1 a2=some (r1,r2)):
  Calls Tryz.prog 139 #[.agg #[.int .i64 r,.slice E q.length F],.slice A1 l1.length c1,.int .i64 a2] w fun e w'=>∃bw:Value,e= .returned (.tuple #[bw,.bool r2])/\Kd.V (Kd.int .i64) 3 w' w.heap.size (fun o=>(w.heap.size<=o)) bw r1/\Below w.heap.size w w':=by
 have d2:=Tryz.underlying24;have bx:=zA bk;have b0:=zA bn;clear bk bn;have b1:=zA bo;have b2:=zA bv;clear bo bv;have j:=zA (ao w.heap.size w);unfold du.f at h;have H:=h;clear h;obtain⟨m,A4,H⟩:=zo H;have H':=zA H;clear H;go_enter Tryz.func139,Tryz.ntmps139
 go_wp2_with (first|((with_reducible refine aJ (N:=3) rfl ?_);refine zX 3 #[.int .i64 r,.slice E q.length F] 24 ?_;intro J hg w5 b3 hb;have a:=zA (b3);have d4:=zG j hg;have d5:=zG j hg;replace j:=zS j hb;clear hb b3 hg;obtain⟨ci,cj,ck,cl⟩:=ax a)|((with_reducible refine aC (f:=184) rfl ?_);refine zL (some 13) Tryz.func184 #[.int .i64 r,.int .i64 a2] ?_;(with_reducible refine(cZ.calls k r a2 m _ A4.out).mono ?_);rintro e w7 ⟨co,rfl,s,hb⟩;refine⟨_,rfl,?_⟩;have cq:=zA (Kd.kF (Kd.dz (ok':=fun o=>(w.heap.size<=o)/\o≠J) s (fun o b4=>⟨(Nat.le_trans (ba zB) b4),(Kd.jM (zK a) o b4)⟩)) (ba zB));replace a:=zb a hb;replace j:=zS j hb;(try clear hb);(try clear s)))
 go_loopg [9] k (fun kq v9 w'=>∃(b:Int),v9= .int .i64 b/\Aside0 (du.l0 kq l1 m b r q=some (r1,r2))/\Aside0 (kq<=k)/\Aside0 (Kd.N (Kd.slice 3 (Kd.int .i64)) 25 w' w.heap.size (fun o=>(w.heap.size<=o)/\o≠J) co m)/\Aside0 (w'.heap[J]? =some (.cells #[.int .i64 r,(.slice E q.length F)] 24 (0,0)))/\Aside0 (Below w.heap.size w w'))
 case atStart=>exact⟨(0),zT,H',⟨aI _⟩,⟨zN cq⟩,⟨zK a⟩,⟨zB⟩⟩
 case round=>
  clear H';clear ci cj ck cl;obtain⟨b,rfl,HA,b6,g,a,j⟩:=hrel;cases gk with
  |zero=>exact absurd HA.out (by simp[du.l0])
  |succ U=>
   have H:=HA.out;clear HA;simp only[du.l0] at H;by_cases R:b<(m.length:Int)
   ·rw[if_pos R] at H
    have cr:=az R;clear R;by_cases c9:0<=b
    ·rw[if_pos c9] at H
     have d7:=az c9;clear c9;obtain⟨T,b_,H⟩:=zo H;obtain⟨cs,b',H⟩:=zo H;by_cases ar:cs=true
     ·subst ar
      replace H:=zi H;have H':=zA H;clear H;obtain⟨d8,d9,cv⟩:=Kd.jt g.out;subst cv;try go_wp2
      replace g:=zA (Kd.ee g.out);replace a:=zA (eL a.out);replace j:=zA (bP j.out);have z:0<=(b:Int):=aw ‹_›;have B:b<(m.length:Int):=aw ‹_›;obtain⟨av,W,X,a0,L,Y,Z⟩:=fy (Kd.fx g.out).2.2 b z B;cases a0;obtain⟨cx,a1,a3,aa⟩:=Kd.kG g.out [] b z (by first|exact B|exact aw ‹_› |(have e_:=(Kd.fx g.out).1;omega));obtain⟨c0,c2,rfl,O,P⟩:=Kd.iS a3;have D:=aa 0 _ rfl;rw[Nat.add_zero,show ((Kd.slice 3 (Kd.int .i64))).sz=1 from rfl,Nat.mul_one] at D;replace D:=aE (D.symm.trans L);injection D with G ab I
      rw[G] at P;rw[I] at O;have u:=zA (show Kd.V (Kd.int .i64) 3 _ w.heap.size _ _ (aY m b) from Kd.lx O P);clear G ab I P O;clear aa a1;have l:=zA Z;have a4:=zA Y;clear Z Y;replace z:=eq_true z;replace B:=eq_true B;refine jP (n:=9) (S:=fun w'=>w'.cell? ⟨J,0,none⟩=some (.int .i64 r)/\w'.cell? ⟨J,1,none⟩=some (.slice E q.length F)/\w'.cell? (av.add (b).toNat)=some (.slice W (aY m b).length X)) (ds:=[]) #[false,false,false,false,false,false,false,false,false] (by kernel_rfl) rfl rfl ⟨(aj a.out 0).trans rfl,(aj a.out 1).trans rfl,L⟩ (fun hHeld=>?_);refine jW du.py du.pz (fun p ad=>?_);generalize wr.drew=ea at g a j u l L hHeld⊢;refine zs 9 0 1 (by kernel_rfl) ?_;iterate 4 (refine zn (v:=?_) (a':=?_) (by simp only[Nat.reduceAdd];rfl) p rfl rfl (by kernel_rfl) (Or.inl ⟨by rfl,?_⟩) ?_ ?_;rotate_left;(focus (intro w';go_simp;with_reducible rfl));rotate_left;(focus (simp only[Act.put,List.setIfInBounds_toArray,List.set_cons_zero,List.set_cons_succ,a8,bb];rfl)))
      refine eW (i:=0) (N:=some 20) (v:=?_) (a':=?_) #[true,true,true,true,true,false,false,false,false] rfl rfl (eX p.out ad.out (by kernel_rfl)) (fun _ _ _ h=>h) (Or.inl ⟨by rfl,?_⟩) hHeld ?_ ?_;rotate_left
      ·rintro w' ⟨s0,s1,s2⟩
       go_simp
       with_reducible rfl
      rotate_left
      ·simp only[Act.put,List.setIfInBounds_toArray,List.set_cons_zero,List.set_cons_succ,a8,bb]
       rfl
      refine eW (i:=5) (N:=some 25) (v:=?_) (a':=?_) #[true,true,true,true,true,true,false,false,false] rfl rfl (eX p.out ad.out (by kernel_rfl)) (fun _ _ _ h=>h) (Or.inl ⟨by rfl,?_⟩) hHeld ?_ ?_;rotate_left
      ·rintro w' ⟨s0,s1,s2⟩
       go_simp
       with_reducible rfl
      rotate_left
      ·simp only[Act.put,List.setIfInBounds_toArray,List.set_cons_zero,List.set_cons_succ,a8,bb]
       rfl
      refine fY (i:=6) (N:=some 26) #[true,true,true,true,true,true,true,false,false] rfl rfl (fg p.out (by kernel_rfl)) (by decide) (fun K x=>?_);refine gz Tryz.func134 (by kernel_rfl) rfl #[.slice A1 l1.length c1,.slice W (aY m b).length X,.int .i64 (-1)] (by rfl) rfl rfl (by(try simp only[List.map_toArray,List.map_cons,List.map_nil]);first|done|rfl|(simp only[List.length_drop,List.length_take];rfl)) ?_;with_reducible refine(cX.calls U _ _ l1 _ _ (aY m b) (-1) T _ ?af ?ah ?aU ?aT b_.out).mono ?_
      (case af=>exact Kd.aq b1.out zB)
      (case ah=>exact b2.out)
      (case aU=>repeat(first|exact(by repeat(first|(with_reducible exact l.out)|(with_reducible refine Kd.bz ?_ _)|(with_reducible refine Kd.dR ?_ _)|(with_reducible refine Kd.dy ?_)|exact l.out))|(with_reducible refine Kd.bz ?_ _)|(with_reducible refine Kd.dR ?_ _)|(with_reducible refine Kd.dy ?_)))
      (case aT=>exact a4.out)
      rintro e eb ⟨c3,rfl,s,hb⟩;have Q:=(hb.cell (br _ _ (hHeld.2.2))).trans (hHeld.2.2);refine⟨_,rfl,?_⟩;replace g:=fS g s hb;replace u:=zA (Kd.l7 (by(with_reducible repeat(first|apply Kd.V_alloc|apply Kd.hZ|apply Kd.V_drew));exact u.out) (Kd.dF s) hb);have y:=zA (Kd.bh (Kd.nc (M:=fun o=>(w.heap.size<=o)) s (ba zB) (fun o h_=>h_)) (ba zB));replace a:=zb a hb;replace l:=zA (Kd.aq (by repeat(first|(with_reducible exact l.out)|(with_reducible refine Kd.bz ?_ _)|(with_reducible refine Kd.dR ?_ _)|(with_reducible refine Kd.dy ?_)|exact l.out)) hb);replace j:=zS j hb
      (try clear hb)
      skip;skip;skip
      (try clear s)
      obtain⟨c4,c5,cb⟩:=Kd.bm y.out
      (first|subst cb|(injection cb with ag a9 ak;have be:=ag.symm;have bf:=ak.symm;clear ag a9 ak;subst be;subst bf))
      refine x.out _ _ ⟨(aj a.out 0).trans rfl,(aj a.out 1).trans rfl,Q⟩ (fun hHeld=>?_);clear x K;refine fZ (a':=?_) ?_ ?_;rotate_left
      ·show Act.put _ (some 26) _=_
       simp only[Act.put,List.setIfInBounds_toArray,List.set_cons_zero,List.set_cons_succ,a8,bb];rfl
      refine fY (i:=7) (N:=some 27) #[true,true,true,true,true,true,true,true,false] rfl rfl (fg p.out (by kernel_rfl)) (by decide) (fun K x=>?_);refine gz Tryz.func92 (by kernel_rfl) rfl #[.agg #[.int .i64 r,.slice E q.length F],.slice c4 T.length c5] (by rfl) rfl rfl (by(try simp only[List.map_toArray,List.map_cons,List.map_nil]);first|done|rfl|(simp only[List.length_drop,List.length_take];rfl)) ?_;with_reducible refine(bK.calls U r _ _ q _ _ T true _ ?af ?ah ?aU ?aT b'.out).mono ?_
      (case af=>exact Kd.aq bx.out zB)
      (case ah=>exact b0.out)
      (case aU=>exact zC (Kd.aH y.out).2.2)
      (case aT=>exact(Kd.aH y.out).2.1)
      rintro e ed ⟨rfl,hb⟩;have Q:=(hb.cell (br _ _ (hHeld.2.2))).trans (hHeld.2.2);refine⟨_,rfl,?_⟩;replace g:=qp g hb;replace u:=zA (Kd.tw (by(with_reducible repeat(first|apply Kd.V_alloc|apply Kd.hZ|apply Kd.V_drew));exact u.out) hb);replace y:=bt y hb;replace a:=zb a hb;replace l:=zA (Kd.aq (by repeat(first|(with_reducible exact l.out)|(with_reducible refine Kd.bz ?_ _)|(with_reducible refine Kd.dR ?_ _)|(with_reducible refine Kd.dy ?_)|exact l.out)) hb);replace j:=zS j hb
      (try clear hb)
      skip;skip;skip;refine x.out _ _ ⟨(aj a.out 0).trans rfl,(aj a.out 1).trans rfl,Q⟩ (fun hHeld=>?_);clear x K;refine fZ (a':=?_) ?_ ?_;rotate_left
      ·show Act.put _ (some 27) _=_
       simp only[Act.put,List.setIfInBounds_toArray,List.set_cons_zero,List.set_cons_succ,a8,bb];rfl
      refine zs 9 255 8 (by kernel_rfl) ?_;refine zn (v:=?_) (a':=?_) (by simp only[Nat.reduceAdd];rfl) p rfl rfl (by kernel_rfl) (Or.inl ⟨by rfl,?_⟩) ?_ ?_;rotate_left;(focus (intro w';go_simp;with_reducible rfl));rotate_left;(focus (simp only[Act.put,List.setIfInBounds_toArray,List.set_cons_zero,List.set_cons_succ,a8,bb];rfl))
      refine jQ (jV p.out (by kernel_rfl)) ?_;try go_wp2
      go_roundg U
      case measure=>have:=b6.out;omega
      case rel=>exact⟨(wrap64 (b+1)),zT,H',⟨by have:=b6.out;omega⟩,⟨by(with_reducible repeat(first|apply Kd.dA|apply Kd.eG|apply Kd.ee));exact Kd.dz g.out (fun _ hk=>⟨hk.1.1,hk.1.2⟩)⟩,⟨zK a⟩,⟨zB⟩⟩
     ·replace ar:=Bool.eq_false_iff.mpr ar
      subst ar;replace H:=zj H;simp only[Option.some.injEq,Prod.mk.injEq] at H;obtain⟨rfl,rfl⟩:=H;obtain⟨eg,ek,c6⟩:=Kd.jt g.out;subst c6;try go_wp2
      replace g:=zA (Kd.ee g.out);replace a:=zA (eL a.out);replace j:=zA (bP j.out);have z:0<=(b:Int):=aw ‹_›;have B:b<(m.length:Int):=aw ‹_›;obtain⟨av,W,X,a0,L,Y,Z⟩:=fy (Kd.fx g.out).2.2 b z B;cases a0;obtain⟨cx,a1,a3,aa⟩:=Kd.kG g.out [] b z (by first|exact B|exact aw ‹_› |(have e_:=(Kd.fx g.out).1;omega));obtain⟨c0,c2,rfl,O,P⟩:=Kd.iS a3;have D:=aa 0 _ rfl;rw[Nat.add_zero,show ((Kd.slice 3 (Kd.int .i64))).sz=1 from rfl,Nat.mul_one] at D;replace D:=aE (D.symm.trans L);injection D with G ab I
      rw[G] at P;rw[I] at O;have u:=zA (show Kd.V (Kd.int .i64) 3 _ w.heap.size _ _ (aY m b) from Kd.lx O P);clear G ab I P O;clear aa a1;have l:=zA Z;have a4:=zA Y;clear Z Y;replace z:=eq_true z;replace B:=eq_true B;refine jP (n:=9) (S:=fun w'=>w'.cell? ⟨J,0,none⟩=some (.int .i64 r)/\w'.cell? ⟨J,1,none⟩=some (.slice E q.length F)/\w'.cell? (av.add (b).toNat)=some (.slice W (aY m b).length X)) (ds:=[]) #[false,false,false,false,false,false,false,false,false] (by kernel_rfl) rfl rfl ⟨(aj a.out 0).trans rfl,(aj a.out 1).trans rfl,L⟩ (fun hHeld=>?_);refine jW du.py du.pz (fun p ad=>?_);generalize wr.drew=el at g a j u l L hHeld⊢;refine zs 9 0 1 (by kernel_rfl) ?_;iterate 4 (refine zn (v:=?_) (a':=?_) (by simp only[Nat.reduceAdd];rfl) p rfl rfl (by kernel_rfl) (Or.inl ⟨by rfl,?_⟩) ?_ ?_;rotate_left;(focus (intro w';go_simp;with_reducible rfl));rotate_left;(focus (simp only[Act.put,List.setIfInBounds_toArray,List.set_cons_zero,List.set_cons_succ,a8,bb];rfl)))
      refine eW (i:=0) (N:=some 20) (v:=?_) (a':=?_) #[true,true,true,true,true,false,false,false,false] rfl rfl (eX p.out ad.out (by kernel_rfl)) (fun _ _ _ h=>h) (Or.inl ⟨by rfl,?_⟩) hHeld ?_ ?_;rotate_left
      ·rintro w' ⟨s0,s1,s2⟩
       go_simp
       with_reducible rfl
      rotate_left
      ·simp only[Act.put,List.setIfInBounds_toArray,List.set_cons_zero,List.set_cons_succ,a8,bb]
       rfl
      refine eW (i:=5) (N:=some 25) (v:=?_) (a':=?_) #[true,true,true,true,true,true,false,false,false] rfl rfl (eX p.out ad.out (by kernel_rfl)) (fun _ _ _ h=>h) (Or.inl ⟨by rfl,?_⟩) hHeld ?_ ?_;rotate_left
      ·rintro w' ⟨s0,s1,s2⟩
       go_simp
       with_reducible rfl
      rotate_left
      ·simp only[Act.put,List.setIfInBounds_toArray,List.set_cons_zero,List.set_cons_succ,a8,bb]
       rfl
      refine fY (i:=6) (N:=some 26) #[true,true,true,true,true,true,true,false,false] rfl rfl (fg p.out (by kernel_rfl)) (by decide) (fun K x=>?_);refine gz Tryz.func134 (by kernel_rfl) rfl #[.slice A1 l1.length c1,.slice W (aY m b).length X,.int .i64 (-1)] (by rfl) rfl rfl (by(try simp only[List.map_toArray,List.map_cons,List.map_nil]);first|done|rfl|(simp only[List.length_drop,List.length_take];rfl)) ?_;with_reducible refine(cX.calls U _ _ l1 _ _ (aY m b) (-1) T _ ?af ?ah ?aU ?aT b_.out).mono ?_
      (case af=>exact Kd.aq b1.out zB)
      (case ah=>exact b2.out)
      (case aU=>repeat(first|exact(by repeat(first|(with_reducible exact l.out)|(with_reducible refine Kd.bz ?_ _)|(with_reducible refine Kd.dR ?_ _)|(with_reducible refine Kd.dy ?_)|exact l.out))|(with_reducible refine Kd.bz ?_ _)|(with_reducible refine Kd.dR ?_ _)|(with_reducible refine Kd.dy ?_)))
      (case aT=>exact a4.out)
      rintro e em ⟨c3,rfl,s,hb⟩;have Q:=(hb.cell (br _ _ (hHeld.2.2))).trans (hHeld.2.2);refine⟨_,rfl,?_⟩;replace g:=fS g s hb;replace u:=zA (Kd.l7 (by(with_reducible repeat(first|apply Kd.V_alloc|apply Kd.hZ|apply Kd.V_drew));exact u.out) (Kd.dF s) hb);have y:=zA (Kd.bh (Kd.nc (M:=fun o=>(w.heap.size<=o)) s (ba zB) (fun o h_=>h_)) (ba zB));replace a:=zb a hb;replace l:=zA (Kd.aq (by repeat(first|(with_reducible exact l.out)|(with_reducible refine Kd.bz ?_ _)|(with_reducible refine Kd.dR ?_ _)|(with_reducible refine Kd.dy ?_)|exact l.out)) hb);replace j:=zS j hb
      (try clear hb)
      skip;skip;skip
      (try clear s)
      obtain⟨c7,c',cc⟩:=Kd.bm y.out
      (first|subst cc|(injection cc with ag a9 ak;have be:=ag.symm;have bf:=ak.symm;clear ag a9 ak;subst be;subst bf))
      refine x.out _ _ ⟨(aj a.out 0).trans rfl,(aj a.out 1).trans rfl,Q⟩ (fun hHeld=>?_);clear x K;refine fZ (a':=?_) ?_ ?_;rotate_left
      ·show Act.put _ (some 26) _=_
       simp only[Act.put,List.setIfInBounds_toArray,List.set_cons_zero,List.set_cons_succ,a8,bb];rfl
      refine fY (i:=7) (N:=some 27) #[true,true,true,true,true,true,true,true,false] rfl rfl (fg p.out (by kernel_rfl)) (by decide) (fun K x=>?_);refine gz Tryz.func92 (by kernel_rfl) rfl #[.agg #[.int .i64 r,.slice E q.length F],.slice c7 T.length c'] (by rfl) rfl rfl (by(try simp only[List.map_toArray,List.map_cons,List.map_nil]);first|done|rfl|(simp only[List.length_drop,List.length_take];rfl)) ?_;with_reducible refine(bK.calls U r _ _ q _ _ T false _ ?af ?ah ?aU ?aT b'.out).mono ?_
      (case af=>exact Kd.aq bx.out zB)
      (case ah=>exact b0.out)
      (case aU=>exact zC (Kd.aH y.out).2.2)
      (case aT=>exact(Kd.aH y.out).2.1)
      rintro e er ⟨rfl,hb⟩;have Q:=(hb.cell (br _ _ (hHeld.2.2))).trans (hHeld.2.2);refine⟨_,rfl,?_⟩;replace g:=qp g hb;replace u:=zA (Kd.tw (by(with_reducible repeat(first|apply Kd.V_alloc|apply Kd.hZ|apply Kd.V_drew));exact u.out) hb);replace y:=bt y hb;replace a:=zb a hb;replace l:=zA (Kd.aq (by repeat(first|(with_reducible exact l.out)|(with_reducible refine Kd.bz ?_ _)|(with_reducible refine Kd.dR ?_ _)|(with_reducible refine Kd.dy ?_)|exact l.out)) hb);replace j:=zS j hb
      (try clear hb)
      skip;skip;skip;refine x.out _ _ ⟨(aj a.out 0).trans rfl,(aj a.out 1).trans rfl,Q⟩ (fun hHeld=>?_);clear x K;refine fZ (a':=?_) ?_ ?_;rotate_left
      ·show Act.put _ (some 27) _=_
       simp only[Act.put,List.setIfInBounds_toArray,List.set_cons_zero,List.set_cons_succ,a8,bb];rfl
      refine zs 9 255 8 (by kernel_rfl) ?_;refine zn (v:=?_) (a':=?_) (by simp only[Nat.reduceAdd];rfl) p rfl rfl (by kernel_rfl) (Or.inl ⟨by rfl,?_⟩) ?_ ?_;rotate_left;(focus (intro w';go_simp;with_reducible rfl));rotate_left;(focus (simp only[Act.put,List.setIfInBounds_toArray,List.set_cons_zero,List.set_cons_succ,a8,bb];rfl))
      refine jQ (jV p.out (by kernel_rfl)) ?_;have aB:0<=(b:Int):=aw ‹_›;have aF:b<(m.length:Int):=aw ‹_›;obtain⟨dd,es,ev,dk,dl,cd,ce⟩:=fy (Kd.fx g.out).2.2 b aB aF;obtain rfl:av=dd:=(by injection dk);obtain⟨ew,dv,d0,cf⟩:=Kd.kG g.out [] b aB (by first|exact aF|exact aw ‹_› |(have e_:=(Kd.fx g.out).1;omega));obtain⟨ex,ey,rfl,bg,bi⟩:=Kd.iS d0;have aL:=cf 0 _ rfl;rw[Nat.add_zero,show ((Kd.slice 3 (Kd.int .i64))).sz=1 from rfl,Nat.mul_one] at aL;replace aL:=aE (aL.symm.trans dl);injection aL with G ab I
      rw[G] at bi;rw[I] at bg;have e0:=zA (show Kd.V (Kd.int .i64) 3 _ w.heap.size _ _ (aY m b) from Kd.lx bg bi);clear G ab I bi bg;clear cf dv;have e1:=zA ce;have e2:=zA cd;clear ce cd;replace aB:=eq_true aB;replace aF:=eq_true aF;try go_wp2
      go_ret2;exact⟨_,zE,by(with_reducible repeat(first|apply Kd.V_alloc|apply Kd.hZ|apply Kd.V_drew));exact Kd.ly u.out (fun _ hk=>hk.1.1.1),zB⟩
    ·rw[if_neg c9] at H
     exact absurd H (by simp)
   ·rw[if_neg R] at H
    have cr:=aZ R;clear R;simp only[Option.some.injEq,Prod.mk.injEq] at H;obtain⟨rfl,rfl⟩:=H;obtain⟨e3,e4,d1⟩:=Kd.jt g.out;subst d1;go_wp2;go_ret2;exact⟨_,zE,(show Kd.V _ _ _ _ _ (.slice none 0 0) [] from Kd.fR _ _ _ _ _),zB⟩
def fN.l0:Nat->List Int->Int->Int->List (S83)->Option (Int)
 |0,_,_,_,_=>none
 |k+1,x1,a,b,e=>(dL.f k x1).bind fun g=>(if a<g then((du.f k b e x1 (wrap64 (a+1))).bind fun h=>(if h.2=true then(some a) else(fN.l0 k x1 (wrap64 (a+1)) b e))) else(some a))
def fN.f (k:Nat) (a:Int) (b:List (S83)) (l1:List Int):Option (Int):=fN.l0 k l1 (-1) a b
theorem fN.calls (k:Nat) (g:Int) (n:Option Addr) (o:Nat) (a:List (S83)) (l:Option Addr) (c1:Nat) (l1:List Int) (r:Int) (w:World) (I:Kd.C aW w n a.length a) (J:a.length<=o) (K:Kd.C (Kd.int .i64) w l l1.length l1) (L:l1.length<=c1) (h:fN.f k g a l1=some r):
  Calls Tryz.prog 83 #[.agg #[.int .i64 g,.slice n a.length o],.slice l l1.length c1] w fun e w'=>e= .returned (.int .i64 r)/\Below w.heap.size w w':=by
 have Z:=Tryz.underlying24;have M:=zA I;have O:=zA J;clear I J;have s:=zA K;have u:=zA L;clear K L;have i:=zA (ao w.heap.size w);have H:(fN.l0 k l1 (-1) g a)=some r:=h;clear h;have x:=zA H;clear H;go_enter Tryz.func83,Tryz.ntmps83
 go_wp2_with (first|((with_reducible refine aJ (N:=2) rfl ?_);refine zX 2 #[.int .i64 g,.slice n a.length o] 24 ?_;intro B D w3 P hb;have b:=zA (P);have aa:=zG i D;have ab:=zG i D;replace i:=zS i hb;clear hb P D))
 go_loopg [5] k (fun Q v5 w'=>∃(j:Int),v5= .int .i64 j/\Aside0 (fN.l0 Q l1 j g a=some r)/\Aside0 (Q<=k)/\Aside0 (w'.heap[B]? =some (.cells #[.int .i64 g,(.slice n a.length o)] 24 (0,0)))/\Aside0 (Below w.heap.size w w'))
 case atStart=>exact⟨((-1)),zT,x,⟨aI _⟩,⟨zK b⟩,⟨zB⟩⟩
 case round=>
  clear x;obtain⟨j,rfl,E,R,b,i⟩:=hrel;cases gk with
  |zero=>exact absurd E.out (by simp[fN.l0])
  |succ p=>
   have H:=E.out;clear E;simp only[fN.l0] at H;obtain⟨y,F,H⟩:=zo H;by_cases q:j<y
   ·rw[if_pos q] at H
    have V:=az q;clear q;obtain⟨⟨S,W⟩,T,H⟩:=zo H;dsimp only at H;by_cases z:W=true
    ·subst z
     replace H:=zi H;obtain rfl:=aE H;go_wp2_with (first|((with_reducible refine aC (f:=22) rfl ?_);refine zL (some 10) Tryz.func22 #[.slice l l1.length c1] ?_;(with_reducible refine(dL.calls p _ _ l1 y _ ?af ?ah F.out).mono ?_);(case af=>exact Kd.aq s.out zB);(case ah=>exact u.out);rintro e w' ⟨rfl,⟨U,rfl⟩⟩;refine⟨_,rfl,?_⟩;obtain⟨ad,ag,ak,am⟩:=ax b)|((with_reducible refine aC (f:=139) rfl ?_);refine zL (some 17) Tryz.func139 #[.agg #[.int .i64 g,.slice n a.length o],.slice l l1.length c1,.int .i64 (wrap64 (j+1))] ?_;(with_reducible refine(du.calls p g _ _ a _ _ l1 (wrap64 (j+1)) S true _ ?af ?ah ?aU ?aT T.out).mono ?_);(case af=>exact Kd.aq M.out zB);(case ah=>exact O.out);(case aU=>exact Kd.aq s.out zB);(case aT=>exact u.out);rintro e w9 ⟨X,rfl,v,hb⟩;refine⟨_,rfl,?_⟩;have Y:=zA (Kd.tu (Kd.ly (ok':=fun m=>m≠B) v (fun m G=>(Kd.jM (zK b) m G))) (ba zB));replace b:=zb b hb;replace i:=zS i hb;(try clear hb);(try clear v)))
     go_ret;exact⟨zE,zB⟩
    ·replace z:=Bool.eq_false_iff.mpr z
     subst z;replace H:=zj H;have x:=zA H;clear H;go_wp2_with (first|((with_reducible refine aC (f:=22) rfl ?_);refine zL (some 10) Tryz.func22 #[.slice l l1.length c1] ?_;(with_reducible refine(dL.calls p _ _ l1 y _ ?af ?ah F.out).mono ?_);(case af=>exact Kd.aq s.out zB);(case ah=>exact u.out);rintro e w' ⟨rfl,⟨U,rfl⟩⟩;refine⟨_,rfl,?_⟩;obtain⟨ap,ar,av,aB⟩:=ax b)|((with_reducible refine aC (f:=139) rfl ?_);refine zL (some 17) Tryz.func139 #[.agg #[.int .i64 g,.slice n a.length o],.slice l l1.length c1,.int .i64 (wrap64 (j+1))] ?_;(with_reducible refine(du.calls p g _ _ a _ _ l1 (wrap64 (j+1)) S false _ ?af ?ah ?aU ?aT T.out).mono ?_);(case af=>exact Kd.aq M.out zB);(case ah=>exact O.out);(case aU=>exact Kd.aq s.out zB);(case aT=>exact u.out);rintro e iB ⟨X,rfl,v,hb⟩;refine⟨_,rfl,?_⟩;have Y:=zA (Kd.tu (Kd.ly (ok':=fun m=>m≠B) v (fun m G=>(Kd.jM (zK b) m G))) (ba zB));replace b:=zb b hb;replace i:=zS i hb;(try clear hb);(try clear v)))
     go_roundg p
     case measure=>have:=R.out;omega
     case rel=>exact⟨(wrap64 (j+1)),zT,x,⟨by have:=R.out;omega⟩,⟨zK b⟩,⟨zB⟩⟩
   ·rw[if_neg q] at H
    have V:=aZ q;clear q;obtain rfl:=aE H;go_wp2_with (first|((with_reducible refine aC (f:=22) rfl ?_);refine zL (some 10) Tryz.func22 #[.slice l l1.length c1] ?_;(with_reducible refine(dL.calls p _ _ l1 y _ ?af ?ah F.out).mono ?_);(case af=>exact Kd.aq s.out zB);(case ah=>exact u.out);rintro e w' ⟨rfl,⟨U,rfl⟩⟩;refine⟨_,rfl,?_⟩))
    go_ret;exact⟨zE,zB⟩
def fO.f (k:Nat) (a:Int) (b:List (S83)) (l1:List Int):Option (Int×Int):=(eT.f k a b l1).bind fun e=>(if e.2=0 then((fN.f k a b l1).bind fun g=>((fN.f k a b e.1).bind fun h=>(some (wrap64 (g-h),0)))) else(some (0,e.2)))
def fO.T4:Bool×List (List Nat×List Nat):=(true,[([],[]),([],[]),([0,1],[0,1]),([],[]),([],[]),([3,4,2],[3,4]),([2,5],[2,5]),([6,5,0,1,2,3,4,5,6],[6]),([7,0,1,2,3,4,5,6,7],[])])
def fO.B4:List Nat:=[0,0,3,0,0,31,63,127,255]
theorem fO.FX:dw .any (opsOf Tryz.f28 4)=fO.T4:=by kernel_rfl
theorem fO.FY:iT fO.T4.2 fO.B4=true:=by kernel_rfl
theorem fO.calls (k:Nat) (j:Int) (m:Option Addr) (o:Nat) (g:List (S83)) (r:Option Addr) (c1:Nat) (l1:List Int) (I:Int) (J:Int) (w:World) (L:Kd.C aW w m g.length g) (M:g.length<=o) (O:Kd.C (Kd.int .i64) w r l1.length l1) (P:l1.length<=c1) (h:fO.f k j g l1=some (I,J)):
  Calls Tryz.prog 28 #[.agg #[.int .i64 j,.slice m g.length o],.slice r l1.length c1] w fun e w'=>e= .returned (.tuple #[.int .i64 I,.int .i64 J])/\Below w.heap.size w w':=by
 have aF:=Tryz.underlying24;have y:=zA L;have z:=zA M;clear L M;have D:=zA O;have E:=zA P;clear O P;have b:=zA (ao w.heap.size w);unfold fO.f at h;have H:=h;clear h;obtain⟨⟨B,F⟩,Q,H⟩:=zo H;dsimp only at H;by_cases c4:F=0
 ·rw[if_pos c4] at H
  obtain⟨W,X⟩:=bG c4;clear c4;obtain⟨Y,Z,H⟩:=zo H;obtain⟨aa,A6,H⟩:=zo H;simp only[Option.some.injEq,Prod.mk.injEq] at H;obtain⟨rfl,rfl⟩:=H;go_enter Tryz.func28,Tryz.ntmps28
  try go_wp2_with (first|((with_reducible refine aJ (N:=2) rfl ?_);refine zX 2 #[.int .i64 j,.slice m g.length o] 24 ?_;intro G q w7 s hb;have a:=zA (s);have ad:=zG b q;have ag:=zG b q;replace b:=zS b hb;clear hb s q;obtain⟨aO,aP,aR,aS⟩:=ax a)|((with_reducible refine aC (f:=37) rfl ?_);refine zL (some 11) Tryz.func37 #[.agg #[.int .i64 j,.slice m g.length o],.slice r l1.length c1] ?_;(with_reducible refine(eT.calls k j _ _ g _ _ l1 B F _ ?af ?ah ?aU ?aT Q.out).mono ?_);(case af=>exact Kd.aq y.out zB);(case ah=>exact z.out);(case aU=>exact Kd.aq D.out zB);(case aT=>exact E.out);rintro e w9 ⟨am,rfl,u,hb⟩;refine⟨_,rfl,?_⟩;have l:=zA (Kd.bh u (ba zB));replace a:=zb a hb;replace b:=zS b hb;(try clear hb);(try clear u)))
  replace l:=zA (Kd.bl l.out);replace a:=zA (eL a.out);replace b:=zA (bP b.out);refine jP (n:=9) (S:=fun w'=>w'.cell? ⟨G,0,none⟩=some (.int .i64 j)/\w'.cell? ⟨G,1,none⟩=some (.slice m g.length o)) (ds:=[]) #[false,false,false,false,false,false,false,false,false] (by kernel_rfl) rfl rfl ⟨(aj a.out 0).trans rfl,(aj a.out 1).trans rfl⟩ (fun hHeld=>?_);refine jW fO.FX fO.FY (fun p R=>?_);generalize w9.drew=a0 at l a b hHeld⊢;refine zs 9 0 1 (by kernel_rfl) ?_;refine zn (v:=?_) (a':=?_) (by simp only[Nat.reduceAdd];rfl) p rfl rfl (by kernel_rfl) (Or.inl ⟨by rfl,?_⟩) ?_ ?_;rotate_left;(focus (intro w';go_simp;with_reducible rfl));rotate_left;(focus (simp only[Act.put,List.setIfInBounds_toArray,List.set_cons_zero,List.set_cons_succ,a8,bb];rfl))
  refine zs 9 2 4 (by kernel_rfl) ?_;refine zn (v:=?_) (a':=?_) (by simp only[Nat.reduceAdd];rfl) p rfl rfl (by kernel_rfl) (Or.inl ⟨by rfl,?_⟩) ?_ ?_;rotate_left;(focus (intro w';go_simp;with_reducible rfl));rotate_left;(focus (simp only[Act.put,List.setIfInBounds_toArray,List.set_cons_zero,List.set_cons_succ,a8,bb];rfl))
  refine eW (i:=0) (N:=some 17) (v:=?_) (a':=?_) #[true,true,false,false,true,false,false,false,false] rfl rfl (eX p.out R.out (by kernel_rfl)) (fun _ _ _ h=>h) (Or.inl ⟨by rfl,?_⟩) hHeld ?_ ?_;rotate_left
  ·rintro w' ⟨s0,s1⟩
   go_simp
   with_reducible rfl
  rotate_left
  ·simp only[Act.put,List.setIfInBounds_toArray,List.set_cons_zero,List.set_cons_succ,a8,bb]
   rfl
  refine eW (i:=3) (N:=some 20) (v:=?_) (a':=?_) #[true,true,false,true,true,false,false,false,false] rfl rfl (eX p.out R.out (by kernel_rfl)) (fun _ _ _ h=>h) (Or.inl ⟨by rfl,?_⟩) hHeld ?_ ?_;rotate_left
  ·rintro w' ⟨s0,s1⟩
   go_simp
   with_reducible rfl
  rotate_left
  ·simp only[Act.put,List.setIfInBounds_toArray,List.set_cons_zero,List.set_cons_succ,a8,bb]
   rfl
  refine fY (i:=2) (N:=some 19) #[true,true,true,true,true,false,false,false,false] rfl rfl (fg p.out (by kernel_rfl)) (by decide) (fun K x=>?_);refine gz Tryz.func83 (by kernel_rfl) rfl #[.agg #[.int .i64 j,.slice m g.length o],.slice r l1.length c1] (by rfl) rfl rfl (by(try simp only[List.map_toArray,List.map_cons,List.map_nil]);first|done|rfl|(simp only[List.length_drop,List.length_take];rfl)) ?_;with_reducible refine(fN.calls k j _ _ g _ _ l1 Y _ ?af ?ah ?aU ?aT Z.out).mono ?_
  (case af=>exact Kd.aq y.out zB)
  (case ah=>exact z.out)
  (case aU=>exact Kd.aq D.out zB)
  (case aT=>exact E.out)
  rintro e iB ⟨rfl,hb⟩;refine⟨_,rfl,?_⟩;replace l:=bt l hb;replace a:=zb a hb;replace b:=zS b hb
  (try clear hb)
  skip;skip;skip;obtain⟨an,ap,T⟩:=Kd.bm l.out
  (first|subst T|(injection T with U ar V;have av:=U.symm;have aB:=V.symm;clear U ar V;subst av;subst aB))
  refine x.out _ _ ⟨(aj a.out 0).trans rfl,(aj a.out 1).trans rfl⟩ (fun hHeld=>?_);clear x K;refine fZ (a':=?_) ?_ ?_;rotate_left
  ·show Act.put _ (some 19) _=_
   simp only[Act.put,List.setIfInBounds_toArray,List.set_cons_zero,List.set_cons_succ,a8,bb];rfl
  refine fY (i:=5) (N:=some 22) #[true,true,true,true,true,true,false,false,false] rfl rfl (fg p.out (by kernel_rfl)) (by decide) (fun K x=>?_);refine gz Tryz.func83 (by kernel_rfl) rfl #[.agg #[.int .i64 j,.slice m g.length o],.slice an B.length ap] (by rfl) rfl rfl (by(try simp only[List.map_toArray,List.map_cons,List.map_nil]);first|done|rfl|(simp only[List.length_drop,List.length_take];rfl)) ?_;with_reducible refine(fN.calls k j _ _ g _ _ B aa _ ?af ?ah ?aU ?aT A6.out).mono ?_
  (case af=>exact Kd.aq y.out zB)
  (case ah=>exact z.out)
  (case aU=>exact zC (Kd.aH l.out).2.2)
  (case aT=>exact(Kd.aH l.out).2.1)
  rintro e a1 ⟨rfl,hb⟩;refine⟨_,rfl,?_⟩;replace l:=bt l hb;replace a:=zb a hb;replace b:=zS b hb
  (try clear hb)
  skip;skip;skip;refine x.out _ _ ⟨(aj a.out 0).trans rfl,(aj a.out 1).trans rfl⟩ (fun hHeld=>?_);clear x K;refine fZ (a':=?_) ?_ ?_;rotate_left
  ·show Act.put _ (some 22) _=_
   simp only[Act.put,List.setIfInBounds_toArray,List.set_cons_zero,List.set_cons_succ,a8,bb];rfl
  refine zs 9 63 6 (by kernel_rfl) ?_;iterate 3 (refine zn (v:=?_) (a':=?_) (by simp only[Nat.reduceAdd];rfl) p rfl rfl (by kernel_rfl) (Or.inl ⟨by rfl,?_⟩) ?_ ?_;rotate_left;(focus (intro w';go_simp;with_reducible rfl));rotate_left;(focus (simp only[Act.put,List.setIfInBounds_toArray,List.set_cons_zero,List.set_cons_succ,a8,bb];rfl)))
  refine jQ (jV p.out (by kernel_rfl)) ?_;try go_wp2
  go_ret2;exact⟨zE,zB⟩
 ·rw[if_neg c4] at H
  obtain⟨W,X⟩:=bI c4;simp only[Option.some.injEq,Prod.mk.injEq] at H;obtain⟨rfl,rfl⟩:=H;go_enter Tryz.func28,Tryz.ntmps28
  go_wp2_with (first|((with_reducible refine aJ (N:=2) rfl ?_);refine zX 2 #[.int .i64 j,.slice m g.length o] 24 ?_;intro G q a2 s hb;have a:=zA (s);have ad:=zG b q;have ag:=zG b q;replace b:=zS b hb;clear hb s q;obtain⟨a3,a4,a5,a9⟩:=ax a)|((with_reducible refine aC (f:=37) rfl ?_);refine zL (some 11) Tryz.func37 #[.agg #[.int .i64 j,.slice m g.length o],.slice r l1.length c1] ?_;(with_reducible refine(eT.calls k j _ _ g _ _ l1 B F _ ?af ?ah ?aU ?aT Q.out).mono ?_);(case af=>exact Kd.aq y.out zB);(case ah=>exact z.out);(case aU=>exact Kd.aq D.out zB);(case aT=>exact E.out);rintro e be ⟨am,rfl,u,hb⟩;refine⟨_,rfl,?_⟩;have l:=zA (Kd.bh u (ba zB));replace a:=zb a hb;replace b:=zS b hb;(try clear hb);(try clear u)))
  go_ret2;exact⟨zE,zB⟩
section
theorem sh:∀n d:Nat,(eK n d).length<=(d+1) ^ n
 |0,d=>by simp[eK]
 |n+1,d=>by
  have key:∀(B:Nat) (l:List Nat),(∀k∈l,((eK n (d-k)).map fun x=>(k:Int)::x).length<=B)->(l.flatMap fun k=>(eK n (d-k)).map fun x=>(k:Int)::x).length<=l.length*B:=fun B l=>by
   induction l with
   |nil=>intro _;simp
   |cons k l a=>
    intro h;have h1:=a (fun k hk=>h k (List.mem_cons_of_mem _ hk));have b:=h k (List.mem_cons_self ..);rw[List.flatMap_cons,List.length_append,List.length_cons,Nat.succ_mul];omega
  have h:=key ((d+1) ^ n) (List.range (d+1)) (fun k hk=>by
   rw[List.length_map];exact Nat.le_trans (sh n (d-k)) (Nat.pow_le_pow_left (by omega) n))
  rw[List.length_range] at h;rw[Nat.pow_succ,Nat.mul_comm];exact h
theorem sj (L:List (List Int)) (i:Nat) (h:i<L.length):aY L (i:Int)=L[i]:=by simp[aY,bc,bS h]
theorem xI (b d0:Int) (a:Nat) (rows:List (List Int)) (g:∀x∈rows,x.length<=1000) (acc:List (List Int)) {r:List (List Int)} (l:acc.length+rows.length<=1000000) (hk:a<=1000)
  (h:Ev (fun k=>cZ.l0 k b d0 (acc++rows.map fun x=>(a:Int)::x) ((a+1:Nat):Int)) r):∀(m i:Nat),i+m=rows.length->Ev (fun k=>cZ.l1 k b d0 (acc++(rows.take i).map fun x=>(a:Int)::x) a rows i) r
 |0,i,hi=>by
  rw[List.take_of_length_le (by omega)];refine Ev.of_succ ?_;simp only[cZ.l1,if_neg (show ¬(i:Int)<rows.length by omega),cV (show a<=1000000 by omega)];exact h
 |m+1,i,hi=>by
  have j:=xI b d0 a rows g acc l hk h m (i+1) (by omega);have e:i<rows.length:=by omega
  have n:=g _ (List.getElem_mem e);rw[List.take_succ_eq_append_getElem e,List.map_append,<-List.append_assoc] at j;refine Ev.of_succ ?_;simp only[cZ.l1,if_pos (show (i:Int)<rows.length by omega),Option.bind_some,if_pos (show (0:Int)<=i by omega),sj rows i e,List.length_singleton,if_pos (show 1+rows[i].length<17592186044416 by omega),if_pos (show (acc++(rows.take i).map fun x=>(a:Int)::x).length<5864062014805 by simp;omega),cV (show i<=1000000 by omega)];exact j
theorem xJ {n d:Nat} (hn:n<=10) (hd:d<=20) (a:(d+1) ^ n*(d+1)<=900000) (hf:∀e,e<=d->Ev (fun k=>cZ.f k ((n+1:Nat):Int) e) (eK n e)):∀(m x:Nat) (acc:List (List Int)),x+m=d+1->acc.length<=x*(d+1) ^ n->Ev (fun k=>cZ.l0 k ((n+2:Nat):Int) d acc x) (acc++(List.range' x m).flatMap fun k=>(eK n (d-k)).map fun y=>(k:Int)::y)
 |0,x,acc,b,g=>by
  refine Ev.of_succ ?_;simp only[cZ.l0,if_neg (show ¬(x:Int)<=d by omega),List.range'_zero,List.flatMap_nil,List.append_nil];exact Ev.const _
 |m+1,x,acc,b,g=>by
  have l:=Nat.le_trans (sh n (d-x)) (Nat.pow_le_pow_left (show d-x+1<=d+1 by omega) n);have hle:x*(d+1) ^ n+(d+1) ^ n<=(d+1) ^ n*(d+1):=by
   rw[<-Nat.succ_mul,Nat.mul_comm];exact Nat.mul_le_mul_left _ (by omega)
  have h:=xJ hn hd a hf m (x+1) (acc++(eK n (d-x)).map fun y=>(x:Int)::y) (by omega) (by
   rw[List.length_append,List.length_map,Nat.succ_mul];omega)
  have h1:=xI ((n+2:Nat):Int) d x (eK n (d-x)) (fun y i=>by have:=((mK n (d-x) y).1 i).len;omega) acc (by omega) (by omega) h (eK n (d-x)).length 0 (by omega);rw[List.take_zero,List.map_nil,List.append_nil,List.append_assoc] at h1;refine Ev.of_succ ?_;have j:wrap64 (((n+2:Nat):Int)-1)=((n+1:Nat):Int):=by rw[f_ (by omega)];omega
  have e2:wrap64 ((d:Int)-x)=((d-x:Nat):Int):=by rw[f_ (by omega)];omega
  simp only[cZ.l0,if_pos (show (x:Int)<=d by omega),j,e2];refine Ev.bind (hf (d-x) (by omega)) ?_;rw[List.range'_succ,List.flatMap_cons];exact h1
theorem xK:∀{n:Nat} (hn:n<=4) (d:Nat) (hd:d<=10),Ev (fun k=>cZ.f k ((n+1:Nat):Int) d) (eK n d)
 |0,_,d,hd=>by
  refine Ev.of_succ ?_;simp only[cZ.f,if_neg (show ¬(d:Int)<0 by omega),if_pos (show ((0+1:Nat):Int)=1 by rfl),eK];exact Ev.const _
 |n+1,hn,d,hd=>by
  have a:(d+1) ^ n*(d+1)<=900000:=by
   have h1:(d+1) ^ n<=11 ^ n:=Nat.pow_le_pow_left (by omega) n;have b:11 ^ n<=11 ^ 3:=Nat.pow_le_pow_right (by omega) (by omega);have g:=Nat.mul_le_mul (Nat.le_trans h1 b) (show d+1<=11 by omega);omega
  have h:=xJ (n:=n) (d:=d) (by omega) (by omega) a (fun e he=>xK (by omega) e (by omega)) (d+1) 0 [] (by omega) (by simp);rw[List.nil_append] at h;refine Ev.of_succ ?_;simp only[cZ.f,if_neg (show ¬(d:Int)<0 by omega),if_neg (show ¬(((n+1+1:Nat):Int)=1) by omega),eK,List.range_eq_range'];exact h
theorem xL {a b:List Int} (j:a.length<=1000) (hb:a.length<=b.length) (g:∀v:Nat,v<a.length-> -2000000<=rd a v/\rd a v<=2000000/\ -2000000<=rd b v/\rd b v<=2000000):∀(m i:Nat),i+m=a.length->Ev (fun k=>cX.l0 k a b (-1) (fc a b i) i) (cw a b)
 |0,i,hi=>by
  obtain rfl:i=a.length:=by omega
  refine Ev.of_succ ?_;simp only[cX.l0,if_neg (show ¬((a.length:Int)<(a.length:Int)) by omega)];exact Ev.const _
 |m+1,i,hi=>by
  have l:=xL j hb g m (i+1) (by omega);obtain⟨o,p,b3,b4⟩:=g i (by omega);have e:(fc a b i).set i (rd a i-rd b i)=fc a b (i+1):=by
   refine nI (n:=a.length) (by simp[kn]) (kn ..) fun u hu=>?_
   by_cases e:u=i
   ·subst e
    rw[iI _ _ _ (by rw[kn];exact hu)];unfold fc;rw[gv _ hu,if_pos (by omega)]
   ·rw[gj _ _ _ _ (fun k=>e k.symm)]
    unfold fc;rw[gv _ hu,gv _ hu];by_cases h:u<i
    ·rw[if_pos h,if_pos (by omega)]
    ·rw[if_neg h,if_neg (by omega)]
  have w:wrap64 (rd a (i:Int)+wrap64 (-1*rd b (i:Int)))=rd a i-rd b i:=by
   rw[f_ (x:= -1*rd b (i:Int)) (by omega),f_ (by omega)];omega
  refine Ev.of_succ ?_;simp only[cX.l0,if_pos (show (i:Int)<(a.length:Int) by omega),if_pos (show (0:Int)<=(i:Int) by omega),if_pos (show (i:Int)<(b.length:Int) by omega),if_pos (show (i:Int)<((fc a b i).length:Int) by rw[kn];omega),cV (show i<=1000000 by omega),aV,w,e];exact l
theorem xM {a b:List Int} (g:a.length<=1000) (hb:a.length<=b.length) (j:∀v:Nat,v<a.length-> -2000000<=rd a v/\rd a v<=2000000/\ -2000000<=rd b v/\rd b v<=2000000):Ev (fun k=>cX.f k a b (-1)) (cw a b):=by
 unfold cX.f;have h:=xL g hb j a.length 0 (by omega);have e:fc a b 0=List.replicate a.length 0:=by
  unfold fc;refine List.ext_getElem (by simp) fun i h1 l=>?_
  simp
 rw[e] at h;simp only[if_pos (show (0:Int)<=(a.length:Int) by omega),aV,if_pos (show a.length<=35184372088832 by omega)];exact h
namespace Curve
variable {n:Nat} {E:List S83} {d:List Int} (h:Curve n E d) (hn:1<=n)
include h hn
theorem xN {c:List Int} (o:c.length=n) (hb:∀v:Nat,v<n-> -150<=rd c v/\rd c v<=150) (L:List (List Int)) (p:∀x∈L,x.length=n/\∀v:Nat,v<n->0<=rd x v/\rd x v<=20) (B:L.length<=900000):∀(m i:Nat),i+m=L.length->
  ∃x b,Ev (fun k=>du.l0 k c L i n E) (x,b)/\(b=false↔∀y∈L.drop i,T.bZ n (ai E) (fun v=>rd c (v:Nat)-rd y (v:Nat)))
 |0,i,hi=>by
  refine⟨[],false,Ev.of_succ ?_,⟨fun _ y e=>by rw[List.drop_of_length_le (by omega)] at e;simp at e,fun _=>rfl⟩⟩;simp only[du.l0,if_neg (show ¬(i:Int)<L.length by omega)];exact Ev.const _
 |m+1,i,hi=>by
  have j:i<L.length:=by omega
  obtain⟨F,q⟩:=p _ (List.getElem_mem j);have G:=(h.facts hn).1;have s:=xM (a:=c) (b:=L[i]) (by omega) (by omega) (fun v l=>by have:=hb v (by omega);have:=q v (by omega);omega);have C:dX n 0 E (cw c L[i]):=h.gR hn (by unfold cw;rw[kn];exact o) (fun v l=>by rw[mG (by omega)];have:=hb v l;have:=q v l;omega);obtain⟨r,u,hw⟩:=FW C;have w:r=true↔T.bZ n (ai E) (fun v=>rd c (v:Nat)-rd L[i] (v:Nat)):=hw.trans (T.tM (T.bV.of_eq fun v l=>(mG (by omega)).symm));have H:∀g:Option (List Int×Bool),True:=fun _=>trivial
  rw[List.drop_eq_getElem_cons j];cases z:r with
  |false=>
   subst z;refine⟨L[i],true,Ev.of_succ ?_,⟨nofun,fun k=>absurd (w.2 (k _ (List.mem_cons_self ..))) (by decide)⟩⟩;simp only[du.l0,if_pos (show (i:Int)<L.length by omega),if_pos (show (0:Int)<=i by omega),sj L i j];refine Ev.bind s ?_;refine Ev.bind u ?_;simp only[Bool.false_eq_true,if_false];exact Ev.const _
  |true=>
   subst z;obtain⟨x,b,he,D⟩:=xN o hb L p B m (i+1) (by omega);refine⟨x,b,Ev.of_succ ?_,?_⟩
   ·simp only[du.l0,if_pos (show (i:Int)<L.length by omega),if_pos (show (0:Int)<=i by omega),sj L i j]
    refine Ev.bind s ?_;refine Ev.bind u ?_;simp only[if_true,cV (show i<=1000000 by omega)];exact he
   ·rw[D]
    constructor
    ·intro k y e
     rcases List.mem_cons.1 e with rfl|e
     ·exact w.1 rfl
     ·exact k y e
    ·intro k y e
     exact k y (List.mem_cons_of_mem _ e)
theorem xO {c:List Int} (j:c.length=n) (hb:∀v:Nat,v<n-> -150<=rd c v/\rd c v<=150) (g:Nat) (l:g<=10):∃x b,Ev (fun k=>du.f k n E c g) (x,b)/\(b=false↔T.fC n (ai E) (fun v=>rd c (v:Nat)) g):=by
 have w:=(h.facts hn).1;obtain⟨m,rfl⟩:∃m,n=m+1:=⟨n-1,by omega⟩;have o:∀x∈eK m g,x.length=m+1/\∀v:Nat,v<m+1->0<=rd x v/\rd x v<=20:=fun x p=>by
  obtain⟨h1,e,i⟩:=(mK m g x).1 p;refine⟨h1,fun v a=>⟨e v a,?_⟩⟩;have:=T.fA (f:=fun v=>rd x (v:Nat)) a e;have:rd x (v:Nat)<=_:=this;omega
 have q:(eK m g).length<=900000:=by
  have h1:=sh m g;have e:(g+1) ^ m<=11 ^ m:=Nat.pow_le_pow_left (by omega) m;have i:11 ^ m<=11 ^ 4:=Nat.pow_le_pow_right (by omega) (by omega);omega
 obtain⟨x,b,he,r⟩:=h.xN hn j hb (eK m g) o q (eK m g).length 0 (by omega);refine⟨x,b,?_,r.trans ?_⟩
 ·unfold du.f
  exact Ev.bind (xK (n:=m) (by omega) g l) he
 ·rw[List.drop_zero]
  constructor
  ·intro k F hF s
   have hm:(List.range (m+1)).map F∈eK m g:=(mK m g _).2 ⟨by simp,fun v a=>by rw[gv _ a];exact hF v a,by rw[T.bJ (g:=F) (fun v a=>gv _ a)];exact s⟩;exact(k _ hm).gB (T.bV.of_eq fun v a=>by show _-F v=_-rd _ _;rw[gv _ a])
  ·intro k y u
   obtain⟨h1,e,i⟩:=(mK m g y).1 u;exact k _ e i
theorem xP {c:List Int} (i:c.length=n) (hb:∀v:Nat,v<n-> -150<=rd c v/\rd c v<=150) (hd:T.sN (fun v=>rd c (v:Nat)) n<=8) {r:Int} (g:Rk n (ai E) c r):Ev (fun k=>fN.f k n E c) r:=by
 have l:=(h.facts hn).2.2.1.wt;have z:=(h.facts hn).1;have j:=sa c (by omega) (fun v B=>by have:=hb v (by omega);omega);rw[i] at j;have C:=g.1;have hle:0<=r->r<=T.sN (fun v=>rd c (v:Nat)) n:=fun o=>g.oQ l hn o
 have key:∀(m:Nat) (x:Int), -1<=x->x+m=r->Ev (fun k=>fN.l0 k c x n E) r:=by
  intro m;induction m with
  |zero=>
   intro x p q;obtain rfl:x=r:=by omega
   refine Ev.of_succ ?_;simp only[fN.l0];refine Ev.bind j ?_;by_cases e:x<T.sN (fun v=>rd c (v:Nat)) n
   ·simp only[if_pos e,f_ (show -1000000000<=x+1/\x+1<=1000000000 by omega)]
    obtain⟨y,b,he,a⟩:=h.xO hn i hb (x+1).toNat (by omega);rw[Int.toNat_of_nonneg (by omega)] at he a;refine Ev.bind he ?_;have s:b=true:=by
     cases b with
     |true=>rfl
     |false=>
      have:=(g.nn hn (k:=x+1) (by omega)).1 (a.1 rfl);omega
    simp only[s,if_true];exact Ev.const _
   ·simp only[if_neg e]
    exact Ev.const _
  |succ m u=>
   intro x p q;have:=hle (by omega);refine Ev.of_succ ?_;simp only[fN.l0];refine Ev.bind j ?_;simp only[if_pos (show x<T.sN (fun v=>rd c (v:Nat)) n by omega),f_ (show -1000000000<=x+1/\x+1<=1000000000 by omega)];obtain⟨y,b,he,a⟩:=h.xO hn i hb (x+1).toNat (by omega);rw[Int.toNat_of_nonneg (by omega)] at he a;refine Ev.bind he ?_;have w:b=false:=a.2 ((g.nn hn (k:=x+1) (by omega)).2 (by omega));simp only[w,Bool.false_eq_true,if_false];exact u (x+1) (by omega) (by omega)
 unfold fN.f;exact key (r+1).toNat (-1) (by omega) (by omega)
end Curve
end
section
theorem xQ {f:Nat->Int} (hf:∀u,0<=f u) (j:Nat):∀e:Nat,T.sN f j<=T.sN f (j+e)
 |0=>Int.le_refl _
 |e+1=>by
  have h1:=xQ hf j e;have a:=hf (j+e);rw[<-Nat.add_assoc,T.dp];omega
theorem sk {N:Int} {E:List S83} (h:dN N E≠0) (a:E.length<=9223372036854775807) (c:List Int):Ev (fun k=>fI.f k N E c) (dN N E):=by
 unfold fI.f;refine Ev.bind (wz N E a) ?_;simp only[if_neg h];exact Ev.const _
theorem FZ {N:Int} {E:List S83} (h:dN N E≠0) (g:E.length<=9223372036854775807) (d:List Int) (i:Int):∃b,Ev (fun k=>dM.f k N E d i) b/\(b=true->E.length<=40):=by
 have m:∃b,Ev (fun k=>kh.f k N E) b/\(b=true->E.length<=40):=by
  by_cases j:cD N E=0
  ·refine⟨_,pA j,fun e=>?_⟩
   unfold iA at e;exact(aw e).1
  ·unfold kh.f kT.f
   by_cases r:E.length>40
   ·refine⟨false,Ev.bind (a:=false) ?_ (Ev.const _),nofun⟩
    simp only[if_pos (show (E.length:Int)>40 by omega)];exact Ev.const _
   ·refine⟨true,Ev.bind (a:=true) ?_ (Ev.const _),fun _=>by omega⟩
    simp only[if_neg (show ¬(E.length:Int)>40 by omega)];refine Ev.bind (qu N E g) ?_;simp only[if_neg j];exact Ev.const _
 have key:∀x:Bool,∃b,Ev (fun k=>dg.j0 k d i x N E) b:=fun x=>by
  cases x with
  |true=>exact⟨false,Ev.of_succ (by simp only[dg.j0,if_true];exact Ev.const _)⟩
  |false=>
   refine⟨true,Ev.of_succ ?_⟩;simp only[dg.j0,Bool.false_eq_true,if_false];refine Ev.bind (sk h g d) ?_;simp only[if_neg h];exact Ev.const _
 obtain⟨b,hb,n⟩:=m;have o:∃b,Ev (fun k=>dg.f k N E d i) b/\(b=true->E.length<=40):=by
  unfold dg.f;cases b with
  |true=>
   obtain⟨x,p⟩:=key (decide ((d.length:Int)>100));refine⟨x,Ev.bind hb ?_,fun _=>n rfl⟩;simp only[if_true];exact p
  |false=>
   refine⟨false,Ev.bind hb ?_,nofun⟩;simp only[Bool.false_eq_true,if_false];refine Ev.of_succ ?_;simp only[dg.j0,if_true];exact Ev.const _
 obtain⟨c,l,q⟩:=o;unfold dM.f;cases c with
 |true=>
  refine⟨true,Ev.bind l ?_,fun _=>q rfl⟩;simp only[if_true];refine Ev.bind (sk h g d) ?_;simp only[if_neg h];exact Ev.const _
 |false=>
  refine⟨false,Ev.bind l ?_,nofun⟩;simp only[Bool.false_eq_true,if_false];exact Ev.const _
theorem F0 {N:Int} {E:List S83} (e:E.length<=1000):Ev (fun k=>dO.f k N E) (dN N E):=by
 by_cases b:cD N E=0
 ·obtain⟨h1,m,g⟩:=ig b
  obtain⟨n,rfl⟩:=Int.eq_ofNat_of_zero_le (show 0<=N by omega);by_cases hp:partsOf E n=1
  ·have:dN (n:Int) E=0:=by unfold dN;rw[if_pos b,aV,if_pos hp]
   rw[this];exact xt e b hp
  ·have:dN (n:Int) E=13:=by unfold dN;rw[if_pos b,aV,if_neg hp]
   rw[this];unfold dO.f;refine Ev.bind (a:=(false,(0:Int))) ?_ ?_
   ·unfold cz.f
    have i:=ma (n:Int) E e;rw[b] at i;refine Ev.bind i ?_;have j:kL (n:Int) E=true:=by
     unfold kL;rw[az (by omega),Bool.true_and];refine List.all_eq_true.2 fun x l=>?_
     have:=g.ok x l;simp[b8] at this⊢;omega
    simp only[if_true,if_pos j,aV];rw[show decide (b7 (aN E) n=1)=false from aZ (fun h=>hp ((jz (by omega) g).2 ((qJ (by omega) (lD g.cI)).1 h)))];exact Ev.const _
   ·simp only[if_true,Bool.false_eq_true,if_false]
    exact Ev.const _
 ·have:dN N E=cD N E:=by unfold dN;rw[if_neg b]
  rw[this];unfold dO.f;refine Ev.bind (a:=(false,cD N E)) ?_ ?_
  ·unfold cz.f
   refine Ev.bind (ma N E e) ?_;simp only[if_neg b];exact Ev.const _
  ·simp only[if_neg b];exact Ev.const _
theorem F1 {N:Int} {E:List S83} (h:dN N E≠0) (b:E.length<=1000) (d:List Int):Ev (fun k=>dP.f k N E d) (([]:List Int),dN N E)/\Ev (fun k=>eT.f k N E d) (([]:List Int),dN N E):=by
 constructor
 ·unfold dP.f
  refine Ev.bind (a:=(([]:List Int),dN N E)) ?_ ?_
  ·unfold et.f
   refine Ev.bind (F0 b) ?_;simp only[if_neg h];exact Ev.const _
  ·simp only[if_neg h]
   exact Ev.const _
 ·unfold eT.f
  refine Ev.bind (sk h (by omega) d) ?_;simp only[if_neg h];exact Ev.const _
structure Right (n:Nat) (E:List S83):Prop where
 check:cD n E=0
 n1:1<=n
 n6:n<=6
 len:E.length<=144
 right:bB n E
 conn:fD n E
 val:T.sN (T.val n (ai E)) n<=19
theorem Right.nX {n:Nat} {E:List S83} (h:Right n E):(cR n E).length=n:=by simp[cR]
theorem Right.sm {n:Nat} {E:List S83} (h:Right n E) {d:List Int} (a:eo n d=0):d.length=n/\∀v:Nat,v<n-> -1048576<=rd d v/\rd d v<=1048576:=by
 unfold eo at a;by_cases e:(d.length:Int)=(n:Int)
 ·rw[if_pos e] at a
  have b:d.length=n:=by omega
  refine⟨b,fun v i=>?_⟩;have g:=wk a (d[v]'(by omega)) (List.getElem_mem _);have:rd d (v:Int)=d[v]'(by omega):=by simp[rd,bc,bS (show v<d.length by omega)]
  rw[this];exact g
 ·rw[if_neg e] at a;cases a
namespace Right
variable {n:Nat} {E:List S83} (h:Right n E)
include h
theorem parts:partsOf E n=1:=(jz h.n1 h.right).2 h.conn
theorem xR:dN n E=0:=by unfold dN;rw[if_pos h.check,aV,if_pos h.parts]
theorem lQ:∀v:Nat,v<n->0<=T.val n (ai E) v/\T.val n (ai E) v<=19:=fun v a=>by
 have e:=h.right.wt;have b:∀u,u<n->0<=T.val n (ai E) u:=fun u hu=>T.db fun w _=>e.pos _ _
 have h1:=T.fA a b;have g:=h.val;exact⟨b v a,by omega⟩
theorem pJ:∀v:Nat,v<n-> -2<=rd (cR n E) v/\rd (cR n E) v<=17:=fun v a=>by
 have h1:=h.lQ v a;rw[xA a];unfold T.can;omega
theorem sb:Ev (fun k=>et.f k n E) (cR n E,(0:Int)):=by
 have h1:=h.n6;have b:=h.len;exact xB h.n1 (by omega) (by omega) h.check h.parts (fun v a=>by have:=h.lQ v a;omega)
theorem sn (v:Nat) (g:v<n):∀(m i:Nat) (s:Int),i+m=n->s=T.sN (fun u=>ai E v u) i->Ev (fun k=>eP.l0 k v s i n E) (T.val n (ai E) v)
 |0,i,s,hi,a=>by
  obtain rfl:i=n:=by omega
  subst a;refine Ev.of_succ ?_;simp only[eP.l0,if_neg (show ¬((i:Int)<(i:Int)) by omega)];exact Ev.const _
 |m+1,i,s,hi,a=>by
  have b:=h.right.wt;have h1:=h.lQ v g;have hle:∀j,j<=n->0<=T.sN (fun u=>ai E v u) j/\T.sN (fun u=>ai E v u) j<=T.val n (ai E) v:=fun j p=>by
   refine⟨T.db fun u _=>b.pos _ _,?_⟩;have:=xQ (f:=fun u=>ai E v u) (fun u=>b.pos v u) j (n-j);rw[show j+(n-j)=n by omega] at this;exact this
  have e:=T.dp (fun u=>ai E v u) i;have q:=hle (i+1) (by omega);have r:=hle i (by omega);refine Ev.of_succ ?_;by_cases o:i=v
  ·subst o
   have l:=sn i g m (i+1) s (by omega) (by rw[e,b.self,Int.add_zero];exact a);simp only[eP.l0,if_pos (show (i:Int)<(n:Int) by omega),if_true,cV (show i<=1000000 by have:=h.n6;omega)];exact l
  ·have hb:=oR (n:Int) E (i:Int) (v:Int) (by have:=h.len;omega)
   rw[<-j4 h.right i v o,b.sym i v] at hb;have l:=sn v g m (i+1) (s+ai E v i) (by omega) (by rw[e,a]);simp only[eP.l0,if_pos (show (i:Int)<(n:Int) by omega),if_neg (show ¬(i:Int)=(v:Int) by omega),cV (show i<=1000000 by have:=h.n6;omega)];refine Ev.bind hb ?_;simp only[f_ (show -1000000000<=s+ai E v i/\s+ai E v i<=1000000000 by omega)];exact l
theorem xS:∀(m i:Nat),i+m=n->Ev (fun k=>eQ.l0 k ((List.range i).map fun u=>T.can n (ai E) u) i n E) (cR n E)
 |0,i,hi=>by
  obtain rfl:i=n:=by omega
  refine Ev.of_succ ?_;simp only[eQ.l0,if_neg (show ¬((i:Int)<(i:Int)) by omega)];exact Ev.const _
 |m+1,i,hi=>by
  have b:=xS m (i+1) (by omega);have e:=h.n6;have g:=h.lQ i (by omega);rw[List.range_succ,List.map_append] at b;refine Ev.of_succ ?_;simp only[eQ.l0,if_pos (show (i:Int)<(n:Int) by omega)];refine Ev.bind (a:=T.val n (ai E) i) ?_ ?_
  ·unfold eP.f
   exact h.sn i (by omega) n 0 0 (by omega) rfl
  ·simp only[List.length_map,List.length_range,if_pos (show i<17592186044416 by omega),cV (show i<=1000000 by omega),f_ (show -1000000000<=T.val n (ai E) i-2/\T.val n (ai E) i-2<=1000000000 by omega)]
   exact b
theorem F2:Ev (fun k=>eQ.f k n E) (cR n E):=by
 unfold eQ.f;exact h.xS n 0 (by omega)
theorem mL {c:List Int}:(cw (cR n E) c).length=n:=by unfold cw;rw[kn];exact h.nX
theorem F3 {c:List Int} (v:Nat) (a:v<n):rd (cw (cR n E) c) (v:Int)=rd (cR n E) v-rd c v:=mG (by rw[h.nX];exact a)
theorem xT {c:List Int} (b:c.length=n) (hb:∀v:Nat,v<n-> -1048576<=rd c v/\rd c v<=1048576):Ev (fun k=>jk.f k n E c) (cw (cR n E) c):=by
 have e:=h.n6;unfold jk.f;refine Ev.bind h.F2 ?_;refine Ev.bind (xM (by rw[h.nX];omega) (by rw[h.nX];omega) (fun v a=>by rw[h.nX] at a;have:=h.pJ v a;have:=hb v a;omega)) ?_;exact Ev.const _
theorem xU (c:List Int) (a:c.length=n):∀(m i:Nat),i+m=n->Ev (fun k=>eT.l0 k c i n E) (if(c.drop i).all cI=true then(c,(0:Int)) else([],11))
 |0,i,hi=>by
  obtain rfl:i=n:=by omega
  rw[List.drop_of_length_le (by omega)];refine Ev.of_succ ?_;simp only[eT.l0,if_neg (show ¬((i:Int)<(i:Int)) by omega),List.all_nil,if_true];exact Ev.const _
 |m+1,i,hi=>by
  have b:=xU c a m (i+1) (by omega);have j:=h.n6;rw[vr (by omega),List.all_cons];refine Ev.of_succ ?_;have g:lR.f (rd c (i:Int))=some (cI (rd c i)):=by
   unfold lR.f cI;by_cases e:rd c (i:Int)>= -1048576
   ·rw[if_pos e]
    congr 2
    exact propext ⟨fun h=>⟨e,h⟩,fun h=>h.2⟩
   ·rw[if_neg e,aZ (fun h=>e h.1)]
  simp only[eT.l0,if_pos (show (i:Int)<(n:Int) by omega),if_pos (show (0:Int)<=(i:Int) by omega),if_pos (show (i:Int)<(c.length:Int) by omega),g,Option.bind_some,cV (show i<=1000000 by omega)];cases hb:cI (rd c (i:Int)) with
  |true=>
   simp only[if_true,Bool.true_and];exact b
  |false=>
   simp only[Bool.false_eq_true,if_false,Bool.false_and];exact Ev.const _
theorem pM (d:List Int):Ev (fun k=>fI.f k n E d) (eo n d):=mD h.xR (by have:=h.len;omega) d
theorem F4 {d:List Int} (a:eo n d≠0):Ev (fun k=>eT.f k n E d) (([]:List Int),eo n d):=by
 unfold eT.f;refine Ev.bind (h.pM d) ?_;simp only[if_neg a];exact Ev.const _
theorem xV (d:List Int):Ev (fun k=>bA.f k d n) (eo n d):=Ei d n ⟨by have:=h.n1;omega,by have:=h.n6;omega⟩
theorem F5 {d:List Int} (a:eo n d≠0):Ev (fun k=>dP.f k n E d) (([]:List Int),eo n d):=by
 unfold dP.f;refine Ev.bind h.sb ?_;simp only[if_true];refine Ev.bind (h.xV d) ?_;simp only[if_neg a];exact Ev.const _
theorem F6 {d:List Int} (a:eo n d=0):Ev (fun k=>eT.f k n E d) (if(cw (cR n E) d).all cI=true then(cw (cR n E) d,(0:Int)) else([],11)):=by
 obtain⟨h1,b⟩:=h.sm a;unfold eT.f;refine Ev.bind (h.pM d) ?_;simp only[if_pos a];refine Ev.bind (h.xT h1 b) ?_;have:=h.xU (cw (cR n E) d) h.mL n 0 (by omega);rw[List.drop_zero] at this;exact this
end Right
end
section
attribute [local go_sem] Oper.semAt_some
theorem F7 (A:Option Addr) (n c:Nat) (bq:Int) (w:World):Calls Tryz.prog 182 #[.slice A n c,.int .i64 bq] w fun e w'=>e= .returned (.func (.func 202) #[] #[.pointer (some ⟨w.heap.size,0,none⟩),.pointer (some ⟨w.heap.size+1,0,none⟩)])/\w'=(w.alloc (.cells #[.slice A n c] 33)).alloc (.cells #[.int .i64 bq] 3):=by
 go_enter Tryz.func182,Tryz.ntmps182
 go_wp2;go_ret;exact⟨rfl,rfl⟩
def kr (bq:Int) (c:List Int):Int:=c.foldl (fun s x=>wrap64 (s-x)) bq
def cS (bq:Int) (c:List Int):List Int:=c.set 0 (kr bq (c.drop 1))
theorem F8 (bq:Int) (c:List Int) (x:Int):kr bq (c++[x])=wrap64 (kr bq c-x):=by simp[kr,List.foldl_append]
theorem F9 (bq:Int) {c:List Int} {j:Nat} (h:j<c.length-1):kr bq ((c.drop 1).take (j+1))=wrap64 (kr bq ((c.drop 1).take j)-c.getD (j+1) 0):=by
 rw[List.take_succ_eq_append_getElem (by simpa using h),F8,List.getElem_drop,bc,bS (show j+1<c.length by omega)];simp[Nat.add_comm]
theorem xW {W:World} {e base:Nat} {ok:Nat->Prop} {A:Option Addr} {cap:Nat} {L:List (List Int)} (h:Kd.N (Kd.slice 3 (Kd.int .i64)) e W base ok (.slice A L.length cap) L) (i:Nat) (hi:i<L.length):
  ∃g a cc,A=some ⟨g,0,none⟩/\W.cell? ⟨g,i,none⟩=some (.slice a (L.getD i []).length cc)/\(L.getD i []).length<=cc/\Kd.F (Kd.int .i64) W ok a (L.getD i []).length (L.getD i []):=by
 have hC:=(Kd.fx h).2.2;obtain⟨ad,he,_⟩:=hC.2.2 (by omega);subst he;obtain⟨g,rfl⟩:∃g,ad=⟨g,0,none⟩:=by
  obtain⟨_,rows,_,j,_⟩:=h;exact Kd.lZ j
 obtain⟨ce,o,k,l⟩:=Kd.kG h [] (i:Int) (by omega) (by omega);obtain⟨m,n,rfl,ul,ge⟩:=Kd.iS k;have b:=l 0 _ rfl;rw[Nat.add_zero,show ((Kd.slice 3 (Kd.int .i64))).sz=1 from rfl,Nat.mul_one,aV,add_plain] at b;rw[aV] at ul ge;exact⟨g,m,n,rfl,b,ul,Kd.ou ge (fun _ hk=>hk.1)⟩
theorem F_ {W:World} {e base:Nat} {ok:Nat->Prop} {v:Value} {xs:List Int} (h:(Kd.int .i64).R e W base ok v xs) (hp:0<xs.length):∃g c,v= .slice (some ⟨g,0,none⟩) xs.length c:=by
 obtain⟨A,c,rfl⟩:=Kd.bm h;obtain⟨ad,he,_⟩:=(Kd.aH h).2.2.2.2 hp;subst he;obtain⟨g,rfl⟩:=Kd.lZ h;exact⟨g,c,rfl⟩
theorem Ga {c:List Int} {x:Int} (h:0<c.length):bQ 0 (c.set 0 x) 0=x:=by
 cases c with
 |nil=>simp at h
 |cons a c=>rfl
theorem Gb {W:World} {ok:Nat->Prop} {A:Option Addr} {c:List Int} (h:Kd.F (Kd.int .i64) W ok A c.length c) (hp:0<c.length):∃ad,A=some ad:=by
 obtain⟨ad,he,_⟩:=(Kd.kA h).2.2 hp;exact⟨ad,he⟩
theorem Gc {W:World} {ad:Addr} {c:List Int} (h:(Kd.int .i64).C W (some ad) c.length c) {j:Nat} (a:j<c.length-1):W.cell? ⟨ad.block,ad.off+1+j,none⟩=some (.int .i64 (c.getD (j+1) 0)):=by
 have h1:=Kd.Aw h ((j+1:Nat):Int) (by omega) (by omega);rw[aV] at h1;have e:ad.add (j+1)=⟨ad.block,ad.off+1+j,none⟩:=by unfold Addr.add;rw[if_neg (by omega)];simp only[Addr.mk.injEq,and_true,true_and];omega
 rw[e] at h1;simpa [rd] using h1
def Gd (a b e gd:Nat) (X Y:World):Prop:=∀k,(a<=k/\k<b\/k=e\/k=gd)->k<X.heap.size->Y.heap[k]? =X.heap[k]?
theorem Ge (a gd I y n:Nat) (s:Option Addr) (cl base:Nat) (L:List (List Int)) (bq:Int) (W:World) (b':y<=a) (hg:a<gd) (hn:2<=n) (cb:n<=12) (hL:∀c∈L,c.length=n) (cd:L.length<=16384)
  (hR:Kd.N (Kd.slice 3 (Kd.int .i64)) 26 W base (fun k=>I<=k/\k<y) (.slice s L.length cl) L)
  (K:W.heap[a]? =some (.cells #[.slice s L.length cl] 33 (0,0))) (am:W.heap[gd]? =some (.cells #[.int .i64 bq] 3 (0,0))):
  jA (σ:=Unit) Fence.wide 9 Tryz.prog 202 #[.pointer (some ⟨a,0,none⟩),.pointer (some ⟨gd,0,none⟩)] (fun x:List Int×Value=>#[x.2]) (fun _ W W1=>W1=W) (fun _ A B=>Below A.heap.size A B) (fun _ x A B=>(∃c,c∈L/\x.1=cS bq c)/\(Kd.int .i64).R 3 B A.heap.size (fun _=>True) x.2 x.1/\Below A.heap.size A B)
   (fun _ X Y=>Gd I y a gd X Y)
   (fun _ xs W'=>xs.map Prod.fst=L.map (cS bq)) (fun _ _ _=>True) (fun pre=>pre.length<L.length) W:=by
 intro lp J Jx an ap ar av;have bg:=zA an;have cf:=zA ap;have hY:=zA av;have HL:=zA hL;have aB:=ar () W rfl;clear an ap ar av hL;refine callsIn_of_wp Tryz.func202 rfl trivial ?_ rfl;simp only[Tryz.ntmps202,List.size_toArray,List.length_cons,List.length_nil,Nat.reduceAdd,Nat.reduceSub,Array.replicate_succ,Array.replicate_zero,List.push_toArray,List.append_toArray,List.nil_append,List.cons_append];have x0:W.cell? ⟨a,0,none⟩=some (.slice s L.length cl):=(aj K 0).trans rfl;have b:=zA K;have o:=zA am;have h:=zA hR;have ch:L.length<=9223372036854775807:=by omega
 clear K am hR;gi_wp2;clear x0;gi_loopg [11] (L.length) (fun M i wr=>∃(v:Nat) (xs:List (List Int×Value)),i= .int .i64 v/\v<=L.length/\Aside0 (J () xs wr)/\Aside0 (xs.map Prod.fst=(L.take v).map (cS bq))/\Aside0 (wr.heap[a]? =some (.cells #[.slice s L.length cl] 33 (0,0)))/\Aside0 (wr.heap[gd]? =some (.cells #[.int .i64 bq] 3 (0,0)))/\Aside0 (Kd.N (Kd.slice 3 (Kd.int .i64)) 26 wr base (fun k=>I<=k/\k<y) (.slice s L.length cl) L)/\Aside0 (M=L.length-v))
 case atStart=>exact⟨0,[],rfl,Nat.zero_le _,⟨aB⟩,⟨rfl⟩,b,o,h,⟨rfl⟩⟩
 case round=>
  clear aB b o h;obtain⟨v,xs,rfl,hv,z,O,b,o,h,HK⟩:=hrel;by_cases l:v<L.length
  ·have cj:(0:Int)<=(v:Int):=by omega
   have ck:(v:Int)<(L.length:Int):=by omega
   obtain⟨g,Ac,cc,rfl,y1,y2,u⟩:=xW h.out v l;have aO:=HL.out (L.getD v []) (by rw[bc,bS l];exact List.getElem_mem l);have aP:=zA (show (L.take (v+1)).map (cS bq)=(L.take v).map (cS bq)++[cS bq (L.getD v [])] by rw[List.take_succ_eq_append_getElem l,List.map_append,bc,bS l];rfl);have aR:=zA (show L.getD v []∈L by rw[bc,bS l];exact List.getElem_mem l);generalize L.getD v []=c at y1 y2 u aO aP aR;subst aO;obtain⟨ad,rfl⟩:=Gb u (by omega);have P:=zA u;have cq:=Kd.zY u;have bv:Aside0 (∀W,(Kd.int .i64).C W (some ad) c.length c->Calls Tryz.prog 57 #[.slice (some ad) c.length cc] W fun e w'=>∃aS:Value,e= .returned (aS)/\Kd.R (Kd.int .i64) 3 w' W.heap.size (fun _=>True) aS c/\Below W.heap.size W w'):=⟨fun W hC=>gD.calls (some ad) cc c c W hC y2 (by unfold gD.f clone.f;rw[if_pos (by omega)])⟩;clear u;have cr:(0:Int)<(c.length:Int):=by omega
   have cs:(1:Int)<=(c.length:Int):=by omega
   have cv:¬cc=1:=by omega
   gi_wp2_with (refine⟨trivial,?_⟩;gi_at_call 57;refine(callsIn_wide.2 (bv.out _ (Kd.kA P.out))).mono ?_;rintro e w3 ⟨vd,rfl,D,m⟩;obtain⟨g0,c0,rfl⟩:=F_ D (by omega);have Q:=zA D;have S:=zA (bg.out () _ _ _ z.out m);have T:=zA (aM b.out m);have E:=zA (aM o.out m);have U:=zA (Kd.hU h.out m);have bw:=zA (Kd.ow P.out m);have a0:=zA m;have z1:w3.cell? ⟨gd,0,none⟩=some (.int .i64 bq):=(aj E.out 0).trans rfl;obtain⟨z2,z3⟩:=Kd.bT 0 D (0:Int) (by omega) (by omega);simp only[Int.toNat_zero] at z2 z3;clear D m y1)
   have a1:=zA (show wr.heap.size<=g0 from Kd.dF Q.out g0 rfl);have c1:=zA (aD b.out);have F:=zA (Kd.dm Q.out 0 bq).1;have V:=zA (Below.setCell (p:=⟨g0,0,none⟩) a0.out a1.out (.int .i64 bq));simp only[Int.toNat_zero] at F;clear S T E U bw a0 Q z1 z2 z3;generalize w3.setCell ⟨g0,0,none⟩ (.int .i64 bq)=w4 at F V⊢;obtain⟨q,rfl⟩:∃q:World,q=wr:=⟨_,rfl⟩;gi_loopg [23] (c.length-1) (fun M i wi=>∃j:Nat,i= .int .i64 j/\j<=c.length-1/\Aside0 (Kd.R (Kd.int .i64) 3 wi q.heap.size (fun _=>True) (.slice (some ⟨g0,0,none⟩) c.length c0) (c.set 0 (kr bq ((c.drop 1).take j))))/\Aside0 (Below q.heap.size q wi)/\Aside0 (M=c.length-1-j))
   case atStart=>exact⟨0,rfl,Nat.zero_le _,F,V,⟨rfl⟩⟩
   case round=>
    clear F V;obtain⟨j,rfl,hj,w,r,bx⟩:=hrel;by_cases a2:j<c.length-1
    ·have c4:(0:Int)<=(j:Int):=by omega
     have c5:(j:Int)<((c.length-1:Nat):Int):=by omega
     have z1:=Gc (Kd.kA (Kd.ow P.out r.out)) a2;obtain⟨z2,z3⟩:=Kd.bT 0 w.out (0:Int) (by omega) (by simp;omega);rw[Ga (by omega)] at z2;simp only[Int.toNat_zero] at z2 z3;have Z:=zA (F9 bq a2);have G:=zA (Kd.dm w.out 0 (wrap64 (kr bq ((c.drop 1).take j)-c.getD (j+1) 0))).1;have aa:=zA (Below.setCell (p:=⟨g0,0,none⟩) r.out a1.out (.int .i64 (wrap64 (kr bq ((c.drop 1).take j)-c.getD (j+1) 0))));simp only[Int.toNat_zero,List.set_set] at G;rw[<-Z.out] at G;rw[<-Z.out] at aa;gi_wp2;gi_roundg (c.length-1- (j+1))
     case measure=>rw[bx.out];omega
     case rel=>
      have e:=Z.out;rw[List.drop_one,bc] at e;rw[List.drop_one] at G aa;rw[<-e];exact⟨j+1,by go_num,by omega,by rw[List.drop_one];exact G,aa,⟨rfl⟩⟩
    ·obtain rfl:j=c.length-1:=by omega
     rw[List.take_of_length_le (by simp)] at w;have a3:Aside0 (Kd.R (Kd.int .i64) 3 wr q.heap.size (fun _=>True) (.slice (some ⟨g0,0,none⟩) c.length c0) (cS bq c)):=w;have c6:xs.length=v:=by have:=congrArg List.length O.out;simp at this;omega
     obtain⟨fn,tmps,c7,c8,hy,a4⟩:=hY.out () xs (cS bq c,.slice (some ⟨g0,0,none⟩) c.length c0) _ _ z.out ⟨⟨c,aR.out,rfl⟩,a3.out,r.out⟩ (by omega);have b2:=zA a4;have a5:=zA (aM b.out r.out);have a9:=zA (aM o.out r.out);have b3:=zA (Kd.hU h.out r.out);have b4:=zA (aD a9.out);have b5:=zA (aD a5.out);simp only at hy;clear a4 z b o h w a3;gi_wp2;refine b2.out.mono ?_;rintro e W3 (⟨rfl,be,H⟩|⟨rfl,bf⟩)
     ·have S:=zA be
      have T:=zA ((H a (.inr (.inl rfl)) b5.out).trans a5.out);have E:=zA ((H gd (.inr (.inr rfl)) b4.out).trans a9.out);have U:=zA (Kd.mW b3.out (fun k hk b6=>H k (.inl hk) b6));clear be H hy;gi_wp2;gi_roundg (L.length- (v+1))
      case measure=>rw[HK.out];omega
      case rel=>exact⟨v+1,xs++[(cS bq c,.slice (some ⟨g0,0,none⟩) c.length c0)],by go_num,by omega,S,⟨by rw[aP.out,List.map_append,O.out];rfl⟩,T,E,U,⟨rfl⟩⟩
     ·have b_:=zA bf
      clear bf hy;gi_wp2;refine bodyPost_ret (results_none rfl _ _ _) rfl ?_;exact⟨⟨_,rfl⟩,.inr ⟨(),_,trivial,b_.out⟩⟩
  ·obtain rfl:v=L.length:=by omega
   gi_wp2;go_end0;exact⟨⟨_,rfl⟩,.inl ⟨(),xs,by rw[O.out,List.take_length],z.out⟩⟩
end
def dx.l0:Nat->List Int->List Int->List Int->Int->Int->Option (Int)
 |0,_,_,_,_,_=>none
 |k+1,e,x1,b,g,a=>if a<g then(if 0<=a then(if a<(b.length:Int) then(if a>=(x1.length:Int) then(some 1) else(if a<(x1.length:Int) then((iF.f (rd b a) (rd x1 a)).bind fun h=>(if h=0 then(dx.l0 k e x1 b g (wrap64 (a+1))) else(some h))) else(none))) else(none)) else(none)) else(if(e.length:Int)<(x1.length:Int) then(some (-1)) else(some 0))
def dx.f (k:Nat) (l0:List Int) (l1:List Int):Option (Int):=dx.l0 k l0 l1 l0 (l0.length:Int) 0
theorem dx.ct:∀k,(∀a b e g i,al (dx.l0 k a b e g i) (dx.l0 (k+1) a b e g i))
 |0=>fun _ _ _ _ _ r h=>by simp[dx.l0] at h
 |k+1=>by
  have j:=dx.ct k
  ·intro a b e g i
   unfold dx.l0;with_reducible repeat' first|exact j _ _ _ _ _|exact al.refl _|exact al.none _|refine al.ite ?_ ?_|refine al.bind ?_ (fun _=>?_)
theorem dx.mono:∀a0 a k,al (dx.f k a0 a) (dx.f (k+1) a0 a):=by
 intro a0 a k;have b:=dx.ct k;unfold dx.f;with_reducible repeat' first|exact b _ _ _ _ _|exact al.refl _|exact al.none _|refine al.ite ?_ ?_|refine al.bind ?_ (fun _=>?_)
theorem dx.calls (k:Nat) (A0:Option Addr) (c0:Nat) (l0:List Int) (z:Option Addr) (c1:Nat) (l1:List Int) (r:Int) (w:World) (B:Kd.C (Kd.int .i64) w A0 l0.length l0) (D:l0.length<=c0) (E:Kd.C (Kd.int .i64) w z l1.length l1) (F:l1.length<=c1) (h:dx.f k l0 l1=some r):
  Calls Tryz.prog 51 #[.slice A0 l0.length c0,.slice z l1.length c1] w fun e w'=>e= .returned (.int .i64 r)/\aA w w':=by
 have u:=zA B;have X:=zA D;clear B D;have G:=zA E;have Y:=zA F;clear E F;have H:(dx.l0 k l0 l1 l0 (l0.length:Int) 0)=some r:=h;clear h;have p:=zA H;clear H;go_enter Tryz.func51,Tryz.ntmps51
 go_wp2;go_loopg [11] k (fun I v11 w'=>∃(a:Int),v11= .int .i64 a/\Aside0 (dx.l0 I l0 l1 l0 (l0.length:Int) a=some r)/\Aside0 (I<=k)/\aA w w')
 case atStart=>exact⟨(0),zT,p,⟨aI _⟩,by repeat(first|exact aA.refl _|apply aA.step)⟩
 case round=>
  clear p;obtain⟨a,rfl,v,J,⟨m1,rfl⟩⟩:=hrel;cases gk with
  |zero=>exact absurd v.out (by simp[dx.l0])
  |succ N=>
   have H:=v.out;clear v;simp only[dx.l0] at H;by_cases c3:a<(l0.length:Int)
   ·rw[if_pos c3] at H
    have O:=az c3;clear c3;by_cases c4:0<=a
    ·rw[if_pos c4] at H
     have Z:=az c4;clear c4;by_cases q:a<(l0.length:Int)
     ·rw[if_pos q] at H
      have aa:=az q;clear q;by_cases m:a>=(l1.length:Int)
      ·rw[if_pos m] at H
       have P:=az m;clear m;obtain rfl:=aE H;have b:0<=(a:Int):=aw ‹_›;have g:a<(l0.length:Int):=aw ‹_›;obtain⟨K,n,L⟩:=Kd.bM u.out a b g;cases n;replace b:=eq_true b;replace g:=eq_true g;go_wp2;go_ret;exact⟨zT,by repeat(first|exact aA.refl _|apply aA.step)⟩
      ·rw[if_neg m] at H
       have P:=aZ m;clear m;by_cases s:a<(l1.length:Int)
       ·rw[if_pos s] at H
        have ab:=az s;clear s;obtain⟨x,M,H⟩:=zo H;by_cases o:x=0
        ·rw[if_pos o] at H
         obtain⟨Q,R⟩:=bG o;clear o;have p:=zA H;clear H;have b:0<=(a:Int):=aw ‹_›;have g:a<(l0.length:Int):=aw ‹_›;obtain⟨K,n,L⟩:=Kd.bM u.out a b g;cases n;replace b:=eq_true b;replace g:=eq_true g;have j:0<=(a:Int):=aw ‹_›;have l:a<(l1.length:Int):=aw ‹_›;obtain⟨S,y,T⟩:=Kd.bM G.out a j l;cases y;replace j:=eq_true j;replace l:=eq_true l;go_wp2_with (first|((with_reducible refine aC (f:=107) rfl ?_);refine zL (some 26) Tryz.func107 #[.int .i64 (rd l0 a),.int .i64 (rd l1 a)] ?_;(with_reducible refine(iF.calls (rd l0 a) (rd l1 a) x _ M.out).mono ?_);rintro e w' ⟨rfl,⟨U,rfl⟩⟩;refine⟨_,rfl,?_⟩))
         go_roundg N
         case measure=>have:=J.out;omega
         case rel=>exact⟨(wrap64 (a+1)),zT,p,⟨by have:=J.out;omega⟩,by repeat(first|exact aA.refl _|apply aA.step)⟩
        ·rw[if_neg o] at H
         obtain⟨Q,R⟩:=bI o;obtain rfl:=aE H;have b:0<=(a:Int):=aw ‹_›;have g:a<(l0.length:Int):=aw ‹_›;obtain⟨K,n,L⟩:=Kd.bM u.out a b g;cases n;replace b:=eq_true b;replace g:=eq_true g;have j:0<=(a:Int):=aw ‹_›;have l:a<(l1.length:Int):=aw ‹_›;obtain⟨S,y,T⟩:=Kd.bM G.out a j l;cases y;replace j:=eq_true j;replace l:=eq_true l;go_wp2_with (first|((with_reducible refine aC (f:=107) rfl ?_);refine zL (some 26) Tryz.func107 #[.int .i64 (rd l0 a),.int .i64 (rd l1 a)] ?_;(with_reducible refine(iF.calls (rd l0 a) (rd l1 a) x _ M.out).mono ?_);rintro e w' ⟨rfl,⟨U,rfl⟩⟩;refine⟨_,rfl,?_⟩))
         go_ret;exact⟨zT,by repeat(first|exact aA.refl _|apply aA.step)⟩
       ·rw[if_neg s] at H
        exact absurd H (by simp)
     ·rw[if_neg q] at H
      exact absurd H (by simp)
    ·rw[if_neg c4] at H
     exact absurd H (by simp)
   ·rw[if_neg c3] at H
    have O:=aZ c3;clear c3;by_cases i:(l0.length:Int)<(l1.length:Int)
    ·rw[if_pos i] at H
     have V:=az i;have W:decide (l0.length<l1.length)=true:=az (Int.ofNat_lt.mp i);clear i;obtain rfl:=aE H;go_wp2;go_ret;exact⟨zT,by repeat(first|exact aA.refl _|apply aA.step)⟩
    ·rw[if_neg i] at H
     have V:=aZ i;have W:decide (l0.length<l1.length)=false:=aZ (fun h=>i (Int.ofNat_lt.mpr h));clear i;obtain rfl:=aE H;go_wp2;go_ret;exact⟨zT,by repeat(first|exact aA.refl _|apply aA.step)⟩
end Go.Proofs.YtffdiakgjakngaaGreat.P
namespace Go.Proofs.YtffdiakgjakngaaGreat.P
open Go.RowKit Go.Proofs.YtffdiakgjakngaaGreatW.PrintWords Go.Proofs.YtffdiakgjakngaaGreatW.PrintLast Go.Proofs.YtffdiakgjakngaaGreatW.PrintMore
open Go.Sort Go.Shelf
set_option linter.unusedVariables false
set_option linter.unusedSimpArgs false
set_option maxHeartbeats 8000000
set_option maxRecDepth 100000
section
def Gf:Go.Shelf.Ren:=⟨fun|6=>49|15=>106|14=>105|28=>162|29=>163|20=>154|21=>155|22=>156|23=>157|24=>158|25=>159|26=>160|27=>161|46=>188|47=>189|48=>190|49=>191|50=>192|57=>205|n=>n,fun|22=>33|24=>26|25=>79|3=>3|39=>133|0=>0|53=>184|55=>186|4=>4|46=>178|45=>177|50=>173|5=>5|9=>9|66=>209|70=>213|76=>222|77=>55|n=>n,fun|n=>n⟩
theorem Gg:SlLaysF.n6 Tryz.prog Gf:={
 mixed:=by kernel_rfl,
 f6:=⟨Tryz.f49.name,by decide,Tryz.func49.trans (congrArg some (by kernel_rfl))⟩,
 f14:=⟨Tryz.f105.name,by decide,Tryz.func105.trans (congrArg some (by kernel_rfl))⟩,
 f15:=Tryz.func106.trans (congrArg some (by kernel_rfl)),
 f20:=⟨Tryz.f154.name,by decide,Tryz.func154.trans (congrArg some (by kernel_rfl))⟩,
 f21:=⟨Tryz.f155.name,by decide,Tryz.func155.trans (congrArg some (by kernel_rfl))⟩,
 f22:=⟨Tryz.f156.name,by decide,Tryz.func156.trans (congrArg some (by kernel_rfl))⟩,
 f23:=⟨Tryz.f157.name,by decide,Tryz.func157.trans (congrArg some (by kernel_rfl))⟩,
 f24:=⟨Tryz.f158.name,by decide,Tryz.func158.trans (congrArg some (by kernel_rfl))⟩,
 f25:=⟨Tryz.f159.name,by decide,Tryz.func159.trans (congrArg some (by kernel_rfl))⟩,
 f26:=⟨Tryz.f160.name,by decide,Tryz.func160.trans (congrArg some (by kernel_rfl))⟩,
 f27:=⟨Tryz.f161.name,by decide,Tryz.func161.trans (congrArg some (by kernel_rfl))⟩,
 f28:=Tryz.func162.trans (congrArg some (by kernel_rfl)),
 f29:=Tryz.func163.trans (congrArg some (by kernel_rfl)),
 f46:=⟨Tryz.f188.name,by decide,Tryz.func188.trans (congrArg some (by kernel_rfl))⟩,
 f47:=Tryz.func189.trans (congrArg some (by kernel_rfl)),
 f48:=Tryz.func190.trans (congrArg some (by kernel_rfl)),
 f49:=⟨Tryz.f191.name,by decide,Tryz.func191.trans (congrArg some (by kernel_rfl))⟩,
 f50:=⟨Tryz.f192.name,by decide,Tryz.func192.trans (congrArg some (by kernel_rfl))⟩,
 f57:=⟨Tryz.f205.name,by decide,Tryz.func205.trans (congrArg some (by kernel_rfl))⟩,
 t0:=Tryz.underlying0,
 a0:=Tryz.isAgg0,
 z0:=Tryz.sizeOf0,
 v0:=Tryz.zeroValue0,
 t3:=Tryz.underlying3,
 a3:=Tryz.isAgg3,
 z3:=Tryz.sizeOf3,
 v3:=Tryz.zeroValue3,
 t4:=Tryz.underlying4,
 a4:=Tryz.isAgg4,
 z4:=Tryz.sizeOf4,
 v4:=Tryz.zeroValue4,
 t5:=Tryz.underlying5,
 a5:=Tryz.isAgg5,
 z5:=Tryz.sizeOf5,
 v5:=Tryz.zeroValue5,
 t9:=Tryz.underlying9,
 a9:=Tryz.isAgg9,
 z9:=Tryz.sizeOf9,
 v9:=Tryz.zeroValue9,
 t22:=Tryz.underlying33,
 a22:=Tryz.isAgg33,
 z22:=Tryz.sizeOf33,
 v22:=Tryz.zeroValue33,
 a24:=Tryz.isAgg26,
 z24:=Tryz.sizeOf26,
 t25:=Tryz.underlying79,
 a25:=Tryz.isAgg79,
 z25:=Tryz.sizeOf79,
 v25:=Tryz.zeroValue79,
 t39:=Tryz.underlying133,
 a39:=Tryz.isAgg133,
 z39:=Tryz.sizeOf133,
 v39:=Tryz.zeroValue133,
 t45:=Tryz.underlying177,
 a45:=Tryz.isAgg177,
 z45:=Tryz.sizeOf177,
 v45:=Tryz.zeroValue177,
 t46:=Tryz.underlying178,
 a46:=Tryz.isAgg178,
 z46:=Tryz.sizeOf178,
 v46:=Tryz.zeroValue178,
 t50:=Tryz.underlying173,
 a50:=Tryz.isAgg173,
 z50:=Tryz.sizeOf173,
 v50:=Tryz.zeroValue173,
 t53:=Tryz.underlying184,
 a53:=Tryz.isAgg184,
 z53:=Tryz.sizeOf184,
 v53:=Tryz.zeroValue184,
 t55:=Tryz.underlying186,
 a55:=Tryz.isAgg186,
 z55:=Tryz.sizeOf186,
 v55:=Tryz.zeroValue186,
 t66:=Tryz.underlying209,
 a66:=Tryz.isAgg209,
 z66:=Tryz.sizeOf209,
 v66:=Tryz.zeroValue209,
 t70:=Tryz.underlying213,
 a70:=Tryz.isAgg213,
 z70:=Tryz.sizeOf213,
 v70:=Tryz.zeroValue213,
 t76:=Tryz.underlying222,
 a76:=Tryz.isAgg222,
 z76:=Tryz.sizeOf222,
 v76:=Tryz.zeroValue222,
 t77:=Tryz.underlying55,
 a77:=Tryz.isAgg55,
 z77:=Tryz.sizeOf55,
 v77:=Tryz.zeroValue55}
def xX (G:Nat):Prop:=∀(k:Nat) (A B:Option Addr) (c d:Nat) (a lb:List Int) (r:Int) (W:World),(Kd.int .i64).C W A a.length a->a.length<=c->(Kd.int .i64).C W B lb.length lb->lb.length<=d->dx.f k a lb=some r->
  Calls Tryz.prog G #[.slice A a.length c,.slice B lb.length d] W fun e w'=>e= .returned (.int .i64 r)/\aA W w'
theorem Gh:xX 183:=fun k A B c d b lb r W a g hb i h=>by
 have H:=zA (dx.calls k A c b B d lb r W a g hb i h);clear h a hb;go_enter Tryz.func183,Tryz.ntmps183
 go_wp2_with (go_at_call 51;refine H.out.mono ?_;rintro e w' ⟨rfl,hd⟩;have j:=zA hd;clear hd)
 go_ret;exact⟨rfl,j.out⟩
section
variable {α:Type} [Inhabited α] {enc:α->Value}
theorem Gi {w:World} {g n:Nat} {os:Array Obj} {cur:Array Value} {e:TypeId} {fr:Nat×Nat} (d:Array α) (hb:w.heap[g]? =some (.cells cur e fr)):
  (Go.Sort.grow (putRow enc (Sort.ahead w n) g 0 d) os).heap[g]? =some (.cells (putCells enc 0 d cur) e fr):=by
 have a:g<w.heap.size:=(Array.getElem?_eq_some_iff.1 hb).1;rw[heap_grow_old _ _ (by simpa using a)];simp[putRow,mapBlock,Sort.ahead,Array.getElem?_modify,hb,onCells]
theorem xY {w:World} {g n:Nat} {os:Array Obj} (d:Array α):w.grownBy (Go.Sort.grow (putRow enc (Sort.ahead w n) g 0 d) os) (some g):=by
 refine⟨rfl,rfl,rfl,by simp,fun k hk a=>?_⟩;rw[heap_grow_old _ _ (by simpa using hk)];have:g≠k:=fun e=>a (by rw[e])
 simp[putRow,mapBlock,Sort.ahead,Array.getElem?_modify,this]
theorem Gj (cur:Array Value) (a:List α) (h:a.length<=cur.size):(putCells enc 0 a.toArray cur).toList.take a.length=a.map enc:=by
 apply List.ext_getElem?
 intro j;by_cases b:j<a.length
 ·rw[List.getElem?_take_of_lt b,Array.getElem?_toList]
  simp[putCells,b,show j<cur.size by omega]
 ·rw[List.getElem?_take_eq_none (by omega),List.getElem?_eq_none (by simp;omega)]
end
theorem Gk {G:Nat} (HG:xX G) (eg:∀args w,(callFunc G args).run Tryz.prog w= .ok (.enter G args) w) {k m g cap base:Nat} {ok:Nat->Prop} {L:List (List Int)} (a:Fin (m+1)->Fin (m+1)->Int) {W:World} (R:L.length=m+1) (hm:m<4000000)
  (hR:Kd.N (Kd.slice 3 (Kd.int .i64)) 26 W base ok (.slice (some ⟨g,0,none⟩) L.length cap) L) (am:∀i j:Fin (m+1),dx.f k (L.getD i.1 []) (L.getD j.1 [])=some (a i j)) (hO:SWO (Go.Proofs.ltOf a)):
  Calls Tryz.prog 49 #[.slice (some ⟨g,0,none⟩) L.length cap,.func (.func G) #[] #[]] W fun e w'=>e= .returned (.tuple #[])/\∃idx:List (Fin (m+1)),idx.Perm (List.finRange (m+1))/\idx.Pairwise (fun i j=>Go.Proofs.ltOf a j i=false)/\Kd.N (Kd.slice 3 (Kd.int .i64)) 26 w' base ok (.slice (some ⟨g,0,none⟩) L.length cap) (idx.map fun i=>L.getD i.1 [])/\W.grownBy w' (some g):=by
 obtain⟨S,rows,a5,⟨h1,inner,F,H⟩,hf⟩:=hR;have an:=F;obtain⟨T,F⟩:=an;rcases F with⟨I,_⟩|⟨g2,a9,cur,I,ap,z,hn,ar,J,K⟩
 ·cases I
 injection I with r be av
 injection r with r
 injection r with r
 subst r av;have a6:(Kd.raw (Kd.slice 3 (Kd.int .i64)).sz).sz=1:=rfl;rw[a6] at T J K H;rw[Nat.mul_one] at T J K;have U:∀i,i<m+1->rows[i]? =some [inner.getD i undef]:=fun i hi=>by
  have V:rows[i]? =some rows[i]:=bS (by omega);have C:=(H.2 i _ V).1;rw[V,<-C,Nat.mul_one,List.take_one,List.head?_drop,bc,bS (show i<inner.length by omega)];rfl
 have X:∀i,i<m+1->(inner.getD i undef).oneCell'=true:=fun i hi=>by
  have h:=H.2 i _ (U i hi);exact h.2.2 _ (by rw[h.1];simp)
 obtain⟨enc,D⟩:∃enc:Fin (m+1)->Value,enc=fun i=>inner.getD i.1 undef:=⟨_,rfl⟩
 have M:∀i:Fin (m+1),Kd.FK (Kd.slice 3 (Kd.int .i64)) W (fun k=>ok k/\some k≠(Value.slice (some ⟨g,0,none⟩) L.length cap).ownBlock) (L.getD i.1 []) [enc i]:=fun i=>by
  have E:L[i.1]? =some (L.getD i.1 []):=by rw[bc,bS (show i.1<L.length by omega)];rfl
  rw[D];exact hf i.1 _ _ E (U i.1 i.2)
 have hlen:(List.finRange (m+1)).toArray.size=m+1:=by simp
 have Y:∀(l:Nat) (os:Array Obj) (o:Array (Fin (m+1))) (b:Nat),b≠g->b<W.heap.size->(sortWorld enc W g 0 l o os).heap[b]? =W.heap[b]? :=fun l os o b hb s=>by
  unfold sortWorld;exact(xY (enc:=enc) (w:=W) (g:=g) (n:=l) (os:=os) o).block b s (fun e=>hb (aE e))
 have aB:CmpReads Tryz.prog G #[] enc a g 0 (List.finRange (m+1)).toArray.size W:=fun l os o bf x y=>by
  obtain⟨A,c,ex,aF,aL⟩:=Kd.iS (M x);obtain⟨B,d,O,aO,aP⟩:=Kd.iS (M y);injection ex with ex
  injection O with O
  rw[ex,O];have Z:∀b,(ok b/\some b≠(Value.slice (some ⟨g,0,none⟩) L.length cap).ownBlock)->b<W.heap.size->(sortWorld enc W g 0 l o os).heap[b]? =W.heap[b]? :=fun b hb s=>Y l os o b (fun e=>hb.2 (by rw[e];rfl)) s
  refine(HG k A B c d _ _ (a x y) _ (Kd.kA (Kd.qc aL Z)) aF (Kd.kA (Kd.qc aP Z)) aO (am x y)).mono ?_;rintro e w' ⟨rfl,hd⟩;exact⟨rfl,hd.out⟩
 have aR:Holds enc W g 0 (List.finRange (m+1)).toArray:=fun j q=>by
  rw[hlen] at q;refine⟨?_,by simp[World.frozen?,z]⟩;have C:(cur.toList.take rows.length)[j]? =inner[j]? :=by rw[K]
  rw[List.getElem?_take_of_lt (by omega),Array.getElem?_toList] at C;simp only[World.cell?,z,Nat.zero_add,Option.isSome_none,Bool.false_eq_true,if_false];rw[C,bS (by omega),D];simp[show j<m+1 from q,show j<inner.length by omega]
 have aa:=Any.slices_SortFunc Gg enc (fun i=>by rw[D];exact X i.1 i.2) a hO G #[] g 0 cap (List.finRange (m+1)).toArray W eg aB.lays aR ((Array.getElem?_eq_some_iff.1 z).1) (by rw[hlen];omega);rw[hlen] at aa;rw[R];have aS:Calls Tryz.prog 49 _ _ _:=aa;refine aS.mono ?_;rintro e w' ⟨rfl,d',n,os,hp,hs,rfl⟩;obtain⟨P,_,ab⟩:=hp;rw[hlen] at P;have Q:d'.toList.length=m+1:=by simpa using P
 refine⟨rfl,d'.toList,?_,?_,?_,xY (enc:=enc) (n:=n) (os:=os) d'⟩
 ·have e1:d'.extract 0 (m+1)=d':=Array.extract_eq_self_of_le (by omega)
  rw[e1,Array.extract_eq_self_of_le (by simp)] at ab;exact ab
 ·refine List.pairwise_iff_getElem.2 fun i j hi q a2=>?_
  have h:=hs i j (Nat.zero_le _) a2 (by omega);rw[getElem!_pos d' i (by omega),getElem!_pos d' j (by omega)] at h;simpa using h
 ·have a3:(Go.Sort.grow (putRow enc (Sort.ahead W n) g 0 d') os).heap[g]? =some (.cells (putCells enc 0 d' cur) 26 (0,0)):=Gi d' z
  have a4:(putCells enc 0 d' cur).toList.take (m+1)=d'.toList.map enc:=by
   have h:=Gj (enc:=enc) cur d'.toList (by rw[Q];omega);rw[Q] at h;exact h
  refine⟨by rw[R] at S;exact S,d'.toList.map fun i=>[enc i],by simp,⟨fun k hk=>hk.symm,d'.toList.map enc,⟨by rw[a6];simp,.inr ⟨g,cap,_,?_,ap,a3,?_,ar,?_,?_⟩⟩,?_⟩,?_⟩
  ·simp[P]
  ·simp;omega
  ·rw[a6];simp[putCells,J]
  ·rw[a6];simp only[List.length_map,Nat.mul_one,Q];exact a4
  ·refine⟨by rw[a6];simp,fun j p q=>?_⟩
   rw[List.getElem?_map] at q;obtain⟨i,hi,rfl⟩:=Option.map_eq_some_iff.1 q;have bg:=(List.getElem?_eq_some_iff.1 hi).1;have e2:((d'.toList.map enc).drop (j*(Kd.raw (Kd.slice 3 (Kd.int .i64)).sz).sz)).take (Kd.raw (Kd.slice 3 (Kd.int .i64)).sz).sz=[enc i]:=by
    rw[a6,Nat.mul_one,List.take_one,List.head?_drop,List.getElem?_map,hi];rfl
   rw[e2];refine⟨rfl,rfl,fun u hu=>?_⟩;rw[List.mem_singleton.1 hu,D];exact X i.1 i.2
  ·intro j x c E v
   rw[List.getElem?_map] at E v;obtain⟨i,hi,rfl⟩:=Option.map_eq_some_iff.1 E;rw[hi] at v;injection v with v
   subst v;refine Kd.lu (Kd.kC (M i) (fun k hk=>⟨hk.1,hk.2⟩)) (fun b hb s=>Y n os d' b (fun e=>hb.2 (by rw[e];rfl)) s)
end
end Go.Proofs.YtffdiakgjakngaaGreat.P


namespace Go.Proofs.YtffdiakgjakngaaGreat.P
open Go.RowKit Go.Proofs.YtffdiakgjakngaaGreatW.PrintWords Go.Proofs.YtffdiakgjakngaaGreatW.PrintLast Go.Proofs.YtffdiakgjakngaaGreatW.PrintMore
set_option linter.unusedVariables false
set_option linter.unusedSimpArgs false
set_option maxHeartbeats 8000000
set_option maxRecDepth 100000
def dZ.l0:Nat->List (List Int)->Int->Int->Int->List (S83)->Option (Int)
 |0,_,_,_,_,_=>none
 |k+1,b,e,a,g,i=>if a<e then(if 0<=a then(if a<(b.length:Int) then((bA.f k (aY b a) g).bind fun h=>(if h=0 then(dZ.l0 k b e (wrap64 (a+1)) g i) else(some h))) else(none)) else(none)) else(some 0)
def dZ.f (k:Nat) (b:Int) (e:List (S83)) (l1:List (List Int)):Option (Int):=(cz.f k b e).bind fun a=>(if a.2=0 then(if a.1=true then(dZ.l0 k l1 (l1.length:Int) 0 b e) else(some 13)) else(some a.2))
theorem dZ.ct:∀k,(∀a b e g i,al (dZ.l0 k a b e g i) (dZ.l0 (k+1) a b e g i))
 |0=>fun _ _ _ _ _ r h=>by simp[dZ.l0] at h
 |k+1=>by
  have j:=dZ.ct k
  ·intro a b e g i
   unfold dZ.l0;with_reducible repeat' first|exact j _ _ _ _ _|exact bA.mono _ _ _|exact cz.mono _ _ _|exact al.refl _|exact al.none _|refine al.ite ?_ ?_|refine al.bind ?_ (fun _=>?_)
theorem dZ.mono:∀a0 a a2 k,al (dZ.f k a0 a a2) (dZ.f (k+1) a0 a a2):=by
 intro a0 a a2 k;have b:=dZ.ct k;unfold dZ.f;with_reducible repeat' first|exact b _ _ _ _ _|exact bA.mono _ _ _|exact cz.mono _ _ _|exact al.refl _|exact al.none _|refine al.ite ?_ ?_|refine al.bind ?_ (fun _=>?_)
theorem dZ.calls (k:Nat) (b:Int) (m:Option Addr) (n:Nat) (i:List (S83)) (U:Option Addr) (c1:Nat) (l1:List (List Int)) (r:Int) (w:World) (V:Kd.C aW w m i.length i) (W:i.length<=n) (X:Kd.C (Kd.slice 3 (Kd.int .i64)) w U l1.length l1) (Y:l1.length<=c1) (h:dZ.f k b i l1=some r):
  Calls Tryz.prog 75 #[.agg #[.int .i64 b,.slice m i.length n],.slice U l1.length c1] w fun e w'=>e= .returned (.int .i64 r)/\Below w.heap.size w w':=by
 have a0:=Tryz.underlying24;have G:=zA V;have I:=zA W;clear V W;have Z:=zA X;have a1:=zA Y;clear X Y;have a:=zA (ao w.heap.size w);unfold dZ.f at h;have H:=h;clear h;obtain⟨⟨aa,z⟩,J,H⟩:=zo H;dsimp only at H;by_cases c4:z=0
 ·rw[if_pos c4] at H
  obtain⟨ab,ad⟩:=bG c4;clear c4;by_cases B:aa=true
  ·subst B
   replace H:=zi H;have D:=zA H;clear H;go_enter Tryz.func75,Tryz.ntmps75
   go_wp2_with (first|((with_reducible refine aJ (N:=2) rfl ?_);refine zX 2 #[.int .i64 b,.slice m i.length n] 24 ?_;intro K l w6 o hb;have j:=zA (o);have ag:=zG a l;have ak:=zG a l;replace a:=zS a hb;clear hb o l;obtain⟨ar,av,aB,aF⟩:=ax j)|((with_reducible refine aC (f:=113) rfl ?_);refine zL (some 12) Tryz.func113 #[.agg #[.int .i64 b,.slice m i.length n]] ?_;(with_reducible refine(cz.calls k b _ _ i true z _ ?af ?ah J.out).mono ?_);(case af=>exact Kd.aq G.out zB);(case ah=>exact I.out);rintro e w8 ⟨rfl,hb⟩;refine⟨_,rfl,?_⟩;replace j:=zb j hb;replace a:=zS a hb;(try clear hb)))
   go_loopg [22] k (fun kq v22 w'=>∃(g:Int),v22= .int .i64 g/\Aside0 (dZ.l0 kq l1 (l1.length:Int) g b i=some r)/\Aside0 (kq<=k)/\Aside0 (w'.heap[K]? =some (.cells #[.int .i64 b,(.slice m i.length n)] 24 (0,0)))/\Aside0 (Below w.heap.size w w'))
   case atStart=>exact⟨(0),zT,D,⟨aI _⟩,⟨zK j⟩,⟨zB⟩⟩
   case round=>
    clear D;clear ab ad ar av aB aF;obtain⟨g,rfl,L,an,j,a⟩:=hrel;cases gk with
    |zero=>exact absurd L.out (by simp[dZ.l0])
    |succ M=>
     have H:=L.out;clear L;simp only[dZ.l0] at H;by_cases u:g<(l1.length:Int)
     ·rw[if_pos u] at H
      have aL:=az u;clear u;by_cases E:0<=g
      ·rw[if_pos E] at H
       have a4:=az E;clear E;by_cases F:g<(l1.length:Int)
       ·rw[if_pos F] at H
        have a5:=az F;clear F;obtain⟨O,ap,H⟩:=zo H;by_cases v:O=0
        ·rw[if_pos v] at H
         obtain⟨aO,aP⟩:=bG v;clear v;have D:=zA H;clear H;have p:0<=(g:Int):=aw ‹_›;have q:g<(l1.length:Int):=aw ‹_›;obtain⟨aR,P,Q,R,s,x,y⟩:=fy Z.out g p q;cases R;replace s:=(a.out.cell (br w _ s)).trans s;have S:=zA y;have T:=zA x;clear y x;replace p:=eq_true p;replace q:=eq_true q;obtain⟨a9,be,bf,bg⟩:=ax j;go_wp2_with (first|((with_reducible refine aC (f:=87) rfl ?_);refine zL (some 29) Tryz.func87 #[.slice P (aY l1 g).length Q,.int .i64 b] ?_;(with_reducible refine(bA.calls M _ _ (aY l1 g) b O _ ?af ?ah ap.out).mono ?_);(case af=>exact Kd.aq S.out zB);(case ah=>exact T.out);rintro e w' ⟨rfl,⟨nd,rfl⟩⟩;refine⟨_,rfl,?_⟩))
         go_roundg M
         case measure=>have:=an.out;omega
         case rel=>exact⟨(wrap64 (g+1)),zT,D,⟨by have:=an.out;omega⟩,⟨zK j⟩,⟨zB⟩⟩
        ·rw[if_neg v] at H
         obtain⟨aO,aP⟩:=bI v;obtain rfl:=aE H;have p:0<=(g:Int):=aw ‹_›;have q:g<(l1.length:Int):=aw ‹_›;obtain⟨aR,P,Q,R,s,x,y⟩:=fy Z.out g p q;cases R;replace s:=(a.out.cell (br w _ s)).trans s;have S:=zA y;have T:=zA x;clear y x;replace p:=eq_true p;replace q:=eq_true q;obtain⟨bi,bk,bn,bo⟩:=ax j;go_wp2_with (first|((with_reducible refine aC (f:=87) rfl ?_);refine zL (some 29) Tryz.func87 #[.slice P (aY l1 g).length Q,.int .i64 b] ?_;(with_reducible refine(bA.calls M _ _ (aY l1 g) b O _ ?af ?ah ap.out).mono ?_);(case af=>exact Kd.aq S.out zB);(case ah=>exact T.out);rintro e w' ⟨rfl,⟨nd,rfl⟩⟩;refine⟨_,rfl,?_⟩))
         go_ret;exact⟨zE,zB⟩
       ·rw[if_neg F] at H
        exact absurd H (by simp)
      ·rw[if_neg E] at H
       exact absurd H (by simp)
     ·rw[if_neg u] at H
      have aL:=aZ u;clear u;obtain rfl:=aE H;go_wp2;go_ret;exact⟨zE,zB⟩
  ·replace B:=Bool.eq_false_iff.mpr B
   subst B;replace H:=zj H;obtain rfl:=aE H;go_enter Tryz.func75,Tryz.ntmps75
   go_wp2_with (first|((with_reducible refine aJ (N:=2) rfl ?_);refine zX 2 #[.int .i64 b,.slice m i.length n] 24 ?_;intro K l bv o hb;have j:=zA (o);have ag:=zG a l;have ak:=zG a l;replace a:=zS a hb;clear hb o l;obtain⟨bw,bx,b0,b1⟩:=ax j)|((with_reducible refine aC (f:=113) rfl ?_);refine zL (some 12) Tryz.func113 #[.agg #[.int .i64 b,.slice m i.length n]] ?_;(with_reducible refine(cz.calls k b _ _ i false z _ ?af ?ah J.out).mono ?_);(case af=>exact Kd.aq G.out zB);(case ah=>exact I.out);rintro e b2 ⟨rfl,hb⟩;refine⟨_,rfl,?_⟩;replace j:=zb j hb;replace a:=zS a hb;(try clear hb)))
   go_ret;exact⟨zE,zB⟩
 ·rw[if_neg c4] at H
  obtain⟨ab,ad⟩:=bI c4;obtain rfl:=aE H;go_enter Tryz.func75,Tryz.ntmps75
  go_wp2_with (first|((with_reducible refine aJ (N:=2) rfl ?_);refine zX 2 #[.int .i64 b,.slice m i.length n] 24 ?_;intro K l b3 o hb;have j:=zA (o);have ag:=zG a l;have ak:=zG a l;replace a:=zS a hb;clear hb o l;obtain⟨b4,b5,b6,b_⟩:=ax j)|((with_reducible refine aC (f:=113) rfl ?_);refine zL (some 12) Tryz.func113 #[.agg #[.int .i64 b,.slice m i.length n]] ?_;(with_reducible refine(cz.calls k b _ _ i aa z _ ?af ?ah J.out).mono ?_);(case af=>exact Kd.aq G.out zB);(case ah=>exact I.out);rintro e b' ⟨rfl,hb⟩;refine⟨_,rfl,?_⟩;replace j:=zb j hb;replace a:=zS a hb;(try clear hb)))
  go_ret;exact⟨zE,zB⟩
section
attribute [local go_sem] Oper.semAt_some
theorem xZ {α:Type} {d:Kd α} {W:World} {e base:Nat} {ok:Nat->Prop} {v:Value} {xs:List α} (h:d.R e W base ok v xs) (hp:0<xs.length):∃g c,v= .slice (some ⟨g,0,none⟩) xs.length c:=by
 obtain⟨A,c,rfl⟩:=Kd.bm h;obtain⟨ad,he,_⟩:=(Kd.aH h).2.2.2.2 hp;subst he;obtain⟨g,rfl⟩:=Kd.lZ h;exact⟨g,c,rfl⟩
theorem Gl {W W1:World} {q:Nat} {r:Option Nat} (h:(W.drewN q).grownBy W1 r):W.grownBy W1 r:=⟨h.os,h.tape,h.output,h.size,h.block⟩
theorem Gm (k n m:Nat) (A0:Option Addr) (c0:Nat) (E:List S83) (bq:Int) (C:List (List Int)) (cf:Fin (m+1)->Fin (m+1)->Int) (w:World) (bv:Kd.C aW w A0 E.length E) (bw:E.length<=c0) (hn:2<=n) (d8:n<=12) (gm: -1048576<=bq) (gn:bq<=1048576)
  (b_:dZ.f k n E []=some 0) (b':fG.f k n E 0=some (C,0)) (ca:∀c∈C,c.length=n) (cb:C.length=m+1) (d9:C.length<=16384) (cc:∀c∈C,bA.f k (cS bq c) n=some 0)
  (cd:∀i j:Fin (m+1),dx.f k ((C.map (cS bq)).getD i.1 []) ((C.map (cS bq)).getD j.1 [])=some (cf i j)) (hO:Go.Sort.SWO (ltOf cf)):
  Calls Tryz.prog 136 #[.agg #[.int .i64 n,.slice A0 E.length c0],.int .i64 bq] w fun e w'=>∃v,∃idx:List (Fin (m+1)),e= .returned (.tuple #[v,.int .i64 0])/\idx.Perm (List.finRange (m+1))/\idx.Pairwise (fun i j=>ltOf cf j i=false)/\Kd.N (Kd.slice 3 (Kd.int .i64)) 26 w' w.heap.size (fun k_=>w.heap.size<=k_) v (idx.map fun i=>(C.map (cS bq)).getD i.1 [])/\Below w.heap.size w w':=by
 have hu:=Tryz.underlying24;have Hg:=zA b_;have Ha:=zA b';have ed:=zA ca;have eg:=zA cc;have ek:=zA cd;have el:=zA hO;have go:¬bq< -1048576:=by omega
 have gp:¬1048576<bq:=by omega
 have H:=zA (nM w (.cells #[.int .i64 n,.slice A0 E.length c0] 24) (.cells #[.slice none 0 0] 33) (.cells #[.int .i64 0] 30));have em:(((w.alloc (.cells #[.int .i64 n,.slice A0 E.length c0] 24)).alloc (.cells #[.slice none 0 0] 33)).alloc (.cells #[.int .i64 0] 30)).cell? ⟨w.heap.size,0,none⟩=some (.int .i64 n):=(aj H.out.1 0).trans rfl;have er:(((w.alloc (.cells #[.int .i64 n,.slice A0 E.length c0] 24)).alloc (.cells #[.slice none 0 0] 33)).alloc (.cells #[.int .i64 0] 30)).cell? ⟨w.heap.size,1,none⟩=some (.slice A0 E.length c0):=(aj H.out.1 1).trans rfl;have ce:=zA cb;clear b_ b' ca cc cd hO cb;refine(callsIn_wide (n:=10)).1 ?_;refine callsIn_of_wp_marks Tryz.func136 rfl trivial ?_ rfl;simp only[Tryz.ntmps136,List.size_toArray,List.length_cons,List.length_nil,Nat.reduceAdd,Nat.reduceSub,Array.replicate_succ,Array.replicate_zero,List.push_toArray,List.append_toArray,List.nil_append,List.cons_append];gi_wp2_with (first|(refine⟨trivial,?_⟩;gi_at_call 75;refine(callsIn_wide.2 (dZ.calls k n A0 c0 E none 0 [] 0 _ (Kd.bz (Kd.bz (Kd.bz bv _) _) _) bw (Kd.mQ _ _) (Nat.zero_le _) Hg.out)).mono ?_;rintro e w1 ⟨rfl,hb⟩;have HB:=zA ((au (au (au (ao w.heap.size w) _) _) _).trans (hb.mono (by simp;omega)));have X0:=zA (aM H.out.1 hb);have z:=zA (aM H.out.2.1 hb);have X2:=zA (aM H.out.2.2 hb);have y0:w1.cell? ⟨w.heap.size,0,none⟩=some (.int .i64 n):=(aj X0.out 0).trans rfl;have y1:w1.cell? ⟨w.heap.size,1,none⟩=some (.slice A0 E.length c0):=(aj X0.out 1).trans rfl;clear hb)|(refine⟨trivial,?_⟩;gi_at_call 114;refine(callsIn_wide.2 (fG.calls k n A0 c0 E 0 C 0 _ (Kd.aq bv HB.out) bw Ha.out)).mono ?_;rintro e w2 ⟨v,rfl,I,J⟩;obtain⟨V,cl,rfl, -⟩:=Kd.Ah I;have HN:=zA (Kd.qg I);have ci:=zA (a7 HB.out J);have Z0:=zA (aM X0.out J);have Z1:=zA (aM z.out J);have Z2:=zA (aM X2.out J);have ew:=zA J.size;clear I J)|(refine⟨trivial,?_⟩;gi_at_call 182;refine(callsIn_wide.2 (F7 _ _ _ _ _)).mono ?_;rintro e w3 ⟨rfl,rfl⟩))
 have ex:w.heap.size+1+1<w2.heap.size:=aD Z2.out;have co:w1.heap.size<=w2.heap.size:=ew.out;have ey:=HB.out.size;obtain⟨L,cq⟩:∃o:Obj,o= .cells #[.slice V C.length cl] 33:=⟨_,rfl⟩;obtain⟨M,cs⟩:∃o:Obj,o= .cells #[.int .i64 bq] 3:=⟨_,rfl⟩;obtain⟨O,c2⟩:∃o:Obj,o= .cells #[.slice none 0 0] 33:=⟨_,rfl⟩;obtain⟨V0,V1,V2⟩:=nM w2 O L M;have am:=zA (V0.trans (by rw[c2]:_=some (.cells #[.slice none 0 0] 33 (0,0))));have aP:=zA (V1.trans (by rw[cq]:_=some (.cells #[.slice V C.length cl] 33 (0,0))));have aR:=zA (V2.trans (by rw[cs]:_=some (.cells #[.int .i64 bq] 3 (0,0))));have aS:=zA (au (au (au ci.out O) L) M);have c6:=zA (ay (ay (ay Z0.out O) L) M);have c7:=zA (ay (ay (ay Z1.out O) L) M);have c8:=zA (ay (ay (ay Z2.out O) L) M);have an:=zA (Kd.dA (Kd.dA (Kd.dA (Kd.dz HN.out (ok':=fun k=>w1.heap.size<=k/\k<w2.heap.size) (fun k hk=>hk)) O) L) M);clear V0 V1 V2;subst cq cs c2;clear y0 y1 em er X0 z X2 Z0 Z1 Z2 HB ci H HN;have a0:(((w2.alloc (.cells #[.slice none 0 0] 33)).alloc (.cells #[.slice V C.length cl] 33)).alloc (.cells #[.int .i64 bq] 3)).heap.size=w2.heap.size+3:=by simp
 generalize ((w2.alloc (.cells #[.slice none 0 0] 33)).alloc (.cells #[.slice V C.length cl] 33)).alloc (.cells #[.int .i64 bq] 3)=b at am aP aR aS c6 c7 c8 an a0⊢;have e0:=zA a0;have e1:w2.heap.size<b.heap.size:=by omega
 have e4:w2.heap.size+1<b.heap.size:=by omega
 have e5:w2.heap.size+1+1<b.heap.size:=by omega
 clear a0;generalize e6:w2.heap.size+1+1=qx at aR e5⊢;generalize e_:w2.heap.size+1=gx at aP e4 e6⊢;generalize w2.heap.size=bo at am e0 ex co e1 e_ an⊢;generalize w1.heap.size=b0 at an co ey⊢;have gq:=aS.out.size;refine jb (σ:=Unit) (α:=List Int×Value) (F:=Fence.wide) (n:=10) rfl (by decide) (gf:=202) (lb:=#[.pointer (some ⟨gx,0,none⟩),.pointer (some ⟨qx,0,none⟩)]) rfl trivial (enters_of Tryz.func202 (by kernel_rfl) rfl)
  (fun o=>Ge gx qx b0 bo n V cl _ C bq _ (by omega) (by omega) hn d8 ed.out d9 (Kd.dA (Kd.dA an.out _) _) (ay (ay aP.out _) _) (ay (ay aR.out _) _)) (fun _=>rfl)
  (fun _=>True) ?eU ?st ?ar
  (fun _ pre W=>b.heap.size+2<=W.heap.size/\(∃v,W.heap[bo]? =some (.cells #[v] 33 (0,0))/\(Kd.slice 3 (Kd.int .i64)).R 26 W w.heap.size (fun k=>b.heap.size+2<=k) v (pre.map Prod.fst))/\W.heap[w.heap.size+1]? =some (.cells #[.slice none 0 0] 33 (0,0))/\W.heap[w.heap.size+1+1]? =some (.cells #[.int .i64 0] 30 (0,0))/\W.heap[w.heap.size]? =some (.cells #[.int .i64 n,.slice A0 E.length c0] 24 (0,0))/\Below w.heap.size w W) (fun _ _ _ _=>False)
  ?is (fun _ _ _ _ _ _ h _=>h) ?ib (fun _ _ _ _ _ h _=>h) ?kt ?h0 ?a1 ?assign ?body ?done (fun _ _ _ _ _ _ _ h=>h.elim)
 case assign=>
  intro l x W K hK;gi_wp2;exact hK
 case eU=>
  intro o s W1 h;exact⟨trivial,by rw[h];exact cu.refl _ _⟩
 case st=>intro s A B _ h;exact dc h
 case ar=>intro s x A B _ h;exact dc h.2.2
 case is=>
  rintro s pre A B _ ⟨X,⟨v,h1,h4⟩,h2,h3,h6,h5⟩ G;exact⟨Nat.le_trans X G.size,⟨v,aM h1 G,Kd.da h4 G⟩,aM h2 G,aM h3 G,aM h6 G,a7 h5 G⟩
 case ib=>
  rintro s pre A B ⟨X,⟨v,h1,h4⟩,h2,h3,h6,h5⟩ hb;exact⟨by rw[hb.size];exact X,⟨v,hb.cells h1,dD h4 hb⟩,hb.cells h2,hb.cells h3,hb.cells h6,h5.trans (hb.below w.heap.size (by omega))⟩
 case kt=>
  intro s A B C' D c9 fd fn k hk ap;have c':k≠b.heap.size+1:=by rcases hk with hk|rfl|rfl<;>omega
  exact(fn.heap k c').trans ((fd k hk (by rw[c9.size];exact ap)).trans (c9.heap k c'))
 case h0=>
  rintro o s W1 rfl;exact⟨by simp,⟨_,ay (ay am.out _) _,Kd.cY _ _ _ _ _⟩,ay (ay c7.out _) _,ay (ay c8.out _) _,ay (ay c6.out _) _,au (au aS.out _) _⟩
 case body=>
  rintro l s pre ⟨xl,xv⟩ Y W1 W _ ⟨X,⟨v,i1,i4⟩,i2,i3,i6,i5⟩ ⟨⟨c,dd,bf⟩,P,y⟩ av a;simp only at P bf;obtain⟨Ax,cx,rfl⟩:=Kd.bm P;have g0:Y.heap.size<=W.heap.size:=by have:=a.size;have:=y.size;omega
  have g:=zA (a.cells (aM i1 y));have Q:=zA (a.cells (aM i2 y));have b3:=zA (a.cells (aM i3 y));have b6:=zA (a.cells (aM i6 y));have b4:=zA (dD (Kd.da i4 y) a);have Z:=zA ((a7 i5 y).trans (a.below w.heap.size (by omega)));have bx:=zA ((Kd.bh (Kd.a_ (ok':=fun k=>Y.heap.size<=k) (Kd.ff (dD P a)) (fun k hk=>hk.2.1)) i5.size));have ds:∀k,v.ownBlock=some k->k<Y.heap.size:=fun k hk=>Kd.bj i4 k hk
  have dv:=zA ds;have fq:=zA (Kd.gM i4);have fr:=zA (fun W2 hC=>bA.calls k Ax cx xl n 0 W2 hC (Kd.aH P).2.1 (by rw[bf];exact eg.out c dd));have ft:=zA (Kd.aH (dD P a)).2.2;have g1:pre.length<16384:=by have:pre.length<C.length:=av;omega
  clear i1 i2 i3 i4 i5 i6 y P a ds av bf dd;obtain⟨Ar,cr,rfl⟩:=Kd.bm b4.out;have d0:(pre.map Prod.fst).length=pre.length:=by simp
  rw[d0] at g b4 dv fq;have g2:W.cell? ⟨w.heap.size,0,none⟩=some (.int .i64 n):=(aj b6.out 0).trans rfl;have LN:Aside0 (((pre.map Prod.fst).length+1)*24<=140737488355328):=⟨by rw[d0];omega⟩;have f0:Aside0 (∀k,Y.heap.size<=k->(b.heap.size+2<=k)/\some k≠(Value.slice Ar pre.length cr).ownBlock):=⟨fun k hk=>⟨by omega,fun e=>by have:=dv.out k e.symm;omega⟩⟩;have f1:Aside0 (∀k,W.heap.size<=k->b.heap.size+2<=k):=⟨fun k hk=>by omega⟩;gi_wp2_with (first|(refine⟨trivial,?_⟩;gi_at_call 87;refine(callsIn_wide.2 (fr.out _ ft.out)).mono ?_;rintro e w4 ⟨rfl,⟨q,rfl⟩⟩;have g4:(W.drewN q).cell? ⟨bo,0,none⟩=some (.slice Ar pre.length cr):=dV (iQ g.out q);have g5:(W.drewN q).frozen? ⟨bo,0,none⟩=false:=bF (iQ g.out q) 0)|(gi_at_builtin;go_loud (refine o5 (Kd.slice 3 (Kd.int .i64)) (w0:=w) w.heap.size rfl (.tmp 39) (.tmp 41) 33 26 (.slice none 0 0) 24 rfl Tryz.underlying33 qt rfl (by decide) (by omega) (.slice Ar pre.length cr) (pre.map Prod.fst) xl [.slice Ax xl.length cx] (fun k=>b.heap.size+2<=k) (fun k=>Y.heap.size<=k) rfl rfl (Kd.mP (Kd.bu bx.out _)) f0.out f1.out (Kd.bu b4.out _) (bY Z.out _) Z.out.size LN.out ?_;intro v1 g6 bi hb S f2;obtain⟨A1,c1,rfl⟩:=Kd.bm bi;have f3:=zA bi;have f4:=zA hb;have T:=zA S;have z:=zA ((S.block bo (aD g.out) (Kd.di b4.out g.out (by decide))).trans g.out);have g7:=dV z.out;have g8:=bF z.out 0;clear bi hb S f2)))
  have X2:=zA ((T.out.block _ (aD Q.out) (Kd.di b4.out Q.out (by decide))).trans Q.out);have X3:=zA ((T.out.block _ (aD b3.out) (Kd.di b4.out b3.out (by decide))).trans b3.out);have X6:=zA ((T.out.block _ (aD b6.out) (Kd.di b4.out b6.out (by decide))).trans b6.out);have f7:=zA (Gl T.out);refine⟨(o6 b4.out f7.out).trans (fX _ _ (aD am.out)),fun k hk ap=>?_,by have:=T.out.size;simp at this⊢;omega,⟨.slice A1 (pre.length+1) c1,by simpa using bW z.out 0 (.slice A1 (pre.length+1) c1),?_⟩,aG X2.out (by show w.heap.size+1≠bo;omega) _,aG X3.out (by show w.heap.size+1+1≠bo;omega) _,aG X6.out (by show w.heap.size≠bo;omega) _,dG f4.out (by show w.heap.size<=bo;omega)⟩
  ·have f8:k≠bo:=by rcases hk with hk|rfl|rfl<;>omega
   rw[Below.heap_setCell _ _ _ _ f8];exact T.out.block k ap (fun e=>by have h:=b4.out.1 k e.symm;rcases hk with hk|rfl|rfl<;>omega)
  ·have h:=Kd.fp f3.out z.out (by decide) 0 (.slice A1 (pre.length+1) c1)
   simpa using h
 case done=>
  rintro s xs W W' _ d1 ⟨X,⟨v,i1,i4⟩,i2,i3,i6,i5⟩ a d2;have d3:xs.map Prod.fst=C.map (cS bq):=d1;rw[d3] at i4;have aF:(C.map (cS bq)).length=m+1:=by rw[List.length_map];exact ce.out
  have b4:=dD i4 a;obtain⟨gs,r,rfl⟩:=xZ b4 (by omega);have g9:b.heap.size+2<=gs:=b4.1 gs rfl;have g':=Kd.bj b4 gs rfl;have g:=zA (a.cells i1);have Q:=zA (a.cells i2);have b3:=zA (a.cells i3);have Z:=zA (i5.trans (a.below w.heap.size (by omega)));have d4:=zA d2;have d5:=zA (Gk Gh (enters_of Tryz.func183 (by kernel_rfl) rfl) cf aF (by have:=ce.out;omega) (Kd.oC b4) ek.out el.out);clear i1 i2 i3 i4 i5 i6 d2 d1 d3 a b4;rw[aF] at g d5;have ha:=zA aF;clear aF;have hc:=dV g.out;gi_wp2_with (refine⟨trivial,?_⟩;gi_at_call 49;(with_reducible refine(callsIn_wide.2 d5.out).mono ?_);rintro e U ⟨rfl,idx,hp,d6,I,S⟩;have HP:=zA hp;have f':=zA d6;have gb:=zA I;have aa:=zA S;clear hp d6 I S;have c1:=dV ((aa.out.block bo (aD g.out) (fun e=>by injection e;omega)).trans g.out);have e2:=zA ((aa.out.block _ (aD Q.out) (fun e=>by injection e;omega)).trans Q.out);have e3:=zA ((aa.out.block _ (aD b3.out) (fun e=>by injection e;omega)).trans b3.out);have q1:U.cell? ⟨w.heap.size+1,0,none⟩=some (.slice none 0 0):=(aj e2.out 0).trans rfl;have q2:U.frozen? ⟨w.heap.size+1,0,none⟩=false:=bF e2.out 0;have Y3:=zA (aG (p:=⟨w.heap.size+1,0,none⟩) e3.out (by show w.heap.size+1+1≠w.heap.size+1;omega) (.slice (some ⟨gs,0,none⟩) (m+1) r));have q3:(U.setCell ⟨w.heap.size+1,0,none⟩ (.slice (some ⟨gs,0,none⟩) (m+1) r)).cell? ⟨w.heap.size+1+1,0,none⟩=some (.int .i64 0):=(aj Y3.out 0).trans rfl;have q4:=bF Y3.out 0)
  have Y1:=zA (aG (p:=⟨w.heap.size+1+1,0,none⟩) (bW e2.out 0 (.slice (some ⟨gs,0,none⟩) (m+1) r)) (by show w.heap.size+1≠w.heap.size+1+1;omega) (.int .i64 0));have Y2:=zA (bW Y3.out 0 (.int .i64 0));have av:w.heap.size+1≠b.heap.size:=by omega
  have gg:w.heap.size+1+1≠b.heap.size:=by omega
  have Y4:=zA (show ((U.setCell ⟨w.heap.size+1,0,none⟩ (.slice (some ⟨gs,0,none⟩) (m+1) r)).setCell ⟨w.heap.size+1+1,0,none⟩ (.int .i64 0)).heap[b.heap.size]? =some (.deferred (some [])) from by rw[Below.heap_setCell _ _ _ _ (fun e=>gg e.symm),Below.heap_setCell _ _ _ _ (fun e=>av e.symm)];exact(aa.out.block _ (aD d4.out) (fun e=>by injection e;omega)).trans d4.out);have Y5:=zA (Kd.tn (p:=⟨w.heap.size+1+1,0,none⟩) (Kd.tn (p:=⟨w.heap.size+1,0,none⟩) gb.out (fun k hk=>by show k≠w.heap.size+1;omega) (.slice (some ⟨gs,0,none⟩) (m+1) r)) (fun k hk=>by show k≠w.heap.size+1+1;omega) (.int .i64 0));have Y6:=zA (((ku Z.out _ Z.out.size aa.out (fun k e=>by injection e;omega)).setCell (p:=⟨w.heap.size+1,0,none⟩) (by show w.heap.size<=w.heap.size+1;omega) (.slice (some ⟨gs,0,none⟩) (m+1) r)).setCell (p:=⟨w.heap.size+1+1,0,none⟩) (by show w.heap.size<=w.heap.size+1+1;omega) (.int .i64 0));have aL:Bk b.heap.size ((U.setCell ⟨w.heap.size+1,0,none⟩ (.slice (some ⟨gs,0,none⟩) (m+1) r)).setCell ⟨w.heap.size+1+1,0,none⟩ (.int .i64 0)) (((U.setCell ⟨w.heap.size+1,0,none⟩ (.slice (some ⟨gs,0,none⟩) (m+1) r)).setCell ⟨w.heap.size+1+1,0,none⟩ (.int .i64 0)).putObj b.heap.size (.deferred none)):=⟨_,_,Y4.out,rfl,rfl⟩;refine jB (D:=b.heap.size) rfl Y4.out (rN (p:=4) (u:=5) rfl _ _ ⟨w.heap.size+1,0,none⟩ ⟨w.heap.size+1+1,0,none⟩ (.slice (some ⟨gs,0,none⟩) (m+1) r) (.int .i64 0) rfl rfl Tryz.underlying33 Tryz.underlying30 rfl rfl ((aj (aL.cells Y1.out) 0).trans (by simp)) ((aj (aL.cells Y2.out) 0).trans (by simp))) ⟨_,idx,rfl,HP.out,f'.out,?_,Y6.out.trans (aL.below w.heap.size (by omega))⟩;exact Kd.dz (Kd.mW Y5.out (fun k hk ap=>aL.heap k (by omega))) (fun k hk=>by omega)
end
section
attribute [local go_sem] Oper.semAt_some
def kY (pre:List (Int×Int)):Int:=pre.foldl (fun s x=>wrap64 (s+x.2)) 0
theorem Gn (pre:List (Int×Int)) (x:Int×Int):kY (pre++[x])=wrap64 (kY pre+x.2):=by simp[kY,List.foldl_append]
theorem Gp (k n d:Nat) (A0:Option Addr) (c0:Nat) (E:List S83) (L:List Int) (w:World) (S:Kd.C aW w A0 E.length E) (T:E.length<=c0) (aO:1<=n) (hn:n<=1000) (I:∀u:Nat,u<n->∃e,cF.f k n E (u:Nat)=some (rd L u,e)) (hd:kY (gU L n)=d) (aP:d<=100000):
  Calls Tryz.prog 135 #[.agg #[.int .i64 n,.slice A0 E.length c0]] w fun e w'=>e= .returned (.int .i64 (((d/2:Nat):Int)-n+1))/\Below w.heap.size w w':=by
 have hu:=Tryz.underlying24;have U:=zA I;have V:=zA hd;have aR:(0:Int)<=(n:Int):=by omega
 clear I hd;refine(callsIn_wide (n:=10)).1 ?_;refine callsIn_of_wp_marks Tryz.func135 rfl trivial ?_ rfl;simp only[Tryz.ntmps135,List.size_toArray,List.length_cons,List.length_nil,Nat.reduceAdd,Nat.reduceSub,Array.replicate_succ,Array.replicate_zero,List.push_toArray,List.append_toArray,List.nil_append,List.cons_append];gi_wp2_with (first|(refine⟨trivial,?_⟩;gi_at_call 143;refine(callsIn_wide.2 (wO n _ _)).mono ?_;rintro e w3 ⟨rfl,rfl⟩))
 have q:=zA (bs ((w.alloc (.cells #[.int .i64 n,.slice A0 E.length c0] 24)).alloc (.cells #[.int .i64 0] 3)) (.cells #[.int .i64 n,.slice A0 E.length c0] 24));have r:=zA (ay (bs (w.alloc (.cells #[.int .i64 n,.slice A0 E.length c0] 24)) (.cells #[.int .i64 0] 3)) (.cells #[.int .i64 n,.slice A0 E.length c0] 24));have J:=zA (ay (ay (bs w (.cells #[.int .i64 n,.slice A0 E.length c0] 24)) (.cells #[.int .i64 0] 3)) (.cells #[.int .i64 n,.slice A0 E.length c0] 24));have y:=zA (au (au (au (ao w.heap.size w) (.cells #[.int .i64 n,.slice A0 E.length c0] 24)) (.cells #[.int .i64 0] 3)) (.cells #[.int .i64 n,.slice A0 E.length c0] 24));simp only[World.size_alloc] at q r;have X:=Nat.le_of_eq (show (((w.alloc (.cells #[.int .i64 n,.slice A0 E.length c0] 24)).alloc (.cells #[.int .i64 0] 3)).alloc (.cells #[.int .i64 n,.slice A0 E.length c0] 24)).heap.size=w.heap.size+3 by simp);have Y:=Nat.le_of_eq (show w.heap.size+3=(((w.alloc (.cells #[.int .i64 n,.slice A0 E.length c0] 24)).alloc (.cells #[.int .i64 0] 3)).alloc (.cells #[.int .i64 n,.slice A0 E.length c0] 24)).heap.size by simp);generalize ((w.alloc (.cells #[.int .i64 n,.slice A0 E.length c0] 24)).alloc (.cells #[.int .i64 0] 3)).alloc (.cells #[.int .i64 n,.slice A0 E.length c0] 24)=b at q r J y X Y⊢;refine jb (σ:=Unit) (α:=Int×Int) (F:=Fence.wide) (n:=10) rfl (by decide) (gf:=185) (lb:=#[.pointer (some ⟨w.heap.size+1+1,0,none⟩)]) rfl trivial (enters_of Tryz.func185 (by kernel_rfl) rfl)
  (fun o=>wS (w.heap.size+1+1) k n A0 c0 E L w _ S T hn U.out (au (au y.out _) _) (ay (ay q.out _) _)) (fun _=>rfl)
  (fun _=>True) ?eU ?st ?ar
  (fun _ pre W=>b.heap.size<=W.heap.size/\W.heap[w.heap.size+1]? =some (.cells #[.int .i64 (kY pre)] 3 (0,0))/\W.heap[w.heap.size]? =some (.cells #[.int .i64 n,.slice A0 E.length c0] 24 (0,0))/\Below w.heap.size w W) (fun _ _ _ _=>False)
  ?is (fun _ _ _ _ _ _ h _=>h) ?ib (fun _ _ _ _ _ h _=>h) ?kt ?h0 ?a1 ?assign ?body ?done (fun _ _ _ _ _ _ _ h=>h.elim)
 case assign=>
  intro l x W K Z;gi_wp2;exact Z
 case eU=>
  intro o s W1 h;exact⟨trivial,by rw[h];exact cu.refl _ _⟩
 case st=>intro s A B _ h;exact dc h
 case ar=>intro s x A B _ h;exact dc h.2
 case is=>
  rintro s pre A B _ ⟨g,h1,z,G⟩ j;exact⟨Nat.le_trans g j.size,aM h1 j,aM z j,a7 G j⟩
 case ib=>
  rintro s pre A B ⟨g,h1,z,G⟩ hb;exact⟨by rw[hb.size];exact g,hb.cells h1,hb.cells z,G.trans (hb.below w.heap.size (by omega))⟩
 case kt=>
  intro s A B C D m M N;refine⟨fun a6=>((m.below w.heap.size (by omega)).trans (M.1 (by rw[m.size];exact a6))).trans (N.below w.heap.size (by omega)),fun aa=>?_⟩;have O:w.heap.size+1+1≠b.heap.size+1:=by omega
  exact(N.heap _ O).trans ((M.2 (by rw[m.size];exact aa)).trans (m.heap _ O))
 case h0=>
  rintro o s W1 rfl;exact⟨by simp;omega,ay (ay r.out _) _,ay (ay J.out _) _,au (au y.out _) _⟩
 case body=>
  rintro l s' pre ⟨xv,xy⟩ Wb Wc W _ ⟨g,i1,i2,i3⟩ ⟨⟨v,a3,hx⟩,i⟩ ag a;injection hx with ak am
  subst ak;have H:=zA (a.cells (aM i1 i));have I2:=zA (a.cells (aM i2 i));have I3:=zA ((a7 i3 i).trans (a.below w.heap.size (by omega)));have av:b.heap.size<=W.heap.size:=by have:=a.size;have:=i.size;omega
  have aB:=zA (Gn pre ((v:Int),xy));clear i1 i2 i3 i a ag g am;have z1:=dV H.out;have z2:=bF H.out 0;gi_wp2;refine⟨fX _ _ (by omega),⟨fun _=>Below.setCell (p:=⟨w.heap.size+1,0,none⟩) (ao _ _) (by show w.heap.size<=w.heap.size+1;omega) _,fun _=>Below.heap_setCell _ _ _ _ (by show w.heap.size+1+1≠w.heap.size+1;omega)⟩,by simpa using av,?_,aG I2.out (by show w.heap.size≠w.heap.size+1;omega) _,Below.setCell (p:=⟨w.heap.size+1,0,none⟩) I3.out (by show w.heap.size<=w.heap.size+1;omega) _⟩;rw[aB.out];exact bE (cs:=#[.int .i64 (kY pre)]) H.out 0 _ rfl
 case done=>
  rintro s' xs W W' _ rfl ⟨g,i1,i2,i3⟩ a P;have Q:=zA (a.cells i1);have b2:=zA (a.cells i2);have b3:=zA (i3.trans (a.below w.heap.size (by omega)));have R:=zA P;clear i1 i2 i3 P;rw[V.out] at Q;have y1:=(aj Q.out 0).trans rfl;have y2:=(aj b2.out 0).trans rfl;have a9:(0:Int)<=(d:Int):=by omega
  gi_wp2;have aL:Bk b.heap.size W' (W'.putObj b.heap.size (.deferred none)):=⟨_,_,R.out,rfl,rfl⟩;exact jB (D:=b.heap.size) rfl R.out (results_tmp rfl _ _ _) ⟨by simp,b3.out.trans (aL.below w.heap.size (by omega))⟩
end
section
attribute [local go_sem] Oper.semAt_some jR jS jT jU
theorem Gq (k n gb:Nat) (A0:Option Addr) (c0:Nat) (E:List S83) (a:Option Addr) (c1:Nat) (d:List Int) (r:Int) (w:World) (b:Kd.C aW w A0 E.length E) (i:E.length<=c0) (g:Kd.C (Kd.int .i64) w a d.length d) (j:d.length<=c1) (hb:w.heap[gb]? =some (.cells #[.int .i64 n,.slice A0 E.length c0] 24 (0,0))) (h:eJ.f k n E d=some (r,0)):
  Calls Tryz.prog 138 #[.slice a d.length c1,.pointer (some ⟨gb,0,none⟩)] w fun e w'=>e= .returned (.tuple #[.int .i64 r,.int .i64 0])/\Below w.heap.size w w':=by
 have hu:=Tryz.underlying24;have H:=zA (eJ.calls k n A0 c0 E a c1 d r 0 w b i g j h);have l:w.cell? ⟨gb,0,none⟩=some (.int .i64 n):=(aj hb 0).trans rfl;have m:w.cell? ⟨gb,1,none⟩=some (.slice A0 E.length c0):=(aj hb 1).trans rfl;clear h b g hb;go_enter Tryz.func138,Tryz.ntmps138
 go_wp2_with (go_at_call 41;refine H.out.mono ?_;rintro e w1 ⟨rfl,hb⟩;have o:=zA hb;clear hb l m)
 go_ret2;exact⟨rfl,o.out⟩
def jo (a:List Int->Int) (L:List (List Int)):Int:=L.foldl (fun b d=>max b (a d)) (-1)
theorem Gr (a:List Int->Int) (L:List (List Int)) (d:List Int):jo a (L++[d])=max (jo a L) (a d):=by simp[jo,List.foldl_append]
theorem Gs (k n gb g cap base:Nat) (ok:Nat->Prop) (A0:Option Addr) (c0:Nat) (E:List S83) (L:List (List Int)) (a:List Int->Int) (w:World) (p:Kd.C aW w A0 E.length E) (x:E.length<=c0) (hb:w.heap[gb]? =some (.cells #[.int .i64 n,.slice A0 E.length c0] 24 (0,0))) (K:L.length<=16384)
  (q:Kd.N (Kd.slice 3 (Kd.int .i64)) 26 w base ok (.slice (some ⟨g,0,none⟩) L.length cap) L) (h:∀d∈L,eJ.f k n E d=some (a d,0)):
  Calls Tryz.prog 137 #[.slice (some ⟨g,0,none⟩) L.length cap,.func (.func 138) #[] #[.pointer (some ⟨gb,0,none⟩)]] w fun e w'=>e= .returned (.tuple #[.int .i64 (jo a L),.int .i64 0])/\Below w.heap.size w w':=by
 have y:=zA hb;have z:=zA q;have B:=zA h;have D:=zA p;clear hb q h p;go_enter Tryz.func137,Tryz.ntmps137
 go_wp2;go_loopg [6,13] (L.length) (fun F b i wr=>∃v:Nat,v<=L.length/\i= .int .i64 v/\b= .int .i64 (jo a (L.take v))/\Aside0 (Below w.heap.size w wr)/\Aside0 (F=L.length-v))
 case atStart=>exact⟨0,Nat.zero_le _,rfl,rfl,⟨ao _ _⟩,⟨rfl⟩⟩
 case round=>
  obtain⟨v,M,rfl,rfl,j,G⟩:=hrel;by_cases l:v<L.length
  ·have O:(0:Int)<=(v:Int):=by omega
   have P:(v:Int)<(L.length:Int):=by omega
   obtain⟨g2,H,cc,he,r,m,o⟩:=xW (Kd.hU z.out j.out) v l;injection he with he
   injection he with he
   subst he;have s:=zA (show jo a (L.take (v+1))=max (jo a (L.take v)) (a (L.getD v [])) by rw[List.take_succ_eq_append_getElem l,Gr,bc,bS l];rfl);have u:=zA (B.out (L.getD v []) (by rw[bc,bS l];exact List.getElem_mem l));generalize L.getD v []=d at r m o s u;have I:=zA (Gq k n gb A0 c0 E H cc d (a d) wr (Kd.aq D.out j.out) x (Kd.kA o) m (aM y.out j.out) u.out);clear o m;go_wp2_with (go_at_call 138;refine I.out.mono ?_;rintro e w1 ⟨rfl,hb⟩;have J:=zA (a7 j.out hb);clear hb r)
   all_goals
    go_roundg (L.length- (v+1))
    case measure=>rw[G.out];omega
    case rel=>exact⟨v+1,by omega,by go_num,by rw[s.out];exact congrArg _ (by omega),J,⟨rfl⟩⟩
  ·obtain rfl:v=L.length:=by omega
   go_wp2;go_ret2;exact⟨by rw[List.take_length];rfl,j.out⟩
theorem Gt {α:Type} {d:Kd α} {W:World} {e base:Nat} {ok:Nat->Prop} {v:Value} {xs:List α} (h:Kd.N d e W base ok v xs) (hp:0<xs.length):∃g c,v= .slice (some ⟨g,0,none⟩) xs.length c:=by
 obtain⟨_,rows,a,b,_⟩:=h;rw[<-a] at hp⊢;exact xZ b hp
theorem x_ {m:Nat} {idx:List (Fin (m+1))} {f:List Int->List Int} {C:List (List Int)} (hp:idx.Perm (List.finRange (m+1))) (hC:C.length=m+1):(idx.map fun i=>(C.map f).getD i.1 []).Perm (C.map f):=by
 refine(hp.map _).trans (List.Perm.of_eq ?_);refine List.ext_getElem (by simp[hC]) fun i h1 a=>?_
 simp only[List.length_map] at a;simp[bS a]
theorem Gu {m k:Nat} {n:Int} {E:List S83} {a:List Int->Int} {idx:List (Fin (m+1))} {f:List Int->List Int} {C:List (List Int)} (hp:idx.Perm (List.finRange (m+1))) (hC:C.length=m+1) (h:∀c∈C,eJ.f k n E (f c)=some (a (f c),0)):∀d∈idx.map fun i=>(C.map f).getD i.1 [],eJ.f k n E d=some (a d,0):=fun d hd=>by
 obtain⟨c,b,rfl⟩:=List.mem_map.1 ((x_ hp hC).mem_iff.1 hd);exact h c b
theorem Gv (k n m d:Nat) (A0:Option Addr) (c0:Nat) (E:List S83) (bq:Int) (q:List Int) (C:List (List Int)) (r:List Int->Int) (s:Fin (m+1)->Fin (m+1)->Int) (w:World) (G:Kd.C aW w A0 E.length E) (a:E.length<=c0) (hn:2<=n) (Y:n<=12) (a0:0<=bq) (Z:bq<=1048576)
  (H:dO.f k n E=some 0) (I:∀u:Nat,u<n->∃e,cF.f k n E (u:Nat)=some (rd q u,e)) (hd:kY (gU q n)=d) (J:d<=100000) (aa:bq<=2*(((d/2:Nat):Int)-n+1)-2)
  (K:dZ.f k n E []=some 0) (M:fG.f k n E 0=some (C,0)) (N:∀c∈C,c.length=n) (x:C.length=m+1) (y:C.length<=16384) (O:∀c∈C,bA.f k (cS bq c) n=some 0)
  (P:∀i j:Fin (m+1),dx.f k ((C.map (cS bq)).getD i.1 []) ((C.map (cS bq)).getD j.1 [])=some (s i j)) (hO:Go.Sort.SWO (ltOf s)) (Q:∀c∈C,eJ.f k n E (cS bq c)=some (r (cS bq c),0)):
  Calls Tryz.prog 82 #[.agg #[.int .i64 n,.slice A0 E.length c0],.int .i64 bq] w fun e w'=>∃L:List (List Int),L.Perm (C.map (cS bq))/\e= .returned (.tuple #[.int .i64 (jo r L),.int .i64 0])/\Below w.heap.size w w':=by
 have hu:=Tryz.underlying24;have z:=zA (bs w (.cells #[.int .i64 n,.slice A0 E.length c0] 24));have H1:=zA (fun W h=>dO.calls k n A0 c0 E 0 W h a H);have R:=zA (fun W h=>Gp k n d A0 c0 E q W h a (by omega) (by omega) I hd J);have H3:=zA (fun W h=>Gm k n m A0 c0 E bq C s W h a hn Y (by omega) Z K M N x y O P hO);have H4:=zA (fun gb g cap base ok L W h1 h2 h3 h4 S=>Gs k n gb g cap base ok A0 c0 E L r W h1 a h2 h3 h4 S);have an:=zA Q;have b:=zA x;have ap:=zA y;have S:¬bq< -1048576:=by omega
 have h6:¬1048576<bq:=by omega
 have h7:¬bq<0:=by omega
 have ar:((d/2:Nat):Int)-n+1<=100000:=by omega
 generalize ((d/2:Nat):Int)-n+1=T at R aa ar;have a3:1<=T:=by omega
 have h8:¬2*T-2<bq:=by omega
 have b0:(w.alloc (.cells #[.int .i64 n,.slice A0 E.length c0] 24)).cell? ⟨w.heap.size,0,none⟩=some (.int .i64 n):=(aj z.out 0).trans rfl;have b1:(w.alloc (.cells #[.int .i64 n,.slice A0 E.length c0] 24)).cell? ⟨w.heap.size,1,none⟩=some (.slice A0 E.length c0):=(aj z.out 1).trans rfl;have l:=zA G;clear H I hd J K M N x y O P hO Q G;go_enter Tryz.func82,Tryz.ntmps82
 go_wp2_with (first|(go_at_call 55;refine(H1.out _ (Kd.bz l.out _)).mono ?_;rintro e w1 ⟨rfl,hb⟩;have U:=zA (a7 (au (ao w.heap.size w) _) hb);have B:=zA (aM z.out hb);clear hb;have y0:w1.cell? ⟨w.heap.size,0,none⟩=some (.int .i64 n):=(aj B.out 0).trans rfl;have y1:w1.cell? ⟨w.heap.size,1,none⟩=some (.slice A0 E.length c0):=(aj B.out 1).trans rfl)|(go_at_call 135;refine(R.out _ (Kd.aq l.out U.out)).mono ?_;rintro e w2 ⟨rfl,hb⟩;have V:=zA (a7 U.out hb);have D:=zA (aM B.out hb);clear hb;have z0:w2.cell? ⟨w.heap.size,0,none⟩=some (.int .i64 n):=(aj D.out 0).trans rfl;have z1:w2.cell? ⟨w.heap.size,1,none⟩=some (.slice A0 E.length c0):=(aj D.out 1).trans rfl)|(go_at_call 136;refine(H3.out _ (Kd.aq l.out V.out)).mono ?_;rintro e w3 ⟨v,idx,rfl,hp,av,o,hb⟩;have X:=zA (a7 V.out hb);have X3:=zA (aM D.out hb);have p:=x_ (f:=cS bq) hp b.out;have F:=Gu hp b.out an.out;generalize (idx.map fun i=>(C.map (cS bq)).getD i.1 [])=L2 at o p F;have hlen:=p.length_eq;rw[List.length_map,b.out] at hlen;have aL:=zA (show L2.length<=16384 by have:=ap.out;have:=b.out;omega);obtain⟨gs,cs,rfl⟩:=Gt o (by omega);have HN:=zA o;have HP:=zA p;have aR:=zA F;clear hb o hp av p F hlen)|(go_at_call 137;(with_reducible refine(H4.out _ _ _ _ _ _ _ (Kd.aq l.out X.out) X3.out aL.out HN.out aR.out).mono ?_);rintro e w4 ⟨rfl,hb⟩;have aS:=zA (a7 X.out hb);clear hb))
 go_ret2;exact⟨_,HP.out,rfl,aS.out⟩
end
def cH:List S83:=[⟨0,1,1⟩,⟨0,2,1⟩,⟨1,2,1⟩]
def jG:List (List Int):=[[0,0,0],[0,0,1],[0,1,0]]
theorem Gw:dO.f 60 3 cH=some 0:=by decide+kernel
theorem Gx:∀u:Nat,u<3->∃e,cF.f 60 3 cH (u:Nat)=some (rd [2,2,2] u,e)
 |0,_=>⟨0,by decide+kernel⟩
 |1,_=>⟨0,by decide+kernel⟩
 |2,_=>⟨0,by decide+kernel⟩
theorem Gy:kY (gU [2,2,2] 3)=((6:Nat):Int):=by decide+kernel
theorem Gz:dZ.f 60 3 cH []=some 0:=by decide+kernel
theorem GA:fG.f 60 3 cH 0=some (jG,0):=by decide+kernel
theorem GB:∀c∈jG,bA.f 60 (cS 0 c) 3=some 0:=by decide+kernel
def so (i j:Fin 3):Int:=(dx.f 60 ((jG.map (cS 0)).getD i.1 []) ((jG.map (cS 0)).getD j.1 [])).getD 0
theorem GC:∀i j:Fin 3,dx.f 60 ((jG.map (cS 0)).getD i.1 []) ((jG.map (cS 0)).getD j.1 [])=some (so i j):=by decide+kernel
theorem GD:Go.Sort.SWO (ltOf so):=⟨by decide+kernel,by decide+kernel,by decide+kernel⟩
theorem sr {d:List Int} (h:gR 3 cH 0 d=true):dX 3 0 cH d:=by
 obtain⟨n,q,hn,a,h1⟩:=po h;obtain rfl:n=3:=by omega
 obtain rfl:q=0:=by omega
 exact h1
theorem GF:cD ((3:Nat):Int) cH=0:=by decide+kernel
theorem GG:T.e7 3 (ai cH) 1:=show T.sN (T.can 3 (ai cH)) 3=2*1-2 from by decide+kernel
theorem GH:Ev (fun k=>fk.f k 3 cH) ((3:Int),cH,(0:Int)):=Ev.at_ (fk.mono _ _) (k:=60) (by kernel_rfl)
theorem GI:Ev (fun k=>fj.f k 3 cH) ((1:Int),(0:Int)):=Ev.at_ (fj.mono _ _) (k:=60) (by decide+kernel)
theorem ya:dX 3 0 cH [0,0,0]:=sr (by decide+kernel)
theorem GJ:dX 3 0 cH [-1,0,1]:=sr (by decide+kernel)
theorem GK:dX 3 0 cH [-1,1,0]:=sr (by decide+kernel)
theorem pN:T.Wt 3 (ai cH):=ya.right.wt
theorem GL {c:Nat->Int} (h:(c 1=0/\c 2=1)\/(c 1=1/\c 2=0)):T.kI 3 (ai cH) 0 c:=fun S hS e=>by
 have t10:ai cH 1 0=1:=by decide+kernel
 have t12:ai cH 1 2=1:=by decide+kernel
 have t20:ai cH 2 0=1:=by decide+kernel
 have t21:ai cH 2 1=1:=by decide+kernel
 cases h1:S 1 with
 |true=>
  cases a:S 2 with
  |true=>
   rcases h with h|h
   ·exact⟨1,by omega,h1,by simp[T.sN,e,h1,a,t10,h.1]⟩
   ·exact⟨2,by omega,a,by simp[T.sN,e,h1,a,t20,h.2]⟩
  |false=>exact⟨1,by omega,h1,by simp[T.sN,e,h1,a,t10,t12];omega⟩
 |false=>
  cases a:S 2 with
  |true=>exact⟨2,by omega,a,by simp[T.sN,e,h1,a,t20,t21];omega⟩
  |false=>
   obtain⟨v,g,b⟩:=hS;match v,g with
   |0,_=>rw[e] at b;cases b
   |1,_=>rw[h1] at b;cases b
   |2,_=>rw[a] at b;cases b
theorem GM:T.cg 3 (ai cH) (fun _=>0) 0:=by
 obtain⟨r,a⟩:=T.iY pN (by decide) (fun _=>(0:Int));have h1:r≠ -1:=fun e=>by
  subst e;exact(T.cg.me (by decide) a).1 rfl (T.bZ.qw fun _ _=>Int.le_refl _)
 have g:=a.1;have b:=a.oQ pN (by decide) (by omega);rw[T.jw] at b;obtain rfl:r=0:=by omega
 exact a
theorem GN:Rk 3 (ai cH) [0,0,0] 0:=rG (fun v a=>by
  match v,a with
  |0,_=>rfl
  |1,_=>rfl
  |2,_=>rfl) GM
theorem yb {d:List Int} (h:(rd d 1=0/\rd d 2=1)\/(rd d 1=1/\rd d 2=0)) (g:rd d 0= -1):Rk 3 (ai cH) d (-1):=by
 obtain⟨r,a⟩:=T.iY pN (by decide) (fun v=>rd d (v:Nat));have hw:¬T.bZ 3 (ai cH) (fun v=>rd d (v:Nat)):=fun hw=>by
  have a:=(T.oP pN (q:=0) (by decide) ⟨fun v b e=>by
   match v,b with
   |0,_=>exact absurd rfl e
   |1,_=>rcases h with h|h<;>(show 0<=rd d 1;omega)
   |2,_=>rcases h with h|h<;>(show 0<=rd d 2;omega),GL h⟩).1 hw
  have:(0:Int)<=rd d 0:=a;omega
 obtain rfl:=(T.cg.me (by decide) a).2 hw;exact a
theorem ss {d:List Int} (h:dX 3 0 cH d) {r:Int} (a:Rk 3 (ai cH) d r):Ev (fun k=>eJ.f k 3 cH d) (r,(0:Int)):=
 r9 (n:=3) h GF GH GI GG a
def kZ (d:List Int):Int:=if d=[0,0,0] then 0 else -1
theorem GO:∃K,60<=K/\∀c∈jG,eJ.f K 3 cH (cS 0 c)=some (kZ (cS 0 c),0):=by
 obtain⟨b,g⟩:=ss ya GN;obtain⟨B1,h1⟩:=ss GJ (yb (.inl ⟨rfl,rfl⟩) rfl);obtain⟨e,h⟩:=ss GK (yb (.inr ⟨rfl,rfl⟩) rfl);refine⟨60+b+B1+e,by omega,fun c a=>?_⟩;rcases List.mem_cons.1 a with rfl|a
 ·rw[show cS 0 [0,0,0]=[0,0,0] by decide+kernel,show kZ [0,0,0]=0 by decide+kernel]
  exact g (60+b+B1+e) (by omega)
 rcases List.mem_cons.1 a with rfl|a
 ·rw[show cS 0 [0,0,1]=[-1,0,1] by decide+kernel,show kZ [-1,0,1]= -1 by decide+kernel]
  exact h1 (60+b+B1+e) (by omega)
 rcases List.mem_cons.1 a with rfl|a
 ·rw[show cS 0 [0,1,0]=[-1,1,0] by decide+kernel,show kZ [-1,1,0]= -1 by decide+kernel]
  exact h (60+b+B1+e) (by omega)
 ·cases a
open Classical in
noncomputable def gy.f (k:Nat) (a:Int) (b:List (S83)) (e:Int):Option (Int×Int):=if a=3/\b=cH/\e=0 then some (0,0) else none
theorem gy.mono:∀a b e k,al (gy.f k a b e) (gy.f (k+1) a b e):=fun _ _ _ _=>al.refl _
theorem GQ (A0:Option Addr) (c0:Nat) (w:World) (b:Kd.C aW w A0 cH.length cH) (g:cH.length<=c0):
  Calls Tryz.prog 82 #[.agg #[.int .i64 3,.slice A0 cH.length c0],.int .i64 0] w fun e w'=>e= .returned (.tuple #[.int .i64 0,.int .i64 0])/\Below w.heap.size w w':=by
 obtain⟨K,a,h⟩:=GO;refine(Gv K 3 2 6 A0 c0 cH 0 [2,2,2] jG kZ so w b g (by decide) (by decide) (by decide) (by decide)
  (lT (dO.mono _ _) a Gw) (fun u hu=>by obtain⟨e,he⟩:=Gx u hu;exact⟨e,lT (cF.mono _ _ _) a he⟩) Gy (by decide) (by decide)
  (lT (dZ.mono _ _ _) a Gz) (lT (fG.mono _ _ _) a GA) (by decide+kernel) rfl (by decide) (fun c k=>lT (bA.mono _ _) a (GB c k)) (fun i j=>lT (dx.mono _ _) a (GC i j)) GD h).mono ?_
 rintro e w' ⟨L,hp,rfl,hb⟩;have h1:jo kZ L=jo kZ (jG.map (cS 0)):=hp.foldl_eq' (fun x _ y _ z=>by omega) _;have l:jo kZ (jG.map (cS 0))=0:=by decide+kernel
 rw[h1,l];exact⟨rfl,hb⟩
theorem gy.calls (k:Nat) (b:Int) (g:Option Addr) (i:Nat) (a:List (S83)) (j:Int) (m:Int) (n:Int) (w:World) (o:Kd.C aW w g a.length a) (p:a.length<=i) (h:gy.f k b a j=some (m,n)):
  Calls Tryz.prog 82 #[.agg #[.int .i64 b,.slice g a.length i],.int .i64 j] w fun e w'=>e= .returned (.tuple #[.int .i64 m,.int .i64 n])/\Below w.heap.size w w':=by
 unfold gy.f at h;by_cases l:b=3/\a=cH/\j=0
 ·rw[if_pos l] at h
  obtain⟨rfl,rfl,rfl⟩:=l;injection h with h
  injection h with h1 q
  subst h1 q;exact GQ g i w o p
 ·rw[if_neg l] at h;cases h
theorem GR:Ev (fun k=>gy.f k 3 cH 0) ((0:Int),(0:Int)):=Ev.at_ (gy.mono _ _ _) (k:=0) (by unfold gy.f;rw[if_pos ⟨rfl,rfl,rfl⟩])
end Go.Proofs.YtffdiakgjakngaaGreat.P


