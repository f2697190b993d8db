/- Bounds answers true whatever the input (text 6 of 7): own walks and plain laws; no conditions. -/
import Derived.Shelf.SlSortCmp.NoneTotal
import Derived.Test.YtffdiakgjakngaaGreatBounds5
namespace Go.Proofs.YtffdiakgjakngaaGreat.P
open Go.RowKit Go.Proofs.YtffdiakgjakngaaGreatW.PrintWords Go.Proofs.YtffdiakgjakngaaGreatW.PrintLast Go.Proofs.YtffdiakgjakngaaGreatW.PrintMore
set_option linter.unusedVariables false
set_option linter.unusedSimpArgs false
set_option maxHeartbeats 8000000
set_option maxRecDepth 100000
mutual
def ct.j0:Nat->Int->Bool->Int->List (S83)->Option ((List (List Int))×Int)
 |0,_,_,_,_=>none
 |k+1,x1,b,e,g=>if b=true then(some (([]:List (List Int)),2)) else((gT.f k e g x1).bind fun a=>(if a.2=0 then(ct.l0 k x1 ([]:List (List Int)) a.1 (a.1.length:Int) 0) else(some (([]:List (List Int)),a.2))))
def ct.l0:Nat->Int->List (List Int)->List (List Int)->Int->Int->Option ((List (List Int))×Int)
 |0,_,_,_,_,_=>none
 |k+1,x1,b,e,g,a=>if a<g then(if 0<=a then(if a<(e.length:Int) then((fM.f (aZ e a)).bind fun h=>(if 0<=x1 then(if x1<(h.length:Int) then(if b.length<5864062014805 then(ct.l0 k x1 (b++[(h.set (x1:Int).toNat (-1))]) e g (wrap64 (a+1))) else(none)) else(none)) else(none))) else(none)) else(none)) else(some (b,0))
end
def ct.f (k:Nat) (a:Int) (e:List (S83)) (b:Int):Option ((List (List Int))×Int):=(d_.f k a e).bind fun g=>(if g=0 then(if b<0 then(ct.j0 k b true a e) else(ct.j0 k b (decide (b>=a)) a e)) else(some (([]:List (List Int)),g)))
theorem ct.cn:∀k,(∀a b e g,aj (ct.j0 k a b e g) (ct.j0 (k+1) a b e g))/\(∀a b e g i,aj (ct.l0 k a b e g i) (ct.l0 (k+1) a b e g i))
 |0=>⟨fun _ _ _ _ r h=>by simp[ct.j0] at h,fun _ _ _ _ _ r h=>by simp[ct.l0] at h⟩
 |k+1=>by
  obtain⟨j,l⟩:=ct.cn k;refine⟨?_,?_⟩
  ·intro a b e g
   unfold ct.j0;with_reducible repeat' first|exact j _ _ _ _|exact l _ _ _ _ _|exact d_.mono _ _ _|exact gT.mono _ _ _ _|exact aj.refl _|exact aj.none _|refine aj.ite ?_ ?_|refine aj.bind ?_ (fun _=>?_)
  ·intro a b e g i
   unfold ct.l0;with_reducible repeat' first|exact j _ _ _ _|exact l _ _ _ _ _|exact d_.mono _ _ _|exact gT.mono _ _ _ _|exact aj.refl _|exact aj.none _|refine aj.ite ?_ ?_|refine aj.bind ?_ (fun _=>?_)
theorem ct.mono:∀a0 a a2 k,aj (ct.f k a0 a a2) (ct.f (k+1) a0 a a2):=by
 intro a0 a a2 k;obtain⟨b,e⟩:=ct.cn k;unfold ct.f;with_reducible repeat' first|exact b _ _ _ _|exact e _ _ _ _ _|exact d_.mono _ _ _|exact gT.mono _ _ _ _|exact aj.refl _|exact aj.none _|refine aj.ite ?_ ?_|refine aj.bind ?_ (fun _=>?_)
theorem ct.calls (k:Nat) (n:Int) (z:Option Addr) (B:Nat) (m:List (S83)) (l:Int) (O:List (List Int)) (P:Int) (w:World) (b5:Kd.C aN w z m.length m) (b6:m.length<=B) (h:ct.f k n m l=some (O,P)):
  Calls Tryz.prog 15 #[.agg #[.int .i64 n,.slice z m.length B],.int .i64 l] w fun e w'=>∃b_:Value,e= .returned (.tuple #[b_,.int .i64 P])/\Kd.N (Kd.slice 3 (Kd.int .i64)) 26 w' w.heap.size (fun a=>(w.heap.size<=a)) b_ O/\Below w.heap.size w w':=by
 have ex:=Tryz.underlying24;have aa:=zA b5;have ab:=zA b6;clear b5 b6;have j:=zA (al w.heap.size w);unfold ct.f at h;have H:=h;clear h;obtain⟨a9,A3,H⟩:=zo H;by_cases c4:a9=0
 ·rw[if_pos c4] at H
  obtain⟨ca,cb⟩:=br c4;clear c4;have be:=zA H;clear H;go_enter Tryz.func15,Tryz.ntmps15
  go_upto_region 4 with (first|((with_reducible refine aH (N:=2) rfl ?_);refine zX 2 #[.int .i64 n,.slice z m.length B] 24 ?_;intro o hg w6 U hb;have g:=zA (U);have c3:=zG j hg;have c5:=zG j hg;replace j:=zS j hb;clear hb U hg;obtain⟨c6,c7,c8,c'⟩:=au g)|((with_reducible refine aC (f:=55) rfl ?_);refine zL (some 14) Tryz.func55 #[.agg #[.int .i64 n,.slice z m.length B]] ?_;(with_reducible refine(d_.calls k n _ _ m a9 _ ?af ?ah A3.out).mono ?_);(case af=>exact Kd.aq aa.out zB);(case ah=>exact ab.out);rintro e w8 ⟨rfl,hb⟩;refine⟨_,rfl,?_⟩;replace g:=zb g hb;replace j:=zS j hb;(try clear hb)))
  (try simp only[Act.put,List.setIfInBounds_toArray,List.set_cons_zero,List.set_cons_succ])
  go_cut [25] (fun v25 wc=>∃(J:Nat) (ad:Bool),v25= .bool ad/\Aside0 (ct.j0 J l ad n m=some (O,P))/\Aside0 (J<=k)/\Aside0 (wc.heap[o]? =some (.cells #[.int .i64 n,(.slice z m.length B)] 24 (0,0)))/\Aside0 (Below w.heap.size w wc))
  case first=>
   have H:=be.out;clear be;by_cases Q:l<0
   ·rw[if_pos Q] at H
    have W:=ay Q;clear Q
    (first|rw[W]|(simp only[aW,aX];rw[W])|skip)
    have G:=zA H;clear H;go_wp2;go_meet
    case rel=>exact⟨_,(true),zT,G,⟨by first|omega|exact aI _⟩,⟨zK g⟩,⟨zB⟩⟩
   ·rw[if_neg Q] at H
    have W:=a6 Q;clear Q
    (first|rw[W]|(simp only[aW,aX];rw[W])|skip)
    have G:=zA H;clear H;obtain⟨e1,e2,e3,e4⟩:=au g;go_wp2;go_meet
    case rel=>exact⟨_,(decide (l>=n)),zT,G,⟨by first|omega|exact aI _⟩,⟨zK g⟩,⟨zB⟩⟩
  case rest=>
   clear be;clear ca cb c6 c7 c8 c';obtain⟨J,ad,rfl,K,cc,g,j⟩:=hcut;cases J with
   |zero=>exact absurd K.out (by simp[ct.j0])
   |succ ag=>
    have H:=K.out;clear K;simp only[ct.j0] at H;by_cases ak:ad=true
    ·subst ak
     replace H:=zi H;simp only[Option.some.injEq,Prod.mk.injEq] at H;obtain⟨rfl,rfl⟩:=H;go_wp2;go_ret2;exact⟨_,zE,by first|exact Kd.fQ _ _ _ _ _|exact Kd.gA _ _ _ _ _|exact Kd.V_nil _ _ _ _ _|exact Kd.Q_nil _ _ _ _ _|exact Kd.dc _ _ _ _ _,zB⟩
    ·replace ak:=Bool.eq_false_iff.mpr ak
     subst ak;replace H:=zj H;obtain⟨⟨i,bf⟩,cd,H⟩:=zo H;dsimp only at H;by_cases X:bf=0
     ·rw[if_pos X] at H
      obtain⟨ce,cf⟩:=br X;clear X;have G:=zA H;clear H;obtain⟨dd,dk,dl,ds⟩:=au g;go_wp2_with (first|((with_reducible refine aC (f:=56) rfl ?_);refine zL (some 29) Tryz.func56 #[.agg #[.int .i64 n,.slice z m.length B],.int .i64 l] ?_;(with_reducible refine(gT.calls ag n _ _ m l i bf _ ?af ?ah cd.out).mono ?_);(case af=>exact Kd.aq aa.out zB);(case ah=>exact ab.out);rintro e e5 ⟨dv,rfl,y,hb⟩;refine⟨_,rfl,?_⟩;have bg:=zA (Kd.mh (Kd.eE (ok':=fun a=>(w.heap.size<=a)/\a≠o) y (fun a Y=>⟨(Nat.le_trans (bs zB) Y),(Kd.ll (zK g) a Y)⟩)) (bs zB));replace g:=zb g hb;replace j:=zS j hb;(try clear hb);(try clear y);obtain⟨ch,F,d0⟩:=Kd.mj bg.out;subst d0))
      go_loopg [9,37] ag (fun J v9 v37 w'=>∃(I:List (List Int)) (q:Int),v37= .int .i64 q/\Aside0 (ct.l0 J l I i (i.length:Int) q=some (O,P))/\Aside0 (J<=ag)/\Aside0 (Kd.N (Kd.slice 3 (Kd.int .i64)) 26 w' w.heap.size (fun a=>(w.heap.size<=a)/\some a≠((.slice ch i.length F):Value).ownBlock/\a≠o) v9 I)/\Aside0 (Kd.N (Kd.slice 3 (Kd.int .i64)) 26 w' w.heap.size (fun a=>(w.heap.size<=a)/\some a≠(v9:Value).ownBlock/\a≠o) (.slice ch i.length F) i)/\Aside0 (w'.heap[o]? =some (.cells #[.int .i64 n,(.slice z m.length B)] 24 (0,0)))/\Aside0 (Below w.heap.size w w'))
      case atStart=>exact⟨(([]:List (List Int))),(0),zT,G,⟨aI _⟩,⟨by first|exact Kd.fQ _ _ _ _ _|exact Kd.gA _ _ _ _ _|exact Kd.V_nil _ _ _ _ _|exact Kd.Q_nil _ _ _ _ _|exact Kd.dc _ _ _ _ _⟩,⟨by(with_reducible repeat(first|apply Kd.eL|apply Kd.fS|apply Kd.fR));exact Kd.eE bg.out (fun _ hk=>⟨hk.1,⟨(by simp[Value.ownBlock]),hk.2⟩⟩)⟩,⟨zK g⟩,⟨zB⟩⟩
      case round=>
       clear G;clear ce cf dd dk dl ds;obtain⟨I,q,rfl,K,ci,D,s,g,j⟩:=hrel;cases gk with
       |zero=>exact absurd K.out (by simp[ct.l0])
       |succ k2=>
        have H:=K.out;clear K;simp only[ct.l0] at H;by_cases S:q<(i.length:Int)
        ·rw[if_pos S] at H
         have d1:=ay S;clear S;by_cases am:0<=q
         ·rw[if_pos am] at H
          have e6:=ay am;clear am;by_cases an:q<(i.length:Int)
          ·rw[if_pos an] at H
           have e':=ay an;clear an;obtain⟨r,d2,H⟩:=zo H;by_cases ap:0<=l
           ·rw[if_pos ap] at H
            have fb:=ay ap;clear ap;by_cases ar:l<(r.length:Int)
            ·rw[if_pos ar] at H
             have fd:=ay ar;clear ar;obtain⟨av,bk⟩:∃y_:List Int,y_=(r.set (l:Int).toNat (-1)):=⟨_,rfl⟩;replace H:(if I.length<5864062014805 then(ct.l0 k2 l (I++[av]) i (i.length:Int) (wrap64 (q+1))) else(none))=some (O,P):=zh bk H;have d3:=zA bk;clear bk;by_cases a0:I.length<5864062014805
             ·rw[if_pos a0] at H
              have d4:=zA a0;clear a0;obtain⟨cj,bo⟩:∃y_:List (List Int),y_=(I++[av]):=⟨_,rfl⟩;replace H:(ct.l0 k2 l cj i (i.length:Int) (wrap64 (q+1)))=some (O,P):=zh bo H;have d5:=zA bo;clear bo;have G:=zA H;clear H;have a2:0<=(q:Int):=ax ‹_›;have a3:q<(i.length:Int):=ax ‹_›;obtain⟨L,d6,d7,d8,d9,ck,cl⟩:=fT (Kd.iV s.out).2.2 q a2 a3;cases d8;obtain⟨fn,ea,eb,co⟩:=Kd.nL s.out [] q a2 (by first|exact a3|exact ax ‹_› |(have e_:=(Kd.iV s.out).1;omega));obtain⟨fq,fr,rfl,bv,bw⟩:=Kd.kx eb;have a4:=co 0 _ rfl;rw[Nat.add_zero,show ((Kd.slice 3 (Kd.int .i64))).sz=1 from rfl,Nat.mul_one] at a4;replace a4:=aE (a4.symm.trans d9);injection a4 with cq ed cr
              rw[cq] at bw;rw[cr] at bv;have T:=zA (show Kd.V (Kd.int .i64) 3 _ w.heap.size _ _ (aZ i q) from Kd.pB bv bw);clear cq ed cr bw bv;clear co ea;have Z:=zA cl;have eg:=zA ck;clear cl ck;replace a2:=eq_true a2;replace a3:=eq_true a3;go_wp2_with (first|((with_reducible refine aC (f:=57) rfl ?_);refine zL (some 42) Tryz.func57 #[.slice d6 (aZ i q).length d7] ?_;(with_reducible refine(fM.calls _ _ (aZ i q) r _ ?af ?ah d2.out).mono ?_);(case af=>repeat(first|exact(by repeat(first|(with_reducible exact Z.out)|(with_reducible refine Kd.bE ?_ _)|(with_reducible refine Kd.fK ?_ _)|(with_reducible refine Kd.fk ?_)|exact Z.out))|(with_reducible refine Kd.bE ?_ _)|(with_reducible refine Kd.fK ?_ _)|(with_reducible refine Kd.fk ?_)));(case ah=>exact eg.out);rintro e cs ⟨ft,rfl,y,hb⟩;refine⟨_,rfl,?_⟩;replace D:=gC D y hb;replace s:=gC s y hb;replace T:=zA (Kd.nN (by(with_reducible repeat(first|apply Kd.V_alloc|apply Kd.ly|apply Kd.V_drew));exact T.out) (Kd.dz y) hb);have u:=zA (Kd.bc (Kd.zd (M:=fun a=>(w.heap.size<=a)) y (bs zB) (fun a h_=>h_)) (bs zB));replace g:=zb g hb;replace Z:=zA (Kd.aq (by repeat(first|(with_reducible exact Z.out)|(with_reducible refine Kd.bE ?_ _)|(with_reducible refine Kd.fK ?_ _)|(with_reducible refine Kd.fk ?_)|exact Z.out)) hb);replace j:=zS j hb;(try clear hb);(try clear y);have bx:0<=(l:Int):=ax ‹_›;have b0:(l:Int)<((r.length:Int):Int):=ax ‹_›;obtain⟨x,E,cv,cx,el,fv,c0⟩:=Kd.fC u.out (by omega);(first|cases cv|(injection cv with a5 em er;(first|subst a5|(injection a5 with a5;subst a5));subst er;clear em));have es:=zA cx;have f0:=zA c0;clear cx el c0;obtain⟨f1,f2⟩:=Kd.bW 0 u.out (l:Int) bx b0;replace bx:=eq_true bx;replace b0:=eq_true b0;have n_:=zA (Kd.ba (ok':=(fun a=>(w.heap.size<=a))) u.out (fun a hk=>hk.1));clear u;have u:=n_;clear n_;obtain⟨f3,f4⟩:=Kd.bW 0 u.out (l:Int) (ax ‹_›) (ax ‹_›);have b1:=Kd.dh u.out (l:Int) (-1))|((with_reducible refine jO (t:=3) (p:=45) rfl ?_);refine jN (t:=3) (p:=45) (v:=?F8) (w1:=(cs.setCell ⟨x,(l:Int).toNat,none⟩ (.int .i64 (-1)))) ?hg ?ho ?hn ?hr ?_;(case ho=>rfl);(case hg=>rfl);(case hn=>rfl);(case hr=>first|(go_simp;done)|(go_simp;rfl));intro b2 hw;have hg:cs.grownBy b2 (some x):=(by rw[hw];exact b1.2);have c2:Kd.R (Kd.int .i64) 3 b2 w.heap.size (fun a=>(w.heap.size<=a)) (.slice (some ⟨x,0,none⟩) r.length E) av:=(by rw[hw,d3.out];exact b1.1);clear b1;replace D:=zA (Kd.pC (v:=(.slice (some ⟨x,0,none⟩) r.length E)) (v1:=(.slice (some ⟨x,0,none⟩) r.length E)) (ok:=(fun a=>(w.heap.size<=a)/\some a≠(.slice (some L) i.length F:Value).ownBlock/\a≠o)) (zN D) hg (.inl rfl));replace s:=zA (Kd.pC (v:=(.slice (some ⟨x,0,none⟩) r.length E)) (v1:=(.slice (some ⟨x,0,none⟩) r.length E)) (ok:=(fun a=>(w.heap.size<=a)/\some a≠(u9:Value).ownBlock/\a≠o)) (zN s) hg (.inl rfl));replace g:=zA (cS (zK g) hg (Kd.dr u.out g.out (by decide)));replace T:=zA (Kd.sw (v:=(.slice (some ⟨x,0,none⟩) r.length E)) (v1:=(.slice (some ⟨x,0,none⟩) r.length E)) (ok:=(fun a=>(w.heap.size<=a)/\some a≠(u9:Value).ownBlock/\some a≠(.slice (some L) i.length F:Value).ownBlock/\a≠o)) (by(with_reducible repeat(first|apply Kd.V_alloc|apply Kd.ly|apply Kd.V_drew));exact Kd.su T.out (fun _ hk=>⟨⟨hk.1.1.1,⟨hk.1.1.2.1,⟨hk.1.2,hk.1.1.2.2⟩⟩⟩,hk.2⟩)) hg (.inl rfl));replace u:=zA (c2);replace j:=zA ((by rw[hw];exact et (j.out) es.out:Below w.heap.size w b2));clear hg hw c2)|((with_reducible refine pA (b:=.append) (xs:=#[.tmp 46,.tmp 48]) rfl ?_);at_builtin;refine Kd.yX (Kd.slice 3 (Kd.int .i64)) (w0:=w) w.heap.size rfl (.tmp 46) (.tmp 48) 33 26 (.slice none 0 0) 24 rfl Tryz.underlying33 pI rfl (by decide) (by omega) u9 I av [.slice (some ⟨x,0,none⟩) r.length E] (fun a=>(w.heap.size<=a)/\some a≠(.slice (some L) i.length F:Value).ownBlock/\a≠o) (fun a=>((fun a=>(w.heap.size<=a)/\some a≠(.slice (some L) i.length F:Value).ownBlock/\a≠o)) a/\some a≠(u9:Value).ownBlock) rfl rfl ?aP (fun _ hk=>hk) ?aF ?aO ?aB ?aS ?aL ?_;(case aP=>have ev:=(Kd.aG u.out).1;have b3:=zA u.out;rw[ev] at b3⊢;exact(Kd.za (Kd.aG (Kd.ba (ok':=(fun a=>((fun a=>(w.heap.size<=a)/\some a≠(.slice (some L) i.length F:Value).ownBlock/\a≠o)) a/\some a≠(u9:Value).ownBlock)) (Kd.gX (Kd.nC (Kd.nC (b3.out) (Kd.nK s.out) (by decide)) (Kd.nK D.out) (by decide)) g.out (by decide)) (fun a hk=>⟨⟨hk.1.1.1,⟨hk.1.1.2,hk.2⟩⟩,hk.1.2⟩))).2.1 (Kd.yI (Kd.ba (ok':=(fun a=>((fun a=>(w.heap.size<=a)/\some a≠(.slice (some L) i.length F:Value).ownBlock/\a≠o)) a/\some a≠(u9:Value).ownBlock)) (Kd.gX (Kd.nC (Kd.nC (b3.out) (Kd.nK s.out) (by decide)) (Kd.nK D.out) (by decide)) g.out (by decide)) (fun a hk=>⟨⟨hk.1.1.1,⟨hk.1.1.2,hk.2⟩⟩,hk.1.2⟩)))));(case aB=>exact zB);(case aF=>exact(fun a hk=>⟨(Nat.le_trans (bs zB) hk),Kd.ki (Kd.sn (zN s)) a hk,Kd.ll (zK g) a hk⟩));(case aO=>exact(by(with_reducible repeat(first|apply Kd.eL|apply Kd.fS|apply Kd.fR));exact Kd.eE D.out (fun _ hk=>⟨hk.1.1,⟨hk.1.2.1,hk.1.2.2⟩⟩)));(case aS=>exact(bs zB));(case aL=>have:=d4.out;omega);intro f5 f6 ho hb hg b4;rw[<-d5.out] at ho;replace s:=zA (Kd.pC (ok:=(fun a=>(w.heap.size<=a)/\some a≠(.slice (some ⟨x,0,none⟩) r.length E:Value).ownBlock/\a≠o)) (by(with_reducible repeat(first|apply Kd.eL|apply Kd.fS|apply Kd.fR));exact Kd.eE s.out (fun _ hk=>⟨⟨hk.1.1,⟨hk.2,hk.1.2.2⟩⟩,hk.1.2.1⟩)) hg b4);replace g:=zA (cS (zK g) hg (Kd.yN D.out g.out (by decide)));replace T:=zA (Kd.sw (ok:=(fun a=>(w.heap.size<=a)/\some a≠(.slice (some L) i.length F:Value).ownBlock/\some a≠(.slice (some ⟨x,0,none⟩) r.length E:Value).ownBlock/\a≠o)) (by(with_reducible repeat(first|apply Kd.V_alloc|apply Kd.ly|apply Kd.V_drew));exact Kd.su T.out (fun _ hk=>⟨⟨hk.1.1,⟨hk.1.2.2.1,⟨hk.2,hk.1.2.2.2⟩⟩⟩,hk.1.2.1⟩)) hg b4);replace j:=zA (hb);have ew:=zA (ho);clear D u;clear ho hb hg b4))
              go_roundg k2
              case measure=>have:=cc.out;have:=ci.out;omega
              case rel=>exact⟨(cj),(wrap64 (q+1)),zT,G,⟨by have:=cc.out;have:=ci.out;omega⟩,⟨zN ew⟩,⟨by(with_reducible repeat(first|apply Kd.eL|apply Kd.fS|apply Kd.fR));exact Kd.eE s.out (fun _ hk=>⟨hk.1.1,⟨hk.2,hk.1.2.2⟩⟩)⟩,⟨zK g⟩,⟨zB⟩⟩
             ·rw[if_neg a0] at H
              exact absurd H (by simp)
            ·rw[if_neg ar] at H
             exact absurd H (by simp)
           ·rw[if_neg ap] at H
            exact absurd H (by simp)
          ·rw[if_neg an] at H
           exact absurd H (by simp)
         ·rw[if_neg am] at H
          exact absurd H (by simp)
        ·rw[if_neg S] at H
         have d1:=a6 S;clear S;simp only[Option.some.injEq,Prod.mk.injEq] at H;obtain⟨rfl,rfl⟩:=H;go_wp2;go_ret2;exact⟨_,zE,by(with_reducible repeat(first|apply Kd.eL|apply Kd.fS|apply Kd.fR));exact Kd.eE D.out (fun _ hk=>hk.1),zB⟩
     ·rw[if_neg X] at H
      obtain⟨ce,cf⟩:=bG X;simp only[Option.some.injEq,Prod.mk.injEq] at H;obtain⟨rfl,rfl⟩:=H;obtain⟨f7,f8,f9,f'⟩:=au g;go_wp2_with (first|((with_reducible refine aC (f:=56) rfl ?_);refine zL (some 29) Tryz.func56 #[.agg #[.int .i64 n,.slice z m.length B],.int .i64 l] ?_;(with_reducible refine(gT.calls ag n _ _ m l i bf _ ?af ?ah cd.out).mono ?_);(case af=>exact Kd.aq aa.out zB);(case ah=>exact ab.out);rintro e gb ⟨dv,rfl,y,hb⟩;refine⟨_,rfl,?_⟩;have bg:=zA (Kd.mh (Kd.eE (ok':=fun a=>(w.heap.size<=a)/\a≠o) y (fun a Y=>⟨(Nat.le_trans (bs zB) Y),(Kd.ll (zK g) a Y)⟩)) (bs zB));replace g:=zb g hb;replace j:=zS j hb;(try clear hb);(try clear y)))
      go_ret2;exact⟨_,zE,by first|exact Kd.fQ _ _ _ _ _|exact Kd.gA _ _ _ _ _|exact Kd.V_nil _ _ _ _ _|exact Kd.Q_nil _ _ _ _ _|exact Kd.dc _ _ _ _ _,zB⟩
 ·rw[if_neg c4] at H
  obtain⟨ca,cb⟩:=bG c4;simp only[Option.some.injEq,Prod.mk.injEq] at H;obtain⟨rfl,rfl⟩:=H;go_enter Tryz.func15,Tryz.ntmps15
  go_wp2_with (first|((with_reducible refine aH (N:=2) rfl ?_);refine zX 2 #[.int .i64 n,.slice z m.length B] 24 ?_;intro o hg gc U hb;have g:=zA (U);have c3:=zG j hg;have c5:=zG j hg;replace j:=zS j hb;clear hb U hg;obtain⟨gd,ge,gf,gg⟩:=au g)|((with_reducible refine aC (f:=55) rfl ?_);refine zL (some 14) Tryz.func55 #[.agg #[.int .i64 n,.slice z m.length B]] ?_;(with_reducible refine(d_.calls k n _ _ m a9 _ ?af ?ah A3.out).mono ?_);(case af=>exact Kd.aq aa.out zB);(case ah=>exact ab.out);rintro e gi ⟨rfl,hb⟩;refine⟨_,rfl,?_⟩;replace g:=zb g hb;replace j:=zS j hb;(try clear hb)))
  go_ret2;exact⟨_,zE,by first|exact Kd.fQ _ _ _ _ _|exact Kd.gA _ _ _ _ _|exact Kd.V_nil _ _ _ _ _|exact Kd.Q_nil _ _ _ _ _|exact Kd.dc _ _ _ _ _,zB⟩
theorem EJ {n:Nat} {E:List S83} (a:E.length<=1000) (b:cJ n E=0) (hp:partsOf E n=1):Ev (fun k=>d_.f k n E) 0:=by
 unfold d_.f;refine Ev.bind (qS a b hp) ?_;simp only[if_true];exact Ev.const _
theorem Curve.fY {n:Nat} {E:List S83} {d:List Int} (h:Curve n E d) (hn:1<=n) {c:List Int} (b:c.length=n) (hb:∀v:Nat,v<n-> -200<=rd c v/\rd c v<=200):dP n 0 E c:=by
 have a:=h.small 0 (by omega);have e:=a.n5;have g:=a.len;have i:=h.val;exact⟨hn,by omega,by omega,by omega,a.right,a.conn,by omega,b,hb⟩
def nk (v:Int) (x:S83):Int:=if x.f0≠x.f1/\(x.f0=v\/x.f1=v) then x.f2 else 0
theorem wA {v:Int} {x:S83} (e:x.f0=x.f1):nk v x=0:=if_neg (fun h=>h.1 e)
theorem wB {v:Int} {x:S83} (e:¬x.f0=x.f1) (h:x.f0=v\/x.f1=v):nk v x=x.f2:=if_pos ⟨e,h⟩
theorem EK {v:Int} {x:S83} (a:¬x.f0=v) (h1:¬x.f1=v):nk v x=0:=if_neg (fun h=>h.2.elim a h1)
def jH (v:Nat):List S83->Int
 |[]=>0
 |x::E=>nk v x+jH v E
theorem qY {n:Nat} {u:Nat} (hu:u<n):∀(E:List S83) (f:Nat->Nat->Int),(∀x∈E,bX n x=true/\x.f0<=x.f1/\(x.f0≠x.f1->f x.f0.toNat x.f1.toNat=0/\f x.f1.toNat x.f0.toNat=0))->E.Pairwise g_->T.val n (E.foldl cQ f) u=T.val n f u+jH u E
 |[],f,_,_=>by simp[jH]
 |x::E,f,h,hp=>by
  obtain⟨l,g⟩:=List.pairwise_cons.1 hp;obtain⟨h1,s,b⟩:=h x (List.mem_cons_self ..);simp[bX] at h1;by_cases e:x.f0=x.f1
  ·rw[List.foldl_cons,show cQ f x=f from if_pos e,jH,wA e,Int.zero_add]
   exact qY hu E f (fun y a=>h y (List.mem_cons_of_mem _ a)) g
  ·obtain⟨b,m⟩:=b e
   have o:=val_step_eq (n:=n) (f:=f) (x:=x) (by omega) (by omega) e b m hu;have p:=qY hu E (cQ f x) (fun y a=>by
    obtain⟨i,q,j⟩:=h y (List.mem_cons_of_mem _ a);have hb:=l y a;unfold g_ at hb;have r:=i;simp[bX] at r;refine⟨i,q,fun k=>?_⟩;unfold cQ;rw[if_neg e];refine⟨?_,?_⟩
    ·show (if _ then _ else _)=_
     rw[if_neg (by omega),if_neg (by omega)];exact(j k).1
    ·show (if _ then _ else _)=_
     rw[if_neg (by omega),if_neg (by omega)];exact(j k).2) g
   rw[List.foldl_cons,p,o,jH];unfold nk T.one;by_cases c0:u=x.f0.toNat
   ·rw[if_neg (show ¬u=x.f1.toNat by omega),if_pos c0,if_pos ⟨e,.inl (by omega)⟩];omega
   ·by_cases c1:u=x.f1.toNat
    ·rw[if_pos c1,if_neg c0,if_pos ⟨e,.inr (by omega)⟩];omega
    ·rw[if_neg c1,if_neg c0,if_neg (fun h=>by rcases h.2 with h|h<;>omega)];omega
theorem EL {n:Nat} {E:List S83} (a:bt n E) {v:Nat} (e:v<n):T.val n (timesOf E) v=jH v E:=by
 have h:=qY e E (fun _ _=>0) (fun x b=>⟨a.ok x b,a.le x b,fun _=>⟨rfl,rfl⟩⟩) a.order;have g:T.val n (fun _ _=>0) v=0:=T.iY n;rw[g,Int.zero_add] at h;exact h
theorem wC {E:List S83} {i:Nat} (h:i<E.length):ae E i∈E:=by
 have e:ae E i=E[i]:=by simp[ae,bb,bP h]
 rw[e];exact List.getElem_mem h
theorem wD {n:Nat} {E:List S83} (h:bt n E) (l:E.length<=1000) (v:Nat):∀(m i:Nat) (s:Int),i+m=E.length->0<=s->s<=50*i->Ev (fun k=>cz.l0 k v s E E.length i) (s+jH v (E.drop i),(0:Int))
 |0,i,s,hi,o,h1=>by
  refine Ev.of_succ ?_;simp only[cz.l0,if_neg (show ¬(i:Int)<E.length by omega),List.drop_of_length_le (show E.length<=i by omega),jH,Int.add_zero];exact Ev.const _
 |m+1,i,s,hi,o,h1=>by
  have b:=fun s=>wD h l v m (i+1) s (by omega)
  have j:=h.ok _ (wC (E:=E) (i:=i) (by omega));simp[bX] at j;refine Ev.of_succ ?_;simp only[cz.l0,if_pos (show (i:Int)<E.length by omega),if_pos (show (0:Int)<=i by omega),eh (show i<=1000000 by omega)];rw[lB (show i<E.length by omega),jH];generalize ae E i=x at j⊢;have hw:wrap64 (s+x.f2)=s+x.f2:=iz (by omega);by_cases e:x.f0=x.f1
  ·have:=b s (by omega) (by omega)
   rw[wA e,Int.zero_add];simp only[if_pos e];exact this
  ·by_cases a:x.f0=v
   ·have:=b (s+x.f2) (by omega) (by omega)
    rw[wB e (.inl a),<-Int.add_assoc];simp only[if_neg e,if_pos a,hw];exact this
   ·by_cases g:x.f1=v
    ·have:=b (s+x.f2) (by omega) (by omega)
     rw[wB e (.inr g),<-Int.add_assoc];simp only[if_neg e,if_neg a,if_pos g,hw];exact this
    ·have:=b s (by omega) (by omega)
     rw[EK a g,Int.zero_add];simp only[if_neg e,if_neg a,if_neg g];exact this
theorem EM {n:Nat} {E:List S83} (b:bt n E) (e:E.length<=1000) (g:cJ n E=0) {v:Nat} (h:v<n):Ev (fun k=>cz.f k n E v) (T.val n (timesOf E) v,(0:Int)):=by
 unfold cz.f;refine Ev.bind (a:=(0:Int)) ?_ ?_
 ·unfold dg.f
  have h1:=nT n E e;rw[g] at h1;refine Ev.bind h1 ?_;simp only[if_true];refine Ev.of_succ ?_;simp only[dg.l0,List.length_cons,List.length_nil,Nat.zero_add,Int.natCast_one,Int.ofNat_one,if_pos (show (0:Int)<1 by decide),if_pos (show (0:Int)<=0 by decide),show rd [(v:Int)] 0=v from rfl,sJ,Option.bind_some,ay (show (0:Int)<=v/\(v:Int)<n by omega),if_true];refine Ev.of_succ ?_;rw[show wrap64 (0+1)=1 from iz (x:=1) (by decide)];simp only[dg.l0,if_neg (show ¬(1:Int)<1 by decide)];exact Ev.const _
 ·simp only[if_true]
  have:=wD b e v E.length 0 0 (by omega) (by omega) (by omega);rw[List.drop_zero,Int.zero_add,<-EL b h] at this;exact this
theorem wE {n:Nat} {E:List S83} (a:bt n E) (b:E.length<=1000) (e:cJ n E=0):∀v,v<=n->Ev (fun k=>kS k n E v) ((List.range v).map fun u=>T.val n (timesOf E) u)
 |0,_=>Ev.const _
 |v+1,h=>by
  have g:=wE a b e v (by omega);have hg:=EM a b e (v:=v) (by omega);simp only[kS];refine Ev.bind g ?_;refine Ev.bind hg ?_;rw[List.range_succ,List.map_append];exact Ev.const _
def cA (n:Nat) (E:List S83):List Int:=(List.range n).map fun u=>T.can n (timesOf E) u
theorem nm {n:Nat} {E:List S83} {v:Nat} (a:v<n):rd (cA n E) (v:Int)=T.can n (timesOf E) v:=by
 simp[cA,rd,bb,a]
theorem EN {n:Nat} {E:List S83} (hn:1<=n) (i:n<=12) (e:E.length<=1000) (b:cJ n E=0) (hp:partsOf E n=1) (g:∀v:Nat,v<n->0<=T.val n (timesOf E) v/\T.val n (timesOf E) v<=1000):Ev (fun k=>dT.f k n E) (cA n E,(0:Int)):=by
 unfold dT.f;refine Ev.bind (EJ e b hp) ?_;simp only[if_true];refine Ev.bind (a:=cA n E) ?_ (Ev.const _);unfold iR.f;simp only[if_pos (show (1:Int)<=n/\(n:Int)<=1000 by omega),aQ];refine Ev.bind (wE (gK b).2.2 e b n (aI _)) ?_;rw[show jF ((List.range n).map fun u=>T.val n (timesOf E) u) n n=cA n E from by
  unfold jF cA;refine List.map_congr_left fun u hu=>?_
  have hu:=List.mem_range.1 hu;have h:=g u hu;rw[if_pos hu,show rd ((List.range n).map fun u=>T.val n (timesOf E) u) (u:Int)=T.val n (timesOf E) u by simp[rd,bb,hu]];unfold T.can;exact iz (by omega)]
 exact Ev.const _
def kb.f (k:Nat) (a:Int) (b:List (S83)) (l1:List Int):Option (Bool):=(gU.f k a b).bind fun e=>(if e=0 then((cG.f k l1 a).bind fun g=>(if g=0 then((eS.f k a b l1 5).bind fun h=>(some h)) else(some false))) else(some false))
theorem kb.calls (k:Nat) (i:Int) (j:Option Addr) (l:Nat) (b:List (S83)) (y:Option Addr) (c1:Nat) (l1:List Int) (r:Bool) (w:World) (z:Kd.C aN w j b.length b) (B:b.length<=l) (D:Kd.C (Kd.int .i64) w y l1.length l1) (E:l1.length<=c1) (h:kb.f k i b l1=some r):
  Calls Tryz.prog 29 #[.agg #[.int .i64 i,.slice j b.length l],.slice y l1.length c1] w fun e w'=>e= .returned (.bool r)/\Below w.heap.size w w':=by
 have S:=Tryz.underlying24;have o:=zA z;have p:=zA B;clear z B;have s:=zA D;have u:=zA E;clear D E;have a:=zA (al w.heap.size w);unfold kb.f at h;have H:=h;clear h;obtain⟨q,v,H⟩:=zo H;by_cases c4:q=0
 ·rw[if_pos c4] at H
  obtain⟨K,L⟩:=br c4;clear c4;obtain⟨x,F,H⟩:=zo H;by_cases n:x=0
  ·rw[if_pos n] at H
   obtain⟨M,O⟩:=br n;clear n;obtain⟨P,Q,H⟩:=zo H;obtain rfl:=aE H;go_enter Tryz.func29,Tryz.ntmps29
   go_wp2_with (first|((with_reducible refine aH (N:=2) rfl ?_);refine zX 2 #[.int .i64 i,.slice j b.length l] 24 ?_;intro G hg T m hb;have g:=zA (m);have I:=zG a hg;have J:=zG a hg;replace a:=zS a hb;clear hb m hg;obtain⟨U,V,W,X⟩:=au g)|((with_reducible refine aC (f:=48) rfl ?_);refine zL (some 6) Tryz.func48 #[.agg #[.int .i64 i,.slice j b.length l]] ?_;(with_reducible refine(gU.calls k i _ _ b q _ ?af ?ah v.out).mono ?_);(case af=>exact Kd.aq o.out zB);(case ah=>exact p.out);rintro e Y ⟨rfl,hb⟩;refine⟨_,rfl,?_⟩;replace g:=zb g hb;replace a:=zS a hb;(try clear hb);obtain⟨Z,aa,ab,ad⟩:=au g)|(go_at_call 42;(with_reducible refine(cG.calls k _ _ l1 i x _ ?af ?ah F.out).mono ?_);(case af=>exact Kd.aq s.out zB);(case ah=>exact u.out);rintro e w' ⟨rfl,⟨R,rfl⟩⟩)|(go_at_call 25;(with_reducible refine(eS.calls k i _ _ b _ _ l1 5 P _ ?af ?ah ?aT ?aU Q.out).mono ?_);(case af=>exact Kd.aq o.out zB);(case ah=>exact p.out);(case aT=>exact Kd.aq s.out zB);(case aU=>exact u.out);rintro e ag ⟨rfl,hb⟩;replace g:=zb g hb;replace a:=zS a hb;(try clear hb)))
   go_ret;exact⟨zE,zB⟩
  ·rw[if_neg n] at H
   obtain⟨M,O⟩:=bG n;obtain rfl:=aE H;go_enter Tryz.func29,Tryz.ntmps29
   go_wp2_with (first|((with_reducible refine aH (N:=2) rfl ?_);refine zX 2 #[.int .i64 i,.slice j b.length l] 24 ?_;intro G hg ak m hb;have g:=zA (m);have I:=zG a hg;have J:=zG a hg;replace a:=zS a hb;clear hb m hg;obtain⟨am,an,ap,ar⟩:=au g)|((with_reducible refine aC (f:=48) rfl ?_);refine zL (some 6) Tryz.func48 #[.agg #[.int .i64 i,.slice j b.length l]] ?_;(with_reducible refine(gU.calls k i _ _ b q _ ?af ?ah v.out).mono ?_);(case af=>exact Kd.aq o.out zB);(case ah=>exact p.out);rintro e av ⟨rfl,hb⟩;refine⟨_,rfl,?_⟩;replace g:=zb g hb;replace a:=zS a hb;(try clear hb);obtain⟨aB,aF,aL,aO⟩:=au g)|(go_at_call 42;(with_reducible refine(cG.calls k _ _ l1 i x _ ?af ?ah F.out).mono ?_);(case af=>exact Kd.aq s.out zB);(case ah=>exact u.out);rintro e w' ⟨rfl,⟨R,rfl⟩⟩))
   go_ret;exact⟨zE,zB⟩
 ·rw[if_neg c4] at H
  obtain⟨K,L⟩:=bG c4;obtain rfl:=aE H;go_enter Tryz.func29,Tryz.ntmps29
  go_wp2_with (first|((with_reducible refine aH (N:=2) rfl ?_);refine zX 2 #[.int .i64 i,.slice j b.length l] 24 ?_;intro G hg aP m hb;have g:=zA (m);have I:=zG a hg;have J:=zG a hg;replace a:=zS a hb;clear hb m hg;obtain⟨aS,a0,a1,a2⟩:=au g)|((with_reducible refine aC (f:=48) rfl ?_);refine zL (some 6) Tryz.func48 #[.agg #[.int .i64 i,.slice j b.length l]] ?_;(with_reducible refine(gU.calls k i _ _ b q _ ?af ?ah v.out).mono ?_);(case af=>exact Kd.aq o.out zB);(case ah=>exact p.out);rintro e a3 ⟨rfl,hb⟩;refine⟨_,rfl,?_⟩;replace g:=zb g hb;replace a:=zS a hb;(try clear hb)))
  go_ret;exact⟨zE,zB⟩
section
theorem EO {n:Nat} (h1:1<=n) (hn:n<=12) {x d:List Int} (h:x.length=n) (hd:d.length=n) (i:∀v:Nat,v<n-> -2000<=rd x v/\rd x v<=2000) (j:∀v:Nat,v<n-> -2000<=rd d v/\rd d v<=2000):Ev (fun k=>iq.f k x d) (di x d,(0:Int)):=by
 have l:∀c:List Int,c.length=n->(∀v:Nat,v<n-> -4000<=rd c v/\rd c v<=4000)->c.all db=true:=fun c w hb=>by
  refine List.all_eq_true.2 fun y o=>?_
  obtain⟨v,g,rfl⟩:=List.getElem_of_mem o;have p:=hb v (by omega);have e:rd c (v:Int)=c[v]:=by simp[rd,bb,bP g]
  rw[e] at p;unfold db;exact ay (by omega)
 have q:fO x x.length=0:=by rw[h];exact nj h1 hn h (fun v g=>by have:=i v g;omega)
 have e2:fO d d.length=0:=by rw[hd];exact nj h1 hn hd (fun v g=>by have:=j v g;omega)
 have m:=DX x d (by omega) (by omega);have r:oQ x d=0:=by unfold oQ;rw[if_pos q,if_pos e2,if_pos (by omega)]
 rw[r] at m;unfold iq.f;refine Ev.bind m ?_;have s:ni x d=true:=by
  unfold ni;rw[l x h (fun v g=>by have:=i v g;omega),l d hd (fun v g=>by have:=j v g;omega),ay ⟨by omega,by omega,by omega⟩];rfl
 have u:(di x d).all db=true:=l _ (by unfold di;rw[oT];exact h) (fun v g=>by
  rw[oU (by omega)];have a:=i v g;have b:=j v g;omega)
 simp only[if_true,if_pos s,if_pos u];exact Ev.const _
theorem wF (c:List Int) (b:c.length<=12) (hb:∀v:Nat,v<c.length-> -2000<=rd c v/\rd c v<=2000):∀(m i:Nat),i+m=c.length->Ev (fun k=>cU.l0 k c (T.sN (fun v=>rd c (v:Nat)) i) i) (T.sN (fun v=>rd c (v:Nat)) c.length)
 |0,i,hi=>by
  obtain rfl:i=c.length:=by omega
  refine Ev.of_succ ?_;simp only[cU.l0,if_neg (show ¬((c.length:Int)<(c.length:Int)) by omega)];exact Ev.const _
 |m+1,i,hi=>by
  have a:=wF c b hb m (i+1) (by omega);have e:∀j,j<=c.length-> -(2000*j:Int)<=T.sN (fun v=>rd c (v:Nat)) j/\T.sN (fun v=>rd c (v:Nat)) j<=2000*j:=fun j=>by
   induction j with
   |zero=>intro _;simp[T.sN]
   |succ j g=>
    intro l;have h1:=g (by omega);have h:=hb j (by omega);rw[T.ei];omega
  have h1:=e i (by omega);have h:=hb i (by omega);refine Ev.of_succ ?_;simp only[cU.l0,if_pos (show (i:Int)<(c.length:Int) by omega),if_pos (show (0:Int)<=(i:Int) by omega),eh (show i<=1000000 by omega),iz (show -1000000000<=T.sN (fun v=>rd c (v:Nat)) i+rd c i/\T.sN (fun v=>rd c (v:Nat)) i+rd c i<=1000000000 by omega)];rw[T.ei] at a;exact a
theorem wG (c:List Int) (a:c.length<=12) (hb:∀v:Nat,v<c.length-> -2000<=rd c v/\rd c v<=2000):Ev (fun k=>cU.f k c) (T.sN (fun v=>rd c (v:Nat)) c.length):=by
 unfold cU.f;exact wF c a hb c.length 0 (by omega)
theorem Curve.wH {n:Nat} {E:List S83} {d:List Int} (h:Curve n E d) (hn:1<=n) {c:List Int} (v:Nat) (a:v<n):rd (di (cA n E) c) (v:Int)=T.can n (timesOf E) v-rd c v:=by
 rw[oU (by simpa [cA] using a),nm a]
theorem Curve.EP {n:Nat} {E:List S83} {d:List Int} (h:Curve n E d) (hn:1<=n) {c:List Int}:(di (cA n E) c).length=n:=by unfold di;rw[oT];simp[cA]
namespace Curve
variable {n:Nat} {E:List S83} {d:List Int} (h:Curve n E d) (hn:1<=n)
include h hn
theorem facts:n<=5/\E.length<=40/\bt n E/\fw n E/\partsOf E n=1:=by
 have a:=h.small 0 (by omega);exact⟨a.n5,a.len,a.right,a.conn,(kE hn a.right).2 a.conn⟩
theorem wI:∀v:Nat,v<n->0<=T.val n (timesOf E) v/\T.val n (timesOf E) v<=14:=fun v a=>by
 have e:=(h.facts hn).2.2.1.wt;have b:∀u,u<n->0<=T.val n (timesOf E) u:=fun u hu=>T.dm fun w _=>e.pos _ _
 have h1:=T.gI a b;have g:=h.val;exact⟨b v a,by omega⟩
theorem nn:∀v:Nat,v<n-> -2<=rd (cA n E) v/\rd (cA n E) v<=12:=fun v a=>by
 have h1:=h.wI hn v a;rw[nm a];unfold T.can;omega
theorem wJ:Ev (fun k=>dT.f k n E) (cA n E,(0:Int)):=by
 obtain⟨f1,f2,f3,f4,f5⟩:=h.facts hn;exact EN hn (by omega) (by omega) h.check f5 (fun v a=>by have:=h.wI hn v a;omega)
theorem ER {c:List Int} (b:c.length=n) (hb:∀v:Nat,v<n-> -1000<=rd c v/\rd c v<=1000):Ev (fun k=>dJ.f k n E c) (di (cA n E) c,(0:Int)):=by
 obtain⟨f1,f2,f3,f4,f5⟩:=h.facts hn;unfold dJ.f;refine Ev.bind (h.wJ hn) ?_;simp only[if_true];have hk:=kJ c n (by omega);rw[nj hn (by omega) b (fun v a=>by have:=hb v a;omega)] at hk;refine Ev.bind hk ?_;simp only[if_true];refine Ev.bind (EO hn (by omega) (x:=cA n E) (d:=c) (by simp[cA]) b (fun v a=>by have:=h.nn hn v a;omega) (fun v a=>by have:=hb v a;omega)) ?_;exact Ev.const _
theorem wK:∃g:Nat,Ev (fun k=>eT.f k n (cN E)) ((g:Int),(0:Int))/\T.IsGenus n (timesOf E) g:=by
 obtain⟨f1,f2,f3,f4,f5⟩:=h.facts hn;exact DR hn (by omega) f2 h.check f4
theorem loop:Ev (fun k=>eU.f k n E) ((n:Int),cN E,(0:Int)):=by
 obtain⟨f1,f2,f3,f4,f5⟩:=h.facts hn;exact DM (by omega) h.check
theorem wL {c:List Int} (a:c.length=n) (hb:∀v:Nat,v<n-> -200<=rd c v/\rd c v<=200) {r:Int} (b:Rk n (timesOf E) c r):Ev (fun k=>dy.f k n E c) (r,(0:Int)):=by
 obtain⟨g,hg,hi⟩:=h.wK hn;exact qX (h.fY hn a hb) h.check (h.loop hn) hg hi b
end Curve
theorem ES (N:Int) (E:List S83) (a:E.length<=9223372036854775807) (d:List Int):∃b,Ev (fun k=>kb.f k N E d) b/\(b=true->∃n:Nat,N=n/\1<=n/\Curve n E d):=by
 unfold kb.f;exact DF N E a d 5
end
def dK.l0:Nat->Int->Int->Int->List (S83)->Option (Int)
 |0,_,_,_,_=>none
 |k+1,x3,x4,b,a=>if x4<(a.length:Int) then(if 0<=x4 then(if((ae a x4).f0)=((ae a x4).f1) then(dK.l0 k x3 (wrap64 (x4+1)) b a) else(dK.l0 k (wrap64 (x3+((ae a x4).f2))) (wrap64 (x4+1)) b a)) else(none)) else(some x3)
def dK.f (k:Nat) (a:Int) (b:List (S83)):Option (Int):=dK.l0 k (wrap64 (1-a)) 0 a b
theorem dK.calls (k:Nat) (j:Int) (z:Option Addr) (B:Nat) (g:List (S83)) (r:Int) (w:World) (aa:Kd.C aN w z g.length g) (ab:g.length<=B) (h:dK.f k j g=some r):
  Calls Tryz.prog 43 #[.agg #[.int .i64 j,.slice z g.length B]] w fun e w'=>e= .returned (.int .i64 r)/\Below w.heap.size w w':=by
 have aF:=Tryz.underlying24;have E:=zA aa;have aL:=zA ab;clear aa ab;have a:=zA (al w.heap.size w);have H:(dK.l0 k (wrap64 (1-j)) 0 j g)=some r:=h;clear h;have D:=zA H;clear H;go_enter Tryz.func43,Tryz.ntmps43
 go_wp2_with (first|((with_reducible refine aH (N:=1) rfl ?_);refine zX 1 #[.int .i64 j,.slice z g.length B] 24 ?_;intro L hg w2 l hb;have i:=zA (l);have ad:=zG a hg;have ag:=zG a hg;replace a:=zS a hb;clear hb l hg;obtain⟨M,O,P,Q⟩:=au i))
 repeat(go_quiet (first|((with_reducible refine aH (N:=1) rfl ?_);refine zX 1 #[.int .i64 j,.slice z g.length B] 24 ?_;intro L hg w2 l hb;have i:=zA (l);have ad:=zG a hg;have ag:=zG a hg;replace a:=zS a hb;clear hb l hg;obtain⟨M,O,P,Q⟩:=au i));try go_wp2_with (first|((with_reducible refine aH (N:=1) rfl ?_);refine zX 1 #[.int .i64 j,.slice z g.length B] 24 ?_;intro L hg w2 l hb;have i:=zA (l);have ad:=zG a hg;have ag:=zG a hg;replace a:=zS a hb;clear hb l hg;obtain⟨M,O,P,Q⟩:=au i)))
 go_loopg [3,4] k (fun kq v3 v4 w'=>∃(F:Int) (b:Int),v3= .int .i64 F/\v4= .int .i64 b/\Aside0 (dK.l0 kq F b j g=some r)/\Aside0 (kq<=k)/\Aside0 (w'.heap[L]? =some (.cells #[.int .i64 j,(.slice z g.length B)] 24 (0,0)))/\Aside0 (Below w.heap.size w w'))
 case atStart=>exact⟨(wrap64 (1-j)),(0),zT,zT,D,⟨aI _⟩,⟨zK i⟩,⟨zB⟩⟩
 case round=>
  clear D;clear M O P Q;obtain⟨F,b,rfl,rfl,R,I,i,a⟩:=hrel;cases gk with
  |zero=>exact absurd R.out (by simp[dK.l0])
  |succ k1=>
   have H:=R.out;clear R;simp only[dK.l0] at H;by_cases c4:b<(g.length:Int)
   ·rw[if_pos c4] at H
    have an:=ay c4;clear c4;by_cases J:0<=b
    ·rw[if_pos J] at H
     have aO:=ay J;clear J;by_cases G:((ae g b).f0)=((ae g b).f1)
     ·rw[if_pos G] at H
      obtain⟨ap,ar⟩:=br G;clear G;have D:=zA H;clear H;obtain⟨aP,aS,a0,a1⟩:=au i;have m:0<=(b:Int):=ax ‹_›;have n:b<(g.length:Int):=ax ‹_›;obtain⟨K,S,o,p,q⟩:=dB E.out b m n;cases S;replace o:=(a.out.cell (a8 w _ o)).trans o;replace p:=(a.out.cell (a8 w _ p)).trans p;replace q:=(a.out.cell (a8 w _ q)).trans q;replace m:=eq_true m;replace n:=eq_true n;have s:0<=(b:Int):=ax ‹_›;have u:b<(g.length:Int):=ax ‹_›;obtain⟨T,U,v,x,y⟩:=dB E.out b s u;obtain rfl:K=T:=(by injection U);replace v:=(a.out.cell (a8 w _ v)).trans v;replace x:=(a.out.cell (a8 w _ x)).trans x;replace y:=(a.out.cell (a8 w _ y)).trans y;replace s:=eq_true s;replace u:=eq_true u;go_wp2;repeat(go_quiet (fail);try go_wp2)
      go_roundg k1
      case measure=>have:=I.out;omega
      case rel=>exact⟨(F),(wrap64 (b+1)),zT,zT,D,⟨by have:=I.out;omega⟩,⟨zK i⟩,⟨zB⟩⟩
     ·rw[if_neg G] at H
      obtain⟨ap,ar⟩:=bG G;have D:=zA H;clear H;obtain⟨a2,a3,a4,a5⟩:=au i;have m:0<=(b:Int):=ax ‹_›;have n:b<(g.length:Int):=ax ‹_›;obtain⟨K,S,o,p,q⟩:=dB E.out b m n;cases S;replace o:=(a.out.cell (a8 w _ o)).trans o;replace p:=(a.out.cell (a8 w _ p)).trans p;replace q:=(a.out.cell (a8 w _ q)).trans q;replace m:=eq_true m;replace n:=eq_true n;have s:0<=(b:Int):=ax ‹_›;have u:b<(g.length:Int):=ax ‹_›;obtain⟨T,U,v,x,y⟩:=dB E.out b s u;obtain rfl:K=T:=(by injection U);replace v:=(a.out.cell (a8 w _ v)).trans v;replace x:=(a.out.cell (a8 w _ x)).trans x;replace y:=(a.out.cell (a8 w _ y)).trans y;replace s:=eq_true s;replace u:=eq_true u;have V:0<=(b:Int):=ax ‹_›;have W:b<(g.length:Int):=ax ‹_›;obtain⟨av,aB,X,Y,Z⟩:=dB E.out b V W;obtain rfl:K=av:=(by injection aB);replace X:=(a.out.cell (a8 w _ X)).trans X;replace Y:=(a.out.cell (a8 w _ Y)).trans Y;replace Z:=(a.out.cell (a8 w _ Z)).trans Z;replace V:=eq_true V;replace W:=eq_true W;go_wp2;repeat(go_quiet (fail);try go_wp2)
      go_roundg k1
      case measure=>have:=I.out;omega
      case rel=>exact⟨(wrap64 (F+((ae g b).f2))),(wrap64 (b+1)),zT,zT,D,⟨by have:=I.out;omega⟩,⟨zK i⟩,⟨zB⟩⟩
    ·rw[if_neg J] at H
     exact absurd H (by simp)
   ·rw[if_neg c4] at H
    have an:=a6 c4;clear c4;obtain rfl:=aE H;obtain⟨a9,be,bf,bg⟩:=au i;go_wp2;repeat(go_quiet (fail);try go_wp2)
    go_ret;exact⟨zE,zB⟩
theorem wM:∀(n:Nat) (F:Nat->Int) (a:Int),T.lF n F->0<=a->a<=T.sN F n->∃G:Nat->Int,T.lF n G/\(∀v,v<n->G v<=F v)/\T.sN G n=a
 |0,F,a,hF,h,h1=>⟨fun _=>0,fun v b=>by omega,fun v b=>by omega,by simp only[T.sN] at h1⊢;omega⟩
 |n+1,F,a,hF,h,h1=>by
  rw[T.ei] at h1;have hn:=hF n (by omega);have i:=T.dm (f:=F) (n:=n) fun u hu=>hF u (by omega)
  obtain⟨G,g1,g2,g3⟩:=wM n F (a-min (F n) a) (fun v b=>hF v (by omega)) (by omega) (by omega);refine⟨fun v=>if v=n then min (F n) a else G v,fun v b=>?_,fun v b=>?_,?_⟩
  ·show 0<=if v=n then min (F n) a else G v
   split
   ·omega
   ·exact g1 v (by omega)
  ·show (if v=n then min (F n) a else G v)<=F v
   split
   ·rename_i e;rw[e];omega
   ·exact g2 v (by omega)
  ·rw[T.ei,if_pos rfl,T.bI (g:=G) (fun v b=>if_neg (by omega)),g3]
   omega
theorem ET {n:Nat} {t:Nat->Nat->Int} {D D':Nat->Int} {a b:Int} (g:0<=a) (hb:0<=b) (h:T.eu n t D a) (i:T.eu n t D' b):T.eu n t (fun v=>D v+D' v) (a+b):=fun F hF k=>by
 obtain⟨G,g1,g2,g3⟩:=wM n F a hF g (by omega);have h1:=h G g1 g3;have j:=i (fun v=>F v-G v) (fun v e=>by have:=g2 v e;show 0<=F v-G v;omega) (by rw[T.da];omega);exact(h1.add j).mono fun v e=>by show D v-G v+(D' v- (F v-G v))<=D v+D' v-F v;omega
theorem EU {n:Nat} {t:Nat->Nat->Int} (b:T.Wt n t) (hn:0<n):T.bM n t (fun _=>0) 0:=by
 obtain⟨r,a⟩:=T.gJ b hn (fun _=>(0:Int));have h1:r≠ -1:=fun e=>by
  subst e;exact(T.bM.jY hn a).1 rfl (T.b9.nU fun _ _=>Int.le_refl _)
 have h:=a.1;have g:=a.mF b hn (by omega);rw[T.iY] at g;obtain rfl:r=0:=by omega
 exact a
theorem wN {n:Nat} {t:Nat->Nat->Int} (a:T.Wt n t) (e:T.dn n t) (hn:0<n) {g:Int} (hg:T.IsGenus n t g):T.bM n t (T.can n t) (g-1):=by
 obtain⟨r,b⟩:=T.gJ a hn (T.can n t);have i:T.bM n t (fun v=>T.can n t v-T.can n t v) 0:=mT (fun v _=>by omega) (EU a hn);have h:=T.nW a e hn hg b i;have j:T.sN (T.can n t) n=2*g-2:=hg;rw[j] at h;obtain rfl:r=g-1:=by omega
 exact b
theorem EV {n:Nat} {t:Nat->Nat->Int} (h:T.Wt n t) (i:T.dn n t) (hn:0<n) {g:Int} (hg:T.IsGenus n t g) {D:Nat->Int} {r:Int} (j:T.bM n t D r) (k:0<=r) (l:T.b9 n t (fun v=>T.can n t v-D v)):2*r<=T.sN D n:=by
 obtain⟨a,b⟩:=T.gJ h hn (fun v=>T.can n t v-D v);have h1:a≠ -1:=fun e=>(T.bM.jY hn b).1 e l
 have s:=b.1;have m:=(j.lG hn k).2 (Int.le_refl r);have hb:=(b.lG hn (show 0<=a by omega)).2 (Int.le_refl a);have o:=ET k (show 0<=a by omega) m hb;have hk:=wN h i hn hg;have p:T.eu n t (T.can n t) (r+a):=fun F hF q=>(o F hF q).mono fun v u=>by show D v+(T.can n t v-D v)-F v<=_;omega
 have hle:=(hk.lG hn (show 0<=r+a by omega)).1 p;have w:=T.nW h i hn hg j b;omega
def kc:List S83->Int
 |[]=>0
 |x::E=>(if x.f0=x.f1 then 0 else x.f2)+kc E
theorem qZ:∀E:List S83,kc E=fA (cN E)
 |[]=>rfl
 |x::E=>by
  by_cases e:x.f0=x.f1
  ·rw[show cN (x::E)=cN E from List.filter_cons_of_neg (by simp[e]),kc,if_pos e,qZ E];omega
  ·rw[show cN (x::E)=x::cN E from List.filter_cons_of_pos (by simp[e]),kc,fA,if_neg e,qZ E]
theorem wO {n:Nat} {E:List S83} (hn:n<=12) (a:bt n E) (h:E.length<=1000):∀(m i:Nat) (s:Int),i+m=E.length-> -12<=s->s<=50*i+1->Ev (fun k=>dK.l0 k s i n E) (s+kc (E.drop i))
 |0,i,s,hi,j,h1=>by
  refine Ev.of_succ ?_;simp only[dK.l0,if_neg (show ¬(i:Int)<E.length by omega),List.drop_of_length_le (show E.length<=i by omega),kc,Int.add_zero];exact Ev.const _
 |m+1,i,s,hi,j,h1=>by
  have b:=fun s=>wO hn a h m (i+1) s (by omega)
  have g:=a.ok _ (wC (E:=E) (i:=i) (by omega));simp[bX] at g;refine Ev.of_succ ?_;simp only[dK.l0,if_pos (show (i:Int)<E.length by omega),if_pos (show (0:Int)<=i by omega),eh (show i<=1000000 by omega)];rw[lB (show i<E.length by omega),kc];generalize ae E i=x at g⊢;by_cases e:x.f0=x.f1
  ·have:=b s (by omega) (by omega)
   rw[if_pos e,Int.zero_add];simp only[if_pos e];exact this
  ·have:=b (s+x.f2) (by omega) (by omega)
   rw[if_neg e,<-Int.add_assoc];simp only[if_neg e,iz (show -1000000000<=s+x.f2/\s+x.f2<=1000000000 by omega)];exact this
theorem EW {n:Nat} {E:List S83} (hn:1<=n) (b:n<=12) (i:E.length<=1000) (j:cJ n E=0) {g:Int} (hg:T.IsGenus n (timesOf E) g):Ev (fun k=>dK.f k n E) g:=by
 have a:=(gK j).2.2;unfold dK.f;have h:=wO b a i E.length 0 (1-n) (by omega) (by omega) (by omega);rw[List.drop_zero] at h;simp only[iz (show -1000000000<=(1:Int)-n/\(1:Int)-n<=1000000000 by omega)];have h1:=vJ a.cN (fun x l=>(m_.1 l).2);rw[vz] at h1;have m:T.sN (T.can n (timesOf E)) n=2*g-2:=hg;rw[show T.can n (timesOf E)=fun v=>T.val n (timesOf E) v-2 from rfl,T.da,T.gH,h1] at m;have o:=oP a.cN (cN E).length (aI _);rw[List.take_length,<-qZ] at o;have e:g=1-n+kc E:=by omega
 rw[e];exact h
def kU.f (k:Nat) (b:Int) (e:List (S83)) (l1:List Int):Option (Bool×Int):=(dJ.f k b e l1).bind fun a=>(if a.2=0 then((je.f k b e a.1).bind fun g=>(some (g.1,g.2.2.2))) else(some (false,a.2)))
theorem kU.calls (k:Nat) (g:Int) (m:Option Addr) (n:Nat) (b:List (S83)) (p:Option Addr) (c1:Nat) (l1:List Int) (x:Bool) (y:Int) (w:World) (z:Kd.C aN w m b.length b) (B:b.length<=n) (D:Kd.C (Kd.int .i64) w p l1.length l1) (E:l1.length<=c1) (h:kU.f k g b l1=some (x,y)):
  Calls Tryz.prog 39 #[.agg #[.int .i64 g,.slice m b.length n],.slice p l1.length c1] w fun e w'=>e= .returned (.tuple #[.bool x,.int .i64 y])/\Below w.heap.size w w':=by
 have Z:=Tryz.underlying24;have r:=zA z;have s:=zA B;clear z B;have F:=zA D;have G:=zA E;clear D E;have a:=zA (al w.heap.size w);unfold kU.f at h;have H:=h;clear h;obtain⟨⟨q,u⟩,I,H⟩:=zo H;dsimp only at H;by_cases c4:u=0
 ·rw[if_pos c4] at H
  obtain⟨J,K⟩:=br c4;clear c4;obtain⟨⟨L,M,O,P⟩,Q,H⟩:=zo H;dsimp only at H;simp only[Option.some.injEq,Prod.mk.injEq] at H;obtain⟨rfl,rfl⟩:=H;go_enter Tryz.func39,Tryz.ntmps39
  go_wp2_with (first|((with_reducible refine aH (N:=2) rfl ?_);refine zX 2 #[.int .i64 g,.slice m b.length n] 24 ?_;intro R hg w6 o hb;have i:=zA (o);have S:=zG a hg;have T:=zG a hg;replace a:=zS a hb;clear hb o hg;obtain⟨ab,ad,ag,ak⟩:=au i)|((with_reducible refine aC (f:=32) rfl ?_);refine zL (some 14) Tryz.func32 #[.agg #[.int .i64 g,.slice m b.length n],.slice p l1.length c1] ?_;(with_reducible refine(dJ.calls k g _ _ b _ _ l1 q u _ ?af ?ah ?aT ?aU I.out).mono ?_);(case af=>exact Kd.aq r.out zB);(case ah=>exact s.out);(case aT=>exact Kd.aq F.out zB);(case aU=>exact G.out);rintro e w8 ⟨U,rfl,j,hb⟩;refine⟨_,rfl,?_⟩;have l:=zA (Kd.bc j (bs zB));replace i:=zb i hb;replace a:=zS a hb;(try clear hb);(try clear j);obtain⟨an,ap,ar,av⟩:=au i;obtain⟨V,W,X⟩:=Kd.bm l.out;subst X)|((with_reducible refine aC (f:=14) rfl ?_);refine zL (some 23) Tryz.func14 #[.agg #[.int .i64 g,.slice m b.length n],.slice V q.length W] ?_;(with_reducible refine(je.calls k g _ _ b _ _ q L M O P _ ?af ?ah ?aT ?aU Q.out).mono ?_);(case af=>exact Kd.aq r.out zB);(case ah=>exact s.out);(case aT=>exact zC (Kd.aG l.out).2.2);(case aU=>exact(Kd.aG l.out).2.1);rintro e gV ⟨aB,aF,rfl,j,v,hb⟩;refine⟨_,rfl,?_⟩;have aL:=zA (Kd.bc (Kd.bJ j (Kd.a_ (zR l))) (bs zB));have aO:=zA (Kd.bc (Kd.bJ v (Kd.a_ (zR l))) (bs zB));replace l:=zA (Kd.ba (Kd.sr (Kd.sr (Kd.yY (zR l) hb) (Kd.dz j)) (Kd.dz v)) (fun _ Y=>Y.1));replace i:=zb i hb;replace a:=zS a hb;(try clear hb);(try clear j);(try clear v)))
  go_ret2;exact⟨zE,zB⟩
 ·rw[if_neg c4] at H
  obtain⟨J,K⟩:=bG c4;simp only[Option.some.injEq,Prod.mk.injEq] at H;obtain⟨rfl,rfl⟩:=H;go_enter Tryz.func39,Tryz.ntmps39
  go_wp2_with (first|((with_reducible refine aH (N:=2) rfl ?_);refine zX 2 #[.int .i64 g,.slice m b.length n] 24 ?_;intro R hg aP o hb;have i:=zA (o);have S:=zG a hg;have T:=zG a hg;replace a:=zS a hb;clear hb o hg;obtain⟨aS,a0,a1,a2⟩:=au i)|((with_reducible refine aC (f:=32) rfl ?_);refine zL (some 14) Tryz.func32 #[.agg #[.int .i64 g,.slice m b.length n],.slice p l1.length c1] ?_;(with_reducible refine(dJ.calls k g _ _ b _ _ l1 q u _ ?af ?ah ?aT ?aU I.out).mono ?_);(case af=>exact Kd.aq r.out zB);(case ah=>exact s.out);(case aT=>exact Kd.aq F.out zB);(case aU=>exact G.out);rintro e a3 ⟨U,rfl,j,hb⟩;refine⟨_,rfl,?_⟩;have l:=zA (Kd.bc j (bs zB));replace i:=zb i hb;replace a:=zS a hb;(try clear hb);(try clear j)))
  go_ret2;exact⟨zE,zB⟩
section
attribute [local go_sem] Oper.semAt_some
theorem EX (A:Option Addr) (n c:Nat) (bh:Int) (w:World):Calls Tryz.prog 182 #[.slice A n c,.int .i64 bh] w fun e w'=>e= .returned (.func (.func 202) #[] #[.pointer (some ⟨w.heap.size,0,none⟩),.pointer (some ⟨w.heap.size+1,0,none⟩)])/\w'=(w.alloc (.cells #[.slice A n c] 33)).alloc (.cells #[.int .i64 bh] 3):=by
 go_enter Tryz.func182,Tryz.ntmps182
 go_wp2;go_ret;exact⟨rfl,rfl⟩
def jI (bh:Int) (c:List Int):Int:=c.foldl (fun s x=>wrap64 (s-x)) bh
def cO (bh:Int) (c:List Int):List Int:=c.set 0 (jI bh (c.drop 1))
theorem EY (bh:Int) (c:List Int) (x:Int):jI bh (c++[x])=wrap64 (jI bh c-x):=by simp[jI,List.foldl_append]
theorem EZ (bh:Int) {c:List Int} {j:Nat} (h:j<c.length-1):jI bh ((c.drop 1).take (j+1))=wrap64 (jI bh ((c.drop 1).take j)-c.getD (j+1) 0):=by
 rw[List.take_succ_eq_append_getElem (by simpa using h),EY,List.getElem_drop,bb,bP (show j+1<c.length by omega)];simp[Nat.add_comm]
theorem wP {W:World} {e base:Nat} {ok:Nat->Prop} {A:Option Addr} {cap:Nat} {L:List (List Int)} (h:Kd.N (Kd.slice 3 (Kd.int .i64)) e W base ok (.slice A L.length cap) L) (i:Nat) (hi:i<L.length):
  ∃g a cc,A=some ⟨g,0,none⟩/\W.cell? ⟨g,i,none⟩=some (.slice a (L.getD i []).length cc)/\(L.getD i []).length<=cc/\Kd.F (Kd.int .i64) W ok a (L.getD i []).length (L.getD i []):=by
 have hC:=(Kd.iV h).2.2;obtain⟨ad,he,_⟩:=hC.2.2 (by omega);subst he;obtain⟨g,rfl⟩:∃g,ad=⟨g,0,none⟩:=by
  obtain⟨_,rows,_,j,_⟩:=h;exact Kd.lq j
 obtain⟨ce,o,k,l⟩:=Kd.nL h [] (i:Int) (by omega) (by omega);obtain⟨m,n,rfl,ul,ge⟩:=Kd.kx k;have b:=l 0 _ rfl;rw[Nat.add_zero,show ((Kd.slice 3 (Kd.int .i64))).sz=1 from rfl,Nat.mul_one,aQ,add_plain] at b;rw[aQ] at ul ge;exact⟨g,m,n,rfl,b,ul,Kd.nH ge (fun _ hk=>hk.1)⟩
theorem E4 {W:World} {e base:Nat} {ok:Nat->Prop} {v:Value} {xs:List Int} (h:(Kd.int .i64).R e W base ok v xs) (hp:0<xs.length):∃g c,v= .slice (some ⟨g,0,none⟩) xs.length c:=by
 obtain⟨A,c,rfl⟩:=Kd.bm h;obtain⟨ad,he,_⟩:=(Kd.aG h).2.2.2.2 hp;subst he;obtain⟨g,rfl⟩:=Kd.lq h;exact⟨g,c,rfl⟩
theorem E5 {c:List Int} {x:Int} (h:0<c.length):bV 0 (c.set 0 x) 0=x:=by
 cases c with
 |nil=>simp at h
 |cons a c=>rfl
theorem E6 {W:World} {ok:Nat->Prop} {A:Option Addr} {c:List Int} (h:Kd.F (Kd.int .i64) W ok A c.length c) (hp:0<c.length):∃ad,A=some ad:=by
 obtain⟨ad,he,_⟩:=(Kd.jR h).2.2 hp;exact⟨ad,he⟩
theorem E7 {W:World} {ad:Addr} {c:List Int} (h:(Kd.int .i64).C W (some ad) c.length c) {j:Nat} (a:j<c.length-1):W.cell? ⟨ad.block,ad.off+1+j,none⟩=some (.int .i64 (c.getD (j+1) 0)):=by
 have h1:=Kd.zc h ((j+1:Nat):Int) (by omega) (by omega);rw[aQ] at h1;have e:ad.add (j+1)=⟨ad.block,ad.off+1+j,none⟩:=by unfold Addr.add;rw[if_neg (by omega)];simp only[Addr.mk.injEq,and_true,true_and];omega
 rw[e] at h1;simpa [rd] using h1
def E8 (a b e gd:Nat) (X Y:World):Prop:=∀k,(a<=k/\k<b\/k=e\/k=gd)->k<X.heap.size->Y.heap[k]? =X.heap[k]?
theorem E9 (a gd I y n:Nat) (s:Option Addr) (cl base:Nat) (L:List (List Int)) (bh:Int) (W:World) (ca:y<=a) (hg:a<gd) (hn:2<=n) (cb:n<=12) (hL:∀c∈L,c.length=n) (cd:L.length<=16384)
  (hR:Kd.N (Kd.slice 3 (Kd.int .i64)) 26 W base (fun k=>I<=k/\k<y) (.slice s L.length cl) L)
  (K:W.heap[a]? =some (.cells #[.slice s L.length cl] 33 (0,0))) (am:W.heap[gd]? =some (.cells #[.int .i64 bh] 3 (0,0))):
  i_ (σ:=Unit) Fence.wide 9 Tryz.prog 202 #[.pointer (some ⟨a,0,none⟩),.pointer (some ⟨gd,0,none⟩)] (fun x:List Int×Value=>#[x.2]) (fun _ W W1=>W1=W) (fun _ A B=>Below A.heap.size A B) (fun _ x A B=>(∃c,c∈L/\x.1=cO bh c)/\(Kd.int .i64).R 3 B A.heap.size (fun _=>True) x.2 x.1/\Below A.heap.size A B)
   (fun _ X Y=>E8 I y a gd X Y)
   (fun _ xs W'=>xs.map Prod.fst=L.map (cO bh)) (fun _ _ _=>True) (fun pre=>pre.length<L.length) W:=by
 intro lp J Jx an ap ar av;have bi:=zA an;have cf:=zA ap;have hY:=zA av;have HL:=zA hL;have aB:=ar () W rfl;clear an ap ar av hL;refine callsIn_of_wp Tryz.func202 rfl trivial ?_ rfl;simp only[Tryz.ntmps202,List.size_toArray,List.length_cons,List.length_nil,Nat.reduceAdd,Nat.reduceSub,Array.replicate_succ,Array.replicate_zero,List.push_toArray,List.append_toArray,List.nil_append,List.cons_append];have x0:W.cell? ⟨a,0,none⟩=some (.slice s L.length cl):=(ai K 0).trans rfl;have b:=zA K;have o:=zA am;have h:=zA hR;have ch:L.length<=9223372036854775807:=by omega
 clear K am hR;gi_wp2;clear x0;gi_loopg [11] (L.length) (fun M i wr=>∃(v:Nat) (xs:List (List Int×Value)),i= .int .i64 v/\v<=L.length/\Aside0 (J () xs wr)/\Aside0 (xs.map Prod.fst=(L.take v).map (cO bh))/\Aside0 (wr.heap[a]? =some (.cells #[.slice s L.length cl] 33 (0,0)))/\Aside0 (wr.heap[gd]? =some (.cells #[.int .i64 bh] 3 (0,0)))/\Aside0 (Kd.N (Kd.slice 3 (Kd.int .i64)) 26 wr base (fun k=>I<=k/\k<y) (.slice s L.length cl) L)/\Aside0 (M=L.length-v))
 case atStart=>exact⟨0,[],rfl,Nat.zero_le _,⟨aB⟩,⟨rfl⟩,b,o,h,⟨rfl⟩⟩
 case round=>
  clear aB b o h;obtain⟨v,xs,rfl,hv,z,O,b,o,h,HK⟩:=hrel;by_cases l:v<L.length
  ·have cj:(0:Int)<=(v:Int):=by omega
   have ck:(v:Int)<(L.length:Int):=by omega
   obtain⟨g,Ac,cc,rfl,y1,y2,u⟩:=wP h.out v l;have aO:=HL.out (L.getD v []) (by rw[bb,bP l];exact List.getElem_mem l);have aP:=zA (show (L.take (v+1)).map (cO bh)=(L.take v).map (cO bh)++[cO bh (L.getD v [])] by rw[List.take_succ_eq_append_getElem l,List.map_append,bb,bP l];rfl);have aS:=zA (show L.getD v []∈L by rw[bb,bP l];exact List.getElem_mem l);generalize L.getD v []=c at y1 y2 u aO aP aS;subst aO;obtain⟨ad,rfl⟩:=E6 u (by omega);have P:=zA u;have cq:=Kd.yF u;have bw:Aside0 (∀W,(Kd.int .i64).C W (some ad) c.length c->Calls Tryz.prog 57 #[.slice (some ad) c.length cc] W fun e w'=>∃a0:Value,e= .returned (a0)/\Kd.R (Kd.int .i64) 3 w' W.heap.size (fun _=>True) a0 c/\Below W.heap.size W w'):=⟨fun W hC=>fM.calls (some ad) cc c c W hC y2 (by unfold fM.f clone.f;rw[if_pos (by omega)])⟩;clear u;have cr:(0:Int)<(c.length:Int):=by omega
   have cs:(1:Int)<=(c.length:Int):=by omega
   have cv:¬cc=1:=by omega
   gi_wp2_with (refine⟨trivial,?_⟩;gi_at_call 57;refine(callsIn_wide.2 (bw.out _ (Kd.jR P.out))).mono ?_;rintro e w3 ⟨vd,rfl,D,m⟩;obtain⟨g0,c0,rfl⟩:=E4 D (by omega);have Q:=zA D;have S:=zA (bi.out () _ _ _ z.out m);have T:=zA (aJ b.out m);have E:=zA (aJ o.out m);have U:=zA (Kd.gB h.out m);have bx:=zA (Kd.pw P.out m);have a1:=zA m;have z1:w3.cell? ⟨gd,0,none⟩=some (.int .i64 bh):=(ai E.out 0).trans rfl;obtain⟨z2,z3⟩:=Kd.bW 0 D (0:Int) (by omega) (by omega);simp only[Int.toNat_zero] at z2 z3;clear D m y1)
   have a2:=zA (show wr.heap.size<=g0 from Kd.dz Q.out g0 rfl);have c1:=zA (az b.out);have F:=zA (Kd.dh Q.out 0 bh).1;have V:=zA (Below.setCell (p:=⟨g0,0,none⟩) a1.out a2.out (.int .i64 bh));simp only[Int.toNat_zero] at F;clear S T E U bx a1 Q z1 z2 z3;generalize w3.setCell ⟨g0,0,none⟩ (.int .i64 bh)=w4 at F V⊢;obtain⟨q,rfl⟩:∃q:World,q=wr:=⟨_,rfl⟩;gi_loopg [23] (c.length-1) (fun M i wi=>∃j:Nat,i= .int .i64 j/\j<=c.length-1/\Aside0 (Kd.R (Kd.int .i64) 3 wi q.heap.size (fun _=>True) (.slice (some ⟨g0,0,none⟩) c.length c0) (c.set 0 (jI bh ((c.drop 1).take j))))/\Aside0 (Below q.heap.size q wi)/\Aside0 (M=c.length-1-j))
   case atStart=>exact⟨0,rfl,Nat.zero_le _,F,V,⟨rfl⟩⟩
   case round=>
    clear F V;obtain⟨j,rfl,hj,w,r,b2⟩:=hrel;by_cases a3:j<c.length-1
    ·have c4:(0:Int)<=(j:Int):=by omega
     have c5:(j:Int)<((c.length-1:Nat):Int):=by omega
     have z1:=E7 (Kd.jR (Kd.pw P.out r.out)) a3;obtain⟨z2,z3⟩:=Kd.bW 0 w.out (0:Int) (by omega) (by simp;omega);rw[E5 (by omega)] at z2;simp only[Int.toNat_zero] at z2 z3;have Z:=zA (EZ bh a3);have G:=zA (Kd.dh w.out 0 (wrap64 (jI bh ((c.drop 1).take j)-c.getD (j+1) 0))).1;have aa:=zA (Below.setCell (p:=⟨g0,0,none⟩) r.out a2.out (.int .i64 (wrap64 (jI bh ((c.drop 1).take j)-c.getD (j+1) 0))));simp only[Int.toNat_zero,List.set_set] at G;rw[<-Z.out] at G;rw[<-Z.out] at aa;gi_wp2;gi_roundg (c.length-1- (j+1))
     case measure=>rw[b2.out];omega
     case rel=>
      have e:=Z.out;rw[List.drop_one,bb] at e;rw[List.drop_one] at G aa;rw[<-e];exact⟨j+1,by go_num,by omega,by rw[List.drop_one];exact G,aa,⟨rfl⟩⟩
    ·obtain rfl:j=c.length-1:=by omega
     rw[List.take_of_length_le (by simp)] at w;have a4:Aside0 (Kd.R (Kd.int .i64) 3 wr q.heap.size (fun _=>True) (.slice (some ⟨g0,0,none⟩) c.length c0) (cO bh c)):=w;have c6:xs.length=v:=by have:=congrArg List.length O.out;simp at this;omega
     obtain⟨fn,tmps,c7,c8,hy,a5⟩:=hY.out () xs (cO bh c,.slice (some ⟨g0,0,none⟩) c.length c0) _ _ z.out ⟨⟨c,aS.out,rfl⟩,a4.out,r.out⟩ (by omega);have b3:=zA a5;have a9:=zA (aJ b.out r.out);have be:=zA (aJ o.out r.out);have b4:=zA (Kd.gB h.out r.out);have b5:=zA (az be.out);have b6:=zA (az a9.out);simp only at hy;clear a5 z b o h w a4;gi_wp2;refine b3.out.mono ?_;rintro e W3 (⟨rfl,bf,H⟩|⟨rfl,bg⟩)
     ·have S:=zA bf
      have T:=zA ((H a (.inr (.inl rfl)) b6.out).trans a9.out);have E:=zA ((H gd (.inr (.inr rfl)) b5.out).trans be.out);have U:=zA (Kd.mi b4.out (fun k hk b_=>H k (.inl hk) b_));clear bf H hy;gi_wp2;gi_roundg (L.length- (v+1))
      case measure=>rw[HK.out];omega
      case rel=>exact⟨v+1,xs++[(cO bh c,.slice (some ⟨g0,0,none⟩) c.length c0)],by go_num,by omega,S,⟨by rw[aP.out,List.map_append,O.out];rfl⟩,T,E,U,⟨rfl⟩⟩
     ·have b':=zA bg
      clear bg hy;gi_wp2;refine bodyPost_ret (results_none rfl _ _ _) rfl ?_;exact⟨⟨_,rfl⟩,.inr ⟨(),_,trivial,b'.out⟩⟩
  ·obtain rfl:v=L.length:=by omega
   gi_wp2;go_end0;exact⟨⟨_,rfl⟩,.inl ⟨(),xs,by rw[O.out,List.take_length],z.out⟩⟩
end
def dj.l0:Nat->List Int->List Int->List Int->Int->Int->Option (Int)
 |0,_,_,_,_,_=>none
 |k+1,e,x1,b,g,a=>if a<g then(if 0<=a then(if a<(b.length:Int) then(if a>=(x1.length:Int) then(some 1) else(if a<(x1.length:Int) then((gZ.f (rd b a) (rd x1 a)).bind fun h=>(if h=0 then(dj.l0 k e x1 b g (wrap64 (a+1))) else(some h))) else(none))) else(none)) else(none)) else(if(e.length:Int)<(x1.length:Int) then(some (-1)) else(some 0))
def dj.f (k:Nat) (l0:List Int) (l1:List Int):Option (Int):=dj.l0 k l0 l1 l0 (l0.length:Int) 0
theorem dj.cn:∀k,(∀a b e g i,aj (dj.l0 k a b e g i) (dj.l0 (k+1) a b e g i))
 |0=>fun _ _ _ _ _ r h=>by simp[dj.l0] at h
 |k+1=>by
  have j:=dj.cn k
  ·intro a b e g i
   unfold dj.l0;with_reducible repeat' first|exact j _ _ _ _ _|exact aj.refl _|exact aj.none _|refine aj.ite ?_ ?_|refine aj.bind ?_ (fun _=>?_)
theorem dj.mono:∀a0 a k,aj (dj.f k a0 a) (dj.f (k+1) a0 a):=by
 intro a0 a k;have b:=dj.cn k;unfold dj.f;with_reducible repeat' first|exact b _ _ _ _ _|exact aj.refl _|exact aj.none _|refine aj.ite ?_ ?_|refine aj.bind ?_ (fun _=>?_)
theorem dj.calls (k:Nat) (A0:Option Addr) (c0:Nat) (l0:List Int) (z:Option Addr) (c1:Nat) (l1:List Int) (r:Int) (w:World) (B:Kd.C (Kd.int .i64) w A0 l0.length l0) (D:l0.length<=c0) (E:Kd.C (Kd.int .i64) w z l1.length l1) (F:l1.length<=c1) (h:dj.f k l0 l1=some r):
  Calls Tryz.prog 51 #[.slice A0 l0.length c0,.slice z l1.length c1] w fun e w'=>e= .returned (.int .i64 r)/\aA w w':=by
 have u:=zA B;have X:=zA D;clear B D;have G:=zA E;have Y:=zA F;clear E F;have H:(dj.l0 k l0 l1 l0 (l0.length:Int) 0)=some r:=h;clear h;have p:=zA H;clear H;go_enter Tryz.func51,Tryz.ntmps51
 go_wp2;go_loopg [11] k (fun I v11 w'=>∃(a:Int),v11= .int .i64 a/\Aside0 (dj.l0 I l0 l1 l0 (l0.length:Int) a=some r)/\Aside0 (I<=k)/\aA w w')
 case atStart=>exact⟨(0),zT,p,⟨aI _⟩,by repeat(first|exact aA.refl _|apply aA.step)⟩
 case round=>
  clear p;obtain⟨a,rfl,v,J,⟨m1,rfl⟩⟩:=hrel;cases gk with
  |zero=>exact absurd v.out (by simp[dj.l0])
  |succ N=>
   have H:=v.out;clear v;simp only[dj.l0] at H;by_cases c3:a<(l0.length:Int)
   ·rw[if_pos c3] at H
    have O:=ay c3;clear c3;by_cases c4:0<=a
    ·rw[if_pos c4] at H
     have Z:=ay c4;clear c4;by_cases q:a<(l0.length:Int)
     ·rw[if_pos q] at H
      have aa:=ay q;clear q;by_cases m:a>=(l1.length:Int)
      ·rw[if_pos m] at H
       have P:=ay m;clear m;obtain rfl:=aE H;have b:0<=(a:Int):=ax ‹_›;have g:a<(l0.length:Int):=ax ‹_›;obtain⟨K,n,L⟩:=Kd.bT u.out a b g;cases n;replace b:=eq_true b;replace g:=eq_true g;go_wp2;go_ret;exact⟨zT,by repeat(first|exact aA.refl _|apply aA.step)⟩
      ·rw[if_neg m] at H
       have P:=a6 m;clear m;by_cases s:a<(l1.length:Int)
       ·rw[if_pos s] at H
        have ab:=ay s;clear s;obtain⟨x,M,H⟩:=zo H;by_cases o:x=0
        ·rw[if_pos o] at H
         obtain⟨Q,R⟩:=br o;clear o;have p:=zA H;clear H;have b:0<=(a:Int):=ax ‹_›;have g:a<(l0.length:Int):=ax ‹_›;obtain⟨K,n,L⟩:=Kd.bT u.out a b g;cases n;replace b:=eq_true b;replace g:=eq_true g;have j:0<=(a:Int):=ax ‹_›;have l:a<(l1.length:Int):=ax ‹_›;obtain⟨S,y,T⟩:=Kd.bT G.out a j l;cases y;replace j:=eq_true j;replace l:=eq_true l;go_wp2_with (first|((with_reducible refine aC (f:=107) rfl ?_);refine zL (some 26) Tryz.func107 #[.int .i64 (rd l0 a),.int .i64 (rd l1 a)] ?_;(with_reducible refine(gZ.calls (rd l0 a) (rd l1 a) x _ M.out).mono ?_);rintro e w' ⟨rfl,⟨U,rfl⟩⟩;refine⟨_,rfl,?_⟩))
         go_roundg N
         case measure=>have:=J.out;omega
         case rel=>exact⟨(wrap64 (a+1)),zT,p,⟨by have:=J.out;omega⟩,by repeat(first|exact aA.refl _|apply aA.step)⟩
        ·rw[if_neg o] at H
         obtain⟨Q,R⟩:=bG o;obtain rfl:=aE H;have b:0<=(a:Int):=ax ‹_›;have g:a<(l0.length:Int):=ax ‹_›;obtain⟨K,n,L⟩:=Kd.bT u.out a b g;cases n;replace b:=eq_true b;replace g:=eq_true g;have j:0<=(a:Int):=ax ‹_›;have l:a<(l1.length:Int):=ax ‹_›;obtain⟨S,y,T⟩:=Kd.bT G.out a j l;cases y;replace j:=eq_true j;replace l:=eq_true l;go_wp2_with (first|((with_reducible refine aC (f:=107) rfl ?_);refine zL (some 26) Tryz.func107 #[.int .i64 (rd l0 a),.int .i64 (rd l1 a)] ?_;(with_reducible refine(gZ.calls (rd l0 a) (rd l1 a) x _ M.out).mono ?_);rintro e w' ⟨rfl,⟨U,rfl⟩⟩;refine⟨_,rfl,?_⟩))
         go_ret;exact⟨zT,by repeat(first|exact aA.refl _|apply aA.step)⟩
       ·rw[if_neg s] at H
        exact absurd H (by simp)
     ·rw[if_neg q] at H
      exact absurd H (by simp)
    ·rw[if_neg c4] at H
     exact absurd H (by simp)
   ·rw[if_neg c3] at H
    have O:=a6 c3;clear c3;by_cases i:(l0.length:Int)<(l1.length:Int)
    ·rw[if_pos i] at H
     have V:=ay i;have W:decide (l0.length<l1.length)=true:=ay (Int.ofNat_lt.mp i);clear i;obtain rfl:=aE H;go_wp2;go_ret;exact⟨zT,by repeat(first|exact aA.refl _|apply aA.step)⟩
    ·rw[if_neg i] at H
     have V:=a6 i;have W:decide (l0.length<l1.length)=false:=a6 (fun h=>i (Int.ofNat_lt.mpr h));clear i;obtain rfl:=aE H;go_wp2;go_ret;exact⟨zT,by repeat(first|exact aA.refl _|apply aA.step)⟩
end Go.Proofs.YtffdiakgjakngaaGreat.P
namespace Go.Proofs.YtffdiakgjakngaaGreat.P
open Go.RowKit Go.Proofs.YtffdiakgjakngaaGreatW.PrintWords Go.Proofs.YtffdiakgjakngaaGreatW.PrintLast Go.Proofs.YtffdiakgjakngaaGreatW.PrintMore
open Go.Sort Go.Shelf
set_option linter.unusedVariables false
set_option linter.unusedSimpArgs false
set_option maxHeartbeats 8000000
set_option maxRecDepth 100000
section
def E_:Go.Shelf.Ren:=⟨fun|6=>49|15=>106|14=>105|28=>162|29=>163|20=>154|21=>155|22=>156|23=>157|24=>158|25=>159|26=>160|27=>161|46=>188|47=>189|48=>190|49=>191|50=>192|57=>205|n=>n,fun|22=>33|24=>26|25=>79|3=>3|39=>133|0=>0|53=>184|55=>186|4=>4|46=>178|45=>177|50=>173|5=>5|9=>9|66=>209|70=>213|76=>222|77=>55|n=>n,fun|n=>n⟩
theorem Fa:SlLaysF.n6 Tryz.prog E_:={
 mixed:=by kernel_rfl,
 f6:=⟨Tryz.f49.name,by decide,Tryz.func49.trans (congrArg some (by kernel_rfl))⟩,
 f14:=⟨Tryz.f105.name,by decide,Tryz.func105.trans (congrArg some (by kernel_rfl))⟩,
 f15:=Tryz.func106.trans (congrArg some (by kernel_rfl)),
 f20:=⟨Tryz.f154.name,by decide,Tryz.func154.trans (congrArg some (by kernel_rfl))⟩,
 f21:=⟨Tryz.f155.name,by decide,Tryz.func155.trans (congrArg some (by kernel_rfl))⟩,
 f22:=⟨Tryz.f156.name,by decide,Tryz.func156.trans (congrArg some (by kernel_rfl))⟩,
 f23:=⟨Tryz.f157.name,by decide,Tryz.func157.trans (congrArg some (by kernel_rfl))⟩,
 f24:=⟨Tryz.f158.name,by decide,Tryz.func158.trans (congrArg some (by kernel_rfl))⟩,
 f25:=⟨Tryz.f159.name,by decide,Tryz.func159.trans (congrArg some (by kernel_rfl))⟩,
 f26:=⟨Tryz.f160.name,by decide,Tryz.func160.trans (congrArg some (by kernel_rfl))⟩,
 f27:=⟨Tryz.f161.name,by decide,Tryz.func161.trans (congrArg some (by kernel_rfl))⟩,
 f28:=Tryz.func162.trans (congrArg some (by kernel_rfl)),
 f29:=Tryz.func163.trans (congrArg some (by kernel_rfl)),
 f46:=⟨Tryz.f188.name,by decide,Tryz.func188.trans (congrArg some (by kernel_rfl))⟩,
 f47:=Tryz.func189.trans (congrArg some (by kernel_rfl)),
 f48:=Tryz.func190.trans (congrArg some (by kernel_rfl)),
 f49:=⟨Tryz.f191.name,by decide,Tryz.func191.trans (congrArg some (by kernel_rfl))⟩,
 f50:=⟨Tryz.f192.name,by decide,Tryz.func192.trans (congrArg some (by kernel_rfl))⟩,
 f57:=⟨Tryz.f205.name,by decide,Tryz.func205.trans (congrArg some (by kernel_rfl))⟩,
 t0:=Tryz.underlying0,
 a0:=Tryz.isAgg0,
 z0:=Tryz.sizeOf0,
 v0:=Tryz.zeroValue0,
 t3:=Tryz.underlying3,
 a3:=Tryz.isAgg3,
 z3:=Tryz.sizeOf3,
 v3:=Tryz.zeroValue3,
 t4:=Tryz.underlying4,
 a4:=Tryz.isAgg4,
 z4:=Tryz.sizeOf4,
 v4:=Tryz.zeroValue4,
 t5:=Tryz.underlying5,
 a5:=Tryz.isAgg5,
 z5:=Tryz.sizeOf5,
 v5:=Tryz.zeroValue5,
 t9:=Tryz.underlying9,
 a9:=Tryz.isAgg9,
 z9:=Tryz.sizeOf9,
 v9:=Tryz.zeroValue9,
 t22:=Tryz.underlying33,
 a22:=Tryz.isAgg33,
 z22:=Tryz.sizeOf33,
 v22:=Tryz.zeroValue33,
 a24:=Tryz.isAgg26,
 z24:=Tryz.sizeOf26,
 t25:=Tryz.underlying79,
 a25:=Tryz.isAgg79,
 z25:=Tryz.sizeOf79,
 v25:=Tryz.zeroValue79,
 t39:=Tryz.underlying133,
 a39:=Tryz.isAgg133,
 z39:=Tryz.sizeOf133,
 v39:=Tryz.zeroValue133,
 t45:=Tryz.underlying177,
 a45:=Tryz.isAgg177,
 z45:=Tryz.sizeOf177,
 v45:=Tryz.zeroValue177,
 t46:=Tryz.underlying178,
 a46:=Tryz.isAgg178,
 z46:=Tryz.sizeOf178,
 v46:=Tryz.zeroValue178,
 t50:=Tryz.underlying173,
 a50:=Tryz.isAgg173,
 z50:=Tryz.sizeOf173,
 v50:=Tryz.zeroValue173,
 t53:=Tryz.underlying184,
 a53:=Tryz.isAgg184,
 z53:=Tryz.sizeOf184,
 v53:=Tryz.zeroValue184,
 t55:=Tryz.underlying186,
 a55:=Tryz.isAgg186,
 z55:=Tryz.sizeOf186,
 v55:=Tryz.zeroValue186,
 t66:=Tryz.underlying209,
 a66:=Tryz.isAgg209,
 z66:=Tryz.sizeOf209,
 v66:=Tryz.zeroValue209,
 t70:=Tryz.underlying213,
 a70:=Tryz.isAgg213,
 z70:=Tryz.sizeOf213,
 v70:=Tryz.zeroValue213,
 t76:=Tryz.underlying222,
 a76:=Tryz.isAgg222,
 z76:=Tryz.sizeOf222,
 v76:=Tryz.zeroValue222,
 t77:=Tryz.underlying55,
 a77:=Tryz.isAgg55,
 z77:=Tryz.sizeOf55,
 v77:=Tryz.zeroValue55}
def wQ (G:Nat):Prop:=∀(k:Nat) (A B:Option Addr) (c d:Nat) (a lb:List Int) (r:Int) (W:World),(Kd.int .i64).C W A a.length a->a.length<=c->(Kd.int .i64).C W B lb.length lb->lb.length<=d->dj.f k a lb=some r->
  Calls Tryz.prog G #[.slice A a.length c,.slice B lb.length d] W fun e w'=>e= .returned (.int .i64 r)/\aA W w'
theorem Fb:wQ 183:=fun k A B c d b lb r W a g hb i h=>by
 have H:=zA (dj.calls k A c b B d lb r W a g hb i h);clear h a hb;go_enter Tryz.func183,Tryz.ntmps183
 go_wp2_with (go_at_call 51;refine H.out.mono ?_;rintro e w' ⟨rfl,hd⟩;have j:=zA hd;clear hd)
 go_ret;exact⟨rfl,j.out⟩
section
variable {α:Type} [Inhabited α] {enc:α->Value}
theorem Fc {w:World} {g n:Nat} {os:Array Obj} {cur:Array Value} {e:TypeId} {fr:Nat×Nat} (d:Array α) (hb:w.heap[g]? =some (.cells cur e fr)):
  (Go.Sort.grow (putRow enc (Sort.ahead w n) g 0 d) os).heap[g]? =some (.cells (putCells enc 0 d cur) e fr):=by
 have hg:g<w.heap.size:=(Array.getElem?_eq_some_iff.1 hb).1;rw[heap_grow_old _ _ (by simpa using hg)];simp[putRow,mapBlock,Sort.ahead,Array.getElem?_modify,hb,onCells]
theorem wR {w:World} {g n:Nat} {os:Array Obj} (d:Array α):w.grownBy (Go.Sort.grow (putRow enc (Sort.ahead w n) g 0 d) os) (some g):=by
 refine⟨rfl,rfl,rfl,by simp,fun k hk a=>?_⟩;rw[heap_grow_old _ _ (by simpa using hk)];have:g≠k:=fun e=>a (by rw[e])
 simp[putRow,mapBlock,Sort.ahead,Array.getElem?_modify,this]
theorem Fe (cur:Array Value) (a:List α) (h:a.length<=cur.size):(putCells enc 0 a.toArray cur).toList.take a.length=a.map enc:=by
 apply List.ext_getElem?
 intro j;by_cases b:j<a.length
 ·rw[List.getElem?_take_of_lt b,Array.getElem?_toList]
  simp[putCells,b,show j<cur.size by omega]
 ·rw[List.getElem?_take_eq_none (by omega),List.getElem?_eq_none (by simp;omega)]
end
theorem Ff {G:Nat} (HG:wQ G) (eg:∀args w,(callFunc G args).run Tryz.prog w= .ok (.enter G args) w) {k m g cap base:Nat} {ok:Nat->Prop} {L:List (List Int)} (a:Fin (m+1)->Fin (m+1)->Int) {W:World} (R:L.length=m+1) (hm:m<4000000)
  (hR:Kd.N (Kd.slice 3 (Kd.int .i64)) 26 W base ok (.slice (some ⟨g,0,none⟩) L.length cap) L) (am:∀i j:Fin (m+1),dj.f k (L.getD i.1 []) (L.getD j.1 [])=some (a i j)) (hO:SWO (Go.Proofs.ltOf a)):
  Calls Tryz.prog 49 #[.slice (some ⟨g,0,none⟩) L.length cap,.func (.func G) #[] #[]] W fun e w'=>e= .returned (.tuple #[])/\∃idx:List (Fin (m+1)),idx.Perm (List.finRange (m+1))/\idx.Pairwise (fun i j=>Go.Proofs.ltOf a j i=false)/\Kd.N (Kd.slice 3 (Kd.int .i64)) 26 w' base ok (.slice (some ⟨g,0,none⟩) L.length cap) (idx.map fun i=>L.getD i.1 [])/\W.grownBy w' (some g):=by
 obtain⟨S,rows,a9,⟨h1,inner,F,H⟩,hf⟩:=hR;have an:=F;obtain⟨T,F⟩:=an;rcases F with⟨I,_⟩|⟨g2,be,cur,I,ap,z,hn,ar,J,K⟩
 ·cases I
 injection I with r bf av
 injection r with r
 injection r with r
 subst r av;have aY:(Kd.raw (Kd.slice 3 (Kd.int .i64)).sz).sz=1:=rfl;rw[aY] at T J K H;rw[Nat.mul_one] at T J K;have U:∀i,i<m+1->rows[i]? =some [inner.getD i undef]:=fun i hi=>by
  have V:rows[i]? =some rows[i]:=bP (by omega);have C:=(H.2 i _ V).1;rw[V,<-C,Nat.mul_one,List.take_one,List.head?_drop,bb,bP (show i<inner.length by omega)];rfl
 have X:∀i,i<m+1->(inner.getD i undef).oneCell'=true:=fun i hi=>by
  have h:=H.2 i _ (U i hi);exact h.2.2 _ (by rw[h.1];simp)
 obtain⟨enc,D⟩:∃enc:Fin (m+1)->Value,enc=fun i=>inner.getD i.1 undef:=⟨_,rfl⟩
 have M:∀i:Fin (m+1),Kd.FK (Kd.slice 3 (Kd.int .i64)) W (fun k=>ok k/\some k≠(Value.slice (some ⟨g,0,none⟩) L.length cap).ownBlock) (L.getD i.1 []) [enc i]:=fun i=>by
  have E:L[i.1]? =some (L.getD i.1 []):=by rw[bb,bP (show i.1<L.length by omega)];rfl
  rw[D];exact hf i.1 _ _ E (U i.1 i.2)
 have hlen:(List.finRange (m+1)).toArray.size=m+1:=by simp
 have Y:∀(l:Nat) (os:Array Obj) (o:Array (Fin (m+1))) (b:Nat),b≠g->b<W.heap.size->(sortWorld enc W g 0 l o os).heap[b]? =W.heap[b]? :=fun l os o b hb s=>by
  unfold sortWorld;exact(wR (enc:=enc) (w:=W) (g:=g) (n:=l) (os:=os) o).block b s (fun e=>hb (aE e))
 have aB:CmpReads Tryz.prog G #[] enc a g 0 (List.finRange (m+1)).toArray.size W:=fun l os o bg x y=>by
  obtain⟨A,c,ex,aF,aL⟩:=Kd.kx (M x);obtain⟨B,d,O,aO,aP⟩:=Kd.kx (M y);injection ex with ex
  injection O with O
  rw[ex,O];have Z:∀b,(ok b/\some b≠(Value.slice (some ⟨g,0,none⟩) L.length cap).ownBlock)->b<W.heap.size->(sortWorld enc W g 0 l o os).heap[b]? =W.heap[b]? :=fun b hb s=>Y l os o b (fun e=>hb.2 (by rw[e];rfl)) s
  refine(HG k A B c d _ _ (a x y) _ (Kd.jR (Kd.pv aL Z)) aF (Kd.jR (Kd.pv aP Z)) aO (am x y)).mono ?_;rintro e w' ⟨rfl,hd⟩;exact⟨rfl,hd.out⟩
 have aS:Holds enc W g 0 (List.finRange (m+1)).toArray:=fun j q=>by
  rw[hlen] at q;refine⟨?_,by simp[World.frozen?,z]⟩;have C:(cur.toList.take rows.length)[j]? =inner[j]? :=by rw[K]
  rw[List.getElem?_take_of_lt (by omega),Array.getElem?_toList] at C;simp only[World.cell?,z,Nat.zero_add,Option.isSome_none,Bool.false_eq_true,if_false];rw[C,bP (by omega),D];simp[show j<m+1 from q,show j<inner.length by omega]
 have aa:=Any.slices_SortFunc Fa enc (fun i=>by rw[D];exact X i.1 i.2) a hO G #[] g 0 cap (List.finRange (m+1)).toArray W eg aB.lays aS ((Array.getElem?_eq_some_iff.1 z).1) (by rw[hlen];omega);rw[hlen] at aa;rw[R];have a0:Calls Tryz.prog 49 _ _ _:=aa;refine a0.mono ?_;rintro e w' ⟨rfl,d',n,os,hp,hs,rfl⟩;obtain⟨P,_,ab⟩:=hp;rw[hlen] at P;have Q:d'.toList.length=m+1:=by simpa using P
 refine⟨rfl,d'.toList,?_,?_,?_,wR (enc:=enc) (n:=n) (os:=os) d'⟩
 ·have e1:d'.extract 0 (m+1)=d':=Array.extract_eq_self_of_le (by omega)
  rw[e1,Array.extract_eq_self_of_le (by simp)] at ab;exact ab
 ·refine List.pairwise_iff_getElem.2 fun i j hi q a3=>?_
  have h:=hs i j (Nat.zero_le _) a3 (by omega);rw[getElem!_pos d' i (by omega),getElem!_pos d' j (by omega)] at h;simpa using h
 ·have a4:(Go.Sort.grow (putRow enc (Sort.ahead W n) g 0 d') os).heap[g]? =some (.cells (putCells enc 0 d' cur) 26 (0,0)):=Fc d' z
  have a5:(putCells enc 0 d' cur).toList.take (m+1)=d'.toList.map enc:=by
   have h:=Fe (enc:=enc) cur d'.toList (by rw[Q];omega);rw[Q] at h;exact h
  refine⟨by rw[R] at S;exact S,d'.toList.map fun i=>[enc i],by simp,⟨fun k hk=>hk.symm,d'.toList.map enc,⟨by rw[aY];simp,.inr ⟨g,cap,_,?_,ap,a4,?_,ar,?_,?_⟩⟩,?_⟩,?_⟩
  ·simp[P]
  ·simp;omega
  ·rw[aY];simp[putCells,J]
  ·rw[aY];simp only[List.length_map,Nat.mul_one,Q];exact a5
  ·refine⟨by rw[aY];simp,fun j p q=>?_⟩
   rw[List.getElem?_map] at q;obtain⟨i,hi,rfl⟩:=Option.map_eq_some_iff.1 q;have bi:=(List.getElem?_eq_some_iff.1 hi).1;have e2:((d'.toList.map enc).drop (j*(Kd.raw (Kd.slice 3 (Kd.int .i64)).sz).sz)).take (Kd.raw (Kd.slice 3 (Kd.int .i64)).sz).sz=[enc i]:=by
    rw[aY,Nat.mul_one,List.take_one,List.head?_drop,List.getElem?_map,hi];rfl
   rw[e2];refine⟨rfl,rfl,fun u hu=>?_⟩;rw[List.mem_singleton.1 hu,D];exact X i.1 i.2
  ·intro j x c E v
   rw[List.getElem?_map] at E v;obtain⟨i,hi,rfl⟩:=Option.map_eq_some_iff.1 E;rw[hi] at v;injection v with v
   subst v;refine Kd.lx (Kd.ku (M i) (fun k hk=>⟨hk.1,hk.2⟩)) (fun b hb s=>Y n os d' b (fun e=>hb.2 (by rw[e];rfl)) s)
end
end Go.Proofs.YtffdiakgjakngaaGreat.P


namespace Go.Proofs.YtffdiakgjakngaaGreat.P
open Go.RowKit Go.Proofs.YtffdiakgjakngaaGreatW.PrintWords Go.Proofs.YtffdiakgjakngaaGreatW.PrintLast Go.Proofs.YtffdiakgjakngaaGreatW.PrintMore
set_option linter.unusedVariables false
set_option linter.unusedSimpArgs false
set_option maxHeartbeats 8000000
set_option maxRecDepth 100000
def dL.l0:Nat->List (List Int)->Int->Int->Int->List (S83)->Option (Int)
 |0,_,_,_,_,_=>none
 |k+1,b,e,a,g,i=>if a<e then(if 0<=a then(if a<(b.length:Int) then((bz.f k (aZ b a) g).bind fun h=>(if h=0 then(dL.l0 k b e (wrap64 (a+1)) g i) else(some h))) else(none)) else(none)) else(some 0)
def dL.f (k:Nat) (b:Int) (e:List (S83)) (l1:List (List Int)):Option (Int):=(cD.f k b e).bind fun a=>(if a.2=0 then(if a.1=true then(dL.l0 k l1 (l1.length:Int) 0 b e) else(some 13)) else(some a.2))
theorem dL.cn:∀k,(∀a b e g i,aj (dL.l0 k a b e g i) (dL.l0 (k+1) a b e g i))
 |0=>fun _ _ _ _ _ r h=>by simp[dL.l0] at h
 |k+1=>by
  have j:=dL.cn k
  ·intro a b e g i
   unfold dL.l0;with_reducible repeat' first|exact j _ _ _ _ _|exact bz.mono _ _ _|exact cD.mono _ _ _|exact aj.refl _|exact aj.none _|refine aj.ite ?_ ?_|refine aj.bind ?_ (fun _=>?_)
theorem dL.mono:∀a0 a a2 k,aj (dL.f k a0 a a2) (dL.f (k+1) a0 a a2):=by
 intro a0 a a2 k;have b:=dL.cn k;unfold dL.f;with_reducible repeat' first|exact b _ _ _ _ _|exact bz.mono _ _ _|exact cD.mono _ _ _|exact aj.refl _|exact aj.none _|refine aj.ite ?_ ?_|refine aj.bind ?_ (fun _=>?_)
theorem dL.calls (k:Nat) (b:Int) (l:Option Addr) (m:Nat) (i:List (S83)) (T:Option Addr) (c1:Nat) (l1:List (List Int)) (r:Int) (w:World) (U:Kd.C aN w l i.length i) (V:i.length<=m) (W:Kd.C (Kd.slice 3 (Kd.int .i64)) w T l1.length l1) (X:l1.length<=c1) (h:dL.f k b i l1=some r):
  Calls Tryz.prog 75 #[.agg #[.int .i64 b,.slice l i.length m],.slice T l1.length c1] w fun e w'=>e= .returned (.int .i64 r)/\Below w.heap.size w w':=by
 have a0:=Tryz.underlying24;have F:=zA U;have G:=zA V;clear U V;have Y:=zA W;have a1:=zA X;clear W X;have a:=zA (al w.heap.size w);unfold dL.f at h;have H:=h;clear h;obtain⟨⟨Z,y⟩,I,H⟩:=zo H;dsimp only at H;by_cases c4:y=0
 ·rw[if_pos c4] at H
  obtain⟨aa,ab⟩:=br c4;clear c4;by_cases z:Z=true
  ·subst z
   replace H:=zi H;have B:=zA H;clear H;go_enter Tryz.func75,Tryz.ntmps75
   go_wp2_with (first|((with_reducible refine aH (N:=2) rfl ?_);refine zX 2 #[.int .i64 b,.slice l i.length m] 24 ?_;intro J hg w6 n hb;have j:=zA (n);have ad:=zG a hg;have ag:=zG a hg;replace a:=zS a hb;clear hb n hg;obtain⟨ap,ar,av,aB⟩:=au j)|((with_reducible refine aC (f:=113) rfl ?_);refine zL (some 12) Tryz.func113 #[.agg #[.int .i64 b,.slice l i.length m]] ?_;(with_reducible refine(cD.calls k b _ _ i true y _ ?af ?ah I.out).mono ?_);(case af=>exact Kd.aq F.out zB);(case ah=>exact G.out);rintro e w8 ⟨rfl,hb⟩;refine⟨_,rfl,?_⟩;replace j:=zb j hb;replace a:=zS a hb;(try clear hb)))
   go_loopg [22] k (fun kq v22 w'=>∃(g:Int),v22= .int .i64 g/\Aside0 (dL.l0 kq l1 (l1.length:Int) g b i=some r)/\Aside0 (kq<=k)/\Aside0 (w'.heap[J]? =some (.cells #[.int .i64 b,(.slice l i.length m)] 24 (0,0)))/\Aside0 (Below w.heap.size w w'))
   case atStart=>exact⟨(0),zT,B,⟨aI _⟩,⟨zK j⟩,⟨zB⟩⟩
   case round=>
    clear B;clear aa ab ap ar av aB;obtain⟨g,rfl,K,am,j,a⟩:=hrel;cases gk with
    |zero=>exact absurd K.out (by simp[dL.l0])
    |succ L=>
     have H:=K.out;clear K;simp only[dL.l0] at H;by_cases s:g<(l1.length:Int)
     ·rw[if_pos s] at H
      have aF:=ay s;clear s;by_cases D:0<=g
      ·rw[if_pos D] at H
       have a4:=ay D;clear D;by_cases E:g<(l1.length:Int)
       ·rw[if_pos E] at H
        have a5:=ay E;clear E;obtain⟨M,an,H⟩:=zo H;by_cases u:M=0
        ·rw[if_pos u] at H
         obtain⟨aL,aO⟩:=br u;clear u;have B:=zA H;clear H;have o:0<=(g:Int):=ax ‹_›;have p:g<(l1.length:Int):=ax ‹_›;obtain⟨aP,O,P,Q,q,v,x⟩:=fT Y.out g o p;cases Q;replace q:=(a.out.cell (a8 w _ q)).trans q;have R:=zA x;have S:=zA v;clear x v;replace o:=eq_true o;replace p:=eq_true p;obtain⟨a9,be,bf,bg⟩:=au j;go_wp2_with (first|((with_reducible refine aC (f:=87) rfl ?_);refine zL (some 29) Tryz.func87 #[.slice O (aZ l1 g).length P,.int .i64 b] ?_;(with_reducible refine(bz.calls L _ _ (aZ l1 g) b M _ ?af ?ah an.out).mono ?_);(case af=>exact Kd.aq R.out zB);(case ah=>exact S.out);rintro e w' ⟨rfl,⟨nd,rfl⟩⟩;refine⟨_,rfl,?_⟩))
         go_roundg L
         case measure=>have:=am.out;omega
         case rel=>exact⟨(wrap64 (g+1)),zT,B,⟨by have:=am.out;omega⟩,⟨zK j⟩,⟨zB⟩⟩
        ·rw[if_neg u] at H
         obtain⟨aL,aO⟩:=bG u;obtain rfl:=aE H;have o:0<=(g:Int):=ax ‹_›;have p:g<(l1.length:Int):=ax ‹_›;obtain⟨aP,O,P,Q,q,v,x⟩:=fT Y.out g o p;cases Q;replace q:=(a.out.cell (a8 w _ q)).trans q;have R:=zA x;have S:=zA v;clear x v;replace o:=eq_true o;replace p:=eq_true p;obtain⟨bi,bk,bn,bo⟩:=au j;go_wp2_with (first|((with_reducible refine aC (f:=87) rfl ?_);refine zL (some 29) Tryz.func87 #[.slice O (aZ l1 g).length P,.int .i64 b] ?_;(with_reducible refine(bz.calls L _ _ (aZ l1 g) b M _ ?af ?ah an.out).mono ?_);(case af=>exact Kd.aq R.out zB);(case ah=>exact S.out);rintro e w' ⟨rfl,⟨nd,rfl⟩⟩;refine⟨_,rfl,?_⟩))
         go_ret;exact⟨zE,zB⟩
       ·rw[if_neg E] at H
        exact absurd H (by simp)
      ·rw[if_neg D] at H
       exact absurd H (by simp)
     ·rw[if_neg s] at H
      have aF:=a6 s;clear s;obtain rfl:=aE H;go_wp2;go_ret;exact⟨zE,zB⟩
  ·replace z:=Bool.eq_false_iff.mpr z
   subst z;replace H:=zj H;obtain rfl:=aE H;go_enter Tryz.func75,Tryz.ntmps75
   go_wp2_with (first|((with_reducible refine aH (N:=2) rfl ?_);refine zX 2 #[.int .i64 b,.slice l i.length m] 24 ?_;intro J hg bv n hb;have j:=zA (n);have ad:=zG a hg;have ag:=zG a hg;replace a:=zS a hb;clear hb n hg;obtain⟨bw,bx,b0,b1⟩:=au j)|((with_reducible refine aC (f:=113) rfl ?_);refine zL (some 12) Tryz.func113 #[.agg #[.int .i64 b,.slice l i.length m]] ?_;(with_reducible refine(cD.calls k b _ _ i false y _ ?af ?ah I.out).mono ?_);(case af=>exact Kd.aq F.out zB);(case ah=>exact G.out);rintro e b2 ⟨rfl,hb⟩;refine⟨_,rfl,?_⟩;replace j:=zb j hb;replace a:=zS a hb;(try clear hb)))
   go_ret;exact⟨zE,zB⟩
 ·rw[if_neg c4] at H
  obtain⟨aa,ab⟩:=bG c4;obtain rfl:=aE H;go_enter Tryz.func75,Tryz.ntmps75
  go_wp2_with (first|((with_reducible refine aH (N:=2) rfl ?_);refine zX 2 #[.int .i64 b,.slice l i.length m] 24 ?_;intro J hg b3 n hb;have j:=zA (n);have ad:=zG a hg;have ag:=zG a hg;replace a:=zS a hb;clear hb n hg;obtain⟨b4,b5,b6,b_⟩:=au j)|((with_reducible refine aC (f:=113) rfl ?_);refine zL (some 12) Tryz.func113 #[.agg #[.int .i64 b,.slice l i.length m]] ?_;(with_reducible refine(cD.calls k b _ _ i Z y _ ?af ?ah I.out).mono ?_);(case af=>exact Kd.aq F.out zB);(case ah=>exact G.out);rintro e b' ⟨rfl,hb⟩;refine⟨_,rfl,?_⟩;replace j:=zb j hb;replace a:=zS a hb;(try clear hb)))
  go_ret;exact⟨zE,zB⟩
section
attribute [local go_sem] Oper.semAt_some
theorem wS {α:Type} {d:Kd α} {W:World} {e base:Nat} {ok:Nat->Prop} {v:Value} {xs:List α} (h:d.R e W base ok v xs) (hp:0<xs.length):∃g c,v= .slice (some ⟨g,0,none⟩) xs.length c:=by
 obtain⟨A,c,rfl⟩:=Kd.bm h;obtain⟨ad,he,_⟩:=(Kd.aG h).2.2.2.2 hp;subst he;obtain⟨g,rfl⟩:=Kd.lq h;exact⟨g,c,rfl⟩
theorem Fg {W W1:World} {q:Nat} {r:Option Nat} (h:(W.drewN q).grownBy W1 r):W.grownBy W1 r:=⟨h.os,h.tape,h.output,h.size,h.block⟩
theorem Fh (k n m:Nat) (A0:Option Addr) (c0:Nat) (E:List S83) (bh:Int) (C:List (List Int)) (cf:Fin (m+1)->Fin (m+1)->Int) (w:World) (bw:Kd.C aN w A0 E.length E) (b_:E.length<=c0) (hn:2<=n) (d9:n<=12) (gn: -1048576<=bh) (go:bh<=1048576)
  (b':dL.f k n E []=some 0) (ca:fe.f k n E 0=some (C,0)) (cb:∀c∈C,c.length=n) (cc:C.length=m+1) (ea:C.length<=16384) (cd:∀c∈C,bz.f k (cO bh c) n=some 0)
  (ce:∀i j:Fin (m+1),dj.f k ((C.map (cO bh)).getD i.1 []) ((C.map (cO bh)).getD j.1 [])=some (cf i j)) (hO:Go.Sort.SWO (ltOf cf)):
  Calls Tryz.prog 136 #[.agg #[.int .i64 n,.slice A0 E.length c0],.int .i64 bh] w fun e w'=>∃v,∃idx:List (Fin (m+1)),e= .returned (.tuple #[v,.int .i64 0])/\idx.Perm (List.finRange (m+1))/\idx.Pairwise (fun i j=>ltOf cf j i=false)/\Kd.N (Kd.slice 3 (Kd.int .i64)) 26 w' w.heap.size (fun k_=>w.heap.size<=k_) v (idx.map fun i=>(C.map (cO bh)).getD i.1 [])/\Below w.heap.size w w':=by
 have hu:=Tryz.underlying24;have Hg:=zA b';have Ha:=zA ca;have eg:=zA cb;have ek:=zA cd;have el:=zA ce;have em:=zA hO;have gp:¬bh< -1048576:=by omega
 have gq:¬1048576<bh:=by omega
 have H:=zA (mV w (.cells #[.int .i64 n,.slice A0 E.length c0] 24) (.cells #[.slice none 0 0] 33) (.cells #[.int .i64 0] 30));have er:(((w.alloc (.cells #[.int .i64 n,.slice A0 E.length c0] 24)).alloc (.cells #[.slice none 0 0] 33)).alloc (.cells #[.int .i64 0] 30)).cell? ⟨w.heap.size,0,none⟩=some (.int .i64 n):=(ai H.out.1 0).trans rfl;have es:(((w.alloc (.cells #[.int .i64 n,.slice A0 E.length c0] 24)).alloc (.cells #[.slice none 0 0] 33)).alloc (.cells #[.int .i64 0] 30)).cell? ⟨w.heap.size,1,none⟩=some (.slice A0 E.length c0):=(ai H.out.1 1).trans rfl;have ch:=zA cc;clear b' ca cb cd ce hO cc;refine(callsIn_wide (n:=10)).1 ?_;refine callsIn_of_wp_marks Tryz.func136 rfl trivial ?_ rfl;simp only[Tryz.ntmps136,List.size_toArray,List.length_cons,List.length_nil,Nat.reduceAdd,Nat.reduceSub,Array.replicate_succ,Array.replicate_zero,List.push_toArray,List.append_toArray,List.nil_append,List.cons_append];gi_wp2_with (first|(refine⟨trivial,?_⟩;gi_at_call 75;refine(callsIn_wide.2 (dL.calls k n A0 c0 E none 0 [] 0 _ (Kd.bE (Kd.bE (Kd.bE bw _) _) _) b_ (Kd.nz _ _) (Nat.zero_le _) Hg.out)).mono ?_;rintro e w1 ⟨rfl,hb⟩;have HB:=zA ((ao (ao (ao (al w.heap.size w) _) _) _).trans (hb.mono (by simp;omega)));have X0:=zA (aJ H.out.1 hb);have z:=zA (aJ H.out.2.1 hb);have X2:=zA (aJ H.out.2.2 hb);have y0:w1.cell? ⟨w.heap.size,0,none⟩=some (.int .i64 n):=(ai X0.out 0).trans rfl;have y1:w1.cell? ⟨w.heap.size,1,none⟩=some (.slice A0 E.length c0):=(ai X0.out 1).trans rfl;clear hb)|(refine⟨trivial,?_⟩;gi_at_call 114;refine(callsIn_wide.2 (fe.calls k n A0 c0 E 0 C 0 _ (Kd.aq bw HB.out) b_ Ha.out)).mono ?_;rintro e w2 ⟨v,rfl,I,J⟩;obtain⟨V,cl,rfl, -⟩:=Kd.yR I;have HN:=zA (Kd.py I);have cj:=zA (a7 HB.out J);have Z0:=zA (aJ X0.out J);have Z1:=zA (aJ z.out J);have Z2:=zA (aJ X2.out J);have ex:=zA J.size;clear I J)|(refine⟨trivial,?_⟩;gi_at_call 182;refine(callsIn_wide.2 (EX _ _ _ _ _)).mono ?_;rintro e w3 ⟨rfl,rfl⟩))
 have ey:w.heap.size+1+1<w2.heap.size:=az Z2.out;have cq:w1.heap.size<=w2.heap.size:=ex.out;have e0:=HB.out.size;obtain⟨L,cs⟩:∃o:Obj,o= .cells #[.slice V C.length cl] 33:=⟨_,rfl⟩;obtain⟨M,c2⟩:∃o:Obj,o= .cells #[.int .i64 bh] 3:=⟨_,rfl⟩;obtain⟨O,c3⟩:∃o:Obj,o= .cells #[.slice none 0 0] 33:=⟨_,rfl⟩;obtain⟨V0,V1,V2⟩:=mV w2 O L M;have am:=zA (V0.trans (by rw[c3]:_=some (.cells #[.slice none 0 0] 33 (0,0))));have aP:=zA (V1.trans (by rw[cs]:_=some (.cells #[.slice V C.length cl] 33 (0,0))));have aS:=zA (V2.trans (by rw[c2]:_=some (.cells #[.int .i64 bh] 3 (0,0))));have a0:=zA (ao (ao (ao cj.out O) L) M);have c7:=zA (aw (aw (aw Z0.out O) L) M);have c8:=zA (aw (aw (aw Z1.out O) L) M);have c9:=zA (aw (aw (aw Z2.out O) L) M);have an:=zA (Kd.eL (Kd.eL (Kd.eL (Kd.eE HN.out (ok':=fun k=>w1.heap.size<=k/\k<w2.heap.size) (fun k hk=>hk)) O) L) M);clear V0 V1 V2;subst cs c2 c3;clear y0 y1 er es X0 z X2 Z0 Z1 Z2 HB cj H HN;have a2:(((w2.alloc (.cells #[.slice none 0 0] 33)).alloc (.cells #[.slice V C.length cl] 33)).alloc (.cells #[.int .i64 bh] 3)).heap.size=w2.heap.size+3:=by simp
 generalize ((w2.alloc (.cells #[.slice none 0 0] 33)).alloc (.cells #[.slice V C.length cl] 33)).alloc (.cells #[.int .i64 bh] 3)=b at am aP aS a0 c7 c8 c9 an a2⊢;have e1:=zA a2;have e4:w2.heap.size<b.heap.size:=by omega
 have e5:w2.heap.size+1<b.heap.size:=by omega
 have e6:w2.heap.size+1+1<b.heap.size:=by omega
 clear a2;generalize e_:w2.heap.size+1+1=qx at aS e6⊢;generalize e':w2.heap.size+1=gx at aP e5 e_⊢;generalize w2.heap.size=bo at am e1 ey cq e4 e' an⊢;generalize w1.heap.size=b0 at an cq e0⊢;have gr:=a0.out.size;refine iG (σ:=Unit) (α:=List Int×Value) (F:=Fence.wide) (n:=10) rfl (by decide) (gf:=202) (lb:=#[.pointer (some ⟨gx,0,none⟩),.pointer (some ⟨qx,0,none⟩)]) rfl trivial (enters_of Tryz.func202 (by kernel_rfl) rfl)
  (fun o=>E9 gx qx b0 bo n V cl _ C bh _ (by omega) (by omega) hn d9 eg.out ea (Kd.eL (Kd.eL an.out _) _) (aw (aw aP.out _) _) (aw (aw aS.out _) _)) (fun _=>rfl)
  (fun _=>True) ?eB ?st ?ar
  (fun _ pre W=>b.heap.size+2<=W.heap.size/\(∃v,W.heap[bo]? =some (.cells #[v] 33 (0,0))/\(Kd.slice 3 (Kd.int .i64)).R 26 W w.heap.size (fun k=>b.heap.size+2<=k) v (pre.map Prod.fst))/\W.heap[w.heap.size+1]? =some (.cells #[.slice none 0 0] 33 (0,0))/\W.heap[w.heap.size+1+1]? =some (.cells #[.int .i64 0] 30 (0,0))/\W.heap[w.heap.size]? =some (.cells #[.int .i64 n,.slice A0 E.length c0] 24 (0,0))/\Below w.heap.size w W) (fun _ _ _ _=>False)
  ?is (fun _ _ _ _ _ _ h _=>h) ?ib (fun _ _ _ _ _ h _=>h) ?kt ?h0 ?a1 ?assign ?body ?done (fun _ _ _ _ _ _ _ h=>h.elim)
 case assign=>
  intro l x W K hK;gi_wp2;exact hK
 case eB=>
  intro o s W1 h;exact⟨trivial,by rw[h];exact cp.refl _ _⟩
 case st=>intro s A B _ h;exact cW h
 case ar=>intro s x A B _ h;exact cW h.2.2
 case is=>
  rintro s pre A B _ ⟨X,⟨v,h1,h4⟩,h2,h3,h6,h5⟩ G;exact⟨Nat.le_trans X G.size,⟨v,aJ h1 G,Kd.cR h4 G⟩,aJ h2 G,aJ h3 G,aJ h6 G,a7 h5 G⟩
 case ib=>
  rintro s pre A B ⟨X,⟨v,h1,h4⟩,h2,h3,h6,h5⟩ hb;exact⟨by rw[hb.size];exact X,⟨v,hb.cells h1,dq h4 hb⟩,hb.cells h2,hb.cells h3,hb.cells h6,h5.trans (hb.below w.heap.size (by omega))⟩
 case kt=>
  intro s A B C' D c' fn fo k hk ap;have dd:k≠b.heap.size+1:=by rcases hk with hk|rfl|rfl<;>omega
  exact(fo.heap k dd).trans ((fn k hk (by rw[c'.size];exact ap)).trans (c'.heap k dd))
 case h0=>
  rintro o s W1 rfl;exact⟨by simp,⟨_,aw (aw am.out _) _,Kd.dc _ _ _ _ _⟩,aw (aw c8.out _) _,aw (aw c9.out _) _,aw (aw c7.out _) _,ao (ao a0.out _) _⟩
 case body=>
  rintro l s pre ⟨xl,xv⟩ Y W1 W _ ⟨X,⟨v,i1,i4⟩,i2,i3,i6,i5⟩ ⟨⟨c,dk,bg⟩,P,y⟩ av a;simp only at P bg;obtain⟨Ax,cx,rfl⟩:=Kd.bm P;have g1:Y.heap.size<=W.heap.size:=by have:=a.size;have:=y.size;omega
  have g:=zA (a.cells (aJ i1 y));have Q:=zA (a.cells (aJ i2 y));have b3:=zA (a.cells (aJ i3 y));have b6:=zA (a.cells (aJ i6 y));have b4:=zA (dq (Kd.cR i4 y) a);have Z:=zA ((a7 i5 y).trans (a.below w.heap.size (by omega)));have bx:=zA ((Kd.bc (Kd.ba (ok':=fun k=>Y.heap.size<=k) (Kd.eD (dq P a)) (fun k hk=>hk.2.1)) i5.size));have dv:∀k,v.ownBlock=some k->k<Y.heap.size:=fun k hk=>Kd.a_ i4 k hk
  have d0:=zA dv;have fr:=zA (Kd.gw i4);have ft:=zA (fun W2 hC=>bz.calls k Ax cx xl n 0 W2 hC (Kd.aG P).2.1 (by rw[bg];exact ek.out c dk));have fv:=zA (Kd.aG (dq P a)).2.2;have g2:pre.length<16384:=by have:pre.length<C.length:=av;omega
  clear i1 i2 i3 i4 i5 i6 y P a dv av bg dk;obtain⟨Ar,cr,rfl⟩:=Kd.bm b4.out;have d1:(pre.map Prod.fst).length=pre.length:=by simp
  rw[d1] at g b4 d0 fr;have g3:W.cell? ⟨w.heap.size,0,none⟩=some (.int .i64 n):=(ai b6.out 0).trans rfl;have LN:Aside0 (((pre.map Prod.fst).length+1)*24<=140737488355328):=⟨by rw[d1];omega⟩;have f1:Aside0 (∀k,Y.heap.size<=k->(b.heap.size+2<=k)/\some k≠(Value.slice Ar pre.length cr).ownBlock):=⟨fun k hk=>⟨by omega,fun e=>by have:=d0.out k e.symm;omega⟩⟩;have f2:Aside0 (∀k,W.heap.size<=k->b.heap.size+2<=k):=⟨fun k hk=>by omega⟩;gi_wp2_with (first|(refine⟨trivial,?_⟩;gi_at_call 87;refine(callsIn_wide.2 (ft.out _ fv.out)).mono ?_;rintro e w4 ⟨rfl,⟨q,rfl⟩⟩;have g5:(W.drewN q).cell? ⟨bo,0,none⟩=some (.slice Ar pre.length cr):=dG (iw g.out q);have g6:(W.drewN q).frozen? ⟨bo,0,none⟩=false:=bD (iw g.out q) 0)|(gi_at_builtin;go_loud (refine ot (Kd.slice 3 (Kd.int .i64)) (w0:=w) w.heap.size rfl (.tmp 39) (.tmp 41) 33 26 (.slice none 0 0) 24 rfl Tryz.underlying33 pI rfl (by decide) (by omega) (.slice Ar pre.length cr) (pre.map Prod.fst) xl [.slice Ax xl.length cx] (fun k=>b.heap.size+2<=k) (fun k=>Y.heap.size<=k) rfl rfl (Kd.l9 (Kd.bB bx.out _)) f1.out f2.out (Kd.bB b4.out _) (b8 Z.out _) Z.out.size LN.out ?_;intro v1 g7 bk hb S f3;obtain⟨A1,c1,rfl⟩:=Kd.bm bk;have f4:=zA bk;have f5:=zA hb;have T:=zA S;have z:=zA ((S.block bo (az g.out) (Kd.dr b4.out g.out (by decide))).trans g.out);have g8:=dG z.out;have g9:=bD z.out 0;clear bk hb S f3)))
  have X2:=zA ((T.out.block _ (az Q.out) (Kd.dr b4.out Q.out (by decide))).trans Q.out);have X3:=zA ((T.out.block _ (az b3.out) (Kd.dr b4.out b3.out (by decide))).trans b3.out);have X6:=zA ((T.out.block _ (az b6.out) (Kd.dr b4.out b6.out (by decide))).trans b6.out);have f8:=zA (Fg T.out);refine⟨(ou b4.out f8.out).trans (fz _ _ (az am.out)),fun k hk ap=>?_,by have:=T.out.size;simp at this⊢;omega,⟨.slice A1 (pre.length+1) c1,by simpa using bR z.out 0 (.slice A1 (pre.length+1) c1),?_⟩,aD X2.out (by show w.heap.size+1≠bo;omega) _,aD X3.out (by show w.heap.size+1+1≠bo;omega) _,aD X6.out (by show w.heap.size≠bo;omega) _,et f5.out (by show w.heap.size<=bo;omega)⟩
  ·have f9:k≠bo:=by rcases hk with hk|rfl|rfl<;>omega
   rw[Below.heap_setCell _ _ _ _ f9];exact T.out.block k ap (fun e=>by have h:=b4.out.1 k e.symm;rcases hk with hk|rfl|rfl<;>omega)
  ·have h:=Kd.eX f4.out z.out (by decide) 0 (.slice A1 (pre.length+1) c1)
   simpa using h
 case done=>
  rintro s xs W W' _ d2 ⟨X,⟨v,i1,i4⟩,i2,i3,i6,i5⟩ a d3;have d4:xs.map Prod.fst=C.map (cO bh):=d2;rw[d4] at i4;have aF:(C.map (cO bh)).length=m+1:=by rw[List.length_map];exact ch.out
  have b4:=dq i4 a;obtain⟨gs,r,rfl⟩:=wS b4 (by omega);have g':b.heap.size+2<=gs:=b4.1 gs rfl;have ha:=Kd.a_ b4 gs rfl;have g:=zA (a.cells i1);have Q:=zA (a.cells i2);have b3:=zA (a.cells i3);have Z:=zA (i5.trans (a.below w.heap.size (by omega)));have d5:=zA d3;have d6:=zA (Ff Fb (enters_of Tryz.func183 (by kernel_rfl) rfl) cf aF (by have:=ch.out;omega) (Kd.nJ b4) el.out em.out);clear i1 i2 i3 i4 i5 i6 d3 d2 d4 a b4;rw[aF] at g d6;have he:=zA aF;clear aF;have hc:=dG g.out;gi_wp2_with (refine⟨trivial,?_⟩;gi_at_call 49;(with_reducible refine(callsIn_wide.2 d6.out).mono ?_);rintro e U ⟨rfl,idx,hp,d7,I,S⟩;have HP:=zA hp;have gb:=zA d7;have gc:=zA I;have aa:=zA S;clear hp d7 I S;have c1:=dG ((aa.out.block bo (az g.out) (fun e=>by injection e;omega)).trans g.out);have e2:=zA ((aa.out.block _ (az Q.out) (fun e=>by injection e;omega)).trans Q.out);have e3:=zA ((aa.out.block _ (az b3.out) (fun e=>by injection e;omega)).trans b3.out);have q1:U.cell? ⟨w.heap.size+1,0,none⟩=some (.slice none 0 0):=(ai e2.out 0).trans rfl;have q2:U.frozen? ⟨w.heap.size+1,0,none⟩=false:=bD e2.out 0;have Y3:=zA (aD (p:=⟨w.heap.size+1,0,none⟩) e3.out (by show w.heap.size+1+1≠w.heap.size+1;omega) (.slice (some ⟨gs,0,none⟩) (m+1) r));have q3:(U.setCell ⟨w.heap.size+1,0,none⟩ (.slice (some ⟨gs,0,none⟩) (m+1) r)).cell? ⟨w.heap.size+1+1,0,none⟩=some (.int .i64 0):=(ai Y3.out 0).trans rfl;have q4:=bD Y3.out 0)
  have Y1:=zA (aD (p:=⟨w.heap.size+1+1,0,none⟩) (bR e2.out 0 (.slice (some ⟨gs,0,none⟩) (m+1) r)) (by show w.heap.size+1≠w.heap.size+1+1;omega) (.int .i64 0));have Y2:=zA (bR Y3.out 0 (.int .i64 0));have av:w.heap.size+1≠b.heap.size:=by omega
  have gi:w.heap.size+1+1≠b.heap.size:=by omega
  have Y4:=zA (show ((U.setCell ⟨w.heap.size+1,0,none⟩ (.slice (some ⟨gs,0,none⟩) (m+1) r)).setCell ⟨w.heap.size+1+1,0,none⟩ (.int .i64 0)).heap[b.heap.size]? =some (.deferred (some [])) from by rw[Below.heap_setCell _ _ _ _ (fun e=>gi e.symm),Below.heap_setCell _ _ _ _ (fun e=>av e.symm)];exact(aa.out.block _ (az d5.out) (fun e=>by injection e;omega)).trans d5.out);have Y5:=zA (Kd.so (p:=⟨w.heap.size+1+1,0,none⟩) (Kd.so (p:=⟨w.heap.size+1,0,none⟩) gc.out (fun k hk=>by show k≠w.heap.size+1;omega) (.slice (some ⟨gs,0,none⟩) (m+1) r)) (fun k hk=>by show k≠w.heap.size+1+1;omega) (.int .i64 0));have Y6:=zA (((jJ Z.out _ Z.out.size aa.out (fun k e=>by injection e;omega)).setCell (p:=⟨w.heap.size+1,0,none⟩) (by show w.heap.size<=w.heap.size+1;omega) (.slice (some ⟨gs,0,none⟩) (m+1) r)).setCell (p:=⟨w.heap.size+1+1,0,none⟩) (by show w.heap.size<=w.heap.size+1+1;omega) (.int .i64 0));have aL:Bk b.heap.size ((U.setCell ⟨w.heap.size+1,0,none⟩ (.slice (some ⟨gs,0,none⟩) (m+1) r)).setCell ⟨w.heap.size+1+1,0,none⟩ (.int .i64 0)) (((U.setCell ⟨w.heap.size+1,0,none⟩ (.slice (some ⟨gs,0,none⟩) (m+1) r)).setCell ⟨w.heap.size+1+1,0,none⟩ (.int .i64 0)).putObj b.heap.size (.deferred none)):=⟨_,_,Y4.out,rfl,rfl⟩;refine i' (D:=b.heap.size) rfl Y4.out (qI (p:=4) (u:=5) rfl _ _ ⟨w.heap.size+1,0,none⟩ ⟨w.heap.size+1+1,0,none⟩ (.slice (some ⟨gs,0,none⟩) (m+1) r) (.int .i64 0) rfl rfl Tryz.underlying33 Tryz.underlying30 rfl rfl ((ai (aL.cells Y1.out) 0).trans (by simp)) ((ai (aL.cells Y2.out) 0).trans (by simp))) ⟨_,idx,rfl,HP.out,gb.out,?_,Y6.out.trans (aL.below w.heap.size (by omega))⟩;exact Kd.eE (Kd.mi Y5.out (fun k hk ap=>aL.heap k (by omega))) (fun k hk=>by omega)
end
section
attribute [local go_sem] Oper.semAt_some
def ke (pre:List (Int×Int)):Int:=pre.foldl (fun s x=>wrap64 (s+x.2)) 0
theorem Fi (pre:List (Int×Int)) (x:Int×Int):ke (pre++[x])=wrap64 (ke pre+x.2):=by simp[ke,List.foldl_append]
theorem Fj (k n d:Nat) (A0:Option Addr) (c0:Nat) (E:List S83) (L:List Int) (w:World) (S:Kd.C aN w A0 E.length E) (T:E.length<=c0) (aO:1<=n) (hn:n<=1000) (I:∀u:Nat,u<n->∃e,cz.f k n E (u:Nat)=some (rd L u,e)) (hd:ke (ga L n)=d) (aP:d<=100000):
  Calls Tryz.prog 135 #[.agg #[.int .i64 n,.slice A0 E.length c0]] w fun e w'=>e= .returned (.int .i64 (((d/2:Nat):Int)-n+1))/\Below w.heap.size w w':=by
 have hu:=Tryz.underlying24;have U:=zA I;have V:=zA hd;have aS:(0:Int)<=(n:Int):=by omega
 clear I hd;refine(callsIn_wide (n:=10)).1 ?_;refine callsIn_of_wp_marks Tryz.func135 rfl trivial ?_ rfl;simp only[Tryz.ntmps135,List.size_toArray,List.length_cons,List.length_nil,Nat.reduceAdd,Nat.reduceSub,Array.replicate_succ,Array.replicate_zero,List.push_toArray,List.append_toArray,List.nil_append,List.cons_append];gi_wp2_with (first|(refine⟨trivial,?_⟩;gi_at_call 143;refine(callsIn_wide.2 (vK n _ _)).mono ?_;rintro e w3 ⟨rfl,rfl⟩))
 have q:=zA (bl ((w.alloc (.cells #[.int .i64 n,.slice A0 E.length c0] 24)).alloc (.cells #[.int .i64 0] 3)) (.cells #[.int .i64 n,.slice A0 E.length c0] 24));have r:=zA (aw (bl (w.alloc (.cells #[.int .i64 n,.slice A0 E.length c0] 24)) (.cells #[.int .i64 0] 3)) (.cells #[.int .i64 n,.slice A0 E.length c0] 24));have J:=zA (aw (aw (bl w (.cells #[.int .i64 n,.slice A0 E.length c0] 24)) (.cells #[.int .i64 0] 3)) (.cells #[.int .i64 n,.slice A0 E.length c0] 24));have y:=zA (ao (ao (ao (al w.heap.size w) (.cells #[.int .i64 n,.slice A0 E.length c0] 24)) (.cells #[.int .i64 0] 3)) (.cells #[.int .i64 n,.slice A0 E.length c0] 24));simp only[World.size_alloc] at q r;have X:=Nat.le_of_eq (show (((w.alloc (.cells #[.int .i64 n,.slice A0 E.length c0] 24)).alloc (.cells #[.int .i64 0] 3)).alloc (.cells #[.int .i64 n,.slice A0 E.length c0] 24)).heap.size=w.heap.size+3 by simp);have Y:=Nat.le_of_eq (show w.heap.size+3=(((w.alloc (.cells #[.int .i64 n,.slice A0 E.length c0] 24)).alloc (.cells #[.int .i64 0] 3)).alloc (.cells #[.int .i64 n,.slice A0 E.length c0] 24)).heap.size by simp);generalize ((w.alloc (.cells #[.int .i64 n,.slice A0 E.length c0] 24)).alloc (.cells #[.int .i64 0] 3)).alloc (.cells #[.int .i64 n,.slice A0 E.length c0] 24)=b at q r J y X Y⊢;refine iG (σ:=Unit) (α:=Int×Int) (F:=Fence.wide) (n:=10) rfl (by decide) (gf:=185) (lb:=#[.pointer (some ⟨w.heap.size+1+1,0,none⟩)]) rfl trivial (enters_of Tryz.func185 (by kernel_rfl) rfl)
  (fun o=>vO (w.heap.size+1+1) k n A0 c0 E L w _ S T hn U.out (ao (ao y.out _) _) (aw (aw q.out _) _)) (fun _=>rfl)
  (fun _=>True) ?eB ?st ?ar
  (fun _ pre W=>b.heap.size<=W.heap.size/\W.heap[w.heap.size+1]? =some (.cells #[.int .i64 (ke pre)] 3 (0,0))/\W.heap[w.heap.size]? =some (.cells #[.int .i64 n,.slice A0 E.length c0] 24 (0,0))/\Below w.heap.size w W) (fun _ _ _ _=>False)
  ?is (fun _ _ _ _ _ _ h _=>h) ?ib (fun _ _ _ _ _ h _=>h) ?kt ?h0 ?a1 ?assign ?body ?done (fun _ _ _ _ _ _ _ h=>h.elim)
 case assign=>
  intro l x W K Z;gi_wp2;exact Z
 case eB=>
  intro o s W1 h;exact⟨trivial,by rw[h];exact cp.refl _ _⟩
 case st=>intro s A B _ h;exact cW h
 case ar=>intro s x A B _ h;exact cW h.2
 case is=>
  rintro s pre A B _ ⟨g,h1,z,G⟩ j;exact⟨Nat.le_trans g j.size,aJ h1 j,aJ z j,a7 G j⟩
 case ib=>
  rintro s pre A B ⟨g,h1,z,G⟩ hb;exact⟨by rw[hb.size];exact g,hb.cells h1,hb.cells z,G.trans (hb.below w.heap.size (by omega))⟩
 case kt=>
  intro s A B C D m M N;refine⟨fun aY=>((m.below w.heap.size (by omega)).trans (M.1 (by rw[m.size];exact aY))).trans (N.below w.heap.size (by omega)),fun aa=>?_⟩;have O:w.heap.size+1+1≠b.heap.size+1:=by omega
  exact(N.heap _ O).trans ((M.2 (by rw[m.size];exact aa)).trans (m.heap _ O))
 case h0=>
  rintro o s W1 rfl;exact⟨by simp;omega,aw (aw r.out _) _,aw (aw J.out _) _,ao (ao y.out _) _⟩
 case body=>
  rintro l s' pre ⟨xv,xy⟩ Wb Wc W _ ⟨g,i1,i2,i3⟩ ⟨⟨v,a4,hx⟩,i⟩ ag a;injection hx with ak am
  subst ak;have H:=zA (a.cells (aJ i1 i));have I2:=zA (a.cells (aJ i2 i));have I3:=zA ((a7 i3 i).trans (a.below w.heap.size (by omega)));have av:b.heap.size<=W.heap.size:=by have:=a.size;have:=i.size;omega
  have aB:=zA (Fi pre ((v:Int),xy));clear i1 i2 i3 i a ag g am;have z1:=dG H.out;have z2:=bD H.out 0;gi_wp2;refine⟨fz _ _ (by omega),⟨fun _=>Below.setCell (p:=⟨w.heap.size+1,0,none⟩) (al _ _) (by show w.heap.size<=w.heap.size+1;omega) _,fun _=>Below.heap_setCell _ _ _ _ (by show w.heap.size+1+1≠w.heap.size+1;omega)⟩,by simpa using av,?_,aD I2.out (by show w.heap.size≠w.heap.size+1;omega) _,Below.setCell (p:=⟨w.heap.size+1,0,none⟩) I3.out (by show w.heap.size<=w.heap.size+1;omega) _⟩;rw[aB.out];exact bC (cs:=#[.int .i64 (ke pre)]) H.out 0 _ rfl
 case done=>
  rintro s' xs W W' _ rfl ⟨g,i1,i2,i3⟩ a P;have Q:=zA (a.cells i1);have b2:=zA (a.cells i2);have b3:=zA (i3.trans (a.below w.heap.size (by omega)));have R:=zA P;clear i1 i2 i3 P;rw[V.out] at Q;have y1:=(ai Q.out 0).trans rfl;have y2:=(ai b2.out 0).trans rfl;have be:(0:Int)<=(d:Int):=by omega
  gi_wp2;have aL:Bk b.heap.size W' (W'.putObj b.heap.size (.deferred none)):=⟨_,_,R.out,rfl,rfl⟩;exact i' (D:=b.heap.size) rfl R.out (results_tmp rfl _ _ _) ⟨by simp,b3.out.trans (aL.below w.heap.size (by omega))⟩
end
section
attribute [local go_sem] Oper.semAt_some jk jl jm jn
theorem Fk (k n gb:Nat) (A0:Option Addr) (c0:Nat) (E:List S83) (a:Option Addr) (c1:Nat) (d:List Int) (r:Int) (w:World) (b:Kd.C aN w A0 E.length E) (i:E.length<=c0) (g:Kd.C (Kd.int .i64) w a d.length d) (j:d.length<=c1) (hb:w.heap[gb]? =some (.cells #[.int .i64 n,.slice A0 E.length c0] 24 (0,0))) (h:dy.f k n E d=some (r,0)):
  Calls Tryz.prog 138 #[.slice a d.length c1,.pointer (some ⟨gb,0,none⟩)] w fun e w'=>e= .returned (.tuple #[.int .i64 r,.int .i64 0])/\Below w.heap.size w w':=by
 have hu:=Tryz.underlying24;have H:=zA (dy.calls k n A0 c0 E a c1 d r 0 w b i g j h);have l:w.cell? ⟨gb,0,none⟩=some (.int .i64 n):=(ai hb 0).trans rfl;have m:w.cell? ⟨gb,1,none⟩=some (.slice A0 E.length c0):=(ai hb 1).trans rfl;clear h b g hb;go_enter Tryz.func138,Tryz.ntmps138
 go_wp2_with (go_at_call 41;refine H.out.mono ?_;rintro e w1 ⟨rfl,hb⟩;have o:=zA hb;clear hb l m)
 go_ret2;exact⟨rfl,o.out⟩
def iT (a:List Int->Int) (L:List (List Int)):Int:=L.foldl (fun b d=>max b (a d)) (-1)
theorem Fl (a:List Int->Int) (L:List (List Int)) (d:List Int):iT a (L++[d])=max (iT a L) (a d):=by simp[iT,List.foldl_append]
theorem Fm (k n gb g cap base:Nat) (ok:Nat->Prop) (A0:Option Addr) (c0:Nat) (E:List S83) (L:List (List Int)) (a:List Int->Int) (w:World) (p:Kd.C aN w A0 E.length E) (x:E.length<=c0) (hb:w.heap[gb]? =some (.cells #[.int .i64 n,.slice A0 E.length c0] 24 (0,0))) (K:L.length<=16384)
  (q:Kd.N (Kd.slice 3 (Kd.int .i64)) 26 w base ok (.slice (some ⟨g,0,none⟩) L.length cap) L) (h:∀d∈L,dy.f k n E d=some (a d,0)):
  Calls Tryz.prog 137 #[.slice (some ⟨g,0,none⟩) L.length cap,.func (.func 138) #[] #[.pointer (some ⟨gb,0,none⟩)]] w fun e w'=>e= .returned (.tuple #[.int .i64 (iT a L),.int .i64 0])/\Below w.heap.size w w':=by
 have y:=zA hb;have z:=zA q;have B:=zA h;have D:=zA p;clear hb q h p;go_enter Tryz.func137,Tryz.ntmps137
 go_wp2;go_loopg [6,13] (L.length) (fun F b i wr=>∃v:Nat,v<=L.length/\i= .int .i64 v/\b= .int .i64 (iT a (L.take v))/\Aside0 (Below w.heap.size w wr)/\Aside0 (F=L.length-v))
 case atStart=>exact⟨0,Nat.zero_le _,rfl,rfl,⟨al _ _⟩,⟨rfl⟩⟩
 case round=>
  obtain⟨v,M,rfl,rfl,j,G⟩:=hrel;by_cases l:v<L.length
  ·have O:(0:Int)<=(v:Int):=by omega
   have P:(v:Int)<(L.length:Int):=by omega
   obtain⟨g2,H,cc,he,r,m,o⟩:=wP (Kd.gB z.out j.out) v l;injection he with he
   injection he with he
   subst he;have s:=zA (show iT a (L.take (v+1))=max (iT a (L.take v)) (a (L.getD v [])) by rw[List.take_succ_eq_append_getElem l,Fl,bb,bP l];rfl);have u:=zA (B.out (L.getD v []) (by rw[bb,bP l];exact List.getElem_mem l));generalize L.getD v []=d at r m o s u;have I:=zA (Fk k n gb A0 c0 E H cc d (a d) wr (Kd.aq D.out j.out) x (Kd.jR o) m (aJ y.out j.out) u.out);clear o m;go_wp2_with (go_at_call 138;refine I.out.mono ?_;rintro e w1 ⟨rfl,hb⟩;have J:=zA (a7 j.out hb);clear hb r)
   all_goals
    go_roundg (L.length- (v+1))
    case measure=>rw[G.out];omega
    case rel=>exact⟨v+1,by omega,by go_num,by rw[s.out];exact congrArg _ (by omega),J,⟨rfl⟩⟩
  ·obtain rfl:v=L.length:=by omega
   go_wp2;go_ret2;exact⟨by rw[List.take_length];rfl,j.out⟩
theorem Fo {α:Type} {d:Kd α} {W:World} {e base:Nat} {ok:Nat->Prop} {v:Value} {xs:List α} (h:Kd.N d e W base ok v xs) (hp:0<xs.length):∃g c,v= .slice (some ⟨g,0,none⟩) xs.length c:=by
 obtain⟨_,rows,a,b,_⟩:=h;rw[<-a] at hp⊢;exact wS b hp
theorem wT {m:Nat} {idx:List (Fin (m+1))} {f:List Int->List Int} {C:List (List Int)} (hp:idx.Perm (List.finRange (m+1))) (hC:C.length=m+1):(idx.map fun i=>(C.map f).getD i.1 []).Perm (C.map f):=by
 refine(hp.map _).trans (List.Perm.of_eq ?_);refine List.ext_getElem (by simp[hC]) fun i h1 a=>?_
 simp only[List.length_map] at a;simp[bP a]
theorem Fp {m k:Nat} {n:Int} {E:List S83} {a:List Int->Int} {idx:List (Fin (m+1))} {f:List Int->List Int} {C:List (List Int)} (hp:idx.Perm (List.finRange (m+1))) (hC:C.length=m+1) (h:∀c∈C,dy.f k n E (f c)=some (a (f c),0)):∀d∈idx.map fun i=>(C.map f).getD i.1 [],dy.f k n E d=some (a d,0):=fun d hd=>by
 obtain⟨c,b,rfl⟩:=List.mem_map.1 ((wT hp hC).mem_iff.1 hd);exact h c b
theorem Fq (k n m d:Nat) (A0:Option Addr) (c0:Nat) (E:List S83) (bh:Int) (q:List Int) (C:List (List Int)) (r:List Int->Int) (s:Fin (m+1)->Fin (m+1)->Int) (w:World) (G:Kd.C aN w A0 E.length E) (a:E.length<=c0) (hn:2<=n) (Y:n<=12) (a1:0<=bh) (Z:bh<=1048576)
  (H:d_.f k n E=some 0) (I:∀u:Nat,u<n->∃e,cz.f k n E (u:Nat)=some (rd q u,e)) (hd:ke (ga q n)=d) (J:d<=100000) (aa:bh<=2*(((d/2:Nat):Int)-n+1)-2)
  (K:dL.f k n E []=some 0) (M:fe.f k n E 0=some (C,0)) (N:∀c∈C,c.length=n) (x:C.length=m+1) (y:C.length<=16384) (O:∀c∈C,bz.f k (cO bh c) n=some 0)
  (P:∀i j:Fin (m+1),dj.f k ((C.map (cO bh)).getD i.1 []) ((C.map (cO bh)).getD j.1 [])=some (s i j)) (hO:Go.Sort.SWO (ltOf s)) (Q:∀c∈C,dy.f k n E (cO bh c)=some (r (cO bh c),0)):
  Calls Tryz.prog 82 #[.agg #[.int .i64 n,.slice A0 E.length c0],.int .i64 bh] w fun e w'=>∃L:List (List Int),L.Perm (C.map (cO bh))/\e= .returned (.tuple #[.int .i64 (iT r L),.int .i64 0])/\Below w.heap.size w w':=by
 have hu:=Tryz.underlying24;have z:=zA (bl w (.cells #[.int .i64 n,.slice A0 E.length c0] 24));have H1:=zA (fun W h=>d_.calls k n A0 c0 E 0 W h a H);have R:=zA (fun W h=>Fj k n d A0 c0 E q W h a (by omega) (by omega) I hd J);have H3:=zA (fun W h=>Fh k n m A0 c0 E bh C s W h a hn Y (by omega) Z K M N x y O P hO);have H4:=zA (fun gb g cap base ok L W h1 h2 h3 h4 S=>Fm k n gb g cap base ok A0 c0 E L r W h1 a h2 h3 h4 S);have an:=zA Q;have b:=zA x;have ap:=zA y;have S:¬bh< -1048576:=by omega
 have h6:¬1048576<bh:=by omega
 have h7:¬bh<0:=by omega
 have ar:((d/2:Nat):Int)-n+1<=100000:=by omega
 generalize ((d/2:Nat):Int)-n+1=T at R aa ar;have a4:1<=T:=by omega
 have h8:¬2*T-2<bh:=by omega
 have b0:(w.alloc (.cells #[.int .i64 n,.slice A0 E.length c0] 24)).cell? ⟨w.heap.size,0,none⟩=some (.int .i64 n):=(ai z.out 0).trans rfl;have b1:(w.alloc (.cells #[.int .i64 n,.slice A0 E.length c0] 24)).cell? ⟨w.heap.size,1,none⟩=some (.slice A0 E.length c0):=(ai z.out 1).trans rfl;have l:=zA G;clear H I hd J K M N x y O P hO Q G;go_enter Tryz.func82,Tryz.ntmps82
 go_wp2_with (first|(go_at_call 55;refine(H1.out _ (Kd.bE l.out _)).mono ?_;rintro e w1 ⟨rfl,hb⟩;have U:=zA (a7 (ao (al w.heap.size w) _) hb);have B:=zA (aJ z.out hb);clear hb;have y0:w1.cell? ⟨w.heap.size,0,none⟩=some (.int .i64 n):=(ai B.out 0).trans rfl;have y1:w1.cell? ⟨w.heap.size,1,none⟩=some (.slice A0 E.length c0):=(ai B.out 1).trans rfl)|(go_at_call 135;refine(R.out _ (Kd.aq l.out U.out)).mono ?_;rintro e w2 ⟨rfl,hb⟩;have V:=zA (a7 U.out hb);have D:=zA (aJ B.out hb);clear hb;have z0:w2.cell? ⟨w.heap.size,0,none⟩=some (.int .i64 n):=(ai D.out 0).trans rfl;have z1:w2.cell? ⟨w.heap.size,1,none⟩=some (.slice A0 E.length c0):=(ai D.out 1).trans rfl)|(go_at_call 136;refine(H3.out _ (Kd.aq l.out V.out)).mono ?_;rintro e w3 ⟨v,idx,rfl,hp,av,o,hb⟩;have X:=zA (a7 V.out hb);have X3:=zA (aJ D.out hb);have p:=wT (f:=cO bh) hp b.out;have F:=Fp hp b.out an.out;generalize (idx.map fun i=>(C.map (cO bh)).getD i.1 [])=L2 at o p F;have hlen:=p.length_eq;rw[List.length_map,b.out] at hlen;have aL:=zA (show L2.length<=16384 by have:=ap.out;have:=b.out;omega);obtain⟨gs,cs,rfl⟩:=Fo o (by omega);have HN:=zA o;have HP:=zA p;have aS:=zA F;clear hb o hp av p F hlen)|(go_at_call 137;(with_reducible refine(H4.out _ _ _ _ _ _ _ (Kd.aq l.out X.out) X3.out aL.out HN.out aS.out).mono ?_);rintro e w4 ⟨rfl,hb⟩;have a0:=zA (a7 X.out hb);clear hb))
 go_ret2;exact⟨_,HP.out,rfl,a0.out⟩
end
def cB:List S83:=[⟨0,1,1⟩,⟨0,2,1⟩,⟨1,2,1⟩]
def jf:List (List Int):=[[0,0,0],[0,0,1],[0,1,0]]
theorem Fs:d_.f 60 3 cB=some 0:=by decide+kernel
theorem Ft:∀u:Nat,u<3->∃e,cz.f 60 3 cB (u:Nat)=some (rd [2,2,2] u,e)
 |0,_=>⟨0,by decide+kernel⟩
 |1,_=>⟨0,by decide+kernel⟩
 |2,_=>⟨0,by decide+kernel⟩
theorem Fu:ke (ga [2,2,2] 3)=((6:Nat):Int):=by decide+kernel
theorem Fv:dL.f 60 3 cB []=some 0:=by decide+kernel
theorem Fw:fe.f 60 3 cB 0=some (jf,0):=by decide+kernel
theorem Fx:∀c∈jf,bz.f 60 (cO 0 c) 3=some 0:=by decide+kernel
def q6 (i j:Fin 3):Int:=(dj.f 60 ((jf.map (cO 0)).getD i.1 []) ((jf.map (cO 0)).getD j.1 [])).getD 0
theorem Fy:∀i j:Fin 3,dj.f 60 ((jf.map (cO 0)).getD i.1 []) ((jf.map (cO 0)).getD j.1 [])=some (q6 i j):=by decide+kernel
theorem Fz:Go.Sort.SWO (ltOf q6):=⟨by decide+kernel,by decide+kernel,by decide+kernel⟩
theorem q9 {d:List Int} (h:fY 3 cB 0 d=true):dP 3 0 cB d:=by
 obtain⟨n,q,hn,a,h1⟩:=oK h;obtain rfl:n=3:=by omega
 obtain rfl:q=0:=by omega
 exact h1
theorem FA:cJ ((3:Nat):Int) cB=0:=by decide+kernel
theorem FB:T.IsGenus 3 (timesOf cB) 1:=show T.sN (T.can 3 (timesOf cB)) 3=2*1-2 from by decide+kernel
theorem FC:Ev (fun k=>eU.f k 3 cB) ((3:Int),cB,(0:Int)):=Ev.at_ (eU.mono _ _) (k:=60) (by kernel_rfl)
theorem FD:Ev (fun k=>eT.f k 3 cB) ((1:Int),(0:Int)):=Ev.at_ (eT.mono _ _) (k:=60) (by decide+kernel)
theorem wU:dP 3 0 cB [0,0,0]:=q9 (by decide+kernel)
theorem FE:dP 3 0 cB [-1,0,1]:=q9 (by decide+kernel)
theorem FF:dP 3 0 cB [-1,1,0]:=q9 (by decide+kernel)
theorem oY:T.Wt 3 (timesOf cB):=wU.right.wt
theorem FG {c:Nat->Int} (h:(c 1=0/\c 2=1)\/(c 1=1/\c 2=0)):T.jW 3 (timesOf cB) 0 c:=fun S hS e=>by
 have t10:timesOf cB 1 0=1:=by decide+kernel
 have t12:timesOf cB 1 2=1:=by decide+kernel
 have t20:timesOf cB 2 0=1:=by decide+kernel
 have t21:timesOf cB 2 1=1:=by decide+kernel
 cases h1:S 1 with
 |true=>
  cases a:S 2 with
  |true=>
   rcases h with h|h
   ·exact⟨1,by omega,h1,by simp[T.sN,e,h1,a,t10,h.1]⟩
   ·exact⟨2,by omega,a,by simp[T.sN,e,h1,a,t20,h.2]⟩
  |false=>exact⟨1,by omega,h1,by simp[T.sN,e,h1,a,t10,t12];omega⟩
 |false=>
  cases a:S 2 with
  |true=>exact⟨2,by omega,a,by simp[T.sN,e,h1,a,t20,t21];omega⟩
  |false=>
   obtain⟨v,g,b⟩:=hS;match v,g with
   |0,_=>rw[e] at b;cases b
   |1,_=>rw[h1] at b;cases b
   |2,_=>rw[a] at b;cases b
theorem FH:T.bM 3 (timesOf cB) (fun _=>0) 0:=by
 obtain⟨r,a⟩:=T.gJ oY (by decide) (fun _=>(0:Int));have h1:r≠ -1:=fun e=>by
  subst e;exact(T.bM.jY (by decide) a).1 rfl (T.b9.nU fun _ _=>Int.le_refl _)
 have g:=a.1;have b:=a.mF oY (by decide) (by omega);rw[T.iY] at b;obtain rfl:r=0:=by omega
 exact a
theorem FJ:Rk 3 (timesOf cB) [0,0,0] 0:=mT (fun v a=>by
  match v,a with
  |0,_=>rfl
  |1,_=>rfl
  |2,_=>rfl) FH
theorem wV {d:List Int} (h:(rd d 1=0/\rd d 2=1)\/(rd d 1=1/\rd d 2=0)) (g:rd d 0= -1):Rk 3 (timesOf cB) d (-1):=by
 obtain⟨r,a⟩:=T.gJ oY (by decide) (fun v=>rd d (v:Nat));have hw:¬T.b9 3 (timesOf cB) (fun v=>rd d (v:Nat)):=fun hw=>by
  have a:=(T.mE oY (q:=0) (by decide) ⟨fun v b e=>by
   match v,b with
   |0,_=>exact absurd rfl e
   |1,_=>rcases h with h|h<;>(show 0<=rd d 1;omega)
   |2,_=>rcases h with h|h<;>(show 0<=rd d 2;omega),FG h⟩).1 hw
  have:(0:Int)<=rd d 0:=a;omega
 obtain rfl:=(T.bM.jY (by decide) a).2 hw;exact a
theorem q_ {d:List Int} (h:dP 3 0 cB d) {r:Int} (a:Rk 3 (timesOf cB) d r):Ev (fun k=>dy.f k 3 cB d) (r,(0:Int)):=
 qX (n:=3) h FA FC FD FB a
def kf (d:List Int):Int:=if d=[0,0,0] then 0 else -1
theorem FL:∃K,60<=K/\∀c∈jf,dy.f K 3 cB (cO 0 c)=some (kf (cO 0 c),0):=by
 obtain⟨b,g⟩:=q_ wU FJ;obtain⟨B1,h1⟩:=q_ FE (wV (.inl ⟨rfl,rfl⟩) rfl);obtain⟨e,h⟩:=q_ FF (wV (.inr ⟨rfl,rfl⟩) rfl);refine⟨60+b+B1+e,by omega,fun c a=>?_⟩;rcases List.mem_cons.1 a with rfl|a
 ·rw[show cO 0 [0,0,0]=[0,0,0] by decide+kernel,show kf [0,0,0]=0 by decide+kernel]
  exact g (60+b+B1+e) (by omega)
 rcases List.mem_cons.1 a with rfl|a
 ·rw[show cO 0 [0,0,1]=[-1,0,1] by decide+kernel,show kf [-1,0,1]= -1 by decide+kernel]
  exact h1 (60+b+B1+e) (by omega)
 rcases List.mem_cons.1 a with rfl|a
 ·rw[show cO 0 [0,1,0]=[-1,1,0] by decide+kernel,show kf [-1,1,0]= -1 by decide+kernel]
  exact h (60+b+B1+e) (by omega)
 ·cases a
open Classical in
noncomputable def fJ.f (k:Nat) (a:Int) (b:List (S83)) (e:Int):Option (Int×Int):=if a=3/\b=cB/\e=0 then some (0,0) else none
theorem fJ.mono:∀a b e k,aj (fJ.f k a b e) (fJ.f (k+1) a b e):=fun _ _ _ _=>aj.refl _
theorem FM (A0:Option Addr) (c0:Nat) (w:World) (b:Kd.C aN w A0 cB.length cB) (g:cB.length<=c0):
  Calls Tryz.prog 82 #[.agg #[.int .i64 3,.slice A0 cB.length c0],.int .i64 0] w fun e w'=>e= .returned (.tuple #[.int .i64 0,.int .i64 0])/\Below w.heap.size w w':=by
 obtain⟨K,a,h⟩:=FL;refine(Fq K 3 2 6 A0 c0 cB 0 [2,2,2] jf kf q6 w b g (by decide) (by decide) (by decide) (by decide)
  (kX (d_.mono _ _) a Fs) (fun u hu=>by obtain⟨e,he⟩:=Ft u hu;exact⟨e,kX (cz.mono _ _ _) a he⟩) Fu (by decide) (by decide)
  (kX (dL.mono _ _ _) a Fv) (kX (fe.mono _ _ _) a Fw) (by decide+kernel) rfl (by decide) (fun c k=>kX (bz.mono _ _) a (Fx c k)) (fun i j=>kX (dj.mono _ _) a (Fy i j)) Fz h).mono ?_
 rintro e w' ⟨L,hp,rfl,hb⟩;have h1:iT kf L=iT kf (jf.map (cO 0)):=hp.foldl_eq' (fun x _ y _ z=>by omega) _;have l:iT kf (jf.map (cO 0))=0:=by decide+kernel
 rw[h1,l];exact⟨rfl,hb⟩
theorem fJ.calls (k:Nat) (b:Int) (g:Option Addr) (i:Nat) (a:List (S83)) (j:Int) (m:Int) (n:Int) (w:World) (o:Kd.C aN w g a.length a) (p:a.length<=i) (h:fJ.f k b a j=some (m,n)):
  Calls Tryz.prog 82 #[.agg #[.int .i64 b,.slice g a.length i],.int .i64 j] w fun e w'=>e= .returned (.tuple #[.int .i64 m,.int .i64 n])/\Below w.heap.size w w':=by
 unfold fJ.f at h;by_cases l:b=3/\a=cB/\j=0
 ·rw[if_pos l] at h
  obtain⟨rfl,rfl,rfl⟩:=l;injection h with h
  injection h with h1 q
  subst h1 q;exact FM g i w o p
 ·rw[if_neg l] at h;cases h
theorem FN:Ev (fun k=>fJ.f k 3 cB 0) ((0:Int),(0:Int)):=Ev.at_ (fJ.mono _ _ _) (k:=0) (by unfold fJ.f;rw[if_pos ⟨rfl,rfl,rfl⟩])
end Go.Proofs.YtffdiakgjakngaaGreat.P


namespace Go.Proofs.YtffdiakgjakngaaGreat.P
open Go.RowKit Go.Proofs.YtffdiakgjakngaaGreatW.PrintWords Go.Proofs.YtffdiakgjakngaaGreatW.PrintLast Go.Proofs.YtffdiakgjakngaaGreatW.PrintMore
set_option linter.unusedVariables false
set_option linter.unusedSimpArgs false
set_option maxHeartbeats 8000000
set_option maxRecDepth 100000
section
attribute [local go_sem] jk jl jm jn mo mq mr mu
noncomputable def bH.j0:Nat->List (List Int)->Bool->Option (Bool)
 |0,_,_=>none
 |k+1,a,b=>if b=true then(some false) else(if 0<(a.length:Int) then((bL.f k (aZ a 0) (([(-1),0,1]:List Int))).bind fun t259=>(if t259=true then(if 1<(a.length:Int) then((bL.f k (aZ a 1) (([(-1),1,0]:List Int))).bind fun t264=>(some t264)) else(none)) else(some false))) else(none))
noncomputable def bH.f (k:Nat):Option (Bool):=(some (([(⟨0,1,1⟩:S83),(⟨0,2,1⟩:S83),(⟨0,3,1⟩:S83),(⟨1,2,1⟩:S83),(⟨1,3,1⟩:S83),(⟨2,3,1⟩:S83)]:List (S83)):List (S83))).bind fun b=>((some (([(⟨0,1,1⟩:S83),(⟨0,2,1⟩:S83),(⟨1,2,1⟩:S83)]:List (S83)):List (S83))).bind fun e=>((dT.f k 4 b).bind fun g=>((dJ.f k 4 b (([1,1,1,0]:List Int))).bind fun h=>((ir.f k 4 b (([1,1,1,0]:List Int))).bind fun i=>((ct.f k 3 e 0).bind fun a=>((fJ.f k 3 e 0).bind fun j=>(if(wrap64 ((wrap64 ((wrap64 ((wrap64 (g.2+h.2))+i.2))+a.2))+j.2))=0 then((bL.f k g.1 (([1,1,1,1]:List Int))).bind fun t250=>(if t250=true then((bL.f k h.1 (([0,0,0,1]:List Int))).bind fun t254=>(if t254=true then(if i.1=1 then(if j.1=0 then(bH.j0 k a.1 ((a.1.length:Int) != 2)) else(bH.j0 k a.1 true)) else(bH.j0 k a.1 true)) else(bH.j0 k a.1 true))) else(bH.j0 k a.1 true))) else(bH.j0 k a.1 true))))))))
theorem bH.cn:∀k,(∀a b,aj (bH.j0 k a b) (bH.j0 (k+1) a b))
 |0=>fun _ _ r h=>by simp[bH.j0] at h
 |k+1=>by
  have e:=bH.cn k
  ·intro a b
   unfold bH.j0;with_reducible repeat' first|exact e _ _|exact bL.mono _ _ _|exact ir.mono _ _ _ _|exact fJ.mono _ _ _ _|exact dT.mono _ _ _|exact dJ.mono _ _ _ _|exact ct.mono _ _ _ _|exact aj.refl _|exact aj.none _|refine aj.ite ?_ ?_|refine aj.bind ?_ (fun _=>?_)
theorem bH.calls (k:Nat)  (r:Bool) (hr:Aside0 (r=true)) (w:World) (h:bH.f k=some r):
  Calls Tryz.prog 26 #[] w fun e w'=>e= .returned (.bool r)/\Below w.heap.size w w':=by
 have hI:=Tryz.underlying83;have hJ:=Tryz.underlying24;have l:=zA (al w.heap.size w);unfold bH.f at h;have H:=h;clear h;obtain⟨B,cq⟩:∃F:List (S83),F=(([(⟨0,1,1⟩:S83),(⟨0,2,1⟩:S83),(⟨0,3,1⟩:S83),(⟨1,2,1⟩:S83),(⟨1,3,1⟩:S83),(⟨2,3,1⟩:S83)]:List (S83))):=⟨_,rfl⟩;replace H:((some (([(⟨0,1,1⟩:S83),(⟨0,2,1⟩:S83),(⟨1,2,1⟩:S83)]:List (S83)):List (S83))).bind fun E=>((dT.f k 4 B).bind fun a4=>((dJ.f k 4 B (([1,1,1,0]:List Int))).bind fun aB=>((ir.f k 4 B (([1,1,1,0]:List Int))).bind fun Q=>((ct.f k 3 E 0).bind fun v=>((fJ.f k 3 E 0).bind fun S=>(if(wrap64 ((wrap64 ((wrap64 ((wrap64 (a4.2+aB.2))+Q.2))+v.2))+S.2))=0 then((bL.f k a4.1 (([1,1,1,1]:List Int))).bind fun t250=>(if t250=true then((bL.f k aB.1 (([0,0,0,1]:List Int))).bind fun t254=>(if t254=true then(if Q.1=1 then(if S.1=0 then(bH.j0 k v.1 ((v.1.length:Int) != 2)) else(bH.j0 k v.1 true)) else(bH.j0 k v.1 true)) else(bH.j0 k v.1 true))) else(bH.j0 k v.1 true))) else(bH.j0 k v.1 true))))))))=some r:=zh cq H;have d2:=zA cq;clear cq;obtain⟨E,cr⟩:∃F:List (S83),F=(([(⟨0,1,1⟩:S83),(⟨0,2,1⟩:S83),(⟨1,2,1⟩:S83)]:List (S83))):=⟨_,rfl⟩;replace H:((dT.f k 4 B).bind fun a4=>((dJ.f k 4 B (([1,1,1,0]:List Int))).bind fun aB=>((ir.f k 4 B (([1,1,1,0]:List Int))).bind fun Q=>((ct.f k 3 E 0).bind fun v=>((fJ.f k 3 E 0).bind fun S=>(if(wrap64 ((wrap64 ((wrap64 ((wrap64 (a4.2+aB.2))+Q.2))+v.2))+S.2))=0 then((bL.f k a4.1 (([1,1,1,1]:List Int))).bind fun t250=>(if t250=true then((bL.f k aB.1 (([0,0,0,1]:List Int))).bind fun t254=>(if t254=true then(if Q.1=1 then(if S.1=0 then(bH.j0 k v.1 ((v.1.length:Int) != 2)) else(bH.j0 k v.1 true)) else(bH.j0 k v.1 true)) else(bH.j0 k v.1 true))) else(bH.j0 k v.1 true))) else(bH.j0 k v.1 true)))))))=some r:=zh cr H;have d3:=zA cr;clear cr;obtain⟨⟨t225,t228⟩,A1,H⟩:=zo H;dsimp only at H;obtain⟨b0,cv⟩:∃F:List Int,F=(([1,1,1,0]:List Int)):=⟨_,rfl⟩;replace H:((dJ.f k 4 B b0).bind fun aB=>((ir.f k 4 B (([1,1,1,0]:List Int))).bind fun Q=>((ct.f k 3 E 0).bind fun v=>((fJ.f k 3 E 0).bind fun S=>(if(wrap64 ((wrap64 ((wrap64 ((wrap64 (t228+aB.2))+Q.2))+v.2))+S.2))=0 then((bL.f k t225 (([1,1,1,1]:List Int))).bind fun t250=>(if t250=true then((bL.f k aB.1 (([0,0,0,1]:List Int))).bind fun t254=>(if t254=true then(if Q.1=1 then(if S.1=0 then(bH.j0 k v.1 ((v.1.length:Int) != 2)) else(bH.j0 k v.1 true)) else(bH.j0 k v.1 true)) else(bH.j0 k v.1 true))) else(bH.j0 k v.1 true))) else(bH.j0 k v.1 true))))))=some r:=zh cv H;have d4:=zA cv;clear cv;obtain⟨⟨t232,t235⟩,A2,H⟩:=zo H;dsimp only at H;obtain⟨b1,cx⟩:∃F:List Int,F=(([1,1,1,0]:List Int)):=⟨_,rfl⟩;replace H:((ir.f k 4 B b1).bind fun Q=>((ct.f k 3 E 0).bind fun v=>((fJ.f k 3 E 0).bind fun S=>(if(wrap64 ((wrap64 ((wrap64 ((wrap64 (t228+t235))+Q.2))+v.2))+S.2))=0 then((bL.f k t225 (([1,1,1,1]:List Int))).bind fun t250=>(if t250=true then((bL.f k t232 (([0,0,0,1]:List Int))).bind fun t254=>(if t254=true then(if Q.1=1 then(if S.1=0 then(bH.j0 k v.1 ((v.1.length:Int) != 2)) else(bH.j0 k v.1 true)) else(bH.j0 k v.1 true)) else(bH.j0 k v.1 true))) else(bH.j0 k v.1 true))) else(bH.j0 k v.1 true)))))=some r:=zh cx H
 have d5:=zA cx;clear cx;obtain⟨⟨t239,t240⟩,A3,H⟩:=zo H;dsimp only at H;obtain⟨⟨t241,t244⟩,A4,H⟩:=zo H;dsimp only at H;obtain⟨⟨t245,t246⟩,A5,H⟩:=zo H;dsimp only at H;have c0:=zA H;clear H;go_enter Tryz.func26,Tryz.ntmps26
 go_upto_region 8 with (first|((with_reducible refine aH (N:=19) rfl ?_);(try(refine dt (by rfl) ?_;dsimp only));refine Kd.eY aN _ 83 ?hg (N:=19) ?hd (xs:=([(⟨0,1,1⟩:S83),(⟨0,2,1⟩:S83),(⟨0,3,1⟩:S83),(⟨1,2,1⟩:S83),(⟨1,3,1⟩:S83),(⟨2,3,1⟩:S83)]:List (S83))) (inner:=[.int .i64 0,.int .i64 1,.int .i64 1,.int .i64 0,.int .i64 2,.int .i64 1,.int .i64 0,.int .i64 3,.int .i64 1,.int .i64 1,.int .i64 2,.int .i64 1,.int .i64 1,.int .i64 3,.int .i64 1,.int .i64 2,.int .i64 3,.int .i64 1]) (ok:=fun _=>True) (okp:=fun _=>True) ?hr ?hp (fun _ hk=>hk) trivial (al _ _) (aI _) (by simp) ?_;(case hd=>rfl);(case hg=>rfl);(case hr=>first|(go_simp;done)|(go_simp;rfl));(case hp=>exact(aR.c3 (show Kd.M aN _ _ _ (⟨0,1,1⟩:S83) [.int .i64 0,.int .i64 1,.int .i64 1] from(iX _ _ _ (⟨0,1,1⟩:S83))) (aR.c3 (show Kd.M aN _ _ _ (⟨0,2,1⟩:S83) [.int .i64 0,.int .i64 2,.int .i64 1] from(iX _ _ _ (⟨0,2,1⟩:S83))) (aR.c3 (show Kd.M aN _ _ _ (⟨0,3,1⟩:S83) [.int .i64 0,.int .i64 3,.int .i64 1] from(iX _ _ _ (⟨0,3,1⟩:S83))) (aR.c3 (show Kd.M aN _ _ _ (⟨1,2,1⟩:S83) [.int .i64 1,.int .i64 2,.int .i64 1] from(iX _ _ _ (⟨1,2,1⟩:S83))) (aR.c3 (show Kd.M aN _ _ _ (⟨1,3,1⟩:S83) [.int .i64 1,.int .i64 3,.int .i64 1] from(iX _ _ _ (⟨1,3,1⟩:S83))) (aR.c3 (show Kd.M aN _ _ _ (⟨2,3,1⟩:S83) [.int .i64 2,.int .i64 3,.int .i64 1] from(iX _ _ _ (⟨2,3,1⟩:S83))) (aR.none _ _))))))));intro v218 w7 a5 hb y z;clear y z;(first|rw[<-d2.out] at a5|(simp only[Int.reduceToNat] at a5;rw[<-d2.out] at a5));have i:=zA (Kd.bc a5 (bs zB));replace l:=zS l hb;clear hb a5;obtain⟨J,G,e2⟩:=Kd.bm i.out;subst e2)|((with_reducible refine aH (N:=1) rfl ?_);(try(refine dt (by rfl) ?_;dsimp only));refine zX 1 #[.int .i64 0,.slice none 0 0] 24 ?_;intro K hg hL a9 hb;replace i:=bp i hb;have b:=zA (a9);have hM:=zG l hg;have hN:=zG l hg;replace l:=zS l hb;clear hb a9 hg;obtain⟨e3,e4,e5,e6⟩:=au b)|((with_reducible refine aH (N:=24) rfl ?_);(try(refine dt (by rfl) ?_;dsimp only));refine Kd.eY aN _ 83 ?hg (N:=24) ?hd (xs:=([(⟨0,1,1⟩:S83),(⟨0,2,1⟩:S83),(⟨1,2,1⟩:S83)]:List (S83))) (inner:=[.int .i64 0,.int .i64 1,.int .i64 1,.int .i64 0,.int .i64 2,.int .i64 1,.int .i64 1,.int .i64 2,.int .i64 1]) (ok:=fun _=>True) (okp:=fun _=>True) ?hr ?hp (fun _ hk=>hk) trivial (al _ _) (aI _) (by simp) ?_;(case hd=>rfl);(case hg=>rfl);(case hr=>first|(go_simp;done)|(go_simp;rfl));(case hp=>exact(aR.c3 (show Kd.M aN _ _ _ (⟨0,1,1⟩:S83) [.int .i64 0,.int .i64 1,.int .i64 1] from(iX _ _ _ (⟨0,1,1⟩:S83))) (aR.c3 (show Kd.M aN _ _ _ (⟨0,2,1⟩:S83) [.int .i64 0,.int .i64 2,.int .i64 1] from(iX _ _ _ (⟨0,2,1⟩:S83))) (aR.c3 (show Kd.M aN _ _ _ (⟨1,2,1⟩:S83) [.int .i64 1,.int .i64 2,.int .i64 1] from(iX _ _ _ (⟨1,2,1⟩:S83))) (aR.none _ _)))));intro v222 hO a0 hb y z;clear y z;(first|rw[<-d3.out] at a0|(simp only[Int.reduceToNat] at a0;rw[<-d3.out] at a0));have q:=zA (Kd.bc (Kd.bJ a0 (Kd.a_ (by(with_reducible repeat(first|apply Kd.aM|apply Kd.bB|apply Kd.bq));exact(Kd.ba (Kd.dV (p:=⟨K,1,none⟩) (Kd.dV (p:=⟨K,0,none⟩) (Kd.gX i.out b.out (by decide)) (fun _ hk=>hk.2) (.int .i64 4)) (fun _ hk=>hk.2) (.slice J B.length G)) (fun _ h_=>h_.1))))) (bs zB));replace i:=zA (Kd.rR (by(with_reducible repeat(first|apply Kd.aM|apply Kd.bB|apply Kd.bq));exact(Kd.ba (Kd.dV (p:=⟨K,1,none⟩) (Kd.dV (p:=⟨K,0,none⟩) (Kd.gX i.out b.out (by decide)) (fun _ hk=>hk.2) (.int .i64 4)) (fun _ hk=>hk.2) (.slice J B.length G)) (fun _ h_=>h_.1))) (Kd.dz a0) hb);replace b:=zA (aJ (g:=K) (o:=.cells #[.int .i64 4,.slice J B.length G] 24 (0,0)) (by refine zk ?_;refine bC (cs:=#[.int .i64 4,.slice none 0 0]) ?_ 1 _ rfl;refine zk ?_;refine bC (cs:=#[.int .i64 0,.slice none 0 0]) ?_ 0 _ rfl;exact zK b) hb);replace l:=zS l hb;clear hb a0;obtain⟨L,O,e'⟩:=Kd.bm q.out;subst e')|((with_reducible refine aH (N:=2) rfl ?_);(try(refine dt (by rfl) ?_;dsimp only));refine zX 2 #[.int .i64 0,.slice none 0 0] 24 ?_;intro P hg hP a9 hb;replace i:=bp i hb;replace q:=bp q hb;have j:=zA (a9);have hQ:=zG l hg;have hR:=zG l hg;replace l:=zS l hb;have c1:=zA ((by rw[hg];exact Nat.ne_of_lt (az (g:=K) (o:=.cells #[.int .i64 4,.slice J B.length G] 24 (0,0)) (zK b)):K≠P));have fb:=zA ((by rw[hg];exact Nat.ne_of_gt (az (g:=K) (o:=.cells #[.int .i64 4,.slice J B.length G] 24 (0,0)) (zK b)):P≠K));replace b:=zb b hb;clear hb a9 hg;have hT:=fb.out;have hV:=c1.out;obtain⟨fd,fn,fo,fq⟩:=au j;obtain⟨fr,ft,fv,f0⟩:=au b)|((with_reducible refine aC (f:=35) rfl ?_);refine zL (some 28) Tryz.func35 #[.agg #[.int .i64 4,.slice J B.length G]] ?_;(with_reducible refine(dT.calls k 4 _ _ B t225 t228 _ ?af ?ah A1.out).mono ?_);(case af=>refine(Kd.aG (e:=83) (base:=w.heap.size) (ok:=fun C=>(True/\some C≠(.slice L E.length O:Value).ownBlock)) (n:=B.length) (c:=G) ?_).2.2;exact(by(with_reducible repeat(first|apply Kd.aM|apply Kd.bB|apply Kd.bq));exact(Kd.ba (Kd.dV (p:=⟨P,1,none⟩) (Kd.dV (p:=⟨P,0,none⟩) (Kd.gX i.out j.out (by decide)) (fun _ hk=>hk.2) (.int .i64 3)) (fun _ hk=>hk.2) (.slice L E.length O)) (fun _ h_=>h_.1))));(case ah=>exact(Kd.aG i.out).2.1);rintro e hW ⟨v226,rfl,aa,hb⟩;refine⟨_,rfl,?_⟩;replace i:=zA (Kd.cR (by(with_reducible repeat(first|apply Kd.aM|apply Kd.bB|apply Kd.bq));exact(Kd.ba (Kd.dV (p:=⟨P,1,none⟩) (Kd.dV (p:=⟨P,0,none⟩) (Kd.gX i.out j.out (by decide)) (fun _ hk=>hk.2) (.int .i64 3)) (fun _ hk=>hk.2) (.slice L E.length O)) (fun _ h_=>h_.1))) hb);replace q:=zA (Kd.cR (by(with_reducible repeat(first|apply Kd.aM|apply Kd.bB|apply Kd.bq));exact(Kd.ba (Kd.dV (p:=⟨P,1,none⟩) (Kd.dV (p:=⟨P,0,none⟩) (Kd.gX q.out j.out (by decide)) (fun _ hk=>hk.2) (.int .i64 3)) (fun _ hk=>hk.2) (.slice L E.length O)) (fun _ h_=>h_.1))) hb);have a:=zA (Kd.bc aa (bs zB));replace b:=zA (aJ (g:=K) (o:=.cells #[.int .i64 4,.slice J B.length G] 24 (0,0)) (by refine zk ?_;refine aD ?_ c1.out _;refine zk ?_;refine aD ?_ c1.out _;exact zK b) hb);replace j:=zA (aJ (g:=P) (o:=.cells #[.int .i64 3,.slice L E.length O] 24 (0,0)) (by refine zk ?_;refine bC (cs:=#[.int .i64 3,.slice none 0 0]) ?_ 1 _ rfl;refine zk ?_;refine bC (cs:=#[.int .i64 0,.slice none 0 0]) ?_ 0 _ rfl;exact zK j) hb);replace l:=zS l hb;(try clear hb);(try clear aa);obtain⟨f1,f2,f3,f4⟩:=au b)|((with_reducible refine aH (N:=33) rfl ?_);(try(refine dt (by rfl) ?_;dsimp only));refine Kd.eY (Kd.int .i64) _ 3 ?hg (N:=33) ?hd (xs:=([1,1,1,0]:List Int)) (inner:=[.int .i64 1,.int .i64 1,.int .i64 1,.int .i64 0]) (ok:=fun _=>True) (okp:=fun _=>True) ?hr ?hp (fun _ hk=>hk) trivial (al _ _) (aI _) (by simp) ?_;(case hd=>rfl);(case hg=>rfl);(case hr=>first|(go_simp;done)|(go_simp;rfl));(case hp=>exact(aR.one (show Kd.M (Kd.int .i64) _ _ _ 1 [.int .i64 1] from rfl) (aR.one (show Kd.M (Kd.int .i64) _ _ _ 1 [.int .i64 1] from rfl) (aR.one (show Kd.M (Kd.int .i64) _ _ _ 1 [.int .i64 1] from rfl) (aR.one (show Kd.M (Kd.int .i64) _ _ _ 0 [.int .i64 0] from rfl) (aR.none _ _))))));intro hX hY a1 hb y z;clear y z;(first|rw[<-d4.out] at a1|(simp only[Int.reduceToNat] at a1;rw[<-d4.out] at a1));replace i:=bp i hb;replace q:=bp q hb;have s:=zA (Kd.bc (Kd.bJ a1 (Kd.a_ (zR a))) (bs zB));replace a:=bN a a1 hb;replace b:=zb b hb;replace j:=zb j hb;replace l:=zS l hb;clear hb a1;obtain⟨d6,d7,f5⟩:=Kd.bm s.out;subst f5)|((with_reducible refine aC (f:=32) rfl ?_);refine zL (some 34) Tryz.func32 #[.agg #[.int .i64 4,.slice J B.length G],.slice d6 b0.length d7] ?_;(with_reducible refine(dJ.calls k 4 _ _ B _ _ b0 t232 t235 _ ?af ?ah ?aT ?aU A2.out).mono ?_);(case af=>exact zC (Kd.aG i.out).2.2);(case ah=>exact(Kd.aG i.out).2.1);(case aT=>exact zC (Kd.aG s.out).2.2);(case aU=>exact(Kd.aG s.out).2.1);rintro e h0 ⟨v233,rfl,aa,hb⟩;refine⟨_,rfl,?_⟩;replace i:=bp i hb;replace q:=bp q hb;have m:=zA (Kd.bc (Kd.bJ (Kd.bJ aa (Kd.a_ (zR a))) (Kd.a_ (zR s))) (bs zB));replace a:=bN a aa hb;replace s:=bN s aa hb;replace b:=zb b hb;replace j:=zb j hb;replace l:=zS l hb;(try clear hb);(try clear aa);obtain⟨f6,f7,f8,f9⟩:=au b)|((with_reducible refine aH (N:=39) rfl ?_);(try(refine dt (by rfl) ?_;dsimp only));refine Kd.eY (Kd.int .i64) _ 3 ?hg (N:=39) ?hd (xs:=([1,1,1,0]:List Int)) (inner:=[.int .i64 1,.int .i64 1,.int .i64 1,.int .i64 0]) (ok:=fun _=>True) (okp:=fun _=>True) ?hr ?hp (fun _ hk=>hk) trivial (al _ _) (aI _) (by simp) ?_;(case hd=>rfl);(case hg=>rfl);(case hr=>first|(go_simp;done)|(go_simp;rfl));(case hp=>exact(aR.one (show Kd.M (Kd.int .i64) _ _ _ 1 [.int .i64 1] from rfl) (aR.one (show Kd.M (Kd.int .i64) _ _ _ 1 [.int .i64 1] from rfl) (aR.one (show Kd.M (Kd.int .i64) _ _ _ 1 [.int .i64 1] from rfl) (aR.one (show Kd.M (Kd.int .i64) _ _ _ 0 [.int .i64 0] from rfl) (aR.none _ _))))));intro h1 h2 aF hb y z;clear y z;(first|rw[<-d5.out] at aF|(simp only[Int.reduceToNat] at aF;rw[<-d5.out] at aF));replace i:=bp i hb;replace q:=bp q hb;have u:=zA (Kd.bc (Kd.bJ (Kd.bJ (Kd.bJ aF (Kd.a_ (zR a))) (Kd.a_ (zR s))) (Kd.a_ (zR m))) (bs zB));replace a:=bN a aF hb;replace s:=bN s aF hb;replace m:=bN m aF hb;replace b:=zb b hb;replace j:=zb j hb;replace l:=zS l hb;clear hb aF;obtain⟨d8,d9,f'⟩:=Kd.bm u.out;subst f')|((with_reducible refine aC (f:=27) rfl ?_);refine zL (some 40) Tryz.func27 #[.agg #[.int .i64 4,.slice J B.length G],.slice d8 b1.length d9] ?_;(with_reducible refine(ir.calls k 4 _ _ B _ _ b1 t239 t240 _ ?af ?ah ?aT ?aU A3.out).mono ?_);(case af=>exact zC (Kd.aG i.out).2.2);(case ah=>exact(Kd.aG i.out).2.1);(case aT=>exact zC (Kd.aG u.out).2.2);(case aU=>exact(Kd.aG u.out).2.1);rintro e h3 ⟨rfl,hb⟩;refine⟨_,rfl,?_⟩;replace i:=bp i hb;replace q:=bp q hb;replace a:=bp a hb;replace s:=bp s hb;replace m:=bp m hb;replace u:=bp u hb;replace b:=zb b hb;replace j:=zb j hb;replace l:=zS l hb;(try clear hb);obtain⟨gb,gc,gd,ge⟩:=au j)|((with_reducible refine aC (f:=15) rfl ?_);refine zL (some 45) Tryz.func15 #[.agg #[.int .i64 3,.slice L E.length O],.int .i64 0] ?_;(with_reducible refine(ct.calls k 3 _ _ E 0 t241 t244 _ ?af ?ah A4.out).mono ?_);(case af=>exact zC (Kd.aG q.out).2.2);(case ah=>exact(Kd.aG q.out).2.1);rintro e h4 ⟨gf,rfl,aa,hb⟩;refine⟨_,rfl,?_⟩;have D:=zA (Kd.mh (Kd.eE (ok':=fun C=>some C≠(.slice J B.length G:Value).ownBlock/\some C≠(.slice L E.length O:Value).ownBlock/\some C≠(v226:Value).ownBlock/\some C≠(.slice d6 b0.length d7:Value).ownBlock/\some C≠(v233:Value).ownBlock/\some C≠(.slice d8 b1.length d9:Value).ownBlock/\C≠K/\C≠P) aa (fun C aL=>⟨(Kd.ki (Kd.a_ (zR i)) C aL),(Kd.ki (Kd.a_ (zR q)) C aL),(Kd.ki (Kd.a_ (zR a)) C aL),(Kd.ki (Kd.a_ (zR s)) C aL),(Kd.ki (Kd.a_ (zR m)) C aL),(Kd.ki (Kd.a_ (zR u)) C aL),(Kd.ll (zK b) C aL),(Kd.ll (zK j) C aL)⟩)) (bs zB));replace i:=bp i hb;replace q:=bp q hb;replace a:=bp a hb;replace s:=bp s hb;replace m:=bp m hb;replace u:=bp u hb;replace b:=zb b hb;replace j:=zb j hb;replace l:=zS l hb;(try clear hb);(try clear aa);obtain⟨gg,gi,gl,gm⟩:=au j)|((with_reducible refine aC (f:=82) rfl ?_);refine zL (some 50) Tryz.func82 #[.agg #[.int .i64 3,.slice L E.length O],.int .i64 0] ?_;(with_reducible refine(fJ.calls k 3 _ _ E 0 t245 t246 _ ?af ?ah A5.out).mono ?_);(case af=>exact zC (Kd.aG q.out).2.2);(case ah=>exact(Kd.aG q.out).2.1);rintro e h5 ⟨rfl,hb⟩;refine⟨_,rfl,?_⟩;replace i:=bp i hb;replace q:=bp q hb;replace a:=bp a hb;replace s:=bp s hb;replace m:=bp m hb;replace u:=bp u hb;replace D:=zp D hb;replace b:=zb b hb;replace j:=zb j hb;replace l:=zS l hb;(try clear hb)))
 (try simp only[Act.put,List.setIfInBounds_toArray,List.set_cons_zero,List.set_cons_succ])
 go_cut [87] (fun v87 wc=>∃(kq:Nat) (b3:Bool),v87= .bool b3/\Aside0 (bH.j0 kq t241 b3=some r)/\Aside0 (kq<=k)/\Aside0 (Kd.N (Kd.slice 3 (Kd.int .i64)) 26 wc w.heap.size (fun C=>some C≠((.slice J B.length G):Value).ownBlock/\some C≠((.slice L E.length O):Value).ownBlock/\C≠K/\C≠P) gf t241)/\Aside0 (Kd.R aN 83 wc w.heap.size (fun C=>some C≠((.slice L E.length O):Value).ownBlock) (.slice J B.length G) B)/\Aside0 (Kd.R aN 83 wc w.heap.size (fun C=>some C≠((.slice J B.length G):Value).ownBlock) (.slice L E.length O) E)/\Aside0 (wc.heap[K]? =some (.cells #[.int .i64 4,(.slice J B.length G)] 24 (0,0)))/\Aside0 (wc.heap[P]? =some (.cells #[.int .i64 3,(.slice L E.length O)] 24 (0,0)))/\Aside0 (Below w.heap.size w wc))
 case first=>
  have H:=c0.out;clear c0;by_cases be:(wrap64 ((wrap64 ((wrap64 ((wrap64 (t228+t235))+t240))+t244))+t246))=0
  ·rw[if_pos be] at H
   obtain⟨bf,gn⟩:=br be;clear be
   (first|rw[bf]|(simp only[aW,aX];rw[bf])|skip)
   obtain⟨a2,c2⟩:∃F:List Int,F=(([1,1,1,1]:List Int)):=⟨_,rfl⟩;replace H:((bL.f k t225 a2).bind fun t250=>(if t250=true then((bL.f k t232 (([0,0,0,1]:List Int))).bind fun t254=>(if t254=true then(if t239=1 then(if t245=0 then(bH.j0 k t241 ((t241.length:Int) != 2)) else(bH.j0 k t241 true)) else(bH.j0 k t241 true)) else(bH.j0 k t241 true))) else(bH.j0 k t241 true)))=some r:=zh c2 H;have ab:=zA c2;clear c2;obtain⟨t250,bg,H⟩:=zo H;by_cases b4:t250=true
   ·subst b4
    replace H:=zi H;obtain⟨bi,c4⟩:∃F:List Int,F=(([0,0,0,1]:List Int)):=⟨_,rfl⟩;replace H:((bL.f k t232 bi).bind fun t254=>(if t254=true then(if t239=1 then(if t245=0 then(bH.j0 k t241 ((t241.length:Int) != 2)) else(bH.j0 k t241 true)) else(bH.j0 k t241 true)) else(bH.j0 k t241 true)))=some r:=zh c4 H;have aO:=zA c4;clear c4;obtain⟨t254,b5,H⟩:=zo H;by_cases b6:t254=true
    ·subst b6
     replace H:=zi H;by_cases bk:t239=1
     ·rw[if_pos bk] at H
      obtain⟨go,gp⟩:=br bk;clear bk;by_cases bn:t245=0
      ·rw[if_pos bn] at H
       obtain⟨gq,gr⟩:=br bn;clear bn;have T:=zA H;clear H;go_wp2_with (first|((with_reducible refine aH (N:=65) rfl ?_);(try(refine dt (by rfl) ?_;dsimp only));refine Kd.eY (Kd.int .i64) _ 3 ?hg (N:=65) ?hd (xs:=([1,1,1,1]:List Int)) (inner:=[.int .i64 1,.int .i64 1,.int .i64 1,.int .i64 1]) (ok:=fun _=>True) (okp:=fun _=>True) ?hr ?hp (fun _ hk=>hk) trivial (al _ _) (aI _) (by simp) ?_;(case hd=>rfl);(case hg=>rfl);(case hr=>first|(go_simp;done)|(go_simp;rfl));(case hp=>exact(aR.one (show Kd.M (Kd.int .i64) _ _ _ 1 [.int .i64 1] from rfl) (aR.one (show Kd.M (Kd.int .i64) _ _ _ 1 [.int .i64 1] from rfl) (aR.one (show Kd.M (Kd.int .i64) _ _ _ 1 [.int .i64 1] from rfl) (aR.one (show Kd.M (Kd.int .i64) _ _ _ 1 [.int .i64 1] from rfl) (aR.none _ _))))));intro b_ h6 ad hb y z;clear y z;(first|rw[<-ab.out] at ad|(simp only[Int.reduceToNat] at ad;rw[<-ab.out] at ad));replace i:=bp i hb;replace q:=bp q hb;replace D:=gC D ad hb;have x:=zA (Kd.bc (Kd.bJ (Kd.bJ (Kd.bJ (Kd.bJ ad (Kd.a_ (zR a))) (Kd.a_ (zR s))) (Kd.a_ (zR m))) (Kd.a_ (zR u))) (bs zB));replace a:=bN a ad hb;replace s:=bN s ad hb;replace m:=bN m ad hb;replace u:=bN u ad hb;replace b:=zb b hb;replace j:=zb j hb;replace l:=zS l hb;clear hb ad;obtain⟨h7,h8,gs⟩:=Kd.bm a.out;subst gs;obtain⟨h9,h',gt⟩:=Kd.bm x.out;subst gt)|(go_at_call 33;(with_reducible refine(bL.calls k _ _ t225 _ _ a2 true _ ?af ?ah ?aT ?aU bg.out).mono ?_);(case af=>exact zC (Kd.aG a.out).2.2);(case ah=>exact(Kd.aG a.out).2.1);(case aT=>exact zC (Kd.aG x.out).2.2);(case aU=>exact(Kd.aG x.out).2.1);rintro e w' ⟨rfl,⟨nd,rfl⟩⟩)|((with_reducible refine aH (N:=71) rfl ?_);(try(refine dt (by rfl) ?_;dsimp only));refine Kd.eY (Kd.int .i64) _ 3 ?hg (N:=71) ?hd (xs:=([0,0,0,1]:List Int)) (inner:=[.int .i64 0,.int .i64 0,.int .i64 0,.int .i64 1]) (ok:=fun _=>True) (okp:=fun _=>True) ?hr ?hp (fun _ hk=>hk) trivial (al _ _) (aI _) (by simp) ?_;(case hd=>rfl);(case hg=>rfl);(case hr=>first|(go_simp;done)|(go_simp;rfl));(case hp=>exact(aR.one (show Kd.M (Kd.int .i64) _ _ _ 0 [.int .i64 0] from rfl) (aR.one (show Kd.M (Kd.int .i64) _ _ _ 0 [.int .i64 0] from rfl) (aR.one (show Kd.M (Kd.int .i64) _ _ _ 0 [.int .i64 0] from rfl) (aR.one (show Kd.M (Kd.int .i64) _ _ _ 1 [.int .i64 1] from rfl) (aR.none _ _))))));intro c5 ib U hb y z;clear y z;(first|rw[<-aO.out] at U|(simp only[Int.reduceToNat] at U;rw[<-aO.out] at U));replace i:=bp i hb;replace q:=bp q hb;replace D:=gC D U hb;have I:=zA (Kd.bc (Kd.bJ (Kd.bJ (Kd.bJ (Kd.bJ (Kd.bJ U (Kd.a_ (zR a))) (Kd.a_ (zR s))) (Kd.a_ (zR m))) (Kd.a_ (zR u))) (Kd.a_ (zR x))) (bs zB));replace a:=bN a U hb;replace s:=bN s U hb;replace m:=bN m U hb;replace u:=bN u U hb;replace x:=bN x U hb;replace b:=zb b hb;replace j:=zb j hb;replace l:=zS l hb;clear hb U;obtain⟨id,ih,gx⟩:=Kd.bm m.out;subst gx;obtain⟨ii,im,g0⟩:=Kd.bm I.out;subst g0)|(go_at_call 33;(with_reducible refine(bL.calls k _ _ t232 _ _ bi true _ ?af ?ah ?aT ?aU b5.out).mono ?_);(case af=>exact zC (Kd.aG m.out).2.2);(case ah=>exact(Kd.aG m.out).2.1);(case aT=>exact zC (Kd.aG I.out).2.2);(case aU=>exact(Kd.aG I.out).2.1);rintro e w' ⟨rfl,⟨nd,rfl⟩⟩;obtain⟨io,ip,g1⟩:=Kd.mj D.out;subst g1))
       go_meet
       case rel=>exact⟨_,(((t241.length:Int) != 2)),zT,T,⟨by first|omega|exact aI _⟩,⟨by(with_reducible repeat(first|apply Kd.eL|apply Kd.fS|apply Kd.fR));exact Kd.eE D.out (fun _ hk=>⟨hk.1.1.1,⟨hk.1.1.2.1,⟨hk.1.1.2.2.2.2.2.2.1,hk.1.1.2.2.2.2.2.2.2⟩⟩⟩)⟩,⟨by(with_reducible repeat(first|apply Kd.aM|apply Kd.bB|apply Kd.bq));exact Kd.ba i.out (fun _ hk=>hk.2)⟩,⟨by(with_reducible repeat(first|apply Kd.aM|apply Kd.bB|apply Kd.bq));exact Kd.ba q.out (fun _ hk=>hk.2)⟩,⟨zK b⟩,⟨zK j⟩,⟨zB⟩⟩
      ·rw[if_neg bn] at H
       obtain⟨gq,gr⟩:=bG bn;have T:=zA H;clear H;go_wp2_with (first|((with_reducible refine aH (N:=65) rfl ?_);(try(refine dt (by rfl) ?_;dsimp only));refine Kd.eY (Kd.int .i64) _ 3 ?hg (N:=65) ?hd (xs:=([1,1,1,1]:List Int)) (inner:=[.int .i64 1,.int .i64 1,.int .i64 1,.int .i64 1]) (ok:=fun _=>True) (okp:=fun _=>True) ?hr ?hp (fun _ hk=>hk) trivial (al _ _) (aI _) (by simp) ?_;(case hd=>rfl);(case hg=>rfl);(case hr=>first|(go_simp;done)|(go_simp;rfl));(case hp=>exact(aR.one (show Kd.M (Kd.int .i64) _ _ _ 1 [.int .i64 1] from rfl) (aR.one (show Kd.M (Kd.int .i64) _ _ _ 1 [.int .i64 1] from rfl) (aR.one (show Kd.M (Kd.int .i64) _ _ _ 1 [.int .i64 1] from rfl) (aR.one (show Kd.M (Kd.int .i64) _ _ _ 1 [.int .i64 1] from rfl) (aR.none _ _))))));intro b_ it ak hb y z;clear y z;(first|rw[<-ab.out] at ak|(simp only[Int.reduceToNat] at ak;rw[<-ab.out] at ak));replace i:=bp i hb;replace q:=bp q hb;replace D:=gC D ak hb;have x:=zA (Kd.bc (Kd.bJ (Kd.bJ (Kd.bJ (Kd.bJ ak (Kd.a_ (zR a))) (Kd.a_ (zR s))) (Kd.a_ (zR m))) (Kd.a_ (zR u))) (bs zB));replace a:=bN a ak hb;replace s:=bN s ak hb;replace m:=bN m ak hb;replace u:=bN u ak hb;replace b:=zb b hb;replace j:=zb j hb;replace l:=zS l hb;clear hb ak;obtain⟨iv,i0,g2⟩:=Kd.bm a.out;subst g2;obtain⟨i1,i2,g3⟩:=Kd.bm x.out;subst g3)|(go_at_call 33;(with_reducible refine(bL.calls k _ _ t225 _ _ a2 true _ ?af ?ah ?aT ?aU bg.out).mono ?_);(case af=>exact zC (Kd.aG a.out).2.2);(case ah=>exact(Kd.aG a.out).2.1);(case aT=>exact zC (Kd.aG x.out).2.2);(case aU=>exact(Kd.aG x.out).2.1);rintro e w' ⟨rfl,⟨nd,rfl⟩⟩)|((with_reducible refine aH (N:=71) rfl ?_);(try(refine dt (by rfl) ?_;dsimp only));refine Kd.eY (Kd.int .i64) _ 3 ?hg (N:=71) ?hd (xs:=([0,0,0,1]:List Int)) (inner:=[.int .i64 0,.int .i64 0,.int .i64 0,.int .i64 1]) (ok:=fun _=>True) (okp:=fun _=>True) ?hr ?hp (fun _ hk=>hk) trivial (al _ _) (aI _) (by simp) ?_;(case hd=>rfl);(case hg=>rfl);(case hr=>first|(go_simp;done)|(go_simp;rfl));(case hp=>exact(aR.one (show Kd.M (Kd.int .i64) _ _ _ 0 [.int .i64 0] from rfl) (aR.one (show Kd.M (Kd.int .i64) _ _ _ 0 [.int .i64 0] from rfl) (aR.one (show Kd.M (Kd.int .i64) _ _ _ 0 [.int .i64 0] from rfl) (aR.one (show Kd.M (Kd.int .i64) _ _ _ 1 [.int .i64 1] from rfl) (aR.none _ _))))));intro c5 i3 W hb y z;clear y z;(first|rw[<-aO.out] at W|(simp only[Int.reduceToNat] at W;rw[<-aO.out] at W));replace i:=bp i hb;replace q:=bp q hb;replace D:=gC D W hb;have I:=zA (Kd.bc (Kd.bJ (Kd.bJ (Kd.bJ (Kd.bJ (Kd.bJ W (Kd.a_ (zR a))) (Kd.a_ (zR s))) (Kd.a_ (zR m))) (Kd.a_ (zR u))) (Kd.a_ (zR x))) (bs zB));replace a:=bN a W hb;replace s:=bN s W hb;replace m:=bN m W hb;replace u:=bN u W hb;replace x:=bN x W hb;replace b:=zb b hb;replace j:=zb j hb;replace l:=zS l hb;clear hb W;obtain⟨i4,i5,g4⟩:=Kd.bm m.out;subst g4;obtain⟨i6,i7,g5⟩:=Kd.bm I.out;subst g5)|(go_at_call 33;(with_reducible refine(bL.calls k _ _ t232 _ _ bi true _ ?af ?ah ?aT ?aU b5.out).mono ?_);(case af=>exact zC (Kd.aG m.out).2.2);(case ah=>exact(Kd.aG m.out).2.1);(case aT=>exact zC (Kd.aG I.out).2.2);(case aU=>exact(Kd.aG I.out).2.1);rintro e w' ⟨rfl,⟨nd,rfl⟩⟩))
       go_meet
       case rel=>exact⟨_,(true),zT,T,⟨by first|omega|exact aI _⟩,⟨by(with_reducible repeat(first|apply Kd.eL|apply Kd.fS|apply Kd.fR));exact Kd.eE D.out (fun _ hk=>⟨hk.1.1.1,⟨hk.1.1.2.1,⟨hk.1.1.2.2.2.2.2.2.1,hk.1.1.2.2.2.2.2.2.2⟩⟩⟩)⟩,⟨by(with_reducible repeat(first|apply Kd.aM|apply Kd.bB|apply Kd.bq));exact Kd.ba i.out (fun _ hk=>hk.2)⟩,⟨by(with_reducible repeat(first|apply Kd.aM|apply Kd.bB|apply Kd.bq));exact Kd.ba q.out (fun _ hk=>hk.2)⟩,⟨zK b⟩,⟨zK j⟩,⟨zB⟩⟩
     ·rw[if_neg bk] at H
      obtain⟨go,gp⟩:=bG bk;have T:=zA H;clear H;go_wp2_with (first|((with_reducible refine aH (N:=65) rfl ?_);(try(refine dt (by rfl) ?_;dsimp only));refine Kd.eY (Kd.int .i64) _ 3 ?hg (N:=65) ?hd (xs:=([1,1,1,1]:List Int)) (inner:=[.int .i64 1,.int .i64 1,.int .i64 1,.int .i64 1]) (ok:=fun _=>True) (okp:=fun _=>True) ?hr ?hp (fun _ hk=>hk) trivial (al _ _) (aI _) (by simp) ?_;(case hd=>rfl);(case hg=>rfl);(case hr=>first|(go_simp;done)|(go_simp;rfl));(case hp=>exact(aR.one (show Kd.M (Kd.int .i64) _ _ _ 1 [.int .i64 1] from rfl) (aR.one (show Kd.M (Kd.int .i64) _ _ _ 1 [.int .i64 1] from rfl) (aR.one (show Kd.M (Kd.int .i64) _ _ _ 1 [.int .i64 1] from rfl) (aR.one (show Kd.M (Kd.int .i64) _ _ _ 1 [.int .i64 1] from rfl) (aR.none _ _))))));intro b_ i8 am hb y z;clear y z;(first|rw[<-ab.out] at am|(simp only[Int.reduceToNat] at am;rw[<-ab.out] at am));replace i:=bp i hb;replace q:=bp q hb;replace D:=gC D am hb;have x:=zA (Kd.bc (Kd.bJ (Kd.bJ (Kd.bJ (Kd.bJ am (Kd.a_ (zR a))) (Kd.a_ (zR s))) (Kd.a_ (zR m))) (Kd.a_ (zR u))) (bs zB));replace a:=bN a am hb;replace s:=bN s am hb;replace m:=bN m am hb;replace u:=bN u am hb;replace b:=zb b hb;replace j:=zb j hb;replace l:=zS l hb;clear hb am;obtain⟨i9,jj,g6⟩:=Kd.bm a.out;subst g6;obtain⟨jp,jT,g7⟩:=Kd.bm x.out;subst g7)|(go_at_call 33;(with_reducible refine(bL.calls k _ _ t225 _ _ a2 true _ ?af ?ah ?aT ?aU bg.out).mono ?_);(case af=>exact zC (Kd.aG a.out).2.2);(case ah=>exact(Kd.aG a.out).2.1);(case aT=>exact zC (Kd.aG x.out).2.2);(case aU=>exact(Kd.aG x.out).2.1);rintro e w' ⟨rfl,⟨nd,rfl⟩⟩)|((with_reducible refine aH (N:=71) rfl ?_);(try(refine dt (by rfl) ?_;dsimp only));refine Kd.eY (Kd.int .i64) _ 3 ?hg (N:=71) ?hd (xs:=([0,0,0,1]:List Int)) (inner:=[.int .i64 0,.int .i64 0,.int .i64 0,.int .i64 1]) (ok:=fun _=>True) (okp:=fun _=>True) ?hr ?hp (fun _ hk=>hk) trivial (al _ _) (aI _) (by simp) ?_;(case hd=>rfl);(case hg=>rfl);(case hr=>first|(go_simp;done)|(go_simp;rfl));(case hp=>exact(aR.one (show Kd.M (Kd.int .i64) _ _ _ 0 [.int .i64 0] from rfl) (aR.one (show Kd.M (Kd.int .i64) _ _ _ 0 [.int .i64 0] from rfl) (aR.one (show Kd.M (Kd.int .i64) _ _ _ 0 [.int .i64 0] from rfl) (aR.one (show Kd.M (Kd.int .i64) _ _ _ 1 [.int .i64 1] from rfl) (aR.none _ _))))));intro c5 j1 X hb y z;clear y z;(first|rw[<-aO.out] at X|(simp only[Int.reduceToNat] at X;rw[<-aO.out] at X));replace i:=bp i hb;replace q:=bp q hb;replace D:=gC D X hb;have I:=zA (Kd.bc (Kd.bJ (Kd.bJ (Kd.bJ (Kd.bJ (Kd.bJ X (Kd.a_ (zR a))) (Kd.a_ (zR s))) (Kd.a_ (zR m))) (Kd.a_ (zR u))) (Kd.a_ (zR x))) (bs zB));replace a:=bN a X hb;replace s:=bN s X hb;replace m:=bN m X hb;replace u:=bN u X hb;replace x:=bN x X hb;replace b:=zb b hb;replace j:=zb j hb;replace l:=zS l hb;clear hb X;obtain⟨j2,j3,g8⟩:=Kd.bm m.out;subst g8;obtain⟨j_,j',g9⟩:=Kd.bm I.out;subst g9)|(go_at_call 33;(with_reducible refine(bL.calls k _ _ t232 _ _ bi true _ ?af ?ah ?aT ?aU b5.out).mono ?_);(case af=>exact zC (Kd.aG m.out).2.2);(case ah=>exact(Kd.aG m.out).2.1);(case aT=>exact zC (Kd.aG I.out).2.2);(case aU=>exact(Kd.aG I.out).2.1);rintro e w' ⟨rfl,⟨nd,rfl⟩⟩))
      go_meet
      case rel=>exact⟨_,(true),zT,T,⟨by first|omega|exact aI _⟩,⟨by(with_reducible repeat(first|apply Kd.eL|apply Kd.fS|apply Kd.fR));exact Kd.eE D.out (fun _ hk=>⟨hk.1.1.1,⟨hk.1.1.2.1,⟨hk.1.1.2.2.2.2.2.2.1,hk.1.1.2.2.2.2.2.2.2⟩⟩⟩)⟩,⟨by(with_reducible repeat(first|apply Kd.aM|apply Kd.bB|apply Kd.bq));exact Kd.ba i.out (fun _ hk=>hk.2)⟩,⟨by(with_reducible repeat(first|apply Kd.aM|apply Kd.bB|apply Kd.bq));exact Kd.ba q.out (fun _ hk=>hk.2)⟩,⟨zK b⟩,⟨zK j⟩,⟨zB⟩⟩
    ·replace b6:=Bool.eq_false_iff.mpr b6
     subst b6;replace H:=zj H;have T:=zA H;clear H;go_wp2_with (first|((with_reducible refine aH (N:=65) rfl ?_);(try(refine dt (by rfl) ?_;dsimp only));refine Kd.eY (Kd.int .i64) _ 3 ?hg (N:=65) ?hd (xs:=([1,1,1,1]:List Int)) (inner:=[.int .i64 1,.int .i64 1,.int .i64 1,.int .i64 1]) (ok:=fun _=>True) (okp:=fun _=>True) ?hr ?hp (fun _ hk=>hk) trivial (al _ _) (aI _) (by simp) ?_;(case hd=>rfl);(case hg=>rfl);(case hr=>first|(go_simp;done)|(go_simp;rfl));(case hp=>exact(aR.one (show Kd.M (Kd.int .i64) _ _ _ 1 [.int .i64 1] from rfl) (aR.one (show Kd.M (Kd.int .i64) _ _ _ 1 [.int .i64 1] from rfl) (aR.one (show Kd.M (Kd.int .i64) _ _ _ 1 [.int .i64 1] from rfl) (aR.one (show Kd.M (Kd.int .i64) _ _ _ 1 [.int .i64 1] from rfl) (aR.none _ _))))));intro b_ kd an hb y z;clear y z;(first|rw[<-ab.out] at an|(simp only[Int.reduceToNat] at an;rw[<-ab.out] at an));replace i:=bp i hb;replace q:=bp q hb;replace D:=gC D an hb;have x:=zA (Kd.bc (Kd.bJ (Kd.bJ (Kd.bJ (Kd.bJ an (Kd.a_ (zR a))) (Kd.a_ (zR s))) (Kd.a_ (zR m))) (Kd.a_ (zR u))) (bs zB));replace a:=bN a an hb;replace s:=bN s an hb;replace m:=bN m an hb;replace u:=bN u an hb;replace b:=zb b hb;replace j:=zb j hb;replace l:=zS l hb;clear hb an;obtain⟨kk,km,g'⟩:=Kd.bm a.out;subst g';obtain⟨ks,kt,ha⟩:=Kd.bm x.out;subst ha)|(go_at_call 33;(with_reducible refine(bL.calls k _ _ t225 _ _ a2 true _ ?af ?ah ?aT ?aU bg.out).mono ?_);(case af=>exact zC (Kd.aG a.out).2.2);(case ah=>exact(Kd.aG a.out).2.1);(case aT=>exact zC (Kd.aG x.out).2.2);(case aU=>exact(Kd.aG x.out).2.1);rintro e w' ⟨rfl,⟨nd,rfl⟩⟩)|((with_reducible refine aH (N:=71) rfl ?_);(try(refine dt (by rfl) ?_;dsimp only));refine Kd.eY (Kd.int .i64) _ 3 ?hg (N:=71) ?hd (xs:=([0,0,0,1]:List Int)) (inner:=[.int .i64 0,.int .i64 0,.int .i64 0,.int .i64 1]) (ok:=fun _=>True) (okp:=fun _=>True) ?hr ?hp (fun _ hk=>hk) trivial (al _ _) (aI _) (by simp) ?_;(case hd=>rfl);(case hg=>rfl);(case hr=>first|(go_simp;done)|(go_simp;rfl));(case hp=>exact(aR.one (show Kd.M (Kd.int .i64) _ _ _ 0 [.int .i64 0] from rfl) (aR.one (show Kd.M (Kd.int .i64) _ _ _ 0 [.int .i64 0] from rfl) (aR.one (show Kd.M (Kd.int .i64) _ _ _ 0 [.int .i64 0] from rfl) (aR.one (show Kd.M (Kd.int .i64) _ _ _ 1 [.int .i64 1] from rfl) (aR.none _ _))))));intro c5 kv Y hb y z;clear y z;(first|rw[<-aO.out] at Y|(simp only[Int.reduceToNat] at Y;rw[<-aO.out] at Y));replace i:=bp i hb;replace q:=bp q hb;replace D:=gC D Y hb;have I:=zA (Kd.bc (Kd.bJ (Kd.bJ (Kd.bJ (Kd.bJ (Kd.bJ Y (Kd.a_ (zR a))) (Kd.a_ (zR s))) (Kd.a_ (zR m))) (Kd.a_ (zR u))) (Kd.a_ (zR x))) (bs zB));replace a:=bN a Y hb;replace s:=bN s Y hb;replace m:=bN m Y hb;replace u:=bN u Y hb;replace x:=bN x Y hb;replace b:=zb b hb;replace j:=zb j hb;replace l:=zS l hb;clear hb Y;obtain⟨kw,kW,hc⟩:=Kd.bm m.out;subst hc;obtain⟨k0,k1,he⟩:=Kd.bm I.out;subst he)|(go_at_call 33;(with_reducible refine(bL.calls k _ _ t232 _ _ bi false _ ?af ?ah ?aT ?aU b5.out).mono ?_);(case af=>exact zC (Kd.aG m.out).2.2);(case ah=>exact(Kd.aG m.out).2.1);(case aT=>exact zC (Kd.aG I.out).2.2);(case aU=>exact(Kd.aG I.out).2.1);rintro e w' ⟨rfl,⟨nd,rfl⟩⟩))
     go_meet
     case rel=>exact⟨_,(true),zT,T,⟨by first|omega|exact aI _⟩,⟨by(with_reducible repeat(first|apply Kd.eL|apply Kd.fS|apply Kd.fR));exact Kd.eE D.out (fun _ hk=>⟨hk.1.1.1,⟨hk.1.1.2.1,⟨hk.1.1.2.2.2.2.2.2.1,hk.1.1.2.2.2.2.2.2.2⟩⟩⟩)⟩,⟨by(with_reducible repeat(first|apply Kd.aM|apply Kd.bB|apply Kd.bq));exact Kd.ba i.out (fun _ hk=>hk.2)⟩,⟨by(with_reducible repeat(first|apply Kd.aM|apply Kd.bB|apply Kd.bq));exact Kd.ba q.out (fun _ hk=>hk.2)⟩,⟨zK b⟩,⟨zK j⟩,⟨zB⟩⟩
   ·replace b4:=Bool.eq_false_iff.mpr b4
    subst b4;replace H:=zj H;have T:=zA H;clear H;go_wp2_with (first|((with_reducible refine aH (N:=65) rfl ?_);(try(refine dt (by rfl) ?_;dsimp only));refine Kd.eY (Kd.int .i64) _ 3 ?hg (N:=65) ?hd (xs:=([1,1,1,1]:List Int)) (inner:=[.int .i64 1,.int .i64 1,.int .i64 1,.int .i64 1]) (ok:=fun _=>True) (okp:=fun _=>True) ?hr ?hp (fun _ hk=>hk) trivial (al _ _) (aI _) (by simp) ?_;(case hd=>rfl);(case hg=>rfl);(case hr=>first|(go_simp;done)|(go_simp;rfl));(case hp=>exact(aR.one (show Kd.M (Kd.int .i64) _ _ _ 1 [.int .i64 1] from rfl) (aR.one (show Kd.M (Kd.int .i64) _ _ _ 1 [.int .i64 1] from rfl) (aR.one (show Kd.M (Kd.int .i64) _ _ _ 1 [.int .i64 1] from rfl) (aR.one (show Kd.M (Kd.int .i64) _ _ _ 1 [.int .i64 1] from rfl) (aR.none _ _))))));intro b_ k2 ap hb y z;clear y z;(first|rw[<-ab.out] at ap|(simp only[Int.reduceToNat] at ap;rw[<-ab.out] at ap));replace i:=bp i hb;replace q:=bp q hb;replace D:=gC D ap hb;have x:=zA (Kd.bc (Kd.bJ (Kd.bJ (Kd.bJ (Kd.bJ ap (Kd.a_ (zR a))) (Kd.a_ (zR s))) (Kd.a_ (zR m))) (Kd.a_ (zR u))) (bs zB));replace a:=bN a ap hb;replace s:=bN s ap hb;replace m:=bN m ap hb;replace u:=bN u ap hb;replace b:=zb b hb;replace j:=zb j hb;replace l:=zS l hb;clear hb ap;obtain⟨k3,k4,hf⟩:=Kd.bm a.out;subst hf;obtain⟨k5,k6,hh⟩:=Kd.bm x.out;subst hh)|(go_at_call 33;(with_reducible refine(bL.calls k _ _ t225 _ _ a2 false _ ?af ?ah ?aT ?aU bg.out).mono ?_);(case af=>exact zC (Kd.aG a.out).2.2);(case ah=>exact(Kd.aG a.out).2.1);(case aT=>exact zC (Kd.aG x.out).2.2);(case aU=>exact(Kd.aG x.out).2.1);rintro e w' ⟨rfl,⟨nd,rfl⟩⟩))
    go_meet
    case rel=>exact⟨_,(true),zT,T,⟨by first|omega|exact aI _⟩,⟨by(with_reducible repeat(first|apply Kd.eL|apply Kd.fS|apply Kd.fR));exact Kd.eE D.out (fun _ hk=>⟨hk.1.1,⟨hk.1.2.1,⟨hk.1.2.2.2.2.2.2.1,hk.1.2.2.2.2.2.2.2⟩⟩⟩)⟩,⟨by(with_reducible repeat(first|apply Kd.aM|apply Kd.bB|apply Kd.bq));exact Kd.ba i.out (fun _ hk=>hk.2)⟩,⟨by(with_reducible repeat(first|apply Kd.aM|apply Kd.bB|apply Kd.bq));exact Kd.ba q.out (fun _ hk=>hk.2)⟩,⟨zK b⟩,⟨zK j⟩,⟨zB⟩⟩
  ·rw[if_neg be] at H
   obtain⟨bf,gn⟩:=bG be
   (first|rw[bf]|(simp only[aW,aX];rw[bf])|skip)
   have T:=zA H;clear H;go_wp2;go_meet
   case rel=>exact⟨_,(true),zT,T,⟨by first|omega|exact aI _⟩,⟨by(with_reducible repeat(first|apply Kd.eL|apply Kd.fS|apply Kd.fR));exact Kd.eE D.out (fun _ hk=>⟨hk.1,⟨hk.2.1,⟨hk.2.2.2.2.2.2.1,hk.2.2.2.2.2.2.2⟩⟩⟩)⟩,⟨by(with_reducible repeat(first|apply Kd.aM|apply Kd.bB|apply Kd.bq));exact Kd.ba i.out (fun _ hk=>hk.2)⟩,⟨by(with_reducible repeat(first|apply Kd.aM|apply Kd.bB|apply Kd.bq));exact Kd.ba q.out (fun _ hk=>hk.2)⟩,⟨zK b⟩,⟨zK j⟩,⟨zB⟩⟩
 case rest=>
  clear c0;clear e3 e4 fd fn fr ft f1 f2 f6 f7 gb gc gg gi e5 e6 fo fq fv f0 f3 f4 f8 f9 gd ge gl gm;obtain⟨kq,b3,rfl,HA,k7,Z,b',ca,b,j,l⟩:=hcut;cases kq with
  |zero=>exact absurd HA.out (by simp[bH.j0])
  |succ bo=>
   have H:=HA.out;clear HA;simp only[bH.j0] at H;by_cases cb:b3=true
   ·subst cb
    replace H:=zi H;exact absurd ((aE H).trans hr.out) (by decide)
   ·replace cb:=Bool.eq_false_iff.mpr cb
    subst cb;replace H:=zj H;by_cases cc:0<(t241.length:Int)
    ·rw[if_pos cc] at H
     have k8:=ay cc;have k9:decide (0<t241.length)=true:=ay (by omega);clear cc;obtain⟨c7,c8⟩:∃F:List Int,F=(([(-1),0,1]:List Int)):=⟨_,rfl⟩;replace H:((bL.f bo (aZ t241 0) c7).bind fun t259=>(if t259=true then(if 1<(t241.length:Int) then((bL.f bo (aZ t241 1) (([(-1),1,0]:List Int))).bind fun t264=>(some t264)) else(none)) else(some false)))=some r:=zh c8 H;have ea:=zA c8;clear c8;obtain⟨t259,hj,H⟩:=zo H;by_cases cd:t259=true
     ·subst cd
      replace H:=zi H;by_cases ce:1<(t241.length:Int)
      ·rw[if_pos ce] at H
       have la:=ay ce;have lb:decide (1<t241.length)=true:=ay (by omega);clear ce;obtain⟨eb,c9⟩:∃F:List Int,F=(([(-1),1,0]:List Int)):=⟨_,rfl⟩;replace H:((bL.f bo (aZ t241 1) eb).bind fun t264=>(some t264))=some r:=zh c9 H;have ed:=zA c9;clear c9;obtain⟨t264,hl,H⟩:=zo H;obtain rfl:=aE H;obtain⟨lc,ld,hm⟩:=Kd.mj Z.out;subst hm;have cf:0<=(0:Int):=(by omega);have ch:0<(t241.length:Int):=ax ‹_›;obtain⟨hn,ho,hq,hs,c',eg,ek⟩:=fT (Kd.iV Z.out).2.2 0 cf ch;cases hs;obtain⟨le,ht,hv,el⟩:=Kd.nL Z.out [] 0 cf (by first|exact ch|exact ax ‹_› |(have e_:=(Kd.iV Z.out).1;omega));obtain⟨lg,li,rfl,dd,dk⟩:=Kd.kx hv;have ci:=el 0 _ rfl;rw[Nat.add_zero,show ((Kd.slice 3 (Kd.int .i64))).sz=1 from rfl,Nat.mul_one] at ci;replace ci:=aE (ci.symm.trans c');injection ci with bv dl bw
       rw[bv] at dk;rw[bw] at dd;have cj:=zA (show Kd.V (Kd.int .i64) 3 _ w.heap.size _ _ (aZ t241 0) from Kd.pB dd dk);clear bv dl bw dk dd;clear el ht;have lj:(0<t241.length)=True:=eq_true (by omega)
       (try rw[show ((0:Int)).toNat=0 from rfl] at c')
       (try rw[Addr.add_zero'] at c')
       have aP:=zA ek;have hx:=zA eg;clear ek eg;replace cf:=eq_true cf;replace ch:=eq_true ch;go_wp2_with (first|((with_reducible refine aH (N:=91) rfl ?_);(try(refine dt (by rfl) ?_;dsimp only));refine Kd.eY (Kd.int .i64) _ 3 ?hg (N:=91) ?hd (xs:=([(-1),0,1]:List Int)) (inner:=[.int .i64 (-1),.int .i64 0,.int .i64 1]) (ok:=fun _=>True) (okp:=fun _=>True) ?hr ?hp (fun _ hk=>hk) trivial (al _ _) (aI _) (by simp) ?_;(case hd=>rfl);(case hg=>rfl);(case hr=>first|(go_simp;done)|(go_simp;rfl));(case hp=>exact(aR.one (show Kd.M (Kd.int .i64) _ _ _ (-1) [.int .i64 (-1)] from rfl) (aR.one (show Kd.M (Kd.int .i64) _ _ _ 0 [.int .i64 0] from rfl) (aR.one (show Kd.M (Kd.int .i64) _ _ _ 1 [.int .i64 1] from rfl) (aR.none _ _)))));intro lk lm aS hb y z;clear y z;(first|rw[<-ea.out] at aS|(simp only[Int.reduceToNat] at aS;rw[<-ea.out] at aS));replace Z:=gC Z aS hb;replace b':=bp b' hb;replace ca:=bp ca hb;replace cj:=zA (Kd.nN (by(with_reducible repeat(first|apply Kd.V_alloc|apply Kd.ly|apply Kd.V_drew));exact cj.out) (Kd.dz aS) hb);have a3:=zA (Kd.bc aS (bs zB));replace b:=zb b hb;replace j:=zb j hb;replace aP:=zA (Kd.aq (by repeat(first|(with_reducible exact aP.out)|(with_reducible refine Kd.bE ?_ _)|(with_reducible refine Kd.fK ?_ _)|(with_reducible refine Kd.fk ?_)|exact aP.out)) hb);replace l:=zS l hb;clear hb aS;obtain⟨hy,hz,hA⟩:=Kd.bm a3.out;subst hA)|((with_reducible refine aC (f:=33) rfl ?_);refine zL (some 92) Tryz.func33 #[.slice ho (aZ t241 0).length hq,.slice hy c7.length hz] ?_;(with_reducible refine(bL.calls bo _ _ (aZ t241 0) _ _ c7 true _ ?af ?ah ?aT ?aU hj.out).mono ?_);(case af=>repeat(first|exact(by repeat(first|(with_reducible exact aP.out)|(with_reducible refine Kd.bE ?_ _)|(with_reducible refine Kd.fK ?_ _)|(with_reducible refine Kd.fk ?_)|exact aP.out))|(with_reducible refine Kd.bE ?_ _)|(with_reducible refine Kd.fK ?_ _)|(with_reducible refine Kd.fk ?_)));(case ah=>exact hx.out);(case aT=>exact zC (Kd.aG a3.out).2.2);(case aU=>exact(Kd.aG a3.out).2.1);rintro e w' ⟨rfl,⟨nd,rfl⟩⟩;refine⟨_,rfl,?_⟩;have ck:0<=(1:Int):=(by omega);have cl:1<(t241.length:Int):=ax ‹_›;obtain⟨hB,lo,lp,hC,ds,em,er⟩:=fT (Kd.iV Z.out).2.2 1 ck cl;obtain rfl:hn=hB:=(by injection hC);obtain⟨ls,hD,hE,es⟩:=Kd.nL Z.out [] 1 ck (by first|exact cl|exact ax ‹_› |(have e_:=(Kd.iV Z.out).1;omega));obtain⟨lt,lv,rfl,dv,d0⟩:=Kd.kx hE;have co:=es 0 _ rfl;rw[Nat.add_zero,show ((Kd.slice 3 (Kd.int .i64))).sz=1 from rfl,Nat.mul_one] at co;replace co:=aE (co.symm.trans ds);injection co with bv dl bw;rw[bv] at d0;rw[bw] at dv;have ev:=zA (show Kd.V (Kd.int .i64) 3 _ w.heap.size _ _ (aZ t241 1) from Kd.pB dv d0);clear bv dl bw d0 dv;clear es hD;(try simp only[show (1:Int).toNat=1 from rfl,Nat.reduceMul,Nat.reduceEqDiff,Go.Addr.add,↓reduceIte] at ds);have lw:(1<t241.length)=True:=eq_true (by omega);(try rw[show ((1:Int)).toNat=1 from rfl] at ds);have bx:=zA er;have hG:=zA em;clear er em;replace ck:=eq_true ck;replace cl:=eq_true cl)|((with_reducible refine aH (N:=97) rfl ?_);(try(refine dt (by rfl) ?_;dsimp only));refine Kd.eY (Kd.int .i64) _ 3 ?hg (N:=97) ?hd (xs:=([(-1),1,0]:List Int)) (inner:=[.int .i64 (-1),.int .i64 1,.int .i64 0]) (ok:=fun _=>True) (okp:=fun _=>True) ?hr ?hp (fun _ hk=>hk) trivial (al _ _) (aI _) (by simp) ?_;(case hd=>rfl);(case hg=>rfl);(case hr=>first|(go_simp;done)|(go_simp;rfl));(case hp=>exact(aR.one (show Kd.M (Kd.int .i64) _ _ _ (-1) [.int .i64 (-1)] from rfl) (aR.one (show Kd.M (Kd.int .i64) _ _ _ 1 [.int .i64 1] from rfl) (aR.one (show Kd.M (Kd.int .i64) _ _ _ 0 [.int .i64 0] from rfl) (aR.none _ _)))));intro l0 l1 av hb y z;clear y z;(first|rw[<-ed.out] at av|(simp only[Int.reduceToNat] at av;rw[<-ed.out] at av));replace Z:=gC Z av hb;replace b':=bp b' hb;replace ca:=bp ca hb;replace cj:=zA (Kd.nN (by(with_reducible repeat(first|apply Kd.V_alloc|apply Kd.ly|apply Kd.V_drew));exact cj.out) (Kd.dz av) hb);replace ev:=zA (Kd.nN (by(with_reducible repeat(first|apply Kd.V_alloc|apply Kd.ly|apply Kd.V_drew));exact ev.out) (Kd.dz av) hb);have d1:=zA (Kd.bc (Kd.bJ av (Kd.a_ (zR a3))) (bs zB));replace a3:=bN a3 av hb;replace b:=zb b hb;replace j:=zb j hb;replace aP:=zA (Kd.aq (by repeat(first|(with_reducible exact aP.out)|(with_reducible refine Kd.bE ?_ _)|(with_reducible refine Kd.fK ?_ _)|(with_reducible refine Kd.fk ?_)|exact aP.out)) hb);replace bx:=zA (Kd.aq (by repeat(first|(with_reducible exact bx.out)|(with_reducible refine Kd.bE ?_ _)|(with_reducible refine Kd.fK ?_ _)|(with_reducible refine Kd.fk ?_)|exact bx.out)) hb);replace l:=zS l hb;clear hb av;obtain⟨l2,l3,hH⟩:=Kd.bm d1.out;subst hH)|(go_at_call 33;(with_reducible refine(bL.calls bo _ _ (aZ t241 1) _ _ eb t264 _ ?af ?ah ?aT ?aU hl.out).mono ?_);(case af=>repeat(first|exact(by repeat(first|(with_reducible exact bx.out)|(with_reducible refine Kd.bE ?_ _)|(with_reducible refine Kd.fK ?_ _)|(with_reducible refine Kd.fk ?_)|exact bx.out))|(with_reducible refine Kd.bE ?_ _)|(with_reducible refine Kd.fK ?_ _)|(with_reducible refine Kd.fk ?_)));(case ah=>exact hG.out);(case aT=>exact zC (Kd.aG d1.out).2.2);(case aU=>exact(Kd.aG d1.out).2.1);rintro e w' ⟨rfl,⟨nd,rfl⟩⟩))
       go_ret;exact⟨zE,zB⟩
      ·rw[if_neg ce] at H
       exact absurd H (by simp)
     ·replace cd:=Bool.eq_false_iff.mpr cd
      subst cd;replace H:=zj H;exact absurd ((aE H).trans hr.out) (by decide)
    ·rw[if_neg cc] at H
     exact absurd H (by simp)
end
def ee:List S83:=[⟨0,1,1⟩,⟨0,2,1⟩,⟨0,3,1⟩,⟨1,2,1⟩,⟨1,3,1⟩,⟨2,3,1⟩]
theorem FO:Ev (fun k=>dT.f k 4 ee) (([1,1,1,1]:List Int),(0:Int)):=Ev.at_ (dT.mono _ _) (k:=60) (by decide+kernel)
theorem FP:Ev (fun k=>eU.f k 4 ee) ((4:Int),ee,(0:Int)):=Ev.at_ (eU.mono _ _) (k:=60) (by kernel_rfl)
theorem FQ:Ev (fun k=>eT.f k 4 ee) ((3:Int),(0:Int)):=Ev.at_ (eT.mono _ _) (k:=60) (by decide+kernel)
theorem wW:Ev (fun k=>dJ.f k 4 ee [1,1,1,0]) (([0,0,0,1]:List Int),(0:Int)):=Ev.at_ (dJ.mono _ _ _) (k:=60) (by decide+kernel)
theorem wX {d:List Int} (h:fY 4 ee 0 d=true):dP 4 0 ee d:=by
 obtain⟨n,q,hn,a,h1⟩:=oK h;obtain rfl:n=4:=by omega
 obtain rfl:q=0:=by omega
 exact h1
theorem FT:cJ ((4:Nat):Int) ee=0:=by decide+kernel
theorem wY:T.IsGenus 4 (timesOf ee) 3:=show T.sN (T.can 4 (timesOf ee)) 4=2*3-2 from by decide+kernel
theorem oZ:dP 4 0 ee [1,1,1,0]:=wX (by decide+kernel)
theorem FU:dP 4 0 ee [0,0,0,1]:=wX (by decide+kernel)
theorem wZ {d:List Int} (h:dP 4 0 ee d) {r:Int} (a:Rk 4 (timesOf ee) d r):Ev (fun k=>dy.f k 4 ee d) (r,(0:Int)):=
 qX (n:=4) h FT FP FQ wY a
theorem re:T.Wt 4 (timesOf ee):=oZ.right.wt
theorem FV:T.dn 4 (timesOf ee):=oZ.right.conn oZ.conn
theorem FW:∃a b:Int,Rk 4 (timesOf ee) [1,1,1,0] a/\Rk 4 (timesOf ee) [0,0,0,1] b/\a-b=1:=by
 obtain⟨a,e⟩:=T.gJ re (by decide) (fun v=>rd [1,1,1,0] (v:Nat));obtain⟨b,hb⟩:=T.gJ re (by decide) (fun v=>rd [0,0,0,1] (v:Nat));have g:T.bM 4 (timesOf ee) (fun v=>T.can 4 (timesOf ee) v-rd [1,1,1,0] (v:Nat)) b:=mT (fun v i=>by
  match v,i with
  |0,_=>decide+kernel
  |1,_=>decide+kernel
  |2,_=>decide+kernel
  |3,_=>decide+kernel) hb
 have h:=T.nW re FV (by decide) wY e g;have j:T.sN (fun v=>rd [1,1,1,0] (v:Nat)) 4=3:=by decide+kernel
 rw[j] at h;exact⟨a,b,e,hb,by omega⟩
theorem FX:Ev (fun k=>ir.f k 4 ee [1,1,1,0]) ((1:Int),(0:Int)):=by
 obtain⟨a,b,e,hb,g⟩:=FW;unfold ir.f;refine Ev.bind wW ?_;simp only[if_true];refine Ev.bind (wZ oZ e) ?_;simp only[if_true];refine Ev.bind (wZ FU hb) ?_;simp only[if_true,g,show wrap64 1=1 from by unfold wrap64;omega];exact Ev.const _
theorem FY:Ev (fun k=>ct.f k 3 cB 0) (([[-1,0,1],[-1,1,0]]:List (List Int)),(0:Int)):=Ev.at_ (ct.mono _ _ _) (k:=60) (by decide+kernel)
theorem w_ {a b:List Int} {r:Bool} (h:bL.f 60 a b=some r):Ev (fun k=>bL.f k a b) r:=Ev.at_ (bL.mono _ _) (k:=60) h
theorem FZ:Ev (fun k=>bH.f k) true:=by
 unfold bH.f;refine Ev.bind (a:=ee) (Ev.const _) ?_;refine Ev.bind (a:=cB) (Ev.const _) ?_;refine Ev.bind FO ?_;refine Ev.bind wW ?_;refine Ev.bind FX ?_;refine Ev.bind FY ?_;refine Ev.bind FN ?_;simp only[show wrap64 (wrap64 (wrap64 (wrap64 (0+0)+0)+0)+0)=0 from by unfold wrap64;omega,if_true];refine Ev.bind (w_ (r:=true) (by decide+kernel)) ?_;simp only[if_true];refine Ev.bind (w_ (r:=true) (by decide+kernel)) ?_;simp only[if_true];exact Ev.at_ (fun k=>bH.cn k _ _) (k:=60) (by decide+kernel)
def kg.f:Option (Bool):=some true
theorem kg.calls (r:Bool) (w:World) (h:kg.f=some r):
  Calls Tryz.prog 26 #[] w fun e w'=>e= .returned (.bool r)/\Below w.heap.size w w':=by
 obtain rfl:=aE h;obtain⟨k,hk⟩:=FZ.get;exact bH.calls k true ⟨rfl⟩ w hk
end Go.Proofs.YtffdiakgjakngaaGreat.P


namespace Go.Proofs.YtffdiakgjakngaaGreat.P
open Go.RowKit Go.Proofs.YtffdiakgjakngaaGreatW.PrintWords Go.Proofs.YtffdiakgjakngaaGreatW.PrintLast Go.Proofs.YtffdiakgjakngaaGreatW.PrintMore
set_option linter.unusedVariables false
set_option linter.unusedSimpArgs false
set_option maxHeartbeats 8000000
set_option maxRecDepth 100000
noncomputable def bO.j0:Nat->List Int->Bool->Int->List (S83)->Option (Bool)
 |0,_,_,_,_=>none
 |k+1,a,h,b,e=>if h=true then(some false) else((cU.f k a).bind fun i=>(if i>4 then((kg.f).bind fun j=>(some j)) else((dy.f k b e a).bind fun g=>(if g.2=0 then((dK.f k b e).bind fun l=>(if g.1=(wrap64 (l-1)) then((kg.f).bind fun m=>(some m)) else(some false))) else(some false)))))
noncomputable def bO.f (k:Nat) (a:Int) (e:List (S83)) (l1:List Int):Option (Bool):=(kb.f k a e l1).bind fun i=>(if i=true then((dy.f k a e l1).bind fun g=>((kU.f k a e l1).bind fun h=>((dT.f k a e).bind fun b=>(if(wrap64 ((wrap64 (g.2+h.2))+b.2))=0 then(if h.1=true then(if g.1>=0 then((cU.f k l1).bind fun j=>(if(wrap64 (2*g.1))>j then(bO.j0 k b.1 true a e) else(if(b.1.length:Int)=a then((cG.f k b.1 a).bind fun l=>(if l=0 then((cU.f k b.1).bind fun m=>((dK.f k a e).bind fun n=>(bO.j0 k b.1 (m != (wrap64 ((wrap64 (2*n))-2))) a e))) else(bO.j0 k b.1 true a e))) else(bO.j0 k b.1 true a e)))) else(if(b.1.length:Int)=a then((cG.f k b.1 a).bind fun o=>(if o=0 then((cU.f k b.1).bind fun p=>((dK.f k a e).bind fun q=>(bO.j0 k b.1 (p != (wrap64 ((wrap64 (2*q))-2))) a e))) else(bO.j0 k b.1 true a e))) else(bO.j0 k b.1 true a e))) else(if(b.1.length:Int)=a then((cG.f k b.1 a).bind fun r=>(if r=0 then((cU.f k b.1).bind fun s=>((dK.f k a e).bind fun u=>(bO.j0 k b.1 (s != (wrap64 ((wrap64 (2*u))-2))) a e))) else(bO.j0 k b.1 true a e))) else(bO.j0 k b.1 true a e))) else(bO.j0 k b.1 true a e))))) else((kg.f).bind fun v=>(some v)))
noncomputable def bO.T6:Bool×List (List Nat×List Nat):=(true,[([],[]),([],[]),([0,1],[0,1]),([],[]),([2,3],[2,3]),([4],[4]),([5],[5]),([6],[6]),([7,6,6],[6,7]),([8],[8]),([9,8],[8,9]),([8,10,6],[6,8,10]),([11,8,6],[6,11]),([12],[12]),([13,12],[12,13]),([12],[12]),([15,12,12],[12,15]),([14,16,12],[12,14,16]),([12,17,6],[6,12,17]),([6,18],[6,18]),([19,16],[19]),([20],[20]),([21,20],[20,21]),([20],[20]),([23,20],[20,23]),([22,24,20],[20,22,24]),([20,25],[20,25]),([26,20],[26]),([27],[27]),([27],[27]),([29,27],[27,29]),([28,30,27,27],[27,28,30]),([31,27],[27,31]),([27,32],[27,32]),([33,31],[33]),([34],[34]),([35,34,34],[34,35]),([34],[34]),([37,36,34],[34,37]),([38,34],[34,38]),([39,34],[34,39]),([36,40,34],[34,36,40]),([34,41],[34,41])])
noncomputable def bO.B6:List Nat:=[0,0,3,0,15,31,63,127,255,511,1023,2047,4095,8191,16383,8191,40959,131071,262143,524287,1048575,2097151,4194303,2097151,10485759,33554431,67108863,134217727,268435455,268435455,805306367,2147483647,4294967295,8589934591,17179869183,34359738367,68719476735,34359738367,274877906943,549755813887,1099511627775,2199023255551,4398046511103]
theorem bO.rf:dA .any (opsOf Tryz.f8 6)=bO.T6:=by kernel_rfl
theorem bO.rh:jU bO.T6.2 bO.B6=true:=by kernel_rfl
theorem bO.jT {P:Prop} {r:Bool}:∀(k:Nat) (a:List Int) (b:Int) (e:List (S83)),bO.j0 k a true b e=some r->Aside0 (r=true)->P
 |0,_,_,_,h,_=>by cases h
 |k+1,_,_,_,h,g=>by
  simp only[bO.j0,if_true] at h;exact absurd ((aE h).trans g.out) (by decide)
theorem bO.calls (k:Nat) (j:Int) (q:Option Addr) (s:Nat) (m:List (S83)) (I:Option Addr) (c1:Nat) (l1:List Int) (r:Bool) (w:World) (a0:Kd.C aN w q m.length m) (a1:m.length<=s) (a2:Kd.C (Kd.int .i64) w I l1.length l1) (a3:l1.length<=c1) (h:bO.f k j m l1=some r) (x:Aside0 (r=true)):
  Calls Tryz.prog 8 #[.agg #[.int .i64 j,.slice q m.length s],.slice I l1.length c1] w fun e w'=>e= .returned (.bool r)/\Below w.heap.size w w':=by
 have eb:=Tryz.underlying24;have z:=zA a0;have B:=zA a1;clear a0 a1;have M:=zA a2;have O:=zA a3;clear a2 a3;have g:=zA (al w.heap.size w);unfold bO.f at h;have H:=h;clear h;obtain⟨cl,A3,H⟩:=zo H;by_cases c4:cl=true
 ·subst c4
  replace H:=zi H;obtain⟨⟨aF,a5⟩,A5,H⟩:=zo H;dsimp only at H;obtain⟨⟨a9,be⟩,A6,H⟩:=zo H;dsimp only at H;obtain⟨⟨p,bf⟩,A7,H⟩:=zo H;dsimp only at H;have aL:=zA H;clear H;go_enter Tryz.func8,Tryz.ntmps8
  go_upto_region 6 with (first|((with_reducible refine aH (N:=2) rfl ?_);(try(refine dt (by rfl) ?_;dsimp only));refine zX 2 #[.int .i64 j,.slice q m.length s] 24 ?_;intro D hg w9 P hb;have a:=zA (P);have cs:=zG g hg;have cv:=zG g hg;replace g:=zS g hb;clear hb P hg;obtain⟨eg,ek,el,em⟩:=au a)|((with_reducible refine aC (f:=29) rfl ?_);refine zL (some 14) Tryz.func29 #[.agg #[.int .i64 j,.slice q m.length s],.slice I l1.length c1] ?_;(with_reducible refine(kb.calls k j _ _ m _ _ l1 true _ ?af ?ah ?aT ?aU A3.out).mono ?_);(case af=>exact Kd.aq z.out zB);(case ah=>exact B.out);(case aT=>exact Kd.aq M.out zB);(case aU=>exact O.out);rintro e gV ⟨rfl,hb⟩;refine⟨_,rfl,?_⟩;replace a:=zb a hb;replace g:=zS g hb;(try clear hb);obtain⟨er,es,ev,ew⟩:=au a)|((with_reducible refine aC (f:=41) rfl ?_);refine zL (some 20) Tryz.func41 #[.agg #[.int .i64 j,.slice q m.length s],.slice I l1.length c1] ?_;(with_reducible refine(dy.calls k j _ _ m _ _ l1 aF a5 _ ?af ?ah ?aT ?aU A5.out).mono ?_);(case af=>exact Kd.aq z.out zB);(case ah=>exact B.out);(case aT=>exact Kd.aq M.out zB);(case aU=>exact O.out);rintro e ex ⟨rfl,hb⟩;refine⟨_,rfl,?_⟩;replace a:=zb a hb;replace g:=zS g hb;(try clear hb);obtain⟨ey,e0,e1,e2⟩:=au a)|((with_reducible refine aC (f:=39) rfl ?_);refine zL (some 26) Tryz.func39 #[.agg #[.int .i64 j,.slice q m.length s],.slice I l1.length c1] ?_;(with_reducible refine(kU.calls k j _ _ m _ _ l1 a9 be _ ?af ?ah ?aT ?aU A6.out).mono ?_);(case af=>exact Kd.aq z.out zB);(case ah=>exact B.out);(case aT=>exact Kd.aq M.out zB);(case aU=>exact O.out);rintro e e3 ⟨rfl,hb⟩;refine⟨_,rfl,?_⟩;replace a:=zb a hb;replace g:=zS g hb;(try clear hb);obtain⟨e4,e5,e6,e_⟩:=au a)|((with_reducible refine aC (f:=35) rfl ?_);refine zL (some 31) Tryz.func35 #[.agg #[.int .i64 j,.slice q m.length s]] ?_;(with_reducible refine(dT.calls k j _ _ m p bf _ ?af ?ah A7.out).mono ?_);(case af=>exact Kd.aq z.out zB);(case ah=>exact B.out);rintro e aO ⟨cx,rfl,bg,hb⟩;refine⟨_,rfl,?_⟩;have l:=zA (Kd.bc bg (bs zB));replace a:=zb a hb;replace g:=zS g hb;(try clear hb);(try clear bg)))
  (try simp only[Act.put,List.setIfInBounds_toArray,List.set_cons_zero,List.set_cons_succ])
  go_cut [76] (fun v76 wc=>∃(W:Nat) (X:Bool),v76= .bool X/\Aside0 (bO.j0 W p X j m=some r)/\Aside0 (W<=k)/\Aside0 (Kd.R (Kd.int .i64) 3 wc w.heap.size (fun _=>True) cx p)/\Aside0 (wc.heap[D]? =some (.cells #[.int .i64 j,(.slice q m.length s)] 24 (0,0)))/\Aside0 (Below w.heap.size w wc))
  case first=>
   have H:=aL.out;clear aL;by_cases Y:(wrap64 ((wrap64 (a5+be))+bf))=0
   ·rw[if_pos Y] at H
    obtain⟨bi,e'⟩:=br Y;clear Y
    (first|rw[bi]|(simp only[aW,aX];rw[bi])|skip)
    by_cases Z:a9=true
    ·subst Z
     replace H:=zi H;by_cases J:aF>=0
     ·rw[if_pos J] at H
      have c0:=ay J;clear J;obtain⟨bk,c2,H⟩:=zo H;by_cases aa:(wrap64 (2*aF))>bk
      ·rw[if_pos aa] at H
       exact bO.jT _ _ _ _ H x
      ·rw[if_neg aa] at H
       have fb:=a6 aa;clear aa;by_cases ab:(p.length:Int)=j
       ·rw[if_pos ab] at H
        obtain⟨fd,fn⟩:=br ab;clear ab;obtain⟨bn,c3,H⟩:=zo H;by_cases ad:bn=0
        ·rw[if_pos ad] at H
         obtain⟨fo,fq⟩:=br ad;clear ad;obtain⟨bo,c5,H⟩:=zo H;obtain⟨bv,c6,H⟩:=zo H;have Q:=zA H;clear H;try go_wp2
         replace l:=zA (Kd.bq l.out);replace a:=zA (eI a.out);replace g:=zA (bU g.out);refine kn (n:=43) (S:=fun w'=>w'.cell? ⟨D,0,none⟩=some (.int .i64 j)/\w'.cell? ⟨D,1,none⟩=some (.slice q m.length s)) (ds:=[]) #[false,false,false,false,false,false,false,false,false,false,false,false,false,false,false,false,false,false,false,false,false,false,false,false,false,false,false,false,false,false,false,false,false,false,false,false,false,false,false,false,false,false,false] (by kernel_rfl) rfl rfl ⟨(ai a.out 0).trans rfl,(ai a.out 1).trans rfl⟩ (fun hHeld=>?_);refine kA bO.rf bO.rh (fun b y=>?_);generalize aO.drew=fr at l a g hHeld⊢;refine zs 43 0 0 (by kernel_rfl) ?_;iterate 16 (refine zn (v:=?_) (a':=?_) (by simp only[Nat.reduceAdd];rfl) b rfl rfl (by kernel_rfl) (Or.inl ⟨by rfl,?_⟩) ?_ ?_;rotate_left;(focus (intro w';go_simp;with_reducible rfl));rotate_left;(focus (simp only[Act.put,List.setIfInBounds_toArray,List.set_cons_zero,List.set_cons_succ,aW,aX];rfl)))
         refine e7 (i:=16) (N:=some 50) #[true,true,true,true,true,true,true,true,true,true,true,true,true,true,true,true,true,false,false,false,false,false,false,false,false,false,false,false,false,false,false,false,false,false,false,false,false,false,false,false,false,false,false] rfl rfl (eN b.out (by kernel_rfl)) (by decide) (fun K o=>?_);refine fl Tryz.func22 (by kernel_rfl) rfl #[.slice I l1.length c1] (by rfl) rfl rfl (by(try simp only[List.map_toArray,List.map_cons,List.map_nil]);first|done|rfl|(simp only[List.length_drop,List.length_take];rfl)) ?_;with_reducible refine(cU.calls k _ _ l1 bk _ ?af ?ah c2.out).mono ?_
         (case af=>exact Kd.aq M.out zB)
         (case ah=>exact O.out)
         rintro e w' ⟨rfl,⟨E,rfl⟩⟩;refine⟨_,rfl,?_⟩;obtain⟨bw,bx,b0⟩:=Kd.bm l.out
         (first|subst b0|(injection b0 with F T G;have U:=F.symm;have V:=G.symm;clear F T G;subst U;subst V))
         refine o.out _ _ ⟨(ai a.out 0).trans rfl,(ai a.out 1).trans rfl⟩ (fun hHeld=>?_);clear o K;refine e8 (a':=?_) ?_ ?_;rotate_left
         ·show Act.put _ (some 50) _=_
          simp only[Act.put,List.setIfInBounds_toArray,List.set_cons_zero,List.set_cons_succ,aW,aX];rfl
         refine zs 43 131071 17 (by kernel_rfl) ?_;iterate 7 (refine zn (v:=?_) (a':=?_) (by simp only[Nat.reduceAdd];rfl) b rfl rfl (by kernel_rfl) (Or.inl ⟨by rfl,?_⟩) ?_ ?_;rotate_left;(focus (intro w';go_simp;with_reducible rfl));rotate_left;(focus (simp only[Act.put,List.setIfInBounds_toArray,List.set_cons_zero,List.set_cons_succ,aW,aX];rfl)))
         refine eJ (i:=24) (N:=some 58) (v:=?_) (a':=?_) #[true,true,true,true,true,true,true,true,true,true,true,true,true,true,true,true,true,true,true,true,true,true,true,true,true,false,false,false,false,false,false,false,false,false,false,false,false,false,false,false,false,false,false] rfl rfl (eO b.out y.out (by kernel_rfl)) (fun _ _ _ h=>h) (Or.inl ⟨by rfl,?_⟩) hHeld ?_ ?_;rotate_left
         ·rintro w' ⟨s0,s1⟩
          go_simp
          with_reducible rfl
         rotate_left
         ·simp only[Act.put,List.setIfInBounds_toArray,List.set_cons_zero,List.set_cons_succ,aW,aX]
          rfl
         refine zs 43 33554431 25 (by kernel_rfl) ?_;iterate 5 (refine zn (v:=?_) (a':=?_) (by simp only[Nat.reduceAdd];rfl) b rfl rfl (by kernel_rfl) (Or.inl ⟨by rfl,?_⟩) ?_ ?_;rotate_left;(focus (intro w';go_simp;with_reducible rfl));rotate_left;(focus (simp only[Act.put,List.setIfInBounds_toArray,List.set_cons_zero,List.set_cons_succ,aW,aX];rfl)))
         refine eJ (i:=30) (N:=some 64) (v:=?_) (a':=?_) #[true,true,true,true,true,true,true,true,true,true,true,true,true,true,true,true,true,true,true,true,true,true,true,true,true,true,true,true,true,true,true,false,false,false,false,false,false,false,false,false,false,false,false] rfl rfl (eO b.out y.out (by kernel_rfl)) (fun _ _ _ h=>h) (Or.inl ⟨by rfl,?_⟩) hHeld ?_ ?_;rotate_left
         ·rintro w' ⟨s0,s1⟩
          go_simp
          with_reducible rfl
         rotate_left
         ·simp only[Act.put,List.setIfInBounds_toArray,List.set_cons_zero,List.set_cons_succ,aW,aX]
          rfl
         refine e7 (i:=31) (N:=some 65) #[true,true,true,true,true,true,true,true,true,true,true,true,true,true,true,true,true,true,true,true,true,true,true,true,true,true,true,true,true,true,true,true,false,false,false,false,false,false,false,false,false,false,false] rfl rfl (eN b.out (by kernel_rfl)) (by decide) (fun K o=>?_);refine fl Tryz.func42 (by kernel_rfl) rfl #[.slice bw p.length bx,.int .i64 j] (by rfl) rfl rfl (by(try simp only[List.map_toArray,List.map_cons,List.map_nil]);first|done|rfl|(simp only[List.length_drop,List.length_take];rfl)) ?_;with_reducible refine(cG.calls k _ _ p j bn _ ?af ?ah c3.out).mono ?_
         (case af=>exact zC (Kd.aG l.out).2.2)
         (case ah=>exact(Kd.aG l.out).2.1)
         rintro e w' ⟨rfl,⟨E,rfl⟩⟩;refine⟨_,rfl,?_⟩;refine o.out _ _ ⟨(ai a.out 0).trans rfl,(ai a.out 1).trans rfl⟩ (fun hHeld=>?_);clear o K;refine e8 (a':=?_) ?_ ?_;rotate_left
         ·show Act.put _ (some 65) _=_
          simp only[Act.put,List.setIfInBounds_toArray,List.set_cons_zero,List.set_cons_succ,aW,aX];rfl
         refine zs 43 4294967295 32 (by kernel_rfl) ?_;iterate 4 (refine zn (v:=?_) (a':=?_) (by simp only[Nat.reduceAdd];rfl) b rfl rfl (by kernel_rfl) (Or.inl ⟨by rfl,?_⟩) ?_ ?_;rotate_left;(focus (intro w';go_simp;with_reducible rfl));rotate_left;(focus (simp only[Act.put,List.setIfInBounds_toArray,List.set_cons_zero,List.set_cons_succ,aW,aX];rfl)))
         refine eJ (i:=37) (N:=some 71) (v:=?_) (a':=?_) #[true,true,true,true,true,true,true,true,true,true,true,true,true,true,true,true,true,true,true,true,true,true,true,true,true,true,true,true,true,true,true,true,true,true,true,true,false,true,false,false,false,false,false] rfl rfl (eO b.out y.out (by kernel_rfl)) (fun _ _ _ h=>h) (Or.inl ⟨by rfl,?_⟩) hHeld ?_ ?_;rotate_left
         ·rintro w' ⟨s0,s1⟩
          go_simp
          with_reducible rfl
         rotate_left
         ·simp only[Act.put,List.setIfInBounds_toArray,List.set_cons_zero,List.set_cons_succ,aW,aX]
          rfl
         refine e7 (i:=36) (N:=some 70) #[true,true,true,true,true,true,true,true,true,true,true,true,true,true,true,true,true,true,true,true,true,true,true,true,true,true,true,true,true,true,true,true,true,true,true,true,true,true,false,false,false,false,false] rfl rfl (eN b.out (by kernel_rfl)) (by decide) (fun K o=>?_);refine fl Tryz.func22 (by kernel_rfl) rfl #[.slice bw p.length bx] (by rfl) rfl rfl (by(try simp only[List.map_toArray,List.map_cons,List.map_nil]);first|done|rfl|(simp only[List.length_drop,List.length_take];rfl)) ?_;with_reducible refine(cU.calls k _ _ p bo _ ?af ?ah c5.out).mono ?_
         (case af=>exact zC (Kd.aG l.out).2.2)
         (case ah=>exact(Kd.aG l.out).2.1)
         rintro e w' ⟨rfl,⟨E,rfl⟩⟩;refine⟨_,rfl,?_⟩;refine o.out _ _ ⟨(ai a.out 0).trans rfl,(ai a.out 1).trans rfl⟩ (fun hHeld=>?_);clear o K;refine e8 (a':=?_) ?_ ?_;rotate_left
         ·show Act.put _ (some 70) _=_
          simp only[Act.put,List.setIfInBounds_toArray,List.set_cons_zero,List.set_cons_succ,aW,aX];rfl
         refine e7 (i:=38) (N:=some 72) #[true,true,true,true,true,true,true,true,true,true,true,true,true,true,true,true,true,true,true,true,true,true,true,true,true,true,true,true,true,true,true,true,true,true,true,true,true,true,true,false,false,false,false] rfl rfl (eN b.out (by kernel_rfl)) (by decide) (fun K o=>?_);refine fl Tryz.func43 (by kernel_rfl) rfl #[.agg #[.int .i64 j,.slice q m.length s]] (by rfl) rfl rfl (by(try simp only[List.map_toArray,List.map_cons,List.map_nil]);first|done|rfl|(simp only[List.length_drop,List.length_take];rfl)) ?_;with_reducible refine(dK.calls k j _ _ m bv _ ?af ?ah c6.out).mono ?_
         (case af=>exact Kd.aq z.out zB)
         (case ah=>exact B.out)
         rintro e ft ⟨rfl,hb⟩;refine⟨_,rfl,?_⟩;replace l:=bp l hb;replace a:=zb a hb;replace g:=zS g hb
         (try clear hb)
         skip;skip;skip;refine o.out _ _ ⟨(ai a.out 0).trans rfl,(ai a.out 1).trans rfl⟩ (fun hHeld=>?_);clear o K;refine e8 (a':=?_) ?_ ?_;rotate_left
         ·show Act.put _ (some 72) _=_
          simp only[Act.put,List.setIfInBounds_toArray,List.set_cons_zero,List.set_cons_succ,aW,aX];rfl
         refine zs 43 549755813887 39 (by kernel_rfl) ?_;iterate 4 (refine zn (v:=?_) (a':=?_) (by simp only[Nat.reduceAdd];rfl) b rfl rfl (by kernel_rfl) (Or.inl ⟨by rfl,?_⟩) ?_ ?_;rotate_left;(focus (intro w';go_simp;with_reducible rfl));rotate_left;(focus (simp only[Act.put,List.setIfInBounds_toArray,List.set_cons_zero,List.set_cons_succ,aW,aX];rfl)))
         refine ko (ky b.out (by kernel_rfl)) ?_;try go_wp2
         go_meet
         case rel=>exact⟨_,((bo != (wrap64 ((wrap64 (2*bv))-2)))),zT,Q,⟨by first|omega|exact aI _⟩,⟨zR l⟩,⟨zK a⟩,⟨zB⟩⟩
        ·rw[if_neg ad] at H
         exact bO.jT _ _ _ _ H x
       ·rw[if_neg ab] at H
        exact bO.jT _ _ _ _ H x
     ·rw[if_neg J] at H
      have c0:=a6 J;clear J;by_cases ag:(p.length:Int)=j
      ·rw[if_pos ag] at H
       obtain⟨fv,f0⟩:=br ag;clear ag;obtain⟨b1,c7,H⟩:=zo H;by_cases ak:b1=0
       ·rw[if_pos ak] at H
        obtain⟨f1,f2⟩:=br ak;clear ak;obtain⟨b2,c8,H⟩:=zo H;obtain⟨b3,c9,H⟩:=zo H;have Q:=zA H;clear H;try go_wp2
        replace l:=zA (Kd.bq l.out);replace a:=zA (eI a.out);replace g:=zA (bU g.out);obtain⟨b4,b5,b6⟩:=Kd.bm l.out
        (first|subst b6|(injection b6 with F T G;have U:=F.symm;have V:=G.symm;clear F T G;subst U;subst V))
        refine kn (n:=43) (S:=fun w'=>w'.cell? ⟨D,0,none⟩=some (.int .i64 j)/\w'.cell? ⟨D,1,none⟩=some (.slice q m.length s)) (ds:=[]) #[false,false,false,false,false,false,false,false,false,false,false,false,false,false,false,false,false,false,false,false,false,false,false,false,false,false,false,false,false,false,false,false,false,false,false,false,false,false,false,false,false,false,false] (by kernel_rfl) rfl rfl ⟨(ai a.out 0).trans rfl,(ai a.out 1).trans rfl⟩ (fun hHeld=>?_);refine kA bO.rf bO.rh (fun b y=>?_);generalize aO.drew=f3 at l a g hHeld⊢;refine zs 43 0 0 (by kernel_rfl) ?_;iterate 13 (refine zn (v:=?_) (a':=?_) (by simp only[Nat.reduceAdd];rfl) b rfl rfl (by kernel_rfl) (Or.inl ⟨by rfl,?_⟩) ?_ ?_;rotate_left;(focus (intro w';go_simp;with_reducible rfl));rotate_left;(focus (simp only[Act.put,List.setIfInBounds_toArray,List.set_cons_zero,List.set_cons_succ,aW,aX];rfl)))
        refine eK (i:=13) (N:=some 47) (v:=undef) (a':=?_) #[true,true,true,true,true,true,true,true,true,true,true,true,true,true,false,false,false,false,false,false,false,false,false,false,false,false,false,false,false,false,false,false,false,false,false,false,false,false,false,false,false,false,false] rfl rfl (eM b.out (by kernel_rfl)) (fun _ _ _ h=>h) (Or.inr ⟨by rfl,rfl⟩) ?_ ?_;rotate_left
        ·simp only[Act.put,List.setIfInBounds_toArray,List.set_cons_zero,List.set_cons_succ,aW,aX]
         rfl
        refine eK (i:=14) (N:=some 48) (v:=undef) (a':=?_) #[true,true,true,true,true,true,true,true,true,true,true,true,true,true,true,false,false,false,false,false,false,false,false,false,false,false,false,false,false,false,false,false,false,false,false,false,false,false,false,false,false,false,false] rfl rfl (eM b.out (by kernel_rfl)) (fun _ _ _ h=>h) (Or.inr ⟨by rfl,rfl⟩) ?_ ?_;rotate_left
        ·simp only[Act.put,List.setIfInBounds_toArray,List.set_cons_zero,List.set_cons_succ,aW,aX]
         rfl
        refine eK (i:=15) (N:=some 49) (v:=undef) (a':=?_) #[true,true,true,true,true,true,true,true,true,true,true,true,true,true,true,true,false,false,false,false,false,false,false,false,false,false,false,false,false,false,false,false,false,false,false,false,false,false,false,false,false,false,false] rfl rfl (eM b.out (by kernel_rfl)) (fun _ _ _ h=>h) (Or.inr ⟨by rfl,rfl⟩) ?_ ?_;rotate_left
        ·simp only[Act.put,List.setIfInBounds_toArray,List.set_cons_zero,List.set_cons_succ,aW,aX]
         rfl
        refine eK (i:=16) (N:=some 50) (v:=undef) (a':=?_) #[true,true,true,true,true,true,true,true,true,true,true,true,true,true,true,true,true,false,false,false,false,false,false,false,false,false,false,false,false,false,false,false,false,false,false,false,false,false,false,false,false,false,false] rfl rfl (eM b.out (by kernel_rfl)) (fun _ _ _ h=>h) (Or.inr ⟨by rfl,rfl⟩) ?_ ?_;rotate_left
        ·simp only[Act.put,List.setIfInBounds_toArray,List.set_cons_zero,List.set_cons_succ,aW,aX]
         rfl
        refine eK (i:=17) (N:=some 51) (v:=undef) (a':=?_) #[true,true,true,true,true,true,true,true,true,true,true,true,true,true,true,true,true,true,false,false,false,false,false,false,false,false,false,false,false,false,false,false,false,false,false,false,false,false,false,false,false,false,false] rfl rfl (eM b.out (by kernel_rfl)) (fun _ _ _ h=>h) (Or.inr ⟨by rfl,rfl⟩) ?_ ?_;rotate_left
        ·simp only[Act.put,List.setIfInBounds_toArray,List.set_cons_zero,List.set_cons_succ,aW,aX]
         rfl
        refine zs 43 262143 18 (by kernel_rfl) ?_;iterate 6 (refine zn (v:=?_) (a':=?_) (by simp only[Nat.reduceAdd];rfl) b rfl rfl (by kernel_rfl) (Or.inl ⟨by rfl,?_⟩) ?_ ?_;rotate_left;(focus (intro w';go_simp;with_reducible rfl));rotate_left;(focus (simp only[Act.put,List.setIfInBounds_toArray,List.set_cons_zero,List.set_cons_succ,aW,aX];rfl)))
        refine eJ (i:=24) (N:=some 58) (v:=?_) (a':=?_) #[true,true,true,true,true,true,true,true,true,true,true,true,true,true,true,true,true,true,true,true,true,true,true,true,true,false,false,false,false,false,false,false,false,false,false,false,false,false,false,false,false,false,false] rfl rfl (eO b.out y.out (by kernel_rfl)) (fun _ _ _ h=>h) (Or.inl ⟨by rfl,?_⟩) hHeld ?_ ?_;rotate_left
        ·rintro w' ⟨s0,s1⟩
         go_simp
         with_reducible rfl
        rotate_left
        ·simp only[Act.put,List.setIfInBounds_toArray,List.set_cons_zero,List.set_cons_succ,aW,aX]
         rfl
        refine zs 43 33554431 25 (by kernel_rfl) ?_;iterate 5 (refine zn (v:=?_) (a':=?_) (by simp only[Nat.reduceAdd];rfl) b rfl rfl (by kernel_rfl) (Or.inl ⟨by rfl,?_⟩) ?_ ?_;rotate_left;(focus (intro w';go_simp;with_reducible rfl));rotate_left;(focus (simp only[Act.put,List.setIfInBounds_toArray,List.set_cons_zero,List.set_cons_succ,aW,aX];rfl)))
        refine eJ (i:=30) (N:=some 64) (v:=?_) (a':=?_) #[true,true,true,true,true,true,true,true,true,true,true,true,true,true,true,true,true,true,true,true,true,true,true,true,true,true,true,true,true,true,true,false,false,false,false,false,false,false,false,false,false,false,false] rfl rfl (eO b.out y.out (by kernel_rfl)) (fun _ _ _ h=>h) (Or.inl ⟨by rfl,?_⟩) hHeld ?_ ?_;rotate_left
        ·rintro w' ⟨s0,s1⟩
         go_simp
         with_reducible rfl
        rotate_left
        ·simp only[Act.put,List.setIfInBounds_toArray,List.set_cons_zero,List.set_cons_succ,aW,aX]
         rfl
        refine e7 (i:=31) (N:=some 65) #[true,true,true,true,true,true,true,true,true,true,true,true,true,true,true,true,true,true,true,true,true,true,true,true,true,true,true,true,true,true,true,true,false,false,false,false,false,false,false,false,false,false,false] rfl rfl (eN b.out (by kernel_rfl)) (by decide) (fun K o=>?_);refine fl Tryz.func42 (by kernel_rfl) rfl #[.slice b4 p.length b5,.int .i64 j] (by rfl) rfl rfl (by(try simp only[List.map_toArray,List.map_cons,List.map_nil]);first|done|rfl|(simp only[List.length_drop,List.length_take];rfl)) ?_;with_reducible refine(cG.calls k _ _ p j b1 _ ?af ?ah c7.out).mono ?_
        (case af=>exact zC (Kd.aG l.out).2.2)
        (case ah=>exact(Kd.aG l.out).2.1)
        rintro e w' ⟨rfl,⟨E,rfl⟩⟩;refine⟨_,rfl,?_⟩;refine o.out _ _ ⟨(ai a.out 0).trans rfl,(ai a.out 1).trans rfl⟩ (fun hHeld=>?_);clear o K;refine e8 (a':=?_) ?_ ?_;rotate_left
        ·show Act.put _ (some 65) _=_
         simp only[Act.put,List.setIfInBounds_toArray,List.set_cons_zero,List.set_cons_succ,aW,aX];rfl
        refine zs 43 4294967295 32 (by kernel_rfl) ?_;iterate 4 (refine zn (v:=?_) (a':=?_) (by simp only[Nat.reduceAdd];rfl) b rfl rfl (by kernel_rfl) (Or.inl ⟨by rfl,?_⟩) ?_ ?_;rotate_left;(focus (intro w';go_simp;with_reducible rfl));rotate_left;(focus (simp only[Act.put,List.setIfInBounds_toArray,List.set_cons_zero,List.set_cons_succ,aW,aX];rfl)))
        refine eJ (i:=37) (N:=some 71) (v:=?_) (a':=?_) #[true,true,true,true,true,true,true,true,true,true,true,true,true,true,true,true,true,true,true,true,true,true,true,true,true,true,true,true,true,true,true,true,true,true,true,true,false,true,false,false,false,false,false] rfl rfl (eO b.out y.out (by kernel_rfl)) (fun _ _ _ h=>h) (Or.inl ⟨by rfl,?_⟩) hHeld ?_ ?_;rotate_left
        ·rintro w' ⟨s0,s1⟩
         go_simp
         with_reducible rfl
        rotate_left
        ·simp only[Act.put,List.setIfInBounds_toArray,List.set_cons_zero,List.set_cons_succ,aW,aX]
         rfl
        refine e7 (i:=36) (N:=some 70) #[true,true,true,true,true,true,true,true,true,true,true,true,true,true,true,true,true,true,true,true,true,true,true,true,true,true,true,true,true,true,true,true,true,true,true,true,true,true,false,false,false,false,false] rfl rfl (eN b.out (by kernel_rfl)) (by decide) (fun K o=>?_);refine fl Tryz.func22 (by kernel_rfl) rfl #[.slice b4 p.length b5] (by rfl) rfl rfl (by(try simp only[List.map_toArray,List.map_cons,List.map_nil]);first|done|rfl|(simp only[List.length_drop,List.length_take];rfl)) ?_;with_reducible refine(cU.calls k _ _ p b2 _ ?af ?ah c8.out).mono ?_
        (case af=>exact zC (Kd.aG l.out).2.2)
        (case ah=>exact(Kd.aG l.out).2.1)
        rintro e w' ⟨rfl,⟨E,rfl⟩⟩;refine⟨_,rfl,?_⟩;refine o.out _ _ ⟨(ai a.out 0).trans rfl,(ai a.out 1).trans rfl⟩ (fun hHeld=>?_);clear o K;refine e8 (a':=?_) ?_ ?_;rotate_left
        ·show Act.put _ (some 70) _=_
         simp only[Act.put,List.setIfInBounds_toArray,List.set_cons_zero,List.set_cons_succ,aW,aX];rfl
        refine e7 (i:=38) (N:=some 72) #[true,true,true,true,true,true,true,true,true,true,true,true,true,true,true,true,true,true,true,true,true,true,true,true,true,true,true,true,true,true,true,true,true,true,true,true,true,true,true,false,false,false,false] rfl rfl (eN b.out (by kernel_rfl)) (by decide) (fun K o=>?_);refine fl Tryz.func43 (by kernel_rfl) rfl #[.agg #[.int .i64 j,.slice q m.length s]] (by rfl) rfl rfl (by(try simp only[List.map_toArray,List.map_cons,List.map_nil]);first|done|rfl|(simp only[List.length_drop,List.length_take];rfl)) ?_;with_reducible refine(dK.calls k j _ _ m b3 _ ?af ?ah c9.out).mono ?_
        (case af=>exact Kd.aq z.out zB)
        (case ah=>exact B.out)
        rintro e f4 ⟨rfl,hb⟩;refine⟨_,rfl,?_⟩;replace l:=bp l hb;replace a:=zb a hb;replace g:=zS g hb
        (try clear hb)
        skip;skip;skip;refine o.out _ _ ⟨(ai a.out 0).trans rfl,(ai a.out 1).trans rfl⟩ (fun hHeld=>?_);clear o K;refine e8 (a':=?_) ?_ ?_;rotate_left
        ·show Act.put _ (some 72) _=_
         simp only[Act.put,List.setIfInBounds_toArray,List.set_cons_zero,List.set_cons_succ,aW,aX];rfl
        refine zs 43 549755813887 39 (by kernel_rfl) ?_;iterate 4 (refine zn (v:=?_) (a':=?_) (by simp only[Nat.reduceAdd];rfl) b rfl rfl (by kernel_rfl) (Or.inl ⟨by rfl,?_⟩) ?_ ?_;rotate_left;(focus (intro w';go_simp;with_reducible rfl));rotate_left;(focus (simp only[Act.put,List.setIfInBounds_toArray,List.set_cons_zero,List.set_cons_succ,aW,aX];rfl)))
        refine ko (ky b.out (by kernel_rfl)) ?_;try go_wp2
        go_meet
        case rel=>exact⟨_,((b2 != (wrap64 ((wrap64 (2*b3))-2)))),zT,Q,⟨by first|omega|exact aI _⟩,⟨zR l⟩,⟨zK a⟩,⟨zB⟩⟩
       ·rw[if_neg ak] at H
        exact bO.jT _ _ _ _ H x
      ·rw[if_neg ag] at H
       exact bO.jT _ _ _ _ H x
    ·replace Z:=Bool.eq_false_iff.mpr Z
     subst Z;replace H:=zj H;by_cases am:(p.length:Int)=j
     ·rw[if_pos am] at H
      obtain⟨f5,f6⟩:=br am;clear am;obtain⟨b_,c',H⟩:=zo H;by_cases an:b_=0
      ·rw[if_pos an] at H
       obtain⟨f7,f8⟩:=br an;clear an;obtain⟨b',dd,H⟩:=zo H;obtain⟨ca,dk,H⟩:=zo H;have Q:=zA H;clear H;try go_wp2
       replace l:=zA (Kd.bq l.out);replace a:=zA (eI a.out);replace g:=zA (bU g.out);obtain⟨cb,cc,cd⟩:=Kd.bm l.out
       (first|subst cd|(injection cd with F T G;have U:=F.symm;have V:=G.symm;clear F T G;subst U;subst V))
       refine kn (n:=43) (S:=fun w'=>w'.cell? ⟨D,0,none⟩=some (.int .i64 j)/\w'.cell? ⟨D,1,none⟩=some (.slice q m.length s)) (ds:=[]) #[false,false,false,false,false,false,false,false,false,false,false,false,false,false,false,false,false,false,false,false,false,false,false,false,false,false,false,false,false,false,false,false,false,false,false,false,false,false,false,false,false,false,false] (by kernel_rfl) rfl rfl ⟨(ai a.out 0).trans rfl,(ai a.out 1).trans rfl⟩ (fun hHeld=>?_);refine kA bO.rf bO.rh (fun b y=>?_);generalize aO.drew=f9 at l a g hHeld⊢;refine zs 43 0 0 (by kernel_rfl) ?_;iterate 9 (refine zn (v:=?_) (a':=?_) (by simp only[Nat.reduceAdd];rfl) b rfl rfl (by kernel_rfl) (Or.inl ⟨by rfl,?_⟩) ?_ ?_;rotate_left;(focus (intro w';go_simp;with_reducible rfl));rotate_left;(focus (simp only[Act.put,List.setIfInBounds_toArray,List.set_cons_zero,List.set_cons_succ,aW,aX];rfl)))
       refine eK (i:=9) (N:=some 43) (v:=undef) (a':=?_) #[true,true,true,true,true,true,true,true,true,true,false,false,false,false,false,false,false,false,false,false,false,false,false,false,false,false,false,false,false,false,false,false,false,false,false,false,false,false,false,false,false,false,false] rfl rfl (eM b.out (by kernel_rfl)) (fun _ _ _ h=>h) (Or.inr ⟨by rfl,rfl⟩) ?_ ?_;rotate_left
       ·simp only[Act.put,List.setIfInBounds_toArray,List.set_cons_zero,List.set_cons_succ,aW,aX]
        rfl
       refine eK (i:=10) (N:=some 44) (v:=undef) (a':=?_) #[true,true,true,true,true,true,true,true,true,true,true,false,false,false,false,false,false,false,false,false,false,false,false,false,false,false,false,false,false,false,false,false,false,false,false,false,false,false,false,false,false,false,false] rfl rfl (eM b.out (by kernel_rfl)) (fun _ _ _ h=>h) (Or.inr ⟨by rfl,rfl⟩) ?_ ?_;rotate_left
       ·simp only[Act.put,List.setIfInBounds_toArray,List.set_cons_zero,List.set_cons_succ,aW,aX]
        rfl
       refine zs 43 2047 11 (by kernel_rfl) ?_;iterate 2 (refine zn (v:=?_) (a':=?_) (by simp only[Nat.reduceAdd];rfl) b rfl rfl (by kernel_rfl) (Or.inl ⟨by rfl,?_⟩) ?_ ?_;rotate_left;(focus (intro w';go_simp;with_reducible rfl));rotate_left;(focus (simp only[Act.put,List.setIfInBounds_toArray,List.set_cons_zero,List.set_cons_succ,aW,aX];rfl)))
       refine eK (i:=13) (N:=some 47) (v:=undef) (a':=?_) #[true,true,true,true,true,true,true,true,true,true,true,true,true,true,false,false,false,false,false,false,false,false,false,false,false,false,false,false,false,false,false,false,false,false,false,false,false,false,false,false,false,false,false] rfl rfl (eM b.out (by kernel_rfl)) (fun _ _ _ h=>h) (Or.inr ⟨by rfl,rfl⟩) ?_ ?_;rotate_left
       ·simp only[Act.put,List.setIfInBounds_toArray,List.set_cons_zero,List.set_cons_succ,aW,aX]
        rfl
       refine eK (i:=14) (N:=some 48) (v:=undef) (a':=?_) #[true,true,true,true,true,true,true,true,true,true,true,true,true,true,true,false,false,false,false,false,false,false,false,false,false,false,false,false,false,false,false,false,false,false,false,false,false,false,false,false,false,false,false] rfl rfl (eM b.out (by kernel_rfl)) (fun _ _ _ h=>h) (Or.inr ⟨by rfl,rfl⟩) ?_ ?_;rotate_left
       ·simp only[Act.put,List.setIfInBounds_toArray,List.set_cons_zero,List.set_cons_succ,aW,aX]
        rfl
       refine eK (i:=15) (N:=some 49) (v:=undef) (a':=?_) #[true,true,true,true,true,true,true,true,true,true,true,true,true,true,true,true,false,false,false,false,false,false,false,false,false,false,false,false,false,false,false,false,false,false,false,false,false,false,false,false,false,false,false] rfl rfl (eM b.out (by kernel_rfl)) (fun _ _ _ h=>h) (Or.inr ⟨by rfl,rfl⟩) ?_ ?_;rotate_left
       ·simp only[Act.put,List.setIfInBounds_toArray,List.set_cons_zero,List.set_cons_succ,aW,aX]
        rfl
       refine eK (i:=16) (N:=some 50) (v:=undef) (a':=?_) #[true,true,true,true,true,true,true,true,true,true,true,true,true,true,true,true,true,false,false,false,false,false,false,false,false,false,false,false,false,false,false,false,false,false,false,false,false,false,false,false,false,false,false] rfl rfl (eM b.out (by kernel_rfl)) (fun _ _ _ h=>h) (Or.inr ⟨by rfl,rfl⟩) ?_ ?_;rotate_left
       ·simp only[Act.put,List.setIfInBounds_toArray,List.set_cons_zero,List.set_cons_succ,aW,aX]
        rfl
       refine eK (i:=17) (N:=some 51) (v:=undef) (a':=?_) #[true,true,true,true,true,true,true,true,true,true,true,true,true,true,true,true,true,true,false,false,false,false,false,false,false,false,false,false,false,false,false,false,false,false,false,false,false,false,false,false,false,false,false] rfl rfl (eM b.out (by kernel_rfl)) (fun _ _ _ h=>h) (Or.inr ⟨by rfl,rfl⟩) ?_ ?_;rotate_left
       ·simp only[Act.put,List.setIfInBounds_toArray,List.set_cons_zero,List.set_cons_succ,aW,aX]
        rfl
       refine zs 43 262143 18 (by kernel_rfl) ?_;iterate 6 (refine zn (v:=?_) (a':=?_) (by simp only[Nat.reduceAdd];rfl) b rfl rfl (by kernel_rfl) (Or.inl ⟨by rfl,?_⟩) ?_ ?_;rotate_left;(focus (intro w';go_simp;with_reducible rfl));rotate_left;(focus (simp only[Act.put,List.setIfInBounds_toArray,List.set_cons_zero,List.set_cons_succ,aW,aX];rfl)))
       refine eJ (i:=24) (N:=some 58) (v:=?_) (a':=?_) #[true,true,true,true,true,true,true,true,true,true,true,true,true,true,true,true,true,true,true,true,true,true,true,true,true,false,false,false,false,false,false,false,false,false,false,false,false,false,false,false,false,false,false] rfl rfl (eO b.out y.out (by kernel_rfl)) (fun _ _ _ h=>h) (Or.inl ⟨by rfl,?_⟩) hHeld ?_ ?_;rotate_left
       ·rintro w' ⟨s0,s1⟩
        go_simp
        with_reducible rfl
       rotate_left
       ·simp only[Act.put,List.setIfInBounds_toArray,List.set_cons_zero,List.set_cons_succ,aW,aX]
        rfl
       refine zs 43 33554431 25 (by kernel_rfl) ?_;iterate 5 (refine zn (v:=?_) (a':=?_) (by simp only[Nat.reduceAdd];rfl) b rfl rfl (by kernel_rfl) (Or.inl ⟨by rfl,?_⟩) ?_ ?_;rotate_left;(focus (intro w';go_simp;with_reducible rfl));rotate_left;(focus (simp only[Act.put,List.setIfInBounds_toArray,List.set_cons_zero,List.set_cons_succ,aW,aX];rfl)))
       refine eJ (i:=30) (N:=some 64) (v:=?_) (a':=?_) #[true,true,true,true,true,true,true,true,true,true,true,true,true,true,true,true,true,true,true,true,true,true,true,true,true,true,true,true,true,true,true,false,false,false,false,false,false,false,false,false,false,false,false] rfl rfl (eO b.out y.out (by kernel_rfl)) (fun _ _ _ h=>h) (Or.inl ⟨by rfl,?_⟩) hHeld ?_ ?_;rotate_left
       ·rintro w' ⟨s0,s1⟩
        go_simp
        with_reducible rfl
       rotate_left
       ·simp only[Act.put,List.setIfInBounds_toArray,List.set_cons_zero,List.set_cons_succ,aW,aX]
        rfl
       refine e7 (i:=31) (N:=some 65) #[true,true,true,true,true,true,true,true,true,true,true,true,true,true,true,true,true,true,true,true,true,true,true,true,true,true,true,true,true,true,true,true,false,false,false,false,false,false,false,false,false,false,false] rfl rfl (eN b.out (by kernel_rfl)) (by decide) (fun K o=>?_);refine fl Tryz.func42 (by kernel_rfl) rfl #[.slice cb p.length cc,.int .i64 j] (by rfl) rfl rfl (by(try simp only[List.map_toArray,List.map_cons,List.map_nil]);first|done|rfl|(simp only[List.length_drop,List.length_take];rfl)) ?_;with_reducible refine(cG.calls k _ _ p j b_ _ ?af ?ah c'.out).mono ?_
       (case af=>exact zC (Kd.aG l.out).2.2)
       (case ah=>exact(Kd.aG l.out).2.1)
       rintro e w' ⟨rfl,⟨E,rfl⟩⟩;refine⟨_,rfl,?_⟩;refine o.out _ _ ⟨(ai a.out 0).trans rfl,(ai a.out 1).trans rfl⟩ (fun hHeld=>?_);clear o K;refine e8 (a':=?_) ?_ ?_;rotate_left
       ·show Act.put _ (some 65) _=_
        simp only[Act.put,List.setIfInBounds_toArray,List.set_cons_zero,List.set_cons_succ,aW,aX];rfl
       refine zs 43 4294967295 32 (by kernel_rfl) ?_;iterate 4 (refine zn (v:=?_) (a':=?_) (by simp only[Nat.reduceAdd];rfl) b rfl rfl (by kernel_rfl) (Or.inl ⟨by rfl,?_⟩) ?_ ?_;rotate_left;(focus (intro w';go_simp;with_reducible rfl));rotate_left;(focus (simp only[Act.put,List.setIfInBounds_toArray,List.set_cons_zero,List.set_cons_succ,aW,aX];rfl)))
       refine eJ (i:=37) (N:=some 71) (v:=?_) (a':=?_) #[true,true,true,true,true,true,true,true,true,true,true,true,true,true,true,true,true,true,true,true,true,true,true,true,true,true,true,true,true,true,true,true,true,true,true,true,false,true,false,false,false,false,false] rfl rfl (eO b.out y.out (by kernel_rfl)) (fun _ _ _ h=>h) (Or.inl ⟨by rfl,?_⟩) hHeld ?_ ?_;rotate_left
       ·rintro w' ⟨s0,s1⟩
        go_simp
        with_reducible rfl
       rotate_left
       ·simp only[Act.put,List.setIfInBounds_toArray,List.set_cons_zero,List.set_cons_succ,aW,aX]
        rfl
       refine e7 (i:=36) (N:=some 70) #[true,true,true,true,true,true,true,true,true,true,true,true,true,true,true,true,true,true,true,true,true,true,true,true,true,true,true,true,true,true,true,true,true,true,true,true,true,true,false,false,false,false,false] rfl rfl (eN b.out (by kernel_rfl)) (by decide) (fun K o=>?_);refine fl Tryz.func22 (by kernel_rfl) rfl #[.slice cb p.length cc] (by rfl) rfl rfl (by(try simp only[List.map_toArray,List.map_cons,List.map_nil]);first|done|rfl|(simp only[List.length_drop,List.length_take];rfl)) ?_;with_reducible refine(cU.calls k _ _ p b' _ ?af ?ah dd.out).mono ?_
       (case af=>exact zC (Kd.aG l.out).2.2)
       (case ah=>exact(Kd.aG l.out).2.1)
       rintro e w' ⟨rfl,⟨E,rfl⟩⟩;refine⟨_,rfl,?_⟩;refine o.out _ _ ⟨(ai a.out 0).trans rfl,(ai a.out 1).trans rfl⟩ (fun hHeld=>?_);clear o K;refine e8 (a':=?_) ?_ ?_;rotate_left
       ·show Act.put _ (some 70) _=_
        simp only[Act.put,List.setIfInBounds_toArray,List.set_cons_zero,List.set_cons_succ,aW,aX];rfl
       refine e7 (i:=38) (N:=some 72) #[true,true,true,true,true,true,true,true,true,true,true,true,true,true,true,true,true,true,true,true,true,true,true,true,true,true,true,true,true,true,true,true,true,true,true,true,true,true,true,false,false,false,false] rfl rfl (eN b.out (by kernel_rfl)) (by decide) (fun K o=>?_);refine fl Tryz.func43 (by kernel_rfl) rfl #[.agg #[.int .i64 j,.slice q m.length s]] (by rfl) rfl rfl (by(try simp only[List.map_toArray,List.map_cons,List.map_nil]);first|done|rfl|(simp only[List.length_drop,List.length_take];rfl)) ?_;with_reducible refine(dK.calls k j _ _ m ca _ ?af ?ah dk.out).mono ?_
       (case af=>exact Kd.aq z.out zB)
       (case ah=>exact B.out)
       rintro e f' ⟨rfl,hb⟩;refine⟨_,rfl,?_⟩;replace l:=bp l hb;replace a:=zb a hb;replace g:=zS g hb
       (try clear hb)
       skip;skip;skip;refine o.out _ _ ⟨(ai a.out 0).trans rfl,(ai a.out 1).trans rfl⟩ (fun hHeld=>?_);clear o K;refine e8 (a':=?_) ?_ ?_;rotate_left
       ·show Act.put _ (some 72) _=_
        simp only[Act.put,List.setIfInBounds_toArray,List.set_cons_zero,List.set_cons_succ,aW,aX];rfl
       refine zs 43 549755813887 39 (by kernel_rfl) ?_;iterate 4 (refine zn (v:=?_) (a':=?_) (by simp only[Nat.reduceAdd];rfl) b rfl rfl (by kernel_rfl) (Or.inl ⟨by rfl,?_⟩) ?_ ?_;rotate_left;(focus (intro w';go_simp;with_reducible rfl));rotate_left;(focus (simp only[Act.put,List.setIfInBounds_toArray,List.set_cons_zero,List.set_cons_succ,aW,aX];rfl)))
       refine ko (ky b.out (by kernel_rfl)) ?_;try go_wp2
       go_meet
       case rel=>exact⟨_,((b' != (wrap64 ((wrap64 (2*ca))-2)))),zT,Q,⟨by first|omega|exact aI _⟩,⟨zR l⟩,⟨zK a⟩,⟨zB⟩⟩
      ·rw[if_neg an] at H
       exact bO.jT _ _ _ _ H x
     ·rw[if_neg am] at H
      exact bO.jT _ _ _ _ H x
   ·rw[if_neg Y] at H
    exact bO.jT _ _ _ _ H x
  case rest=>
   clear aL;obtain⟨W,X,rfl,HA,gb,u,a,g⟩:=hcut;cases W with
   |zero=>exact absurd HA.out (by simp[bO.j0])
   |succ ap=>
    have H:=HA.out;clear HA;simp only[bO.j0] at H;by_cases ar:X=true
    ·subst ar
     replace H:=zi H;exact absurd ((aE H).trans x.out) (by decide)
    ·replace ar:=Bool.eq_false_iff.mpr ar
     subst ar;replace H:=zj H;obtain⟨aS,ce,H⟩:=zo H;by_cases L:aS>4
     ·rw[if_pos L] at H
      have dl:=ay L;clear L;obtain⟨dv,d0,H⟩:=zo H;obtain rfl:=aE H;obtain⟨d1,d2,d3⟩:=Kd.bm u.out;subst d3;go_wp2_with (first|((with_reducible refine aC (f:=22) rfl ?_);refine zL (some 78) Tryz.func22 #[.slice d1 p.length d2] ?_;(with_reducible refine(cU.calls ap _ _ p aS _ ?af ?ah ce.out).mono ?_);(case af=>exact zC (Kd.aG u.out).2.2);(case ah=>exact(Kd.aG u.out).2.1);rintro e w' ⟨rfl,⟨E,rfl⟩⟩;refine⟨_,rfl,?_⟩)|((with_reducible refine aC (f:=26) rfl ?_);refine zL (some 80) Tryz.func26 #[] ?_;(with_reducible refine(kg.calls  dv _ d0.out).mono ?_);rintro e gc ⟨rfl,hb⟩;refine⟨_,rfl,?_⟩;replace u:=bp u hb;replace a:=zb a hb;replace g:=zS g hb;(try clear hb)))
      go_ret;exact⟨zE,zB⟩
     ·rw[if_neg L] at H
      have dl:=a6 L;clear L;obtain⟨⟨cf,ch⟩,d4,H⟩:=zo H;dsimp only at H;by_cases av:ch=0
      ·rw[if_pos av] at H
       obtain⟨gd,ge⟩:=br av;clear av;obtain⟨ci,d5,H⟩:=zo H;by_cases aB:cf=(wrap64 (ci-1))
       ·rw[if_pos aB] at H
        obtain⟨gf,gg⟩:=br aB;clear aB;obtain⟨d6,d7,H⟩:=zo H;obtain rfl:=aE H;obtain⟨cj,ck,d8⟩:=Kd.bm u.out;subst d8;go_wp2_with (first|((with_reducible refine aC (f:=22) rfl ?_);refine zL (some 78) Tryz.func22 #[.slice cj p.length ck] ?_;(with_reducible refine(cU.calls ap _ _ p aS _ ?af ?ah ce.out).mono ?_);(case af=>exact zC (Kd.aG u.out).2.2);(case ah=>exact(Kd.aG u.out).2.1);rintro e w' ⟨rfl,⟨E,rfl⟩⟩;refine⟨_,rfl,?_⟩;obtain⟨gi,gl,gm,gn⟩:=au a)|((with_reducible refine aC (f:=41) rfl ?_);refine zL (some 84) Tryz.func41 #[.agg #[.int .i64 j,.slice q m.length s],.slice cj p.length ck] ?_;(with_reducible refine(dy.calls ap j _ _ m _ _ p cf ch _ ?af ?ah ?aT ?aU d4.out).mono ?_);(case af=>exact Kd.aq z.out zB);(case ah=>exact B.out);(case aT=>exact zC (Kd.aG u.out).2.2);(case aU=>exact(Kd.aG u.out).2.1);rintro e go ⟨rfl,hb⟩;refine⟨_,rfl,?_⟩;replace u:=bp u hb;replace a:=zb a hb;replace g:=zS g hb;(try clear hb);obtain⟨gp,gq,gr,gs⟩:=au a)|(go_at_call 43;(with_reducible refine(dK.calls ap j _ _ m ci _ ?af ?ah d5.out).mono ?_);(case af=>exact Kd.aq z.out zB);(case ah=>exact B.out);rintro e gt ⟨rfl,hb⟩;replace u:=bp u hb;replace a:=zb a hb;replace g:=zS g hb;(try clear hb))|(go_at_call 26;(with_reducible refine(kg.calls  d6 _ d7.out).mono ?_);rintro e gx ⟨rfl,hb⟩;replace u:=bp u hb;replace a:=zb a hb;replace g:=zS g hb;(try clear hb)))
        go_ret;exact⟨zE,zB⟩
       ·rw[if_neg aB] at H
        exact absurd ((aE H).trans x.out) (by decide)
      ·rw[if_neg av] at H
       exact absurd ((aE H).trans x.out) (by decide)
 ·replace c4:=Bool.eq_false_iff.mpr c4
  subst c4;replace H:=zj H;obtain⟨d9,ea,H⟩:=zo H;obtain rfl:=aE H;go_enter Tryz.func8,Tryz.ntmps8
  go_wp2_with (first|((with_reducible refine aH (N:=2) rfl ?_);(try(refine dt (by rfl) ?_;dsimp only));refine zX 2 #[.int .i64 j,.slice q m.length s] 24 ?_;intro D hg g0 P hb;have a:=zA (P);have cs:=zG g hg;have cv:=zG g hg;replace g:=zS g hb;clear hb P hg;obtain⟨g1,g2,g3,g4⟩:=au a)|((with_reducible refine aC (f:=29) rfl ?_);refine zL (some 14) Tryz.func29 #[.agg #[.int .i64 j,.slice q m.length s],.slice I l1.length c1] ?_;(with_reducible refine(kb.calls k j _ _ m _ _ l1 false _ ?af ?ah ?aT ?aU A3.out).mono ?_);(case af=>exact Kd.aq z.out zB);(case ah=>exact B.out);(case aT=>exact Kd.aq M.out zB);(case aU=>exact O.out);rintro e g5 ⟨rfl,hb⟩;refine⟨_,rfl,?_⟩;replace a:=zb a hb;replace g:=zS g hb;(try clear hb))|((with_reducible refine aC (f:=26) rfl ?_);refine zL (some 16) Tryz.func26 #[] ?_;(with_reducible refine(kg.calls  d9 _ ea.out).mono ?_);rintro e g6 ⟨rfl,hb⟩;refine⟨_,rfl,?_⟩;replace a:=zb a hb;replace g:=zS g hb;(try clear hb)))
  go_ret;exact⟨zE,zB⟩
section
theorem xc:∀{c:List Int},(∀x∈c, -1048576<=x/\x<=1048576)->ig c=0
 |[],_=>rfl
 |x::c,h=>by
  have h1:=h x (List.mem_cons_self ..);have a:=xc (c:=c) fun y b=>h y (List.mem_cons_of_mem _ b)
  rw[ig,if_pos (by simp[mX];omega)];exact a
namespace Curve
variable {n:Nat} {E:List S83} {d:List Int} (h:Curve n E d) (hn:1<=n) {g:Nat} (hg:T.IsGenus n (timesOf E) g)
include h hn hg
theorem ri:(g:Int)<=8:=by
 have h1:=h.val;have a:T.sN (T.can n (timesOf E)) n=2*g-2:=hg;rw[show T.can n (timesOf E)=fun v=>T.val n (timesOf E) v-2 from rfl,T.da,T.gH] at a;omega
theorem xd:Ev (fun k=>cU.f k (cA n E)) (2*(g:Int)-2):=by
 have e:(cA n E).length=n:=by simp[cA]
 have f1:=(h.facts hn).1;have a:=wG (cA n E) (by omega) (fun v b=>by have:=h.nn hn v (by omega);omega);rw[e,T.bI (g:=T.can n (timesOf E)) (fun v b=>nm b)] at a;have i:T.sN (T.can n (timesOf E)) n=2*g-2:=hg;rw[i] at a;exact a
theorem xe:Ev (fun k=>dK.f k n E) (g:Int):=by
 obtain⟨f1,f2,f3,f4,f5⟩:=h.facts hn;exact EW hn (by omega) (by omega) h.check hg
theorem F0:Ev (fun k=>bO.j0 k (cA n E) false n E) true:=by
 obtain⟨f1,f2,f3,f4,f5⟩:=h.facts hn;have i:=h.ri hn hg;refine Ev.of_succ ?_;simp only[bO.j0,Bool.false_eq_true,if_false];refine Ev.bind (h.xd hn hg) ?_;by_cases e:2*(g:Int)-2>4
 ·simp only[if_pos e]
  exact Ev.bind (Ev.const _) (Ev.const _)
 ·simp only[if_neg e]
  have b:Rk n (timesOf E) (cA n E) ((g:Int)-1):=mT (fun v a=>nm a) (wN f3.wt (f3.conn f4) hn hg);refine Ev.bind (h.wL hn (by simp[cA]) (fun v a=>by have:=h.nn hn v a;omega) b) ?_;simp only[if_true];refine Ev.bind (h.xe hn hg) ?_;simp only[iz (show -1000000000<=(g:Int)-1/\(g:Int)-1<=1000000000 by omega),if_true];exact Ev.bind (Ev.const _) (Ev.const _)
theorem rj:Ev (fun k=>if((cA n E).length:Int)=n then((cG.f k (cA n E) n).bind fun t=>(if t=0 then((cU.f k (cA n E)).bind fun a=>((dK.f k n E).bind fun b=>(bO.j0 k (cA n E) (a != (wrap64 ((wrap64 (2*b))-2))) n E))) else(bO.j0 k (cA n E) true n E))) else(bO.j0 k (cA n E) true n E)) true:=by
 obtain⟨f1,f2,f3,f4,f5⟩:=h.facts hn;have m:=h.ri hn hg;have o:(cA n E).length=n:=by simp[cA]
 simp only[if_pos (show ((cA n E).length:Int)=n by omega)];have hk:=lY (cA n E) n ⟨by omega,by omega⟩;rw[if_pos (by omega),xc (fun x i=>by
  obtain⟨v,j,rfl⟩:=List.getElem_of_mem i;have l:=h.nn hn v (by omega);have e:rd (cA n E) (v:Int)=(cA n E)[v]:=by simp[rd,bb,bP j]
  rw[e] at l;omega)] at hk
 refine Ev.bind hk ?_;simp only[if_true];refine Ev.bind (h.xd hn hg) ?_;refine Ev.bind (h.xe hn hg) ?_;simp only[iz (show -1000000000<=2*(g:Int)/\2*(g:Int)<=1000000000 by omega),iz (show -1000000000<=2*(g:Int)-2/\2*(g:Int)-2<=1000000000 by omega),bne_self_eq_false];exact h.F0 hn hg
end Curve
theorem F1 (N:Int) (E:List S83) (o:E.length<=9223372036854775807) (d:List Int):Ev (fun k=>bO.f k N E d) true:=by
 unfold bO.f;obtain⟨b,hb,p⟩:=ES N E o d;cases j:b with
 |false=>
  subst j;refine Ev.bind hb ?_;simp only[Bool.false_eq_true,if_false];exact Ev.bind (Ev.const _) (Ev.const _)
 |true=>
  subst j;obtain⟨n,rfl,hn,hC⟩:=p rfl;obtain⟨f1,f2,f3,f4,f5⟩:=hC.facts hn;obtain⟨g,B,hg⟩:=hC.wK hn;have e:=hC.low;have C:=hC.ri hn hg;have q:(di (cA n E) d).length=n:=hC.EP hn;have l:dP n 0 E (di (cA n E) d):=hC.fY hn q (fun v a=>by
   rw[hC.wH hn v a];have h1:=hC.nn hn v a;rw[nm a] at h1;have:=e v a;omega)
  obtain⟨r,h⟩:=T.gJ f3.wt hn (fun v=>rd d (v:Nat));obtain⟨s,u,D,w⟩:=wh l hC.check;have x:=Ey l w;have y:Ev (fun k=>kU.f k n E d) (decide (rd (dw n E (di (cA n E) d) s) 0>=0),(0:Int)):=by
   unfold kU.f;refine Ev.bind (hC.ER hn hC.dl (fun v a=>by have:=e v a;omega)) ?_;simp only[if_true];refine Ev.bind u ?_;exact Ev.const _
  refine Ev.bind hb ?_;simp only[if_true];refine Ev.bind (hC.wL hn hC.dl (fun v a=>by have:=e v a;omega) h) ?_;refine Ev.bind y ?_;refine Ev.bind (hC.wJ hn) ?_;simp only[show wrap64 (wrap64 (0+0)+0)=0 from by unfold wrap64;omega,if_true];have m:=wG d (by rw[hC.dl];omega) (fun v a=>by have:=e v (by rw[<-hC.dl];exact a);omega);rw[hC.dl] at m;have F:=h.1;by_cases hw:rd (dw n E (di (cA n E) d) s) 0>=0
  ·rw[ay hw]
   simp only[if_true];by_cases i:r>=0
   ·simp only[if_pos i]
    refine Ev.bind m ?_;have z:T.b9 n (timesOf E) (fun v=>T.can n (timesOf E) v-rd d (v:Nat)):=(x.1 hw).fs (T.bQ.of_eq fun v a=>(hC.wH hn v a).symm);have G:=EV f3.wt (f3.conn f4) hn hg h i z;have hle:=h.mF f3.wt hn i;have H:T.sN (fun v=>rd d (v:Nat)) n<=100*n:=by
     have:=T.cT (f:=fun v=>rd d (v:Nat)) (g:=fun _=>(100:Int)) (n:=n) (fun v a=>(e v a).2);rw[T.gH] at this;omega
    simp only[if_neg (show ¬wrap64 (2*r)>T.sN (fun v=>rd d (v:Nat)) n by rw[iz (by omega)];omega)];exact hC.rj hn hg
   ·simp only[if_neg i]
    exact hC.rj hn hg
  ·rw[a6 hw]
   simp only[Bool.false_eq_true,if_false];exact hC.rj hn hg
end
end Go.Proofs.YtffdiakgjakngaaGreat.P


