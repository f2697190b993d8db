/- TopRochUnwinnable answers true whatever the input (text 17 of 19): own walks and plain laws; no conditions. -/
import Derived.Test.YtffdiakgjakngaaGreatRoch16
namespace Go.Proofs.YtffdiakgjakngaaGreat.P
open Go.RowKit Go.Proofs.YtffdiakgjakngaaGreatW.PrintWords Go.Proofs.YtffdiakgjakngaaGreatW.PrintLast Go.Proofs.YtffdiakgjakngaaGreatW.PrintMore
set_option linter.unusedVariables false
set_option linter.unusedSimpArgs false
set_option maxHeartbeats 8000000
set_option maxRecDepth 100000
noncomputable def gP.f (k:Nat):Option (Bool):=(some (([(⟨0,1,3⟩:S83)]:List (S83)):List (S83))).bind fun j=>((dw.f k 2 j).bind fun o=>((cP.f k 2 j o.1).bind fun I=>((fi.f k 2 j (([2,0]:List Int))).bind fun J=>(if(wrap64 ((wrap64 (o.2+I.2))+J.2))=0 then((b9.f k o.1 (([1,1]:List Int))).bind fun R=>(if R=true then(if I.1=1 then(some (J.1==1)) else(some false)) else(some false))) else(some false)))))
theorem gP.calls (k:Nat)  (r:Bool) (w:World) (h:gP.f k=some r):
  Calls Tryz.prog 13 #[] w fun e w'=>e= .returned (.bool r)∧Below w.heap.size w w':=by
 have ho:=Tryz.underlying83
 have hq:=Tryz.underlying24
 have I:=Aside0.mk (Below.refl w.heap.size w)
 have H:((some (([(⟨0,1,3⟩:S83)]:List (S83)):List (S83))).bind fun U=>((dw.f k 2 U).bind fun b1=>((cP.f k 2 U b1.1).bind fun bo=>((fi.f k 2 U (([2,0]:List Int))).bind fun aS=>(if(wrap64 ((wrap64 (b1.2+bo.2))+aS.2))=0 then((b9.f k b1.1 (([1,1]:List Int))).bind fun aL=>(if aL=true then(if bo.1=1 then(some (aS.1==1)) else(some false)) else(some false))) else(some false))))))=some r:=h
 clear h
 obtain⟨U,cv⟩:∃y_:List (S83),y_=(([(⟨0,1,3⟩:S83)]:List (S83))):=⟨_,rfl⟩
 replace H:((dw.f k 2 U).bind fun b1=>((cP.f k 2 U b1.1).bind fun bo=>((fi.f k 2 U (([2,0]:List Int))).bind fun aS=>(if(wrap64 ((wrap64 (b1.2+bo.2))+aS.2))=0 then((b9.f k b1.1 (([1,1]:List Int))).bind fun aL=>(if aL=true then(if bo.1=1 then(some (aS.1==1)) else(some false)) else(some false))) else(some false)))))=some r:=by first|(rw[cv];with_reducible exact H)|(have a2:=(Option.bind_some _ _).symm.trans H;rw[cv];with_reducible exact a2)|(have a2:=(Option.bind_some _ _).symm.trans H;with_reducible exact a2)|with_reducible exact H|(rw[cv];exact H)|exact H
 have bw:=Aside0.mk cv
 clear cv
 replace H:=Option.bind_eq_some_iff.mp H
 obtain⟨⟨an,a0⟩,ey,H⟩:=H
 replace H:((cP.f k 2 U an).bind fun bo=>((fi.f k 2 U (([2,0]:List Int))).bind fun aS=>(if(wrap64 ((wrap64 (a0+bo.2))+aS.2))=0 then((b9.f k an (([1,1]:List Int))).bind fun aL=>(if aL=true then(if bo.1=1 then(some (aS.1==1)) else(some false)) else(some false))) else(some false))))=some r:=H
 have A1:=Aside0.mk ey
 clear ey
 replace H:=Option.bind_eq_some_iff.mp H
 obtain⟨⟨aO,a1⟩,e0,H⟩:=H
 replace H:((fi.f k 2 U (([2,0]:List Int))).bind fun aS=>(if(wrap64 ((wrap64 (a0+a1))+aS.2))=0 then((b9.f k an (([1,1]:List Int))).bind fun aL=>(if aL=true then(if aO=1 then(some (aS.1==1)) else(some false)) else(some false))) else(some false)))=some r:=H
 have A2:=Aside0.mk e0
 clear e0
 obtain⟨bn,c0⟩:∃y_:List Int,y_=(([2,0]:List Int)):=⟨_,rfl⟩
 replace H:((fi.f k 2 U bn).bind fun aS=>(if(wrap64 ((wrap64 (a0+a1))+aS.2))=0 then((b9.f k an (([1,1]:List Int))).bind fun aL=>(if aL=true then(if aO=1 then(some (aS.1==1)) else(some false)) else(some false))) else(some false)))=some r:=by first|(rw[c0];with_reducible exact H)|(have a2:=(Option.bind_some _ _).symm.trans H;rw[c0];with_reducible exact a2)|(have a2:=(Option.bind_some _ _).symm.trans H;with_reducible exact a2)|with_reducible exact H|(rw[c0];exact H)|exact H
 have bx:=Aside0.mk c0
 clear c0
 replace H:=Option.bind_eq_some_iff.mp H
 obtain⟨⟨b0,bk⟩,e1,H⟩:=H
 replace H:(if(wrap64 ((wrap64 (a0+a1))+bk))=0 then((b9.f k an (([1,1]:List Int))).bind fun aL=>(if aL=true then(if aO=1 then(some (b0==1)) else(some false)) else(some false))) else(some false))=some r:=H
 have A3:=Aside0.mk e1
 clear e1
 by_cases c4:(wrap64 ((wrap64 (a0+a1))+bk))=0
 ·rw[if_pos c4] at H
  have e5:((wrap64 ((wrap64 (a0+a1))+bk))==0)=true:=beq_iff_eq.mpr c4
  have e6:((wrap64 ((wrap64 (a0+a1))+bk)) != 0)=false:=bne_eq_false_iff_eq.mpr c4
  clear c4
  obtain⟨dv,c1⟩:∃y_:List Int,y_=(([1,1]:List Int)):=⟨_,rfl⟩
  replace H:((b9.f k an dv).bind fun aL=>(if aL=true then(if aO=1 then(some (b0==1)) else(some false)) else(some false)))=some r:=by first|(rw[c1];with_reducible exact H)|(have a2:=(Option.bind_some _ _).symm.trans H;rw[c1];with_reducible exact a2)|(have a2:=(Option.bind_some _ _).symm.trans H;with_reducible exact a2)|with_reducible exact H|(rw[c1];exact H)|exact H
  have cc:=Aside0.mk c1
  clear c1
  replace H:=Option.bind_eq_some_iff.mp H
  obtain⟨aL,e2,H⟩:=H
  replace H:(if aL=true then(if aO=1 then(some (b0==1)) else(some false)) else(some false))=some r:=H
  have A5:=Aside0.mk e2
  clear e2
  by_cases c6:aL=true
  ·subst c6
   have H1:(if aO=1 then(some (b0==1)) else(some false))=some r:=by rw[if_pos rfl] at H;exact H
   clear H
   have H:=H1
   clear H1
   by_cases c7:aO=1
   ·rw[if_pos c7] at H
    have e_:(aO==1)=true:=beq_iff_eq.mpr c7
    have e':(aO != 1)=false:=bne_eq_false_iff_eq.mpr c7
    clear c7
    obtain rfl:=Option.some.inj H
    go_enter Tryz.func13,Tryz.ntmps13
    go_wp2_with (first|((with_reducible refine aA (N:=9) rfl ?_);(try(refine dk (by rfl) ?_;dsimp only));refine Kd.eY aG _ 83 ?hg (N:=9) ?hd (xs:=([(⟨0,1,3⟩:S83)]:List (S83))) (inner:=[.int .i64 0,.int .i64 1,.int .i64 3]) (ok:=fun _=>True) (okp:=fun _=>True) ?hr ?hp (fun _ hk=>hk) trivial (Below.refl _ _) (Nat.le_refl _) (by simp) ?_;(case hd=>rfl);(case hg=>rfl);(case hr=>first|(go_simp;done)|(go_simp;rfl));(case hp=>exact(aT.c3 (show Kd.M aG _ _ _ (⟨0,1,3⟩:S83) [.int .i64 0,.int .i64 1,.int .i64 3] from(lF _ _ _ (⟨0,1,3⟩:S83))) (aT.none _ _)));intro ed w8 c2 hb ar av;clear ar av;(first|rw[<-bw.out] at c2|(simp only[Int.reduceToNat] at c2;rw[<-bw.out] at c2));have j:=Aside0.mk (Kd.aM c2 (aU zB));replace I:=zS I hb;clear hb c2;obtain⟨cd,b3,fb⟩:=Kd.a7 j.out;subst fb)|((with_reducible refine aA (N:=1) rfl ?_);(try(refine dk (by rfl) ?_;dsimp only));refine zX 1 #[.int .i64 0,.slice none 0 0] 24 ?_;intro ak hg fE a3 hb;replace j:=bm j hb;have J:=Aside0.mk (a3);have eg:=zG I hg;have ek:=zG I hg;replace I:=zS I hb;clear hb a3 hg;obtain⟨ht,hv,hx,hy⟩:=ao J)|((with_reducible refine au (f:=35) rfl ?_);refine zL (some 13) Tryz.func35 #[.agg #[.int .i64 2,.slice cd U.length b3]] ?_;(with_reducible refine(dw.calls k 2 _ _ U an a0 _ ?ad ?ag A1.out).mono ?_);(case ad=>refine(Kd.aC (e:=83) (base:=w.heap.size) (ok:=fun k_=>True) (n:=U.length) (c:=b3) ?_).2.2;exact(by(with_reducible repeat(first|apply Kd.aD|apply Kd.bd|apply Kd.a8));exact(Kd.aR (Kd.cz (p:=⟨ak,1,none⟩) (Kd.cz (p:=⟨ak,0,none⟩) (Kd.eM j.out J.out (by decide)) (fun _ hk=>hk.2) (.int .i64 2)) (fun _ hk=>hk.2) (.slice cd U.length b3)) (fun _ h_=>h_.1))));(case ag=>exact(Kd.aC j.out).2.1);rintro e hz ⟨ev,rfl,bf,hb⟩;refine⟨_,rfl,?_⟩;replace j:=Aside0.mk (Kd.bY (by(with_reducible repeat(first|apply Kd.aD|apply Kd.bd|apply Kd.a8));exact(Kd.aR (Kd.cz (p:=⟨ak,1,none⟩) (Kd.cz (p:=⟨ak,0,none⟩) (Kd.eM j.out J.out (by decide)) (fun _ hk=>hk.2) (.int .i64 2)) (fun _ hk=>hk.2) (.slice cd U.length b3)) (fun _ h_=>h_.1))) hb);have R:=Aside0.mk (Kd.aM bf (aU zB));replace J:=Aside0.mk (aE (g:=ak) (o:=.cells #[.int .i64 2,.slice cd U.length b3] 24 (0,0)) (by refine zk ?_;refine aZ (cs:=#[.int .i64 2,.slice none 0 0]) ?_ 1 _ rfl;refine zk ?_;refine aZ (cs:=#[.int .i64 0,.slice none 0 0]) ?_ 0 _ rfl;exact zK J) hb);replace I:=zS I hb;(try clear hb);(try clear bf);obtain⟨hA,hB,hD,hE⟩:=ao J;obtain⟨fo,fq,fr⟩:=Kd.a7 R.out;subst fr)|((with_reducible refine au (f:=41) rfl ?_);refine zL (some 19) Tryz.func41 #[.agg #[.int .i64 2,.slice cd U.length b3],.slice fo an.length fq] ?_;(with_reducible refine(cP.calls k 2 _ _ U _ _ an aO a1 _ ?ad ?ag ?aB ?aF A2.out).mono ?_);(case ad=>exact zC (Kd.aC j.out).2.2);(case ag=>exact(Kd.aC j.out).2.1);(case aB=>exact zC (Kd.aC R.out).2.2);(case aF=>exact(Kd.aC R.out).2.1);rintro e hG ⟨rfl,hb⟩;refine⟨_,rfl,?_⟩;replace j:=bm j hb;replace R:=bm R hb;replace J:=zb J hb;replace I:=zS I hb;(try clear hb);obtain⟨hH,hI,hJ,hK⟩:=ao J)|((with_reducible refine aA (N:=24) rfl ?_);(try(refine dk (by rfl) ?_;dsimp only));refine Kd.eY (Kd.int .i64) _ 3 ?hg (N:=24) ?hd (xs:=([2,0]:List Int)) (inner:=[.int .i64 2,.int .i64 0]) (ok:=fun _=>True) (okp:=fun _=>True) ?hr ?hp (fun _ hk=>hk) trivial (Below.refl _ _) (Nat.le_refl _) (by simp) ?_;(case hd=>rfl);(case hg=>rfl);(case hr=>first|(go_simp;done)|(go_simp;rfl));(case hp=>exact(aT.one (show Kd.M (Kd.int .i64) _ _ _ 2 [.int .i64 2] from rfl) (aT.one (show Kd.M (Kd.int .i64) _ _ _ 0 [.int .i64 0] from rfl) (aT.none _ _))));intro ew hL cf hb ar av;clear ar av;(first|rw[<-bx.out] at cf|(simp only[Int.reduceToNat] at cf;rw[<-bx.out] at cf));replace j:=bm j hb;have ab:=Aside0.mk (Kd.aM (Kd.dy cf (Kd.bq (zR R))) (aU zB));replace R:=fu R cf hb;replace J:=zb J hb;replace I:=zS I hb;clear hb cf;obtain⟨ft,fv,f'⟩:=Kd.a7 ab.out;subst f')|((with_reducible refine au (f:=27) rfl ?_);refine zL (some 25) Tryz.func27 #[.agg #[.int .i64 2,.slice cd U.length b3],.slice ft bn.length fv] ?_;(with_reducible refine(fi.calls k 2 _ _ U _ _ bn b0 bk _ ?ad ?ag ?aB ?aF A3.out).mono ?_);(case ad=>exact zC (Kd.aC j.out).2.2);(case ag=>exact(Kd.aC j.out).2.1);(case aB=>exact zC (Kd.aC ab.out).2.2);(case aF=>exact(Kd.aC ab.out).2.1);rintro e hM ⟨rfl,hb⟩;refine⟨_,rfl,?_⟩;replace j:=bm j hb;replace R:=bm R hb;replace ab:=bm ab hb;replace J:=zb J hb;replace I:=zS I hb;(try clear hb))|((with_reducible refine aA (N:=36) rfl ?_);(try(refine dk (by rfl) ?_;dsimp only));refine Kd.eY (Kd.int .i64) _ 3 ?hg (N:=36) ?hd (xs:=([1,1]:List Int)) (inner:=[.int .i64 1,.int .i64 1]) (ok:=fun _=>True) (okp:=fun _=>True) ?hr ?hp (fun _ hk=>hk) trivial (Below.refl _ _) (Nat.le_refl _) (by simp) ?_;(case hd=>rfl);(case hg=>rfl);(case hr=>first|(go_simp;done)|(go_simp;rfl));(case hp=>exact(aT.one (show Kd.M (Kd.int .i64) _ _ _ 1 [.int .i64 1] from rfl) (aT.one (show Kd.M (Kd.int .i64) _ _ _ 1 [.int .i64 1] from rfl) (aT.none _ _))));intro e3 hN b4 hb ar av;clear ar av;(first|rw[<-cc.out] at b4|(simp only[Int.reduceToNat] at b4;rw[<-cc.out] at b4));replace j:=bm j hb;have bg:=Aside0.mk (Kd.aM (Kd.dy (Kd.dy b4 (Kd.bq (zR R))) (Kd.bq (zR ab))) (aU zB));replace R:=fu R b4 hb;replace ab:=fu ab b4 hb;replace J:=zb J hb;replace I:=zS I hb;clear hb b4;obtain⟨hO,hP,gb⟩:=Kd.a7 bg.out;subst gb)|(go_at_call 33;(with_reducible refine(b9.calls k _ _ an _ _ dv true _ ?ad ?ag ?aB ?aF A5.out).mono ?_);(case ad=>exact zC (Kd.aC R.out).2.2);(case ag=>exact(Kd.aC R.out).2.1);(case aB=>exact zC (Kd.aC bg.out).2.2);(case aF=>exact(Kd.aC bg.out).2.1);rintro e w' ⟨rfl,⟨nd,rfl⟩⟩))
    go_ret
    exact⟨zE,zB⟩
   ·rw[if_neg c7] at H
    have e_:(aO==1)=false:=beq_eq_false_iff_ne.mpr c7
    have e':(aO != 1)=true:=bne_iff_ne.mpr c7
    obtain rfl:=Option.some.inj H
    go_enter Tryz.func13,Tryz.ntmps13
    go_wp2_with (first|((with_reducible refine aA (N:=9) rfl ?_);(try(refine dk (by rfl) ?_;dsimp only));refine Kd.eY aG _ 83 ?hg (N:=9) ?hd (xs:=([(⟨0,1,3⟩:S83)]:List (S83))) (inner:=[.int .i64 0,.int .i64 1,.int .i64 3]) (ok:=fun _=>True) (okp:=fun _=>True) ?hr ?hp (fun _ hk=>hk) trivial (Below.refl _ _) (Nat.le_refl _) (by simp) ?_;(case hd=>rfl);(case hg=>rfl);(case hr=>first|(go_simp;done)|(go_simp;rfl));(case hp=>exact(aT.c3 (show Kd.M aG _ _ _ (⟨0,1,3⟩:S83) [.int .i64 0,.int .i64 1,.int .i64 3] from(lF _ _ _ (⟨0,1,3⟩:S83))) (aT.none _ _)));intro ed hQ c5 hb ar av;clear ar av;(first|rw[<-bw.out] at c5|(simp only[Int.reduceToNat] at c5;rw[<-bw.out] at c5));have j:=Aside0.mk (Kd.aM c5 (aU zB));replace I:=zS I hb;clear hb c5;obtain⟨ch,b5,gd⟩:=Kd.a7 j.out;subst gd)|((with_reducible refine aA (N:=1) rfl ?_);(try(refine dk (by rfl) ?_;dsimp only));refine zX 1 #[.int .i64 0,.slice none 0 0] 24 ?_;intro ak hg hR a3 hb;replace j:=bm j hb;have J:=Aside0.mk (a3);have eg:=zG I hg;have ek:=zG I hg;replace I:=zS I hb;clear hb a3 hg;obtain⟨hT,hV,hW,hX⟩:=ao J)|((with_reducible refine au (f:=35) rfl ?_);refine zL (some 13) Tryz.func35 #[.agg #[.int .i64 2,.slice ch U.length b5]] ?_;(with_reducible refine(dw.calls k 2 _ _ U an a0 _ ?ad ?ag A1.out).mono ?_);(case ad=>refine(Kd.aC (e:=83) (base:=w.heap.size) (ok:=fun k_=>True) (n:=U.length) (c:=b5) ?_).2.2;exact(by(with_reducible repeat(first|apply Kd.aD|apply Kd.bd|apply Kd.a8));exact(Kd.aR (Kd.cz (p:=⟨ak,1,none⟩) (Kd.cz (p:=⟨ak,0,none⟩) (Kd.eM j.out J.out (by decide)) (fun _ hk=>hk.2) (.int .i64 2)) (fun _ hk=>hk.2) (.slice ch U.length b5)) (fun _ h_=>h_.1))));(case ag=>exact(Kd.aC j.out).2.1);rintro e hY ⟨ev,rfl,bf,hb⟩;refine⟨_,rfl,?_⟩;replace j:=Aside0.mk (Kd.bY (by(with_reducible repeat(first|apply Kd.aD|apply Kd.bd|apply Kd.a8));exact(Kd.aR (Kd.cz (p:=⟨ak,1,none⟩) (Kd.cz (p:=⟨ak,0,none⟩) (Kd.eM j.out J.out (by decide)) (fun _ hk=>hk.2) (.int .i64 2)) (fun _ hk=>hk.2) (.slice ch U.length b5)) (fun _ h_=>h_.1))) hb);have R:=Aside0.mk (Kd.aM bf (aU zB));replace J:=Aside0.mk (aE (g:=ak) (o:=.cells #[.int .i64 2,.slice ch U.length b5] 24 (0,0)) (by refine zk ?_;refine aZ (cs:=#[.int .i64 2,.slice none 0 0]) ?_ 1 _ rfl;refine zk ?_;refine aZ (cs:=#[.int .i64 0,.slice none 0 0]) ?_ 0 _ rfl;exact zK J) hb);replace I:=zS I hb;(try clear hb);(try clear bf);obtain⟨h0,h1,h2,h3⟩:=ao J;obtain⟨gf,gg,gi⟩:=Kd.a7 R.out;subst gi)|((with_reducible refine au (f:=41) rfl ?_);refine zL (some 19) Tryz.func41 #[.agg #[.int .i64 2,.slice ch U.length b5],.slice gf an.length gg] ?_;(with_reducible refine(cP.calls k 2 _ _ U _ _ an aO a1 _ ?ad ?ag ?aB ?aF A2.out).mono ?_);(case ad=>exact zC (Kd.aC j.out).2.2);(case ag=>exact(Kd.aC j.out).2.1);(case aB=>exact zC (Kd.aC R.out).2.2);(case aF=>exact(Kd.aC R.out).2.1);rintro e h4 ⟨rfl,hb⟩;refine⟨_,rfl,?_⟩;replace j:=bm j hb;replace R:=bm R hb;replace J:=zb J hb;replace I:=zS I hb;(try clear hb);obtain⟨h5,h6,h7,h8⟩:=ao J)|((with_reducible refine aA (N:=24) rfl ?_);(try(refine dk (by rfl) ?_;dsimp only));refine Kd.eY (Kd.int .i64) _ 3 ?hg (N:=24) ?hd (xs:=([2,0]:List Int)) (inner:=[.int .i64 2,.int .i64 0]) (ok:=fun _=>True) (okp:=fun _=>True) ?hr ?hp (fun _ hk=>hk) trivial (Below.refl _ _) (Nat.le_refl _) (by simp) ?_;(case hd=>rfl);(case hg=>rfl);(case hr=>first|(go_simp;done)|(go_simp;rfl));(case hp=>exact(aT.one (show Kd.M (Kd.int .i64) _ _ _ 2 [.int .i64 2] from rfl) (aT.one (show Kd.M (Kd.int .i64) _ _ _ 0 [.int .i64 0] from rfl) (aT.none _ _))));intro ew h9 cj hb ar av;clear ar av;(first|rw[<-bx.out] at cj|(simp only[Int.reduceToNat] at cj;rw[<-bx.out] at cj));replace j:=bm j hb;have ab:=Aside0.mk (Kd.aM (Kd.dy cj (Kd.bq (zR R))) (aU zB));replace R:=fu R cj hb;replace J:=zb J hb;replace I:=zS I hb;clear hb cj;obtain⟨gl,gm,gp⟩:=Kd.a7 ab.out;subst gp)|((with_reducible refine au (f:=27) rfl ?_);refine zL (some 25) Tryz.func27 #[.agg #[.int .i64 2,.slice ch U.length b5],.slice gl bn.length gm] ?_;(with_reducible refine(fi.calls k 2 _ _ U _ _ bn b0 bk _ ?ad ?ag ?aB ?aF A3.out).mono ?_);(case ad=>exact zC (Kd.aC j.out).2.2);(case ag=>exact(Kd.aC j.out).2.1);(case aB=>exact zC (Kd.aC ab.out).2.2);(case aF=>exact(Kd.aC ab.out).2.1);rintro e h' ⟨rfl,hb⟩;refine⟨_,rfl,?_⟩;replace j:=bm j hb;replace R:=bm R hb;replace ab:=bm ab hb;replace J:=zb J hb;replace I:=zS I hb;(try clear hb))|((with_reducible refine aA (N:=36) rfl ?_);(try(refine dk (by rfl) ?_;dsimp only));refine Kd.eY (Kd.int .i64) _ 3 ?hg (N:=36) ?hd (xs:=([1,1]:List Int)) (inner:=[.int .i64 1,.int .i64 1]) (ok:=fun _=>True) (okp:=fun _=>True) ?hr ?hp (fun _ hk=>hk) trivial (Below.refl _ _) (Nat.le_refl _) (by simp) ?_;(case hd=>rfl);(case hg=>rfl);(case hr=>first|(go_simp;done)|(go_simp;rfl));(case hp=>exact(aT.one (show Kd.M (Kd.int .i64) _ _ _ 1 [.int .i64 1] from rfl) (aT.one (show Kd.M (Kd.int .i64) _ _ _ 1 [.int .i64 1] from rfl) (aT.none _ _))));intro e3 ib b_ hb ar av;clear ar av;(first|rw[<-cc.out] at b_|(simp only[Int.reduceToNat] at b_;rw[<-cc.out] at b_));replace j:=bm j hb;have bg:=Aside0.mk (Kd.aM (Kd.dy (Kd.dy b_ (Kd.bq (zR R))) (Kd.bq (zR ab))) (aU zB));replace R:=fu R b_ hb;replace ab:=fu ab b_ hb;replace J:=zb J hb;replace I:=zS I hb;clear hb b_;obtain⟨ih,im,gq⟩:=Kd.a7 bg.out;subst gq)|(go_at_call 33;(with_reducible refine(b9.calls k _ _ an _ _ dv true _ ?ad ?ag ?aB ?aF A5.out).mono ?_);(case ad=>exact zC (Kd.aC R.out).2.2);(case ag=>exact(Kd.aC R.out).2.1);(case aB=>exact zC (Kd.aC bg.out).2.2);(case aF=>exact(Kd.aC bg.out).2.1);rintro e w' ⟨rfl,⟨nd,rfl⟩⟩))
    go_ret
    exact⟨zE,zB⟩
  ·replace c6:=Bool.eq_false_iff.mpr c6
   subst c6
   have H1:(some false)=some r:=by rw[if_neg (show ¬(false=true) by decide)] at H;exact H
   clear H
   have H:=H1
   clear H1
   obtain rfl:=Option.some.inj H
   go_enter Tryz.func13,Tryz.ntmps13
   go_wp2_with (first|((with_reducible refine aA (N:=9) rfl ?_);(try(refine dk (by rfl) ?_;dsimp only));refine Kd.eY aG _ 83 ?hg (N:=9) ?hd (xs:=([(⟨0,1,3⟩:S83)]:List (S83))) (inner:=[.int .i64 0,.int .i64 1,.int .i64 3]) (ok:=fun _=>True) (okp:=fun _=>True) ?hr ?hp (fun _ hk=>hk) trivial (Below.refl _ _) (Nat.le_refl _) (by simp) ?_;(case hd=>rfl);(case hg=>rfl);(case hr=>first|(go_simp;done)|(go_simp;rfl));(case hp=>exact(aT.c3 (show Kd.M aG _ _ _ (⟨0,1,3⟩:S83) [.int .i64 0,.int .i64 1,.int .i64 3] from(lF _ _ _ (⟨0,1,3⟩:S83))) (aT.none _ _)));intro ed iv c8 hb ar av;clear ar av;(first|rw[<-bw.out] at c8|(simp only[Int.reduceToNat] at c8;rw[<-bw.out] at c8));have j:=Aside0.mk (Kd.aM c8 (aU zB));replace I:=zS I hb;clear hb c8;obtain⟨ck,b',gr⟩:=Kd.a7 j.out;subst gr)|((with_reducible refine aA (N:=1) rfl ?_);(try(refine dk (by rfl) ?_;dsimp only));refine zX 1 #[.int .i64 0,.slice none 0 0] 24 ?_;intro ak hg jj a3 hb;replace j:=bm j hb;have J:=Aside0.mk (a3);have eg:=zG I hg;have ek:=zG I hg;replace I:=zS I hb;clear hb a3 hg;obtain⟨j0,j1,j2,j3⟩:=ao J)|((with_reducible refine au (f:=35) rfl ?_);refine zL (some 13) Tryz.func35 #[.agg #[.int .i64 2,.slice ck U.length b']] ?_;(with_reducible refine(dw.calls k 2 _ _ U an a0 _ ?ad ?ag A1.out).mono ?_);(case ad=>refine(Kd.aC (e:=83) (base:=w.heap.size) (ok:=fun k_=>True) (n:=U.length) (c:=b') ?_).2.2;exact(by(with_reducible repeat(first|apply Kd.aD|apply Kd.bd|apply Kd.a8));exact(Kd.aR (Kd.cz (p:=⟨ak,1,none⟩) (Kd.cz (p:=⟨ak,0,none⟩) (Kd.eM j.out J.out (by decide)) (fun _ hk=>hk.2) (.int .i64 2)) (fun _ hk=>hk.2) (.slice ck U.length b')) (fun _ h_=>h_.1))));(case ag=>exact(Kd.aC j.out).2.1);rintro e j_ ⟨ev,rfl,bf,hb⟩;refine⟨_,rfl,?_⟩;replace j:=Aside0.mk (Kd.bY (by(with_reducible repeat(first|apply Kd.aD|apply Kd.bd|apply Kd.a8));exact(Kd.aR (Kd.cz (p:=⟨ak,1,none⟩) (Kd.cz (p:=⟨ak,0,none⟩) (Kd.eM j.out J.out (by decide)) (fun _ hk=>hk.2) (.int .i64 2)) (fun _ hk=>hk.2) (.slice ck U.length b')) (fun _ h_=>h_.1))) hb);have R:=Aside0.mk (Kd.aM bf (aU zB));replace J:=Aside0.mk (aE (g:=ak) (o:=.cells #[.int .i64 2,.slice ck U.length b'] 24 (0,0)) (by refine zk ?_;refine aZ (cs:=#[.int .i64 2,.slice none 0 0]) ?_ 1 _ rfl;refine zk ?_;refine aZ (cs:=#[.int .i64 0,.slice none 0 0]) ?_ 0 _ rfl;exact zK J) hb);replace I:=zS I hb;(try clear hb);(try clear bf);obtain⟨j',kd,kk,km⟩:=ao J;obtain⟨gx,g0,g1⟩:=Kd.a7 R.out;subst g1)|((with_reducible refine au (f:=41) rfl ?_);refine zL (some 19) Tryz.func41 #[.agg #[.int .i64 2,.slice ck U.length b'],.slice gx an.length g0] ?_;(with_reducible refine(cP.calls k 2 _ _ U _ _ an aO a1 _ ?ad ?ag ?aB ?aF A2.out).mono ?_);(case ad=>exact zC (Kd.aC j.out).2.2);(case ag=>exact(Kd.aC j.out).2.1);(case aB=>exact zC (Kd.aC R.out).2.2);(case aF=>exact(Kd.aC R.out).2.1);rintro e kq ⟨rfl,hb⟩;refine⟨_,rfl,?_⟩;replace j:=bm j hb;replace R:=bm R hb;replace J:=zb J hb;replace I:=zS I hb;(try clear hb);obtain⟨ks,kt,kv,kW⟩:=ao J)|((with_reducible refine aA (N:=24) rfl ?_);(try(refine dk (by rfl) ?_;dsimp only));refine Kd.eY (Kd.int .i64) _ 3 ?hg (N:=24) ?hd (xs:=([2,0]:List Int)) (inner:=[.int .i64 2,.int .i64 0]) (ok:=fun _=>True) (okp:=fun _=>True) ?hr ?hp (fun _ hk=>hk) trivial (Below.refl _ _) (Nat.le_refl _) (by simp) ?_;(case hd=>rfl);(case hg=>rfl);(case hr=>first|(go_simp;done)|(go_simp;rfl));(case hp=>exact(aT.one (show Kd.M (Kd.int .i64) _ _ _ 2 [.int .i64 2] from rfl) (aT.one (show Kd.M (Kd.int .i64) _ _ _ 0 [.int .i64 0] from rfl) (aT.none _ _))));intro ew k0 cl hb ar av;clear ar av;(first|rw[<-bx.out] at cl|(simp only[Int.reduceToNat] at cl;rw[<-bx.out] at cl));replace j:=bm j hb;have ab:=Aside0.mk (Kd.aM (Kd.dy cl (Kd.bq (zR R))) (aU zB));replace R:=fu R cl hb;replace J:=zb J hb;replace I:=zS I hb;clear hb cl;obtain⟨g2,g3,g4⟩:=Kd.a7 ab.out;subst g4)|((with_reducible refine au (f:=27) rfl ?_);refine zL (some 25) Tryz.func27 #[.agg #[.int .i64 2,.slice ck U.length b'],.slice g2 bn.length g3] ?_;(with_reducible refine(fi.calls k 2 _ _ U _ _ bn b0 bk _ ?ad ?ag ?aB ?aF A3.out).mono ?_);(case ad=>exact zC (Kd.aC j.out).2.2);(case ag=>exact(Kd.aC j.out).2.1);(case aB=>exact zC (Kd.aC ab.out).2.2);(case aF=>exact(Kd.aC ab.out).2.1);rintro e k1 ⟨rfl,hb⟩;refine⟨_,rfl,?_⟩;replace j:=bm j hb;replace R:=bm R hb;replace ab:=bm ab hb;replace J:=zb J hb;replace I:=zS I hb;(try clear hb))|((with_reducible refine aA (N:=36) rfl ?_);(try(refine dk (by rfl) ?_;dsimp only));refine Kd.eY (Kd.int .i64) _ 3 ?hg (N:=36) ?hd (xs:=([1,1]:List Int)) (inner:=[.int .i64 1,.int .i64 1]) (ok:=fun _=>True) (okp:=fun _=>True) ?hr ?hp (fun _ hk=>hk) trivial (Below.refl _ _) (Nat.le_refl _) (by simp) ?_;(case hd=>rfl);(case hg=>rfl);(case hr=>first|(go_simp;done)|(go_simp;rfl));(case hp=>exact(aT.one (show Kd.M (Kd.int .i64) _ _ _ 1 [.int .i64 1] from rfl) (aT.one (show Kd.M (Kd.int .i64) _ _ _ 1 [.int .i64 1] from rfl) (aT.none _ _))));intro e3 k2 ca hb ar av;clear ar av;(first|rw[<-cc.out] at ca|(simp only[Int.reduceToNat] at ca;rw[<-cc.out] at ca));replace j:=bm j hb;have bg:=Aside0.mk (Kd.aM (Kd.dy (Kd.dy ca (Kd.bq (zR R))) (Kd.bq (zR ab))) (aU zB));replace R:=fu R ca hb;replace ab:=fu ab ca hb;replace J:=zb J hb;replace I:=zS I hb;clear hb ca;obtain⟨k3,k4,g'⟩:=Kd.a7 bg.out;subst g')|(go_at_call 33;(with_reducible refine(b9.calls k _ _ an _ _ dv false _ ?ad ?ag ?aB ?aF A5.out).mono ?_);(case ad=>exact zC (Kd.aC R.out).2.2);(case ag=>exact(Kd.aC R.out).2.1);(case aB=>exact zC (Kd.aC bg.out).2.2);(case aF=>exact(Kd.aC bg.out).2.1);rintro e w' ⟨rfl,⟨nd,rfl⟩⟩))
   go_ret
   exact⟨zE,zB⟩
 ·rw[if_neg c4] at H
  have e5:((wrap64 ((wrap64 (a0+a1))+bk))==0)=false:=beq_eq_false_iff_ne.mpr c4
  have e6:((wrap64 ((wrap64 (a0+a1))+bk)) != 0)=true:=bne_iff_ne.mpr c4
  obtain rfl:=Option.some.inj H
  go_enter Tryz.func13,Tryz.ntmps13
  go_wp2_with (first|((with_reducible refine aA (N:=9) rfl ?_);(try(refine dk (by rfl) ?_;dsimp only));refine Kd.eY aG _ 83 ?hg (N:=9) ?hd (xs:=([(⟨0,1,3⟩:S83)]:List (S83))) (inner:=[.int .i64 0,.int .i64 1,.int .i64 3]) (ok:=fun _=>True) (okp:=fun _=>True) ?hr ?hp (fun _ hk=>hk) trivial (Below.refl _ _) (Nat.le_refl _) (by simp) ?_;(case hd=>rfl);(case hg=>rfl);(case hr=>first|(go_simp;done)|(go_simp;rfl));(case hp=>exact(aT.c3 (show Kd.M aG _ _ _ (⟨0,1,3⟩:S83) [.int .i64 0,.int .i64 1,.int .i64 3] from(lF _ _ _ (⟨0,1,3⟩:S83))) (aT.none _ _)));intro ed k5 c9 hb ar av;clear ar av;(first|rw[<-bw.out] at c9|(simp only[Int.reduceToNat] at c9;rw[<-bw.out] at c9));have j:=Aside0.mk (Kd.aM c9 (aU zB));replace I:=zS I hb;clear hb c9;obtain⟨cq,cb,ha⟩:=Kd.a7 j.out;subst ha)|((with_reducible refine aA (N:=1) rfl ?_);(try(refine dk (by rfl) ?_;dsimp only));refine zX 1 #[.int .i64 0,.slice none 0 0] 24 ?_;intro ak hg k6 a3 hb;replace j:=bm j hb;have J:=Aside0.mk (a3);have eg:=zG I hg;have ek:=zG I hg;replace I:=zS I hb;clear hb a3 hg;obtain⟨k7,k8,k9,la⟩:=ao J)|((with_reducible refine au (f:=35) rfl ?_);refine zL (some 13) Tryz.func35 #[.agg #[.int .i64 2,.slice cq U.length cb]] ?_;(with_reducible refine(dw.calls k 2 _ _ U an a0 _ ?ad ?ag A1.out).mono ?_);(case ad=>refine(Kd.aC (e:=83) (base:=w.heap.size) (ok:=fun k_=>True) (n:=U.length) (c:=cb) ?_).2.2;exact(by(with_reducible repeat(first|apply Kd.aD|apply Kd.bd|apply Kd.a8));exact(Kd.aR (Kd.cz (p:=⟨ak,1,none⟩) (Kd.cz (p:=⟨ak,0,none⟩) (Kd.eM j.out J.out (by decide)) (fun _ hk=>hk.2) (.int .i64 2)) (fun _ hk=>hk.2) (.slice cq U.length cb)) (fun _ h_=>h_.1))));(case ag=>exact(Kd.aC j.out).2.1);rintro e lb ⟨ev,rfl,bf,hb⟩;refine⟨_,rfl,?_⟩;replace j:=Aside0.mk (Kd.bY (by(with_reducible repeat(first|apply Kd.aD|apply Kd.bd|apply Kd.a8));exact(Kd.aR (Kd.cz (p:=⟨ak,1,none⟩) (Kd.cz (p:=⟨ak,0,none⟩) (Kd.eM j.out J.out (by decide)) (fun _ hk=>hk.2) (.int .i64 2)) (fun _ hk=>hk.2) (.slice cq U.length cb)) (fun _ h_=>h_.1))) hb);have R:=Aside0.mk (Kd.aM bf (aU zB));replace J:=Aside0.mk (aE (g:=ak) (o:=.cells #[.int .i64 2,.slice cq U.length cb] 24 (0,0)) (by refine zk ?_;refine aZ (cs:=#[.int .i64 2,.slice none 0 0]) ?_ 1 _ rfl;refine zk ?_;refine aZ (cs:=#[.int .i64 0,.slice none 0 0]) ?_ 0 _ rfl;exact zK J) hb);replace I:=zS I hb;(try clear hb);(try clear bf);obtain⟨ld,lg,lj,lk⟩:=ao J;obtain⟨hc,hf,hh⟩:=Kd.a7 R.out;subst hh)|((with_reducible refine au (f:=41) rfl ?_);refine zL (some 19) Tryz.func41 #[.agg #[.int .i64 2,.slice cq U.length cb],.slice hc an.length hf] ?_;(with_reducible refine(cP.calls k 2 _ _ U _ _ an aO a1 _ ?ad ?ag ?aB ?aF A2.out).mono ?_);(case ad=>exact zC (Kd.aC j.out).2.2);(case ag=>exact(Kd.aC j.out).2.1);(case aB=>exact zC (Kd.aC R.out).2.2);(case aF=>exact(Kd.aC R.out).2.1);rintro e lo ⟨rfl,hb⟩;refine⟨_,rfl,?_⟩;replace j:=bm j hb;replace R:=bm R hb;replace J:=zb J hb;replace I:=zS I hb;(try clear hb);obtain⟨lp,lv,l0,l1⟩:=ao J)|((with_reducible refine aA (N:=24) rfl ?_);(try(refine dk (by rfl) ?_;dsimp only));refine Kd.eY (Kd.int .i64) _ 3 ?hg (N:=24) ?hd (xs:=([2,0]:List Int)) (inner:=[.int .i64 2,.int .i64 0]) (ok:=fun _=>True) (okp:=fun _=>True) ?hr ?hp (fun _ hk=>hk) trivial (Below.refl _ _) (Nat.le_refl _) (by simp) ?_;(case hd=>rfl);(case hg=>rfl);(case hr=>first|(go_simp;done)|(go_simp;rfl));(case hp=>exact(aT.one (show Kd.M (Kd.int .i64) _ _ _ 2 [.int .i64 2] from rfl) (aT.one (show Kd.M (Kd.int .i64) _ _ _ 0 [.int .i64 0] from rfl) (aT.none _ _))));intro ew l2 cr hb ar av;clear ar av;(first|rw[<-bx.out] at cr|(simp only[Int.reduceToNat] at cr;rw[<-bx.out] at cr));replace j:=bm j hb;have ab:=Aside0.mk (Kd.aM (Kd.dy cr (Kd.bq (zR R))) (aU zB));replace R:=fu R cr hb;replace J:=zb J hb;replace I:=zS I hb;clear hb cr;obtain⟨hj,hl,hn⟩:=Kd.a7 ab.out;subst hn)|((with_reducible refine au (f:=27) rfl ?_);refine zL (some 25) Tryz.func27 #[.agg #[.int .i64 2,.slice cq U.length cb],.slice hj bn.length hl] ?_;(with_reducible refine(fi.calls k 2 _ _ U _ _ bn b0 bk _ ?ad ?ag ?aB ?aF A3.out).mono ?_);(case ad=>exact zC (Kd.aC j.out).2.2);(case ag=>exact(Kd.aC j.out).2.1);(case aB=>exact zC (Kd.aC ab.out).2.2);(case aF=>exact(Kd.aC ab.out).2.1);rintro e l3 ⟨rfl,hb⟩;refine⟨_,rfl,?_⟩;replace j:=bm j hb;replace R:=bm R hb;replace ab:=bm ab hb;replace J:=zb J hb;replace I:=zS I hb;(try clear hb)))
  go_ret
  exact⟨zE,zB⟩
theorem DT {n:Nat} {E:List S83} {d:List Int} (h:dF n 0 E d) (hc:b7 n E=0) {n' g:Int} {j:List S83} (o:Ev (fun k=>fF.f k n E) (n',j,(0:Int))) (I:Ev (fun k=>fg.f k n' j) (g,(0:Int))) (J:T.eA n (af E) g) {r:Int} (hr:Rk n (af E) d r):
  Ev (fun k=>cP.f k n E d) (r,(0:Int)):=by
 unfold cP.f
 refine Ev.bind (Dv h hc) ?_
 have h2:=h.ok hc
 simp only[if_true,Int.toNat_natCast]
 simp only[Int.ofNat_zero] at h2
 simp only[if_pos h2]
 refine Ev.bind o ?_
 simp only[if_true]
 refine Ev.bind I ?_
 have R:T.sN (T.can n (af E)) n=2*g-2:=J
 simp only[if_true,if_pos R,vC h.n1 hr]
 exact Ev.const _
def E3:List S83:=[⟨0,1,3⟩]
theorem DU:Ev (fun k=>dw.f k 2 E3) (([1,1]:List Int),(0:Int)):=Ev.at_ (dw.mono _ _) (k:=60) (by decide+kernel)
theorem DV:Ev (fun k=>fF.f k 2 E3) ((2:Int),E3,(0:Int)):=Ev.at_ (fF.mono _ _) (k:=60) (by kernel_rfl)
theorem DW:Ev (fun k=>fg.f k 2 E3) ((2:Int),(0:Int)):=Ev.at_ (fg.mono _ _) (k:=60) (by decide+kernel)
theorem DX:Ev (fun k=>fh.f k 2 E3 [2,0]) (([-1,1]:List Int),(0:Int)):=Ev.at_ (fh.mono _ _ _) (k:=60) (by decide+kernel)
theorem qE {d:List Int} (h:fA 2 E3 0 d=true):dF 2 0 E3 d:=by
 obtain⟨n,q,j,hq,h1⟩:=pR h
 obtain rfl:n=2:=by omega
 obtain rfl:q=0:=by omega
 exact h1
theorem DY:b7 ((2:Nat):Int) E3=0:=by decide+kernel
theorem qF:T.eA 2 (af E3) 2:=show T.sN (T.can 2 (af E3)) 2=2*2-2 from by decide+kernel
theorem nR:dF 2 0 E3 [1,1]:=qE (by decide+kernel)
theorem DZ:dF 2 0 E3 [2,0]:=qE (by decide+kernel)
theorem D0:dF 2 0 E3 [-1,1]:=qE (by decide+kernel)
theorem qG {d:List Int} (h:dF 2 0 E3 d) {r:Int} (hr:Rk 2 (af E3) d r):Ev (fun k=>cP.f k 2 E3 d) (r,(0:Int)):=
 DT (n:=2) h DY DV DW qF hr
theorem kc:T.Wt 2 (af E3):=nR.right.wt
theorem vI:T.cR 2 (af E3):=nR.right.conn nR.conn
theorem D3:T.bA 2 (af E3) (fun _=>0) 0:=by
 obtain⟨r,hr⟩:=T.ir kc (by decide) (fun _=>(0:Int))
 have h1:r≠ -1:=fun e=>by
  subst e
  exact(T.bA.lL (by decide) hr).1 rfl (T.bp.mS fun _ _=>Int.le_refl _)
 have h2:=hr.1
 have j:=hr.oV kc (by decide) (by omega)
 rw[T.jM] at j
 obtain rfl:r=0:=by omega
 exact hr
theorem D4:Rk 2 (af E3) [1,1] 1:=by
 obtain⟨r,hr⟩:=T.ir kc (by decide) (fun v=>rd [1,1] (v:Nat))
 have j:T.bA 2 (af E3) (fun v=>T.can 2 (af E3) v-rd [1,1] (v:Nat)) 0:=pS (fun v o=>by
  match v,o with
  |0,_=>decide+kernel
  |1,_=>decide+kernel) D3
 have h:=T.oW kc vI (by decide) qF hr j
 have h2:T.sN (fun v=>rd [1,1] (v:Nat)) 2=2:=by decide+kernel
 rw[h2] at h
 obtain rfl:r=1:=by omega
 exact hr
theorem D5:∃a b:Int,Rk 2 (af E3) [2,0] a∧Rk 2 (af E3) [-1,1] b∧a-b=1:=by
 obtain⟨a,j⟩:=T.ir kc (by decide) (fun v=>rd [2,0] (v:Nat))
 obtain⟨b,hb⟩:=T.ir kc (by decide) (fun v=>rd [-1,1] (v:Nat))
 have o:T.bA 2 (af E3) (fun v=>T.can 2 (af E3) v-rd [2,0] (v:Nat)) b:=pS (fun v I=>by
  match v,I with
  |0,_=>decide+kernel
  |1,_=>decide+kernel) hb
 have h:=T.oW kc vI (by decide) qF j o
 have h2:T.sN (fun v=>rd [2,0] (v:Nat)) 2=2:=by decide+kernel
 rw[h2] at h
 exact⟨a,b,j,hb,by omega⟩
theorem D6:Ev (fun k=>b9.f k [1,1] [1,1]) true:=Ev.at_ (b9.mono _ _) (k:=60) (by decide+kernel)
theorem D7:Ev (fun k=>fi.f k 2 E3 [2,0]) ((1:Int),(0:Int)):=by
 obtain⟨a,b,j,hb,o⟩:=D5
 unfold fi.f
 refine Ev.bind DX ?_
 simp only[if_true]
 refine Ev.bind (qG DZ j) ?_
 simp only[if_true]
 refine Ev.bind (qG D0 hb) ?_
 simp only[if_true,o,show wrap64 1=1 from by unfold wrap64;omega]
 exact Ev.const _
theorem vJ:Ev (fun k=>gP.f k) true:=by
 unfold gP.f
 refine Ev.bind (a:=E3) (Ev.const _) ?_
 refine Ev.bind DU ?_
 refine Ev.bind (qG nR D4) ?_
 refine Ev.bind D7 ?_
 simp only[show wrap64 (wrap64 (0+0)+0)=0 from by unfold wrap64;omega,if_true]
 refine Ev.bind D6 ?_
 simp only[if_true]
 exact Ev.const _
mutual
def bV.j0:Nat->Int->Bool->Int->List (S83)->Option ((List (List Int))×Int)
 |0,_,_,_,_=>none
 |k+1,x1,o,I,J=>if o=true then(some (([]:List (List Int)),2)) else((iL.f k I J x1).bind fun j=>(if j.2=0 then(bV.l0 k x1 ([]:List (List Int)) j.1 (j.1.length:Int) 0) else(some (([]:List (List Int)),j.2))))
def bV.l0:Nat->Int->List (List Int)->List (List Int)->Int->Int->Option ((List (List Int))×Int)
 |0,_,_,_,_,_=>none
 |k+1,x1,o,I,J,j=>if j<J then(if 0<=j then(if j<(I.length:Int) then((eJ.f (aH I j)).bind fun R=>(if 0<=x1 then(if x1<(R.length:Int) then(if o.length<5864062014805 then(bV.l0 k x1 (o++[(R.set (x1:Int).toNat (-1))]) I J (wrap64 (j+1))) else(none)) else(none)) else(none))) else(none)) else(none)) else(some (o,0))
end
def bV.f (k:Nat) (j:Int) (I:List (S83)) (o:Int):Option ((List (List Int))×Int):=(ei.f k j I).bind fun J=>(if J=0 then(if o<0 then(bV.j0 k o true j I) else(bV.j0 k o (decide (o>=j)) j I)) else(some (([]:List (List Int)),J)))
theorem bV.calls (k:Nat) (U:Int) (bk:Option Addr) (bn:Nat) (aa:List (S83)) (o:Int) (r1:List (List Int)) (r2:Int) (w:World) (fq:Kd.C aG w bk aa.length aa) (fr:aa.length<=bn) (h:bV.f k U aa o=some (r1,r2)):
  Calls Tryz.prog 15 #[.agg #[.int .i64 U,.slice bk aa.length bn],.int .i64 o] w fun e w'=>∃ft:Value,e= .returned (.tuple #[ft,.int .i64 r2])∧Kd.N (Kd.slice 3 (Kd.int .i64)) 26 w' w.heap.size (fun j=>(w.heap.size<=j)) ft r1∧Below w.heap.size w w':=by
 have j2:=Tryz.underlying24
 have c2:=Aside0.mk fq
 have c3:=Aside0.mk fr
 clear fq fr
 have HB:=Aside0.mk (Below.refl w.heap.size w)
 have H:((ei.f k U aa).bind fun a2=>(if a2=0 then(if o<0 then(bV.j0 k o true U aa) else(bV.j0 k o (decide (o>=U)) U aa)) else(some (([]:List (List Int)),a2))))=some (r1,r2):=h
 clear h
 replace H:=Option.bind_eq_some_iff.mp H
 obtain⟨a2,fv,H⟩:=H
 replace H:(if a2=0 then(if o<0 then(bV.j0 k o true U aa) else(bV.j0 k o (decide (o>=U)) U aa)) else(some (([]:List (List Int)),a2)))=some (r1,r2):=H
 have A3:=Aside0.mk fv
 clear fv
 by_cases c4:a2=0
 ·rw[if_pos c4] at H
  have ev:(a2==0)=true:=beq_iff_eq.mpr c4
  have ew:(a2 != 0)=false:=bne_eq_false_iff_eq.mpr c4
  clear c4
  have ey:=Aside0.mk H
  clear H
  go_enter Tryz.func15,Tryz.ntmps15
  go_upto_region 4 with (first|((with_reducible refine aA (N:=2) rfl ?_);refine zX 2 #[.int .i64 U,.slice bk aa.length bn] 24 ?_;intro an hg w6 ck hb;have I:=Aside0.mk (ck);have hA:=zG HB hg;have hB:=zG HB hg;replace HB:=zS HB hb;clear hb ck hg;obtain⟨gb,gd,gf,gg⟩:=ao I)|((with_reducible refine au (f:=55) rfl ?_);refine zL (some 14) Tryz.func55 #[.agg #[.int .i64 U,.slice bk aa.length bn]] ?_;(with_reducible refine(ei.calls k U _ _ aa a2 _ ?b0 ?b1 A3.out).mono ?_);(case b0=>exact Kd.aj c2.out zB);(case b1=>exact c3.out);rintro e w8 ⟨rfl,hb⟩;refine⟨_,rfl,?_⟩;replace I:=zb I hb;replace HB:=zS HB hb;(try clear hb)))
  (try simp only[Act.put,List.setIfInBounds_toArray,List.set_cons_zero,List.set_cons_succ])
  go_cut [25] (fun hD wc=>∃(kq:Nat) (c6:Bool),hD= .bool c6∧Aside0 (bV.j0 kq o c6 U aa=some (r1,r2))∧Aside0 (kq<=k)∧Aside0 (wc.heap[an]? =some (.cells #[.int .i64 U,(.slice bk aa.length bn)] 24 (0,0)))∧Aside0 (Below w.heap.size w wc))
  case first=>
   have H:=ey.out
   clear ey
   by_cases c9:o<0
   ·rw[if_pos c9] at H
    have ca:decide (o<0)=true:=decide_eq_true c9
    clear c9
    (first|rw[ca]|(simp only[aV,aX];rw[ca])|skip)
    have H':=Aside0.mk H
    clear H
    go_wp2
    go_meet
    case rel=>exact⟨_,(true),zT,H',⟨by first|omega|exact Nat.le_refl _⟩,⟨zK I⟩,⟨zB⟩⟩
   ·rw[if_neg c9] at H
    have ca:decide (o<0)=false:=decide_eq_false c9
    clear c9
    (first|rw[ca]|(simp only[aV,aX];rw[ca])|skip)
    have H':=Aside0.mk H
    clear H
    obtain⟨gi,gl,gm,gp⟩:=ao I
    go_wp2
    go_meet
    case rel=>exact⟨_,(decide (o>=U)),zT,H',⟨by first|omega|exact Nat.le_refl _⟩,⟨zK I⟩,⟨zB⟩⟩
  case rest=>
   clear ey
   try clear c1
   try clear p2
   try clear c4
   try clear ev
   try clear ew
   try clear c5
   try clear c9
   try clear ca
   try clear gi
   try clear gl
   try clear gb
   try clear gd
   try clear gm
   try clear gp
   try clear gf
   try clear gg
   obtain⟨kq,c6,rfl,HA,gr,I,HB⟩:=hcut
   cases kq with
   |zero=>exact absurd HA.out (by simp[bV.j0])
   |succ cc=>
    have H:=HA.out
    clear HA
    simp only[bV.j0] at H
    by_cases cl:c6=true
    ·subst cl
     have H1:(some (([]:List (List Int)),2))=some (r1,r2):=by rw[if_pos rfl] at H;exact H
     clear H
     have H:=H1
     clear H1
     simp only[Option.some.injEq,Prod.mk.injEq] at H
     obtain⟨rfl,rfl⟩:=H
     go_wp2
     go_ret2
     exact⟨_,zE,by first|exact Kd.eZ _ _ _ _ _|exact Kd.fs _ _ _ _ _|exact Kd.V_nil _ _ _ _ _|exact Kd.Q_nil _ _ _ _ _|exact Kd.cE _ _ _ _ _,zB⟩
    ·replace cl:=Bool.eq_false_iff.mpr cl
     subst cl
     have H1:((iL.f cc U aa o).bind fun c7=>(if c7.2=0 then(bV.l0 cc o ([]:List (List Int)) c7.1 (c7.1.length:Int) 0) else(some (([]:List (List Int)),c7.2))))=some (r1,r2):=by rw[if_neg (show ¬(false=true) by decide)] at H;exact H
     clear H
     have H:=H1
     clear H1
     replace H:=Option.bind_eq_some_iff.mp H
     obtain⟨⟨J,b2⟩,gx,H⟩:=H
     replace H:(if b2=0 then(bV.l0 cc o ([]:List (List Int)) J (J.length:Int) 0) else(some (([]:List (List Int)),b2)))=some (r1,r2):=H
     have g0:=Aside0.mk gx
     clear gx
     by_cases b_:b2=0
     ·rw[if_pos b_] at H
      have g1:(b2==0)=true:=beq_iff_eq.mpr b_
      have g2:(b2 != 0)=false:=bne_eq_false_iff_eq.mpr b_
      clear b_
      have H':=Aside0.mk H
      clear H
      obtain⟨hG,hH,hI,hJ⟩:=ao I
      go_wp2_with (first|((with_reducible refine au (f:=56) rfl ?_);refine zL (some 29) Tryz.func56 #[.agg #[.int .i64 U,.slice bk aa.length bn],.int .i64 o] ?_;(with_reducible refine(iL.calls cc U _ _ aa o J b2 _ ?b0 ?b1 g0.out).mono ?_);(case b0=>exact Kd.aj c2.out zB);(case b1=>exact c3.out);rintro e j' ⟨hK,rfl,bg,hb⟩;refine⟨_,rfl,?_⟩;have e0:=Aside0.mk (Kd.lx (Kd.dz (ok':=fun j=>(w.heap.size<=j)∧j≠an) bg (fun j cq=>⟨(Nat.le_trans (aU zB) cq),(Kd.lh (zK I) j cq)⟩)) (aU zB));replace I:=zb I hb;replace HB:=zS HB hb;(try clear hb);(try clear bg);obtain⟨g3,b3,hL⟩:=Kd.oC e0.out;subst hL))
      go_loopg [9,37] cc (fun kq v9 hM w'=>∃(bo:List (List Int)) (ad:Int),hM= .int .i64 ad∧Aside0 (bV.l0 kq o bo J (J.length:Int) ad=some (r1,r2))∧Aside0 (kq<=cc)∧Aside0 (Kd.N (Kd.slice 3 (Kd.int .i64)) 26 w' w.heap.size (fun j=>(w.heap.size<=j)∧some j≠((.slice g3 J.length b3):Value).ownBlock∧j≠an) v9 bo)∧Aside0 (Kd.N (Kd.slice 3 (Kd.int .i64)) 26 w' w.heap.size (fun j=>(w.heap.size<=j)∧some j≠(v9:Value).ownBlock∧j≠an) (.slice g3 J.length b3) J)∧Aside0 (w'.heap[an]? =some (.cells #[.int .i64 U,(.slice bk aa.length bn)] 24 (0,0)))∧Aside0 (Below w.heap.size w w'))
      case atStart=>exact⟨(([]:List (List Int))),(0),zT,H',⟨Nat.le_refl _⟩,⟨by first|exact Kd.eZ _ _ _ _ _|exact Kd.fs _ _ _ _ _|exact Kd.V_nil _ _ _ _ _|exact Kd.Q_nil _ _ _ _ _|exact Kd.cE _ _ _ _ _⟩,⟨by(with_reducible repeat(first|apply Kd.fK|apply Kd.fM|apply Kd.fL));exact Kd.dz e0.out (fun _ hk=>⟨hk.1,⟨(by simp[Value.ownBlock]),hk.2⟩⟩)⟩,⟨zK I⟩,⟨zB⟩⟩
      case round=>
       clear H'
       try clear c1
       try clear p2
       try clear c4
       try clear ev
       try clear ew
       try clear c5
       try clear c9
       try clear ca
       try clear cl
       try clear b_
       try clear g1
       try clear g2
       try clear kd
       try clear gi
       try clear gl
       try clear hG
       try clear hH
       try clear gb
       try clear gd
       try clear gm
       try clear gp
       try clear hI
       try clear hJ
       try clear gf
       try clear gg
       try clear p2
       obtain⟨bo,ad,rfl,HA,g',bw,ar,I,HB⟩:=hrel
       cases gk with
       |zero=>exact absurd HA.out (by simp[bV.l0])
       |succ k2=>
        have H:=HA.out
        clear HA
        simp only[bV.l0] at H
        by_cases ch:ad<(J.length:Int)
        ·rw[if_pos ch] at H
         have hN:decide (ad<(J.length:Int))=true:=decide_eq_true ch
         clear ch
         by_cases c':0<=ad
         ·rw[if_pos c'] at H
          have kk:decide (0<=ad)=true:=decide_eq_true c'
          clear c'
          by_cases dd:ad<(J.length:Int)
          ·rw[if_pos dd] at H
           have km:decide (ad<(J.length:Int))=true:=decide_eq_true dd
           clear dd
           replace H:=Option.bind_eq_some_iff.mp H
           obtain⟨ak,ha,H⟩:=H
           replace H:(if 0<=o then(if o<(ak.length:Int) then(if bo.length<5864062014805 then(bV.l0 k2 o (bo++[(ak.set (o:Int).toNat (-1))]) J (J.length:Int) (wrap64 (ad+1))) else(none)) else(none)) else(none))=some (r1,r2):=H
           have hO:=Aside0.mk ha
           clear ha
           by_cases ds:0<=o
           ·rw[if_pos ds] at H
            have ks:decide (0<=o)=true:=decide_eq_true ds
            clear ds
            by_cases dv:o<(ak.length:Int)
            ·rw[if_pos dv] at H
             have kt:decide (o<(ak.length:Int))=true:=decide_eq_true dv
             clear dv
             obtain⟨ea,cr⟩:∃y_:List Int,y_=(ak.set (o:Int).toNat (-1)):=⟨_,rfl⟩
             replace H:(if bo.length<5864062014805 then(bV.l0 k2 o (bo++[ea]) J (J.length:Int) (wrap64 (ad+1))) else(none))=some (r1,r2):=by first|(rw[cr];with_reducible exact H)|(have cd:=(Option.bind_some _ _).symm.trans H;rw[cr];with_reducible exact cd)|(have cd:=(Option.bind_some _ _).symm.trans H;with_reducible exact cd)|with_reducible exact H|(rw[cr];exact H)|exact H
             have hP:=Aside0.mk cr
             clear cr
             by_cases eb:bo.length<5864062014805
             ·rw[if_pos eb] at H
              have hQ:=Aside0.mk eb
              clear eb
              obtain⟨hc,cv⟩:∃y_:List (List Int),y_=(bo++[ea]):=⟨_,rfl⟩
              replace H:(bV.l0 k2 o hc J (J.length:Int) (wrap64 (ad+1)))=some (r1,r2):=by first|(rw[cv];with_reducible exact H)|(have cd:=(Option.bind_some _ _).symm.trans H;rw[cv];with_reducible exact cd)|(have cd:=(Option.bind_some _ _).symm.trans H;with_reducible exact cd)|with_reducible exact H|(rw[cv];exact H)|exact H
              have hR:=Aside0.mk cv
              clear cv
              have H':=Aside0.mk H
              clear H
              have ed:0<=(ad:Int):=of_decide_eq_true ‹_›
              have eg:ad<(J.length:Int):=of_decide_eq_true ‹_›
              obtain⟨cf,hT,hV,hW,hX,hf,hh⟩:=e7 (Kd.fN ar.out).2.2 ad ed eg
              cases hW
              obtain⟨kv,hY,h0,hj⟩:=Kd.ly ar.out [] ad ed (by first|exact eg|exact of_decide_eq_true ‹_› |(have e_:=(Kd.fN ar.out).1;omega))
              obtain⟨k0,k1,rfl,e2,e3⟩:=Kd.ku h0
              have ek:=hj 0 _ rfl
              rw[Nat.add_zero,show ((Kd.slice 3 (Kd.int .i64))).sz=1 from rfl,Nat.mul_one] at ek
              replace ek:=Option.some.inj (ek.symm.trans hX)
              injection ek with hl h1 hq
              rw[hl] at e3
              rw[hq] at e2
              have cj:=Aside0.mk (show Kd.V (Kd.int .i64) 3 _ w.heap.size _ _ (aH J ad) from Kd.lA e2 e3)
              clear hl h1 hq e3 e2
              clear hj hY
              have cx:=Aside0.mk hh
              have h2:=Aside0.mk hf
              clear hh hf
              replace ed:=eq_true ed
              replace eg:=eq_true eg
              go_wp2_with (first|((with_reducible refine au (f:=57) rfl ?_);refine zL (some 42) Tryz.func57 #[.slice hT (aH J ad).length hV] ?_;(with_reducible refine(eJ.calls _ _ (aH J ad) ak _ ?b0 ?b1 hO.out).mono ?_);(case b0=>repeat(first|exact(by repeat(first|(with_reducible exact cx.out)|(with_reducible refine Kd.aY ?_ _)|(with_reducible refine Kd.cX ?_ _)|(with_reducible refine Kd.cK ?_)|exact cx.out))|(with_reducible refine Kd.aY ?_ _)|(with_reducible refine Kd.cX ?_ _)|(with_reducible refine Kd.cK ?_)));(case b1=>exact h2.out);rintro e hs ⟨k3,rfl,bg,hb⟩;refine⟨_,rfl,?_⟩;replace bw:=kz bw bg hb;replace ar:=kz ar bg hb;replace cj:=Aside0.mk (Kd.lB (by(with_reducible repeat(first|apply Kd.V_alloc|apply Kd.V_drewN|apply Kd.V_drew));exact cj.out) (Kd.br bg) hb);have a3:=Aside0.mk (Kd.aM (Kd.xU (M:=fun j=>(w.heap.size<=j)) bg (aU zB) (fun j h_=>h_)) (aU zB));replace I:=zb I hb;replace cx:=Aside0.mk (Kd.aj (by repeat(first|(with_reducible exact cx.out)|(with_reducible refine Kd.aY ?_ _)|(with_reducible refine Kd.cX ?_ _)|(with_reducible refine Kd.cK ?_)|exact cx.out)) hb);replace HB:=zS HB hb;(try clear hb);(try clear bg);have e4:0<=(o:Int):=of_decide_eq_true ‹_›;have e5:(o:Int)<((ak.length:Int):Int):=of_decide_eq_true ‹_›;obtain⟨bf,bx,ht,hv,h4,k4,hx⟩:=Kd.eH a3.out (by omega);(first|cases ht|(injection ht with er h5 h6;(first|subst er|(injection er with er;subst er));subst h6;clear h5));have h7:=Aside0.mk hv;have k5:=Aside0.mk hx;clear hv h4 hx;obtain⟨k6,k7⟩:=Kd.bB 0 a3.out (o:Int) e4 e5;replace e4:=eq_true e4;replace e5:=eq_true e5;have n_:=Aside0.mk (Kd.aR (ok':=(fun j=>(w.heap.size<=j))) a3.out (fun j hk=>hk.1));clear a3;have a3:=n_;clear n_;obtain⟨k8,k9⟩:=Kd.bB 0 a3.out (o:Int) (of_decide_eq_true ‹_›) (of_decide_eq_true ‹_›);have e6:=Kd.cL a3.out (o:Int) (-1))|((with_reducible refine iW (t:=3) (p:=45) rfl ?_);refine iV (t:=3) (p:=45) (v:=?la) (w1:=(hs.setCell ⟨bf,(o:Int).toNat,none⟩ (.int .i64 (-1)))) ?hg ?ho ?hn ?hr ?_;(case ho=>rfl);(case hg=>rfl);(case hn=>rfl);(case hr=>first|(go_simp;done)|(go_simp;rfl));intro e' hw;have hg:hs.grownBy e' (some bf):=(by rw[hw];exact e6.2);have hz:Kd.R (Kd.int .i64) 3 e' w.heap.size (fun j=>(w.heap.size<=j)) (.slice (some ⟨bf,0,none⟩) ak.length bx) ea:=(by rw[hw,hP.out];exact e6.1);clear e6;replace bw:=Aside0.mk (Kd.oF (v:=(.slice (some ⟨bf,0,none⟩) ak.length bx)) (v1:=(.slice (some ⟨bf,0,none⟩) ak.length bx)) (ok:=(fun j=>(w.heap.size<=j)∧some j≠(.slice (some cf) J.length b3:Value).ownBlock∧j≠an)) (zN bw) hg (.inl rfl));replace ar:=Aside0.mk (Kd.oF (v:=(.slice (some ⟨bf,0,none⟩) ak.length bx)) (v1:=(.slice (some ⟨bf,0,none⟩) ak.length bx)) (ok:=(fun j=>(w.heap.size<=j)∧some j≠(u9:Value).ownBlock∧j≠an)) (zN ar) hg (.inl rfl));replace I:=Aside0.mk (cg (zK I) hg (Kd.dj a3.out I.out (by decide)));replace cj:=Aside0.mk (Kd.rN (v:=(.slice (some ⟨bf,0,none⟩) ak.length bx)) (v1:=(.slice (some ⟨bf,0,none⟩) ak.length bx)) (ok:=(fun j=>(w.heap.size<=j)∧some j≠(u9:Value).ownBlock∧some j≠(.slice (some cf) J.length b3:Value).ownBlock∧j≠an)) (by(with_reducible repeat(first|apply Kd.V_alloc|apply Kd.V_drewN|apply Kd.V_drew));exact Kd.kr cj.out (fun _ hk=>⟨⟨hk.1.1.1,⟨hk.1.1.2.1,⟨hk.1.2,hk.1.1.2.2⟩⟩⟩,hk.2⟩)) hg (.inl rfl));replace a3:=Aside0.mk (hz);replace HB:=Aside0.mk ((by rw[hw];exact dJ (HB.out) h7.out:Below w.heap.size w e'));clear hg hw hz)|((with_reducible refine oE (b:=.append) (xs:=#[.tmp 46,.tmp 48]) rfl ?_);at_builtin;refine Kd.xR (Kd.slice 3 (Kd.int .i64)) (w0:=w) w.heap.size rfl (.tmp 46) (.tmp 48) 33 26 (.slice none 0 0) 24 rfl Tryz.underlying33 rZ rfl (by decide) (by omega) u9 bo ea [.slice (some ⟨bf,0,none⟩) ak.length bx] (fun j=>(w.heap.size<=j)∧some j≠(.slice (some cf) J.length b3:Value).ownBlock∧j≠an) (fun j=>((fun j=>(w.heap.size<=j)∧some j≠(.slice (some cf) J.length b3:Value).ownBlock∧j≠an)) j∧some j≠(u9:Value).ownBlock) rfl rfl ?aP (fun _ hk=>hk) ?aF ?aO ?aB ?aS ?aL ?_;(case aP=>have jj:=(Kd.aC a3.out).1;have fb:=Aside0.mk a3.out;rw[jj] at fb⊢;exact(Kd.xT (Kd.aC (Kd.aR (ok':=(fun j=>((fun j=>(w.heap.size<=j)∧some j≠(.slice (some cf) J.length b3:Value).ownBlock∧j≠an)) j∧some j≠(u9:Value).ownBlock)) (Kd.eM (Kd.mo (Kd.mo (fb.out) (Kd.mC ar.out) (by decide)) (Kd.mC bw.out) (by decide)) I.out (by decide)) (fun j hk=>⟨⟨hk.1.1.1,⟨hk.1.1.2,hk.2⟩⟩,hk.1.2⟩))).2.1 (Kd.xD (Kd.aR (ok':=(fun j=>((fun j=>(w.heap.size<=j)∧some j≠(.slice (some cf) J.length b3:Value).ownBlock∧j≠an)) j∧some j≠(u9:Value).ownBlock)) (Kd.eM (Kd.mo (Kd.mo (fb.out) (Kd.mC ar.out) (by decide)) (Kd.mC bw.out) (by decide)) I.out (by decide)) (fun j hk=>⟨⟨hk.1.1.1,⟨hk.1.1.2,hk.2⟩⟩,hk.1.2⟩)))));(case aB=>exact zB);(case aF=>exact(fun j hk=>⟨(Nat.le_trans (aU zB) hk),Kd.od (Kd.rK (zN ar)) j hk,Kd.lh (zK I) j hk⟩));(case aO=>exact(by(with_reducible repeat(first|apply Kd.fK|apply Kd.fM|apply Kd.fL));exact Kd.dz bw.out (fun _ hk=>⟨hk.1.1,⟨hk.1.2.1,hk.1.2.2⟩⟩)));(case aS=>exact(aU zB));(case aL=>have:=hQ.out;omega);intro lb ld ho hb hg fo;rw[<-hR.out] at ho;replace ar:=Aside0.mk (Kd.oF (ok:=(fun j=>(w.heap.size<=j)∧some j≠(.slice (some ⟨bf,0,none⟩) ak.length bx:Value).ownBlock∧j≠an)) (by(with_reducible repeat(first|apply Kd.fK|apply Kd.fM|apply Kd.fL));exact Kd.dz ar.out (fun _ hk=>⟨⟨hk.1.1,⟨hk.2,hk.1.2.2⟩⟩,hk.1.2.1⟩)) hg fo);replace I:=Aside0.mk (cg (zK I) hg (Kd.xI bw.out I.out (by decide)));replace cj:=Aside0.mk (Kd.rN (ok:=(fun j=>(w.heap.size<=j)∧some j≠(.slice (some cf) J.length b3:Value).ownBlock∧some j≠(.slice (some ⟨bf,0,none⟩) ak.length bx:Value).ownBlock∧j≠an)) (by(with_reducible repeat(first|apply Kd.V_alloc|apply Kd.V_drewN|apply Kd.V_drew));exact Kd.kr cj.out (fun _ hk=>⟨⟨hk.1.1,⟨hk.1.2.2.1,⟨hk.2,hk.1.2.2.2⟩⟩⟩,hk.1.2.1⟩)) hg fo);replace HB:=Aside0.mk (hb);have j1:=Aside0.mk (ho);clear bw a3;clear ho hb hg fo))
              go_roundg k2
              case measure=>have:=gr.out;have:=g'.out;omega
              case rel=>exact⟨(hc),(wrap64 (ad+1)),zT,H',⟨by have:=gr.out;have:=g'.out;omega⟩,⟨zN j1⟩,⟨by(with_reducible repeat(first|apply Kd.fK|apply Kd.fM|apply Kd.fL));exact Kd.dz ar.out (fun _ hk=>⟨hk.1.1,⟨hk.2,hk.1.2.2⟩⟩)⟩,⟨zK I⟩,⟨zB⟩⟩
             ·rw[if_neg eb] at H
              exact absurd H (by simp)
            ·rw[if_neg dv] at H
             exact absurd H (by simp)
           ·rw[if_neg ds] at H
            exact absurd H (by simp)
          ·rw[if_neg dd] at H
           exact absurd H (by simp)
         ·rw[if_neg c'] at H
          exact absurd H (by simp)
        ·rw[if_neg ch] at H
         have hN:decide (ad<(J.length:Int))=false:=decide_eq_false ch
         clear ch
         simp only[Option.some.injEq,Prod.mk.injEq] at H
         obtain⟨rfl,rfl⟩:=H
         go_wp2
         go_ret2
         exact⟨_,zE,by(with_reducible repeat(first|apply Kd.fK|apply Kd.fM|apply Kd.fL));exact Kd.dz bw.out (fun _ hk=>hk.1),zB⟩
     ·rw[if_neg b_] at H
      have g1:(b2==0)=false:=beq_eq_false_iff_ne.mpr b_
      have g2:(b2 != 0)=true:=bne_iff_ne.mpr b_
      simp only[Option.some.injEq,Prod.mk.injEq] at H
      obtain⟨rfl,rfl⟩:=H
      obtain⟨lg,lj,lk,lo⟩:=ao I
      go_wp2_with (first|((with_reducible refine au (f:=56) rfl ?_);refine zL (some 29) Tryz.func56 #[.agg #[.int .i64 U,.slice bk aa.length bn],.int .i64 o] ?_;(with_reducible refine(iL.calls cc U _ _ aa o J b2 _ ?b0 ?b1 g0.out).mono ?_);(case b0=>exact Kd.aj c2.out zB);(case b1=>exact c3.out);rintro e lp ⟨hK,rfl,bg,hb⟩;refine⟨_,rfl,?_⟩;have e0:=Aside0.mk (Kd.lx (Kd.dz (ok':=fun j=>(w.heap.size<=j)∧j≠an) bg (fun j cq=>⟨(Nat.le_trans (aU zB) cq),(Kd.lh (zK I) j cq)⟩)) (aU zB));replace I:=zb I hb;replace HB:=zS HB hb;(try clear hb);(try clear bg)))
      go_ret2
      exact⟨_,zE,by first|exact Kd.eZ _ _ _ _ _|exact Kd.fs _ _ _ _ _|exact Kd.V_nil _ _ _ _ _|exact Kd.Q_nil _ _ _ _ _|exact Kd.cE _ _ _ _ _,zB⟩
 ·rw[if_neg c4] at H
  have ev:(a2==0)=false:=beq_eq_false_iff_ne.mpr c4
  have ew:(a2 != 0)=true:=bne_iff_ne.mpr c4
  simp only[Option.some.injEq,Prod.mk.injEq] at H
  obtain⟨rfl,rfl⟩:=H
  go_enter Tryz.func15,Tryz.ntmps15
  go_wp2_with (first|((with_reducible refine aA (N:=2) rfl ?_);refine zX 2 #[.int .i64 U,.slice bk aa.length bn] 24 ?_;intro an hg lv ck hb;have I:=Aside0.mk (ck);have hA:=zG HB hg;have hB:=zG HB hg;replace HB:=zS HB hb;clear hb ck hg;obtain⟨l1,l2,l3,l'⟩:=ao I)|((with_reducible refine au (f:=55) rfl ?_);refine zL (some 14) Tryz.func55 #[.agg #[.int .i64 U,.slice bk aa.length bn]] ?_;(with_reducible refine(ei.calls k U _ _ aa a2 _ ?b0 ?b1 A3.out).mono ?_);(case b0=>exact Kd.aj c2.out zB);(case b1=>exact c3.out);rintro e mb ⟨rfl,hb⟩;refine⟨_,rfl,?_⟩;replace I:=zb I hb;replace HB:=zS HB hb;(try clear hb)))
  go_ret2
  exact⟨_,zE,by first|exact Kd.eZ _ _ _ _ _|exact Kd.fs _ _ _ _ _|exact Kd.V_nil _ _ _ _ _|exact Kd.Q_nil _ _ _ _ _|exact Kd.cE _ _ _ _ _,zB⟩
mutual
noncomputable def bI.j0:Nat->List Int->Bool->List (List Int)->Bool->Int->List (S83)->Option (Bool)
 |0,_,_,_,_,_,_=>none
 |k+1,x1,o,j,I,J,R=>if I=true then(some false) else(bI.l0 k x1 o false j (j.length:Int) 0 J R)
noncomputable def bI.l0:Nat->List Int->Bool->Bool->List (List Int)->Int->Int->Int->List (S83)->Option (Bool)
 |0,_,_,_,_,_,_,_,_=>none
 |k+1,x1,I,aa,o,J,j,R,U=>if j<J then(if 0<=j then(if j<(o.length:Int) then((dG.f k (aH o j) x1).bind fun ab=>((eh.f k R U ab.1).bind fun ad=>(if ab.2=0 then(if ad.2.2.2=0 then(if aa=true then(bI.l0 k x1 I true o J (wrap64 (j+1)) R U) else(bI.l0 k x1 I ad.1 o J (wrap64 (j+1)) R U)) else(some false)) else(some false)))) else(none)) else(none)) else(if(aa != I)=true then((gP.f k).bind fun ag=>(some ag)) else(some false))
end
noncomputable def bI.f (k:Nat) (j:Int) (o:List (S83)) (l1:List Int) (R:Int):Option (Bool):=(jw.f k j o l1 5).bind fun U=>(if U=true then(if j=0 then(none) else((eh.f k j o l1).bind fun I=>((bV.f k j o (Int.tmod (wrap64 (R)) j)).bind fun J=>(if I.2.2.2=0 then(bI.j0 k l1 I.1 J.1 (J.2 != 0) j o) else(bI.j0 k l1 I.1 J.1 true j o))))) else((gP.f k).bind fun aa=>(some aa)))
theorem bI.calls (k:Nat) (j:Int) (bk:Option Addr) (bn:Nat) (o:List (S83)) (A1:Option Addr) (c1:Nat) (l1:List Int) (a2:Int) (r:Bool) (w:World) (g2:Kd.C aG w bk o.length o) (g3:o.length<=bn) (g4:Kd.C (Kd.int .i64) w A1 l1.length l1) (g':l1.length<=c1) (h:bI.f k j o l1 a2=some r):
  Calls Tryz.prog 3 #[.agg #[.int .i64 j,.slice bk o.length bn],.slice A1 l1.length c1,.int .u8 a2] w fun e w'=>e= .returned (.bool r)∧Below w.heap.size w w':=by
 have k4:=Tryz.underlying24
 have ch:=Aside0.mk g2
 have cj:=Aside0.mk g3
 clear g2 g3
 have cq:=Aside0.mk g4
 have cr:=Aside0.mk g'
 clear g4 g'
 have HB:=Aside0.mk (Below.refl w.heap.size w)
 have H:((jw.f k j o l1 5).bind fun e0=>(if e0=true then(if j=0 then(none) else((eh.f k j o l1).bind fun bx=>((bV.f k j o (Int.tmod (wrap64 (a2)) j)).bind fun a3=>(if bx.2.2.2=0 then(bI.j0 k l1 bx.1 a3.1 (a3.2 != 0) j o) else(bI.j0 k l1 bx.1 a3.1 true j o))))) else((gP.f k).bind fun ck=>(some ck))))=some r:=h
 clear h
 replace H:=Option.bind_eq_some_iff.mp H
 obtain⟨e0,ha,H⟩:=H
 replace H:(if e0=true then(if j=0 then(none) else((eh.f k j o l1).bind fun bx=>((bV.f k j o (Int.tmod (wrap64 (a2)) j)).bind fun a3=>(if bx.2.2.2=0 then(bI.j0 k l1 bx.1 a3.1 (a3.2 != 0) j o) else(bI.j0 k l1 bx.1 a3.1 true j o))))) else((gP.f k).bind fun ck=>(some ck)))=some r:=H
 have A4:=Aside0.mk ha
 clear ha
 by_cases c5:e0=true
 ·subst c5
  have H1:(if j=0 then(none) else((eh.f k j o l1).bind fun bx=>((bV.f k j o (Int.tmod (wrap64 (a2)) j)).bind fun a3=>(if bx.2.2.2=0 then(bI.j0 k l1 bx.1 a3.1 (a3.2 != 0) j o) else(bI.j0 k l1 bx.1 a3.1 true j o)))))=some r:=by rw[if_pos rfl] at H;exact H
  clear H
  have H:=H1
  clear H1
  by_cases c6:j=0
  ·rw[if_pos c6] at H
   exact absurd H (by simp)
  ·rw[if_neg c6] at H
   have hf:(j==0)=false:=beq_eq_false_iff_ne.mpr c6
   have hh:(j != 0)=true:=bne_iff_ne.mpr c6
   replace H:=Option.bind_eq_some_iff.mp H
   obtain⟨⟨aB,hO,hP,cl⟩,hj,H⟩:=H
   replace H:((bV.f k j o (Int.tmod (wrap64 (a2)) j)).bind fun a3=>(if cl=0 then(bI.j0 k l1 aB a3.1 (a3.2 != 0) j o) else(bI.j0 k l1 aB a3.1 true j o)))=some r:=H
   have A7:=Aside0.mk hj
   clear hj
   replace H:=Option.bind_eq_some_iff.mp H
   obtain⟨⟨U,fr⟩,hl,H⟩:=H
   replace H:(if cl=0 then(bI.j0 k l1 aB U (fr != 0) j o) else(bI.j0 k l1 aB U true j o))=some r:=H
   have A8:=Aside0.mk hl
   clear hl
   have ft:=Aside0.mk H
   clear H
   go_enter Tryz.func3,Tryz.ntmps3
   go_upto_region 6 with (first|((with_reducible refine aA (N:=3) rfl ?_);refine zX 3 #[.int .i64 j,.slice bk o.length bn] 24 ?_;intro er hg k5 ew hb;have R:=Aside0.mk (ew);have hT:=zG HB hg;have hV:=zG HB hg;replace HB:=zS HB hb;clear hb ew hg;obtain⟨hn,ho,hq,hr⟩:=ao R)|((with_reducible refine au (f:=12) rfl ?_);refine zL (some 25) Tryz.func12 #[.agg #[.int .i64 j,.slice bk o.length bn],.slice A1 l1.length c1,.int .i64 5] ?_;(with_reducible refine(jw.calls k j _ _ o _ _ l1 5 true _ ?an ?ar ?aF ?aL A4.out).mono ?_);(case an=>exact Kd.aj ch.out zB);(case ar=>exact cj.out);(case aF=>exact Kd.aj cq.out zB);(case aL=>exact cr.out);rintro e k6 ⟨rfl,hb⟩;refine⟨_,rfl,?_⟩;replace R:=zb R hb;replace HB:=zS HB hb;(try clear hb);obtain⟨hs,ht,hv,hx⟩:=ao R)|((with_reducible refine au (f:=14) rfl ?_);refine zL (some 36) Tryz.func14 #[.agg #[.int .i64 j,.slice bk o.length bn],.slice A1 l1.length c1] ?_;(with_reducible refine(eh.calls k j _ _ o _ _ l1 aB hO hP cl _ ?an ?ar ?aF ?aL A7.out).mono ?_);(case an=>exact Kd.aj ch.out zB);(case ar=>exact cj.out);(case aF=>exact Kd.aj cq.out zB);(case aL=>exact cr.out);rintro e k7 ⟨hW,hX,rfl,I,ak,hb⟩;refine⟨_,rfl,?_⟩;have fv:=Aside0.mk (Kd.aM I (aU zB));have f':=Aside0.mk (Kd.aM ak (aU zB));replace R:=zb R hb;replace HB:=zS HB hb;(try clear hb);(try clear I);(try clear ak);obtain⟨hy,hz,hA,hB⟩:=ao R)|((with_reducible refine au (f:=15) rfl ?_);refine zL (some 44) Tryz.func15 #[.agg #[.int .i64 j,.slice bk o.length bn],.int .i64 (Int.tmod (wrap64 (a2)) j)] ?_;(with_reducible refine(bV.calls k j _ _ o (Int.tmod (wrap64 (a2)) j) U fr _ ?an ?ar A8.out).mono ?_);(case an=>exact Kd.aj ch.out zB);(case ar=>exact cj.out);rintro e k8 ⟨hY,rfl,I,hb⟩;refine⟨_,rfl,?_⟩;have hD:=Aside0.mk (Kd.lx (Kd.dz (ok':=fun k_=>some k_≠(hW:Value).ownBlock∧some k_≠(hX:Value).ownBlock∧k_≠er) I (fun k_ gb=>⟨(Kd.od (Kd.bq (zR fv)) k_ gb),(Kd.od (Kd.bq (zR f')) k_ gb),(Kd.lh (zK R) k_ gb)⟩)) (aU zB));replace fv:=bm fv hb;replace f':=bm f' hb;replace R:=zb R hb;replace HB:=zS HB hb;(try clear hb);(try clear I)))
   (try simp only[Act.put,List.setIfInBounds_toArray,List.set_cons_zero,List.set_cons_succ])
   go_cut [52] (fun h0 wc=>∃(kq:Nat) (e1:Bool),h0= .bool e1∧Aside0 (bI.j0 kq l1 aB U e1 j o=some r)∧Aside0 (kq<=k)∧Aside0 (Kd.N (Kd.slice 3 (Kd.int .i64)) 26 wc w.heap.size (fun k_=>k_≠er) hY U)∧Aside0 (wc.heap[er]? =some (.cells #[.int .i64 j,(.slice bk o.length bn)] 24 (0,0)))∧Aside0 (Below w.heap.size w wc))
   case first=>
    have H:=ft.out
    clear ft
    by_cases cd:cl=0
    ·rw[if_pos cd] at H
     have c0:(cl==0)=true:=beq_iff_eq.mpr cd
     have gd:(cl != 0)=false:=bne_eq_false_iff_eq.mpr cd
     clear cd
     (first|rw[c0]|(simp only[aV,aX];rw[c0])|skip)
     have H':=Aside0.mk H
     clear H
     go_wp2
     go_meet
     case rel=>exact⟨_,((fr != 0)),zT,H',⟨by first|omega|exact Nat.le_refl _⟩,⟨by(with_reducible repeat(first|apply Kd.fK|apply Kd.fM|apply Kd.fL));exact Kd.dz hD.out (fun _ hk=>hk.2.2)⟩,⟨zK R⟩,⟨zB⟩⟩
    ·rw[if_neg cd] at H
     have c0:(cl==0)=false:=beq_eq_false_iff_ne.mpr cd
     have gd:(cl != 0)=true:=bne_iff_ne.mpr cd
     (first|rw[c0]|(simp only[aV,aX];rw[c0])|skip)
     have H':=Aside0.mk H
     clear H
     go_wp2
     go_meet
     case rel=>exact⟨_,(true),zT,H',⟨by first|omega|exact Nat.le_refl _⟩,⟨by(with_reducible repeat(first|apply Kd.fK|apply Kd.fM|apply Kd.fL));exact Kd.dz hD.out (fun _ hk=>hk.2.2)⟩,⟨zK R⟩,⟨zB⟩⟩
   case rest=>
    clear ft
    try clear c1
    try clear p2
    try clear c3
    try clear c5
    try clear c6
    try clear hf
    try clear hh
    try clear p6
    try clear h1
    try clear h2
    try clear h3
    try clear cd
    try clear c0
    try clear gd
    try clear hn
    try clear ho
    try clear hs
    try clear ht
    try clear hy
    try clear hz
    try clear hq
    try clear hr
    try clear hv
    try clear hx
    try clear hA
    try clear hB
    obtain⟨kq,e1,rfl,HA,e2,hH,R,HB⟩:=hcut
    cases kq with
    |zero=>exact absurd HA.out (by simp[bI.j0])
    |succ gf=>
     have H:=HA.out
     clear HA
     simp only[bI.j0] at H
     by_cases ey:e1=true
     ·subst ey
      have H1:(some false)=some r:=by rw[if_pos rfl] at H;exact H
      clear H
      have H:=H1
      clear H1
      obtain rfl:=Option.some.inj H
      go_wp2
      go_ret
      exact⟨zE,zB⟩
     ·replace ey:=Bool.eq_false_iff.mpr ey
      subst ey
      have H1:(bI.l0 gf l1 aB false U (U.length:Int) 0 j o)=some r:=by rw[if_neg (show ¬(false=true) by decide)] at H;exact H
      clear H
      have H:=H1
      clear H1
      have H':=Aside0.mk H
      clear H
      obtain⟨h4,h5,h6⟩:=Kd.oC hH.out
      subst h6
      go_wp2
      go_loopg [14,55] gf (fun kq h7 h8 w'=>∃(bo:Bool) (J:Int),h7= .bool bo∧h8= .int .i64 J∧Aside0 (bI.l0 kq l1 aB bo U (U.length:Int) J j o=some r)∧Aside0 (kq<=gf)∧Aside0 (Kd.N (Kd.slice 3 (Kd.int .i64)) 26 w' w.heap.size (fun k_=>k_≠er) (.slice h4 U.length h5) U)∧Aside0 (w'.heap[er]? =some (.cells #[.int .i64 j,(.slice bk o.length bn)] 24 (0,0)))∧Aside0 (Below w.heap.size w w'))
      case atStart=>exact⟨(false),(0),zT,zT,H',⟨Nat.le_refl _⟩,⟨zN hH⟩,⟨zK R⟩,⟨zB⟩⟩
      case round=>
       clear H'
       try clear c1
       try clear p2
       try clear c3
       try clear c5
       try clear c6
       try clear hf
       try clear hh
       try clear p6
       try clear h1
       try clear h2
       try clear h3
       try clear cd
       try clear c0
       try clear gd
       try clear ey
       try clear hn
       try clear ho
       try clear hs
       try clear ht
       try clear hy
       try clear hz
       try clear hq
       try clear hr
       try clear hv
       try clear hx
       try clear hA
       try clear hB
       try clear p2
       try clear p6
       obtain⟨bo,J,rfl,rfl,HA,e3,ad,R,HB⟩:=hrel
       cases gk with
       |zero=>exact absurd HA.out (by simp[bI.l0])
       |succ k2=>
        have H:=HA.out
        clear HA
        simp only[bI.l0] at H
        by_cases ev:J<(U.length:Int)
        ·rw[if_pos ev] at H
         have h9:decide (J<(U.length:Int))=true:=decide_eq_true ev
         clear ev
         by_cases e4:0<=J
         ·rw[if_pos e4] at H
          have k9:decide (0<=J)=true:=decide_eq_true e4
          clear e4
          by_cases e5:J<(U.length:Int)
          ·rw[if_pos e5] at H
           have la:decide (J<(U.length:Int))=true:=decide_eq_true e5
           clear e5
           replace H:=Option.bind_eq_some_iff.mp H
           obtain⟨⟨bw,b1⟩,hI,H⟩:=H
           replace H:((eh.f k2 j o bw).bind fun hJ=>(if b1=0 then(if hJ.2.2.2=0 then(if bo=true then(bI.l0 k2 l1 aB true U (U.length:Int) (wrap64 (J+1)) j o) else(bI.l0 k2 l1 aB hJ.1 U (U.length:Int) (wrap64 (J+1)) j o)) else(some false)) else(some false)))=some r:=H
           have e6:=Aside0.mk hI
           clear hI
           replace H:=Option.bind_eq_some_iff.mp H
           obtain⟨⟨c4,e',fb,cb⟩,hK,H⟩:=H
           replace H:(if b1=0 then(if cb=0 then(if bo=true then(bI.l0 k2 l1 aB true U (U.length:Int) (wrap64 (J+1)) j o) else(bI.l0 k2 l1 aB c4 U (U.length:Int) (wrap64 (J+1)) j o)) else(some false)) else(some false))=some r:=H
           have fo:=Aside0.mk hK
           clear hK
           by_cases c7:b1=0
           ·rw[if_pos c7] at H
            have h':(b1==0)=true:=beq_iff_eq.mpr c7
            have ib:(b1 != 0)=false:=bne_eq_false_iff_eq.mpr c7
            clear c7
            by_cases c8:cb=0
            ·rw[if_pos c8] at H
             have ih:(cb==0)=true:=beq_iff_eq.mpr c8
             have im:(cb != 0)=false:=bne_eq_false_iff_eq.mpr c8
             clear c8
             by_cases fq:bo=true
             ·subst fq
              have H1:(bI.l0 k2 l1 aB true U (U.length:Int) (wrap64 (J+1)) j o)=some r:=by rw[if_pos rfl] at H;exact H
              clear H
              have H:=H1
              clear H1
              have H':=Aside0.mk H
              clear H
              have aO:0<=(J:Int):=of_decide_eq_true ‹_›
              have aP:J<(U.length:Int):=of_decide_eq_true ‹_›
              obtain⟨gg,c9,c',dd,ds,b2,b3⟩:=e7 (Kd.fN ad.out).2.2 J aO aP
              cases dd
              obtain⟨gi,dv,ea,b4⟩:=Kd.ly ad.out [] J aO (by first|exact aP|exact of_decide_eq_true ‹_› |(have e_:=(Kd.fN ad.out).1;omega))
              obtain⟨gm,gp,rfl,bf,bg⟩:=Kd.ku ea
              have aS:=b4 0 _ rfl
              rw[Nat.add_zero,show ((Kd.slice 3 (Kd.int .i64))).sz=1 from rfl,Nat.mul_one] at aS
              replace aS:=Option.some.inj (aS.symm.trans ds)
              injection aS with b5 eb b_
              rw[b5] at bg
              rw[b_] at bf
              have a0:=Aside0.mk (show Kd.V (Kd.int .i64) 3 _ w.heap.size _ _ (aH U J) from Kd.lA bf bg)
              clear b5 eb b_ bg bf
              clear b4 dv
              have ab:=Aside0.mk b3
              have ed:=Aside0.mk b2
              clear b3 b2
              replace aO:=eq_true aO
              replace aP:=eq_true aP
              go_wp2_with (first|((with_reducible refine au (f:=16) rfl ?_);refine zL (some 62) Tryz.func16 #[.slice c9 (aH U J).length c',.slice A1 l1.length c1] ?_;(with_reducible refine(dG.calls k2 _ _ (aH U J) _ _ l1 bw b1 _ ?an ?ar ?aF ?aL e6.out).mono ?_);(case an=>repeat(first|exact(by repeat(first|(with_reducible exact ab.out)|(with_reducible refine Kd.aY ?_ _)|(with_reducible refine Kd.cX ?_ _)|(with_reducible refine Kd.cK ?_)|exact ab.out))|(with_reducible refine Kd.aY ?_ _)|(with_reducible refine Kd.cX ?_ _)|(with_reducible refine Kd.cK ?_)));(case ar=>exact ed.out);(case aF=>exact Kd.aj cq.out zB);(case aL=>exact cr.out);rintro e lb ⟨gq,rfl,I,hb⟩;refine⟨_,rfl,?_⟩;replace ad:=kz ad I hb;replace a0:=Aside0.mk (Kd.lB (by(with_reducible repeat(first|apply Kd.V_alloc|apply Kd.V_drewN|apply Kd.V_drew));exact a0.out) (Kd.br I) hb);have ag:=Aside0.mk (Kd.aM I (aU zB));replace R:=zb R hb;replace ab:=Aside0.mk (Kd.aj (by repeat(first|(with_reducible exact ab.out)|(with_reducible refine Kd.aY ?_ _)|(with_reducible refine Kd.cX ?_ _)|(with_reducible refine Kd.cK ?_)|exact ab.out)) hb);replace HB:=zS HB hb;(try clear hb);(try clear I);obtain⟨ld,lg,lj,lk⟩:=ao R;obtain⟨iv,jj,j1⟩:=Kd.a7 ag.out;subst j1)|((with_reducible refine au (f:=14) rfl ?_);refine zL (some 68) Tryz.func14 #[.agg #[.int .i64 j,.slice bk o.length bn],.slice iv bw.length jj] ?_;(with_reducible refine(eh.calls k2 j _ _ o _ _ bw c4 e' fb cb _ ?an ?ar ?aF ?aL fo.out).mono ?_);(case an=>exact Kd.aj ch.out zB);(case ar=>exact cj.out);(case aF=>exact zC (Kd.aC ag.out).2.2);(case aL=>exact(Kd.aC ag.out).2.1);rintro e lo ⟨gr,gx,rfl,I,ak,hb⟩;refine⟨_,rfl,?_⟩;replace ad:=Aside0.mk (Kd.dz (Kd.i_ (Kd.i_ (Kd.mD (zN ad) hb) (Kd.br I)) (Kd.br ak)) (fun _ h_=>h_.1));replace a0:=Aside0.mk (Kd.kr (Kd.ja (Kd.ja (Kd.mJ (by(with_reducible repeat(first|apply Kd.V_alloc|apply Kd.V_drewN|apply Kd.V_drew));exact a0.out) hb) (Kd.br I)) (Kd.br ak)) (fun _ h_=>h_.1));have g0:=Aside0.mk (Kd.aM (Kd.dy I (Kd.bq (zR ag))) (aU zB));have g1:=Aside0.mk (Kd.aM (Kd.dy ak (Kd.bq (zR ag))) (aU zB));replace ag:=Aside0.mk (Kd.aR (Kd.i' (Kd.i' (Kd.mE (zR ag) hb) (Kd.br I)) (Kd.br ak)) (fun _ h_=>h_.1));replace R:=zb R hb;replace ab:=Aside0.mk (Kd.aj (by repeat(first|(with_reducible exact ab.out)|(with_reducible refine Kd.aY ?_ _)|(with_reducible refine Kd.cX ?_ _)|(with_reducible refine Kd.cK ?_)|exact ab.out)) hb);replace HB:=zS HB hb;(try clear hb);(try clear I);(try clear ak)))
              go_roundg k2
              case measure=>have:=e2.out;have:=e3.out;omega
              case rel=>exact⟨(true),(wrap64 (J+1)),zT,zT,H',⟨by have:=e2.out;have:=e3.out;omega⟩,⟨by(with_reducible repeat(first|apply Kd.fK|apply Kd.fM|apply Kd.fL));exact Kd.dz ad.out (fun _ hk=>hk.1.1.1)⟩,⟨zK R⟩,⟨zB⟩⟩
             ·replace fq:=Bool.eq_false_iff.mpr fq
              subst fq
              have H1:(bI.l0 k2 l1 aB c4 U (U.length:Int) (wrap64 (J+1)) j o)=some r:=by rw[if_neg (show ¬(false=true) by decide)] at H;exact H
              clear H
              have H:=H1
              clear H1
              have H':=Aside0.mk H
              clear H
              have aO:0<=(J:Int):=of_decide_eq_true ‹_›
              have aP:J<(U.length:Int):=of_decide_eq_true ‹_›
              obtain⟨gg,c9,c',dd,ds,b2,b3⟩:=e7 (Kd.fN ad.out).2.2 J aO aP
              cases dd
              obtain⟨gi,dv,ea,b4⟩:=Kd.ly ad.out [] J aO (by first|exact aP|exact of_decide_eq_true ‹_› |(have e_:=(Kd.fN ad.out).1;omega))
              obtain⟨gm,gp,rfl,bf,bg⟩:=Kd.ku ea
              have aS:=b4 0 _ rfl
              rw[Nat.add_zero,show ((Kd.slice 3 (Kd.int .i64))).sz=1 from rfl,Nat.mul_one] at aS
              replace aS:=Option.some.inj (aS.symm.trans ds)
              injection aS with b5 eb b_
              rw[b5] at bg
              rw[b_] at bf
              have a0:=Aside0.mk (show Kd.V (Kd.int .i64) 3 _ w.heap.size _ _ (aH U J) from Kd.lA bf bg)
              clear b5 eb b_ bg bf
              clear b4 dv
              have ab:=Aside0.mk b3
              have ed:=Aside0.mk b2
              clear b3 b2
              replace aO:=eq_true aO
              replace aP:=eq_true aP
              go_wp2_with (first|((with_reducible refine au (f:=16) rfl ?_);refine zL (some 62) Tryz.func16 #[.slice c9 (aH U J).length c',.slice A1 l1.length c1] ?_;(with_reducible refine(dG.calls k2 _ _ (aH U J) _ _ l1 bw b1 _ ?an ?ar ?aF ?aL e6.out).mono ?_);(case an=>repeat(first|exact(by repeat(first|(with_reducible exact ab.out)|(with_reducible refine Kd.aY ?_ _)|(with_reducible refine Kd.cX ?_ _)|(with_reducible refine Kd.cK ?_)|exact ab.out))|(with_reducible refine Kd.aY ?_ _)|(with_reducible refine Kd.cX ?_ _)|(with_reducible refine Kd.cK ?_)));(case ar=>exact ed.out);(case aF=>exact Kd.aj cq.out zB);(case aL=>exact cr.out);rintro e lp ⟨gq,rfl,I,hb⟩;refine⟨_,rfl,?_⟩;replace ad:=kz ad I hb;replace a0:=Aside0.mk (Kd.lB (by(with_reducible repeat(first|apply Kd.V_alloc|apply Kd.V_drewN|apply Kd.V_drew));exact a0.out) (Kd.br I) hb);have ag:=Aside0.mk (Kd.aM I (aU zB));replace R:=zb R hb;replace ab:=Aside0.mk (Kd.aj (by repeat(first|(with_reducible exact ab.out)|(with_reducible refine Kd.aY ?_ _)|(with_reducible refine Kd.cX ?_ _)|(with_reducible refine Kd.cK ?_)|exact ab.out)) hb);replace HB:=zS HB hb;(try clear hb);(try clear I);obtain⟨lv,l2,l3,l'⟩:=ao R;obtain⟨j2,j3,j_⟩:=Kd.a7 ag.out;subst j_)|((with_reducible refine au (f:=14) rfl ?_);refine zL (some 68) Tryz.func14 #[.agg #[.int .i64 j,.slice bk o.length bn],.slice j2 bw.length j3] ?_;(with_reducible refine(eh.calls k2 j _ _ o _ _ bw c4 e' fb cb _ ?an ?ar ?aF ?aL fo.out).mono ?_);(case an=>exact Kd.aj ch.out zB);(case ar=>exact cj.out);(case aF=>exact zC (Kd.aC ag.out).2.2);(case aL=>exact(Kd.aC ag.out).2.1);rintro e mb ⟨gr,gx,rfl,I,ak,hb⟩;refine⟨_,rfl,?_⟩;replace ad:=Aside0.mk (Kd.dz (Kd.i_ (Kd.i_ (Kd.mD (zN ad) hb) (Kd.br I)) (Kd.br ak)) (fun _ h_=>h_.1));replace a0:=Aside0.mk (Kd.kr (Kd.ja (Kd.ja (Kd.mJ (by(with_reducible repeat(first|apply Kd.V_alloc|apply Kd.V_drewN|apply Kd.V_drew));exact a0.out) hb) (Kd.br I)) (Kd.br ak)) (fun _ h_=>h_.1));have g0:=Aside0.mk (Kd.aM (Kd.dy I (Kd.bq (zR ag))) (aU zB));have g1:=Aside0.mk (Kd.aM (Kd.dy ak (Kd.bq (zR ag))) (aU zB));replace ag:=Aside0.mk (Kd.aR (Kd.i' (Kd.i' (Kd.mE (zR ag) hb) (Kd.br I)) (Kd.br ak)) (fun _ h_=>h_.1));replace R:=zb R hb;replace ab:=Aside0.mk (Kd.aj (by repeat(first|(with_reducible exact ab.out)|(with_reducible refine Kd.aY ?_ _)|(with_reducible refine Kd.cX ?_ _)|(with_reducible refine Kd.cK ?_)|exact ab.out)) hb);replace HB:=zS HB hb;(try clear hb);(try clear I);(try clear ak)))
              go_roundg k2
              case measure=>have:=e2.out;have:=e3.out;omega
              case rel=>exact⟨(c4),(wrap64 (J+1)),zT,zT,H',⟨by have:=e2.out;have:=e3.out;omega⟩,⟨by(with_reducible repeat(first|apply Kd.fK|apply Kd.fM|apply Kd.fL));exact Kd.dz ad.out (fun _ hk=>hk.1.1.1)⟩,⟨zK R⟩,⟨zB⟩⟩
            ·rw[if_neg c8] at H
             have ih:(cb==0)=false:=beq_eq_false_iff_ne.mpr c8
             have im:(cb != 0)=true:=bne_iff_ne.mpr c8
             obtain rfl:=Option.some.inj H
             have aO:0<=(J:Int):=of_decide_eq_true ‹_›
             have aP:J<(U.length:Int):=of_decide_eq_true ‹_›
             obtain⟨gg,c9,c',dd,ds,b2,b3⟩:=e7 (Kd.fN ad.out).2.2 J aO aP
             cases dd
             obtain⟨gi,dv,ea,b4⟩:=Kd.ly ad.out [] J aO (by first|exact aP|exact of_decide_eq_true ‹_› |(have e_:=(Kd.fN ad.out).1;omega))
             obtain⟨gm,gp,rfl,bf,bg⟩:=Kd.ku ea
             have aS:=b4 0 _ rfl
             rw[Nat.add_zero,show ((Kd.slice 3 (Kd.int .i64))).sz=1 from rfl,Nat.mul_one] at aS
             replace aS:=Option.some.inj (aS.symm.trans ds)
             injection aS with b5 eb b_
             rw[b5] at bg
             rw[b_] at bf
             have a0:=Aside0.mk (show Kd.V (Kd.int .i64) 3 _ w.heap.size _ _ (aH U J) from Kd.lA bf bg)
             clear b5 eb b_ bg bf
             clear b4 dv
             have ab:=Aside0.mk b3
             have ed:=Aside0.mk b2
             clear b3 b2
             replace aO:=eq_true aO
             replace aP:=eq_true aP
             go_wp2_with (first|((with_reducible refine au (f:=16) rfl ?_);refine zL (some 62) Tryz.func16 #[.slice c9 (aH U J).length c',.slice A1 l1.length c1] ?_;(with_reducible refine(dG.calls k2 _ _ (aH U J) _ _ l1 bw b1 _ ?an ?ar ?aF ?aL e6.out).mono ?_);(case an=>repeat(first|exact(by repeat(first|(with_reducible exact ab.out)|(with_reducible refine Kd.aY ?_ _)|(with_reducible refine Kd.cX ?_ _)|(with_reducible refine Kd.cK ?_)|exact ab.out))|(with_reducible refine Kd.aY ?_ _)|(with_reducible refine Kd.cX ?_ _)|(with_reducible refine Kd.cK ?_)));(case ar=>exact ed.out);(case aF=>exact Kd.aj cq.out zB);(case aL=>exact cr.out);rintro e ml ⟨gq,rfl,I,hb⟩;refine⟨_,rfl,?_⟩;replace ad:=kz ad I hb;replace a0:=Aside0.mk (Kd.lB (by(with_reducible repeat(first|apply Kd.V_alloc|apply Kd.V_drewN|apply Kd.V_drew));exact a0.out) (Kd.br I) hb);have ag:=Aside0.mk (Kd.aM I (aU zB));replace R:=zb R hb;replace ab:=Aside0.mk (Kd.aj (by repeat(first|(with_reducible exact ab.out)|(with_reducible refine Kd.aY ?_ _)|(with_reducible refine Kd.cX ?_ _)|(with_reducible refine Kd.cK ?_)|exact ab.out)) hb);replace HB:=zS HB hb;(try clear hb);(try clear I);obtain⟨mn,mv,mx,m0⟩:=ao R;obtain⟨j',kd,kk⟩:=Kd.a7 ag.out;subst kk)|((with_reducible refine au (f:=14) rfl ?_);refine zL (some 68) Tryz.func14 #[.agg #[.int .i64 j,.slice bk o.length bn],.slice j' bw.length kd] ?_;(with_reducible refine(eh.calls k2 j _ _ o _ _ bw c4 e' fb cb _ ?an ?ar ?aF ?aL fo.out).mono ?_);(case an=>exact Kd.aj ch.out zB);(case ar=>exact cj.out);(case aF=>exact zC (Kd.aC ag.out).2.2);(case aL=>exact(Kd.aC ag.out).2.1);rintro e m1 ⟨gr,gx,rfl,I,ak,hb⟩;refine⟨_,rfl,?_⟩;replace ad:=Aside0.mk (Kd.dz (Kd.i_ (Kd.i_ (Kd.mD (zN ad) hb) (Kd.br I)) (Kd.br ak)) (fun _ h_=>h_.1));replace a0:=Aside0.mk (Kd.kr (Kd.ja (Kd.ja (Kd.mJ (by(with_reducible repeat(first|apply Kd.V_alloc|apply Kd.V_drewN|apply Kd.V_drew));exact a0.out) hb) (Kd.br I)) (Kd.br ak)) (fun _ h_=>h_.1));have g0:=Aside0.mk (Kd.aM (Kd.dy I (Kd.bq (zR ag))) (aU zB));have g1:=Aside0.mk (Kd.aM (Kd.dy ak (Kd.bq (zR ag))) (aU zB));replace ag:=Aside0.mk (Kd.aR (Kd.i' (Kd.i' (Kd.mE (zR ag) hb) (Kd.br I)) (Kd.br ak)) (fun _ h_=>h_.1));replace R:=zb R hb;replace ab:=Aside0.mk (Kd.aj (by repeat(first|(with_reducible exact ab.out)|(with_reducible refine Kd.aY ?_ _)|(with_reducible refine Kd.cX ?_ _)|(with_reducible refine Kd.cK ?_)|exact ab.out)) hb);replace HB:=zS HB hb;(try clear hb);(try clear I);(try clear ak)))
             go_ret
             exact⟨zE,zB⟩
           ·rw[if_neg c7] at H
            have h':(b1==0)=false:=beq_eq_false_iff_ne.mpr c7
            have ib:(b1 != 0)=true:=bne_iff_ne.mpr c7
            obtain rfl:=Option.some.inj H
            have aO:0<=(J:Int):=of_decide_eq_true ‹_›
            have aP:J<(U.length:Int):=of_decide_eq_true ‹_›
            obtain⟨gg,c9,c',dd,ds,b2,b3⟩:=e7 (Kd.fN ad.out).2.2 J aO aP
            cases dd
            obtain⟨gi,dv,ea,b4⟩:=Kd.ly ad.out [] J aO (by first|exact aP|exact of_decide_eq_true ‹_› |(have e_:=(Kd.fN ad.out).1;omega))
            obtain⟨gm,gp,rfl,bf,bg⟩:=Kd.ku ea
            have aS:=b4 0 _ rfl
            rw[Nat.add_zero,show ((Kd.slice 3 (Kd.int .i64))).sz=1 from rfl,Nat.mul_one] at aS
            replace aS:=Option.some.inj (aS.symm.trans ds)
            injection aS with b5 eb b_
            rw[b5] at bg
            rw[b_] at bf
            have a0:=Aside0.mk (show Kd.V (Kd.int .i64) 3 _ w.heap.size _ _ (aH U J) from Kd.lA bf bg)
            clear b5 eb b_ bg bf
            clear b4 dv
            have ab:=Aside0.mk b3
            have ed:=Aside0.mk b2
            clear b3 b2
            replace aO:=eq_true aO
            replace aP:=eq_true aP
            go_wp2_with (first|((with_reducible refine au (f:=16) rfl ?_);refine zL (some 62) Tryz.func16 #[.slice c9 (aH U J).length c',.slice A1 l1.length c1] ?_;(with_reducible refine(dG.calls k2 _ _ (aH U J) _ _ l1 bw b1 _ ?an ?ar ?aF ?aL e6.out).mono ?_);(case an=>repeat(first|exact(by repeat(first|(with_reducible exact ab.out)|(with_reducible refine Kd.aY ?_ _)|(with_reducible refine Kd.cX ?_ _)|(with_reducible refine Kd.cK ?_)|exact ab.out))|(with_reducible refine Kd.aY ?_ _)|(with_reducible refine Kd.cX ?_ _)|(with_reducible refine Kd.cK ?_)));(case ar=>exact ed.out);(case aF=>exact Kd.aj cq.out zB);(case aL=>exact cr.out);rintro e m2 ⟨gq,rfl,I,hb⟩;refine⟨_,rfl,?_⟩;replace ad:=kz ad I hb;replace a0:=Aside0.mk (Kd.lB (by(with_reducible repeat(first|apply Kd.V_alloc|apply Kd.V_drewN|apply Kd.V_drew));exact a0.out) (Kd.br I) hb);have ag:=Aside0.mk (Kd.aM I (aU zB));replace R:=zb R hb;replace ab:=Aside0.mk (Kd.aj (by repeat(first|(with_reducible exact ab.out)|(with_reducible refine Kd.aY ?_ _)|(with_reducible refine Kd.cX ?_ _)|(with_reducible refine Kd.cK ?_)|exact ab.out)) hb);replace HB:=zS HB hb;(try clear hb);(try clear I);obtain⟨m3,m4,m8,m'⟩:=ao R;obtain⟨km,ks,kt⟩:=Kd.a7 ag.out;subst kt)|((with_reducible refine au (f:=14) rfl ?_);refine zL (some 68) Tryz.func14 #[.agg #[.int .i64 j,.slice bk o.length bn],.slice km bw.length ks] ?_;(with_reducible refine(eh.calls k2 j _ _ o _ _ bw c4 e' fb cb _ ?an ?ar ?aF ?aL fo.out).mono ?_);(case an=>exact Kd.aj ch.out zB);(case ar=>exact cj.out);(case aF=>exact zC (Kd.aC ag.out).2.2);(case aL=>exact(Kd.aC ag.out).2.1);rintro e nb ⟨gr,gx,rfl,I,ak,hb⟩;refine⟨_,rfl,?_⟩;replace ad:=Aside0.mk (Kd.dz (Kd.i_ (Kd.i_ (Kd.mD (zN ad) hb) (Kd.br I)) (Kd.br ak)) (fun _ h_=>h_.1));replace a0:=Aside0.mk (Kd.kr (Kd.ja (Kd.ja (Kd.mJ (by(with_reducible repeat(first|apply Kd.V_alloc|apply Kd.V_drewN|apply Kd.V_drew));exact a0.out) hb) (Kd.br I)) (Kd.br ak)) (fun _ h_=>h_.1));have g0:=Aside0.mk (Kd.aM (Kd.dy I (Kd.bq (zR ag))) (aU zB));have g1:=Aside0.mk (Kd.aM (Kd.dy ak (Kd.bq (zR ag))) (aU zB));replace ag:=Aside0.mk (Kd.aR (Kd.i' (Kd.i' (Kd.mE (zR ag) hb) (Kd.br I)) (Kd.br ak)) (fun _ h_=>h_.1));replace R:=zb R hb;replace ab:=Aside0.mk (Kd.aj (by repeat(first|(with_reducible exact ab.out)|(with_reducible refine Kd.aY ?_ _)|(with_reducible refine Kd.cX ?_ _)|(with_reducible refine Kd.cK ?_)|exact ab.out)) hb);replace HB:=zS HB hb;(try clear hb);(try clear I);(try clear ak)))
            go_ret
            exact⟨zE,zB⟩
          ·rw[if_neg e5] at H
           exact absurd H (by simp)
         ·rw[if_neg e4] at H
          exact absurd H (by simp)
        ·rw[if_neg ev] at H
         have h9:decide (J<(U.length:Int))=false:=decide_eq_false ev
         clear ev
         by_cases b':(bo != aB)=true
         ·rw[if_pos b'] at H
          have kv:(bo != aB)=true:=b'
          (try(have kW:decide (bo=aB)=false:=by simpa using b'))
          (try(have k0:(bo==aB)=false:=by simpa using b'))
          (try(have nd:¬(bo=aB):=by simpa using b'))
          clear b'
          replace H:=Option.bind_eq_some_iff.mp H
          obtain⟨hL,hM,H⟩:=H
          replace H:(some hL)=some r:=H
          have k1:=Aside0.mk hM
          clear hM
          obtain rfl:=Option.some.inj H
          go_wp2_with (first|(go_at_call 13;(with_reducible refine(gP.calls k2  hL _ k1.out).mono ?_);rintro e nr ⟨rfl,hb⟩;replace ad:=x_ ad hb;replace R:=zb R hb;replace HB:=zS HB hb;(try clear hb)))
          go_ret
          exact⟨zE,zB⟩
         ·rw[if_neg b'] at H
          have kv:(bo != aB)=false:=by simpa using b'
          (try(have kW:decide (bo=aB)=true:=by simpa using b'))
          (try(have k0:(bo==aB)=true:=by simpa using b'))
          clear b'
          obtain rfl:=Option.some.inj H
          go_wp2
          go_ret
          exact⟨zE,zB⟩
 ·replace c5:=Bool.eq_false_iff.mpr c5
  subst c5
  have H1:((gP.f k).bind fun ck=>(some ck))=some r:=by rw[if_neg (show ¬(false=true) by decide)] at H;exact H
  clear H
  have H:=H1
  clear H1
  replace H:=Option.bind_eq_some_iff.mp H
  obtain⟨ck,hN,H⟩:=H
  replace H:(some ck)=some r:=H
  have k3:=Aside0.mk hN
  clear hN
  obtain rfl:=Option.some.inj H
  go_enter Tryz.func3,Tryz.ntmps3
  go_wp2_with (first|((with_reducible refine aA (N:=3) rfl ?_);refine zX 3 #[.int .i64 j,.slice bk o.length bn] 24 ?_;intro er hg nu ew hb;have R:=Aside0.mk (ew);have hT:=zG HB hg;have hV:=zG HB hg;replace HB:=zS HB hb;clear hb ew hg;obtain⟨nv,nw,nx,n0⟩:=ao R)|((with_reducible refine au (f:=12) rfl ?_);refine zL (some 25) Tryz.func12 #[.agg #[.int .i64 j,.slice bk o.length bn],.slice A1 l1.length c1,.int .i64 5] ?_;(with_reducible refine(jw.calls k j _ _ o _ _ l1 5 false _ ?an ?ar ?aF ?aL A4.out).mono ?_);(case an=>exact Kd.aj ch.out zB);(case ar=>exact cj.out);(case aF=>exact Kd.aj cq.out zB);(case aL=>exact cr.out);rintro e n1 ⟨rfl,hb⟩;refine⟨_,rfl,?_⟩;replace R:=zb R hb;replace HB:=zS HB hb;(try clear hb))|((with_reducible refine au (f:=13) rfl ?_);refine zL (some 27) Tryz.func13 #[] ?_;(with_reducible refine(gP.calls k  ck _ k3.out).mono ?_);rintro e n2 ⟨rfl,hb⟩;refine⟨_,rfl,?_⟩;replace R:=zb R hb;replace HB:=zS HB hb;(try clear hb)))
  go_ret
  exact⟨zE,zB⟩
end Go.Proofs.YtffdiakgjakngaaGreat.P

