/- RiemannrochHolds answers true whatever the input (text 5 of 20): own walks and plain laws; no conditions. -/
import Derived.BigQuiet
import Derived.Deep.AppendLies
import Derived.Deep.QuietTactic
import Derived.Deep.RegionHeld3
import Derived.Lib.Hide
import Derived.Outline
import Derived.WalkSpells
import Derived.Test.YtffdiakgjakngaaGreatHolds4
namespace Go.Proofs.YtffdiakgjakngaaGreat.P
open Go.RowKit Go.Proofs.YtffdiakgjakngaaGreatW.PrintWords Go.Proofs.YtffdiakgjakngaaGreatW.PrintLast Go.Proofs.YtffdiakgjakngaaGreatW.PrintMore
set_option linter.unusedVariables false
set_option linter.unusedSimpArgs false
set_option maxHeartbeats 8000000
set_option maxRecDepth 100000
mutual
def cu.l0:Nat->Int->List Bool->Int->Int->List (S83)->Option (Int)
 |0,_,_,_,_,_=>none
 |k+1,x3,x4,a,b,e=>if a<b then(if 0<=a then(if a<(x4.length:Int) then(if bH false x4 a=true then(cu.l0 k x3 x4 (wrap64 (a+1)) b e) else((bO.f k b e a).bind fun t139=>(cu.l1 k (wrap64 (x3+1)) x4 a t139 0 b e))) else(none)) else(none)) else(some x3)
def cu.l1:Nat->Int->List Bool->Int->List Bool->Int->Int->List (S83)->Option (Int)
 |0,_,_,_,_,_,_,_=>none
 |k+1,x3,x4,g,b,a,e,h=>if a<e then(if 0<=a then(if a<(x4.length:Int) then(if bH false x4 a=true then(cu.l1 k x3 (x4.set (a:Int).toNat true) g b (wrap64 (a+1)) e h) else(if a<(b.length:Int) then(cu.l1 k x3 (x4.set (a:Int).toNat (bH false b a)) g b (wrap64 (a+1)) e h) else(none))) else(none)) else(none)) else(cu.l0 k x3 x4 (wrap64 (g+1)) e h)
end
def cu.f (k:Nat) (a:Int) (b:List (S83)):Option (Int):=if 0<=a then(if(a:Int).toNat<=281474976710656 then(cu.l0 k 0 (List.replicate (a:Int).toNat false) 0 a b) else(none)) else(none)
theorem cu.calls (k:Nat) (j:Int) (S:Option Addr) (T:Nat) (l:List (S83)) (r:Int) (w:World) (b':Kd.C aK w S l.length l) (ca:l.length<=T) (h:cu.f k j l=some r):
  Calls Tryz.prog 74 #[.agg #[.int .i64 j,.slice S l.length T]] w fun e w'=>e= .returned (.int .i64 r)∧Below w.heap.size w w':=by
 have fb:=Tryz.underlying24;have dd:=Aside0.mk b';have dk:=Aside0.mk ca;clear b' ca;have s:=Aside0.mk (Below.refl w.heap.size w);unfold cu.f at h;have H:=h;clear h;by_cases c2:0<=j
 ·rw[if_pos c2] at H
  have cb:=eq_true c2;have cc:=decide_eq_true c2;clear c2;by_cases c3:(j:Int).toNat<=281474976710656
  ·rw[if_pos c3] at H
   have cd:=eq_true c3;have ce:=decide_eq_true c3;clear c3;obtain⟨cf,X⟩:∃Y:List Bool,Y=(List.replicate (j:Int).toNat false):=⟨_,rfl⟩;replace H:(cu.l0 k 0 cf 0 j l)=some r:=by first|(rw[X];with_reducible exact H)|(have z:=(Option.bind_some _ _).symm.trans H;rw[X];with_reducible exact z)|(have z:=(Option.bind_some _ _).symm.trans H;with_reducible exact z)|with_reducible exact H|(rw[X];exact H)|exact H
   have ch:=Aside0.mk X;clear X;have u:=Aside0.mk H;clear H;go_enter Tryz.func74,Tryz.ntmps74
   go_wp2_with (first|((with_reducible refine aH (N:=1) rfl ?_);refine zX 1 #[.int .i64 j,.slice S l.length T] 24 ?_;intro ci o w4 cj hb;have g:=Aside0.mk (cj);have fn:=zG s o;have fo:=zG s o;replace s:=zS s hb;clear hb cj o;obtain⟨ck,cl,co,cq⟩:=au g)|((with_reducible refine aH (N:=10) rfl ?_);refine Kd.jx Kd.bool _ 4 rfl (N:=10) rfl 43 _ _ rfl j rfl rfl Tryz.underlying43 (.bool false) 1 l4 rfl (by decide) (by omega) false (ok:=fun _=>True) (okp:=fun _=>True) rfl (fun _ hk=>hk) trivial (of_decide_eq_true ‹_›) (Nat.le_trans (Nat.mul_le_mul_right _ (of_decide_eq_true ‹_› :j.toNat<=281474976710656)) (by omega)) (Below.refl _ _) (Nat.le_refl _) ?_;intro dl w6 Z hb ds dv;clear ds dv;(first|rw[<-ch.out] at Z|(simp only[Int.reduceToNat] at Z;rw[<-ch.out] at Z));have d0:=Aside0.mk (Kd.aW Z (a_ zB));replace g:=zb g hb;replace s:=zS s hb;clear hb Z))
   go_loopg [3,5] k (fun kq v3 v5 w'=>∃(y:Int) (x:List Bool) (i:Int),v3= .int .i64 y∧v5= .int .i64 i∧Aside0 (cu.l0 kq y x i j l=some r)∧Aside0 (kq<=k)∧Aside0 (Kd.R Kd.bool 4 w' w.heap.size (fun _=>True) dl x)∧Aside0 (w'.heap[ci]? =some (.cells #[.int .i64 j,(.slice S l.length T)] 24 (0,0)))∧Aside0 (Below w.heap.size w w'))
   case atStart=>exact⟨(0),(cf),(0),zT,zT,u,⟨Nat.le_refl _⟩,⟨zR d0⟩,⟨zK g⟩,⟨zB⟩⟩
   case round=>
    clear u;try clear c2
    try clear cb
    try clear cc
    try clear p2
    try clear c3
    try clear cd
    try clear ce
    try clear c7
    try clear ck
    try clear cl
    try clear co
    try clear cq
    obtain⟨y,x,i,rfl,rfl,I,D,b,g,s⟩:=hrel;cases gk with
    |zero=>exact absurd I.out (by simp[cu.l0])
    |succ J=>
     have H:=I.out;clear I;simp only[cu.l0] at H;by_cases K:i<j
     ·rw[if_pos K] at H
      have cs:=decide_eq_true K;clear K;by_cases c9:0<=i
      ·rw[if_pos c9] at H
       have d2:=decide_eq_true c9;clear c9;by_cases ad:i<(x.length:Int)
       ·rw[if_pos ad] at H
        have d3:=decide_eq_true ad;clear ad;obtain⟨cv,aS⟩:∃b_:Bool,b_=(bH false x i):=⟨_,rfl⟩;replace H:(if cv=true then(cu.l0 J y x (wrap64 (i+1)) j l) else((bO.f J j l i).bind fun t139=>(cu.l1 J (wrap64 (y+1)) x i t139 0 j l)))=some r:=by rw[<-aS] at H;exact H
        have ag:=Aside0.mk aS;clear aS;by_cases ak:cv=true
        ·subst ak
         replace H:=zi H;have u:=Aside0.mk H;clear H;obtain⟨d4,d5,d6,d7⟩:=au g;obtain⟨fr,ft,d8⟩:=Kd.aZ b.out;subst d8;have E:0<=(i:Int):=of_decide_eq_true ‹_›;have F:i<(x.length:Int):=of_decide_eq_true ‹_›;obtain⟨d9,a1,U⟩:=Kd.jw (Kd.aA b.out).2.2 i E F
         (try rw[<-ag.out] at U)
         cases a1;replace E:=eq_true E;replace F:=eq_true F;go_wp2;go_roundg J
         case measure=>have:=D.out;omega
         case rel=>exact⟨(y),(x),(wrap64 (i+1)),zT,zT,u,⟨by have:=D.out;omega⟩,⟨zR b⟩,⟨zK g⟩,⟨zB⟩⟩
        ·replace ak:=Bool.eq_false_iff.mpr ak
         subst ak;replace H:=zj H;obtain⟨t139,ea,H⟩:=zo H;have u:=Aside0.mk H;clear H;obtain⟨eb,ed,eg,ek⟩:=au g;obtain⟨fv,G,el⟩:=Kd.aZ b.out;subst el;have E:0<=(i:Int):=of_decide_eq_true ‹_›;have F:i<(x.length:Int):=of_decide_eq_true ‹_›;obtain⟨d9,a1,U⟩:=Kd.jw (Kd.aA b.out).2.2 i E F
         (try rw[<-ag.out] at U)
         cases a1;obtain⟨aB,em⟩:=Kd.kI b.out;subst em;simp only[add_plain] at U;replace E:=eq_true E;replace F:=eq_true F;go_wp2_with (first|((with_reducible refine ax (f:=131) rfl ?_);refine zL (some 25) Tryz.func131 #[.agg #[.int .i64 j,.slice S l.length T],.int .i64 i] ?_;(with_reducible refine(bO.calls J j _ _ l i t139 _ ?af ?ah ea.out).mono ?_);(case af=>exact Kd.al dd.out zB);(case ah=>exact dk.out);rintro e f0 ⟨a2,rfl,a3,hb⟩;refine⟨_,rfl,?_⟩;have er:=Aside0.mk (Kd.aW (Kd.bz a3 (Kd.aX (zR b))) (a_ zB));replace b:=bB b a3 hb;replace g:=zb g hb;replace s:=zS s hb;(try clear hb);(try clear a3)))
         go_loopg [7] J (fun kq v7 w'=>∃(m:List Bool) (a:Int),v7= .int .i64 a∧Aside0 (cu.l1 kq (wrap64 (y+1)) m i t139 a j l=some r)∧Aside0 (kq<=J)∧Aside0 (Kd.R Kd.bool 4 w' w.heap.size (fun L=>some L≠(a2:Value).ownBlock) (.slice (some ⟨aB,0,none⟩) x.length G) m)∧Aside0 (Kd.R Kd.bool 4 w' w.heap.size (fun L=>some L≠((.slice (some ⟨aB,0,none⟩) x.length G):Value).ownBlock) a2 t139)∧Aside0 (w'.heap[ci]? =some (.cells #[.int .i64 j,(.slice S l.length T)] 24 (0,0)))∧Aside0 (Below w.heap.size w w'))
         case atStart=>exact⟨(x),(0),zT,u,⟨Nat.le_refl _⟩,⟨by(with_reducible repeat(first|apply Kd.aI|apply Kd.ba|apply Kd.a8));exact Kd.aV b.out (fun _ hk=>hk.2)⟩,⟨by(with_reducible repeat(first|apply Kd.aI|apply Kd.ba|apply Kd.a8));exact Kd.aV er.out (fun _ hk=>hk.2)⟩,⟨zK g⟩,⟨zB⟩⟩
         case round=>
          clear u;try clear c1
          try clear p1
          try clear q1
          try clear f3
          try clear c2
          try clear cb
          try clear cc
          try clear p2
          try clear c3
          try clear cd
          try clear ce
          try clear p6
          try clear c7
          try clear K
          try clear cs
          try clear c9
          try clear d2
          try clear ad
          try clear d3
          try clear f5
          try clear ak
          try clear f6
          try clear f7
          try clear f8
          try clear f9
          try clear d4
          try clear d5
          try clear eb
          try clear ed
          try clear ck
          try clear cl
          try clear d6
          try clear d7
          try clear eg
          try clear ek
          try clear co
          try clear cq
          try clear U
          try clear E
          try clear p2
          try clear F
          obtain⟨m,a,rfl,I,V,b,B,g,s⟩:=hrel;have q:=(Kd.aA b.out).1;rw[q] at b
          (try simp only[q])
          (try simp only[q] at g)
          (try simp only[q] at B)
          cases gk with
          |zero=>exact absurd I.out (by simp[cu.l1])
          |succ M=>
           have H:=I.out;clear I;simp only[cu.l1] at H;by_cases W:a<j
           ·rw[if_pos W] at H
            have ev:=decide_eq_true W;clear W;by_cases aF:0<=a
            ·rw[if_pos aF] at H
             have f':=decide_eq_true aF;clear aF;by_cases aL:a<(m.length:Int)
             ·rw[if_pos aL] at H
              have gb:=decide_eq_true aL;clear aL;obtain⟨cx,a4⟩:∃b_:Bool,b_=(bH false m a):=⟨_,rfl⟩;replace H:(if cx=true then(cu.l1 M (wrap64 (y+1)) (m.set (a:Int).toNat true) i t139 (wrap64 (a+1)) j l) else(if a<(t139.length:Int) then(cu.l1 M (wrap64 (y+1)) (m.set (a:Int).toNat (bH false t139 a)) i t139 (wrap64 (a+1)) j l) else(none)))=some r:=by rw[<-a4] at H;exact H
              have a5:=Aside0.mk a4;clear a4;by_cases aO:cx=true
              ·subst aO
               replace H:=zi H;obtain⟨a9,am⟩:∃Y:List Bool,Y=(m.set (a:Int).toNat true):=⟨_,rfl⟩;replace H:(cu.l1 M (wrap64 (y+1)) a9 i t139 (wrap64 (a+1)) j l)=some r:=by first|(rw[am];with_reducible exact H)|(have z:=(Option.bind_some _ _).symm.trans H;rw[am];with_reducible exact z)|(have z:=(Option.bind_some _ _).symm.trans H;with_reducible exact z)|with_reducible exact H|(rw[am];exact H)|exact H
               have ew:=Aside0.mk am;clear am;have u:=Aside0.mk H;clear H;obtain⟨gc,gd,ge,gf⟩:=au g;have O:0<=(a:Int):=of_decide_eq_true ‹_›;have P:a<(m.length:Int):=of_decide_eq_true ‹_›;obtain⟨be,bf,Q⟩:=Kd.jw (Kd.aA b.out).2.2 a O P
               (try rw[<-ag.out] at Q)
               (try rw[<-a5.out] at Q)
               obtain rfl:(⟨aB,0,none⟩:Addr)=be:=(by injection bf);replace O:=eq_true O;replace P:=eq_true P;have bg:0<=(a:Int):=of_decide_eq_true ‹_›;have bi:(a:Int)<((m.length:Int):Int):=of_decide_eq_true ‹_›;obtain⟨an,gg,ex,c0,ey,gi,c4⟩:=Kd.fg b.out (by omega)
               (first|(injection ex with n bk bn;(first|subst n|(injection n with n;first|subst n|(injection n with n;have n:=n.symm;subst n)));subst bn;clear bk))
               have e0:=Aside0.mk c0;have gl:=Aside0.mk c4;clear c0 ey c4
               (first|simp only[add_plain] at U|skip)
               (first|simp only[add_plain] at Q|skip)
               obtain⟨gm,gn⟩:=Kd.bJ false b.out (a:Int) bg bi;replace bg:=eq_true bg;replace bi:=eq_true bi;have bo:=Kd.cZ b.out (a:Int) true;go_wp2_with (first|((with_reducible refine jz (t:=4) (p:=44) rfl ?_);refine jy (t:=4) (p:=44) (v:=?FA) (w1:=(wr.setCell ⟨an,(a:Int).toNat,none⟩ (.bool true))) ?o ?ho ?hn ?hr ?_;(case ho=>rfl);(case o=>rfl);(case hn=>rfl);(case hr=>first|(go_simp;done)|(go_simp;rfl));intro bx hw;have o:wr.grownBy bx (some an):=(by rw[hw];exact bo.2);have ap:Kd.R Kd.bool 4 bx w.heap.size (fun L=>some L≠(a2:Value).ownBlock) (.slice (some ⟨an,0,none⟩) m.length G) a9:=(by rw[hw,ew.out];exact bo.1);clear bo;replace B:=Aside0.mk (Kd.q_ (v:=(.slice (some ⟨an,0,none⟩) m.length G)) (v1:=(.slice (some ⟨an,0,none⟩) m.length G)) (ok:=(fun _=>True)) (by(with_reducible repeat(first|apply Kd.aI|apply Kd.ba|apply Kd.a8));exact Kd.aV B.out (fun _ hk=>⟨trivial,hk⟩)) o (.inl rfl));replace g:=Aside0.mk (cI (zK g) o (Kd.dh b.out g.out (by decide)));replace b:=Aside0.mk (ap);replace s:=Aside0.mk ((by rw[hw];exact ec (s.out) e0.out:Below w.heap.size w bx));clear o hw ap))
               (try simp only[<-q])
               go_roundg M
               case measure=>have:=D.out;have:=V.out;omega
               case rel=>exact⟨(a9),(wrap64 (a+1)),zT,u,⟨by have:=D.out;have:=V.out;omega⟩,⟨by(try simp only[q]);(with_reducible repeat(first|apply Kd.aI|apply Kd.ba|apply Kd.a8));exact b.out⟩,⟨by(try simp only[q]);(with_reducible repeat(first|apply Kd.aI|apply Kd.ba|apply Kd.a8));exact Kd.aV B.out (fun _ hk=>hk.2)⟩,⟨by(try simp only[q]);exact zK g⟩,⟨zB⟩⟩
              ·replace aO:=Bool.eq_false_iff.mpr aO
               subst aO;replace H:=zj H;by_cases aP:a<(t139.length:Int)
               ·rw[if_pos aP] at H
                have go:=decide_eq_true aP;clear aP;obtain⟨b0,ar⟩:∃Y:List Bool,Y=(m.set (a:Int).toNat (bH false t139 a)):=⟨_,rfl⟩;replace H:(cu.l1 M (wrap64 (y+1)) b0 i t139 (wrap64 (a+1)) j l)=some r:=by first|(rw[ar];with_reducible exact H)|(have z:=(Option.bind_some _ _).symm.trans H;rw[ar];with_reducible exact z)|(have z:=(Option.bind_some _ _).symm.trans H;with_reducible exact z)|with_reducible exact H|(rw[ar];exact H)|exact H
                have e1:=Aside0.mk ar;clear ar;have u:=Aside0.mk H;clear H;obtain⟨gp,gq,gr,gs⟩:=au g;have O:0<=(a:Int):=of_decide_eq_true ‹_›;have P:a<(m.length:Int):=of_decide_eq_true ‹_›;obtain⟨be,bf,Q⟩:=Kd.jw (Kd.aA b.out).2.2 a O P
                (try rw[<-ag.out] at Q)
                (try rw[<-a5.out] at Q)
                obtain rfl:(⟨aB,0,none⟩:Addr)=be:=(by injection bf);replace O:=eq_true O;replace P:=eq_true P;obtain⟨gt,e2,e3⟩:=Kd.aZ B.out;subst e3;have b1:0<=(a:Int):=of_decide_eq_true ‹_›;have b2:a<(t139.length:Int):=of_decide_eq_true ‹_›;obtain⟨e4,e5,c5⟩:=Kd.jw (Kd.aA B.out).2.2 a b1 b2
                (try rw[<-ag.out] at c5)
                (try rw[<-a5.out] at c5)
                cases e5;replace b1:=eq_true b1;replace b2:=eq_true b2;have b3:0<=(a:Int):=of_decide_eq_true ‹_›;have b4:(a:Int)<((m.length:Int):Int):=of_decide_eq_true ‹_›;obtain⟨av,gx,e6,c6,e_,g0,c'⟩:=Kd.fg b.out (by omega)
                (first|(injection e6 with n bk bn;(first|subst n|(injection n with n;first|subst n|(injection n with n;have n:=n.symm;subst n)));subst bn;clear bk))
                have e':=Aside0.mk c6;have g1:=Aside0.mk c';clear c6 e_ c'
                (first|simp only[add_plain] at Q|skip)
                obtain⟨g2,g3⟩:=Kd.bJ false b.out (a:Int) b3 b4;replace b3:=eq_true b3;replace b4:=eq_true b4;have b5:=Kd.cZ b.out (a:Int) (bH false t139 a);go_wp2_with (first|((with_reducible refine jz (t:=4) (p:=44) rfl ?_);refine jy (t:=4) (p:=44) (v:=?Gn) (w1:=(wr.setCell ⟨av,(a:Int).toNat,none⟩ (.bool (bH false t139 a)))) ?o ?ho ?hn ?hr ?_;(case ho=>rfl);(case o=>rfl);(case hn=>rfl);(case hr=>first|(go_simp;done)|(go_simp;rfl));intro b6 hw;have o:wr.grownBy b6 (some av):=(by rw[hw];exact b5.2);have ap:Kd.R Kd.bool 4 b6 w.heap.size (fun L=>some L≠(.slice (some e4) t139.length e2:Value).ownBlock) (.slice (some ⟨av,0,none⟩) m.length G) b0:=(by rw[hw,e1.out];exact b5.1);clear b5;replace B:=Aside0.mk (Kd.q_ (v:=(.slice (some ⟨av,0,none⟩) m.length G)) (v1:=(.slice (some ⟨av,0,none⟩) m.length G)) (ok:=(fun _=>True)) (by(with_reducible repeat(first|apply Kd.aI|apply Kd.ba|apply Kd.a8));exact Kd.aV B.out (fun _ hk=>⟨trivial,hk⟩)) o (.inl rfl));replace g:=Aside0.mk (cI (zK g) o (Kd.dh b.out g.out (by decide)));replace b:=Aside0.mk (ap);replace s:=Aside0.mk ((by rw[hw];exact ec (s.out) e'.out:Below w.heap.size w b6));clear o hw ap))
                (try simp only[<-q])
                go_roundg M
                case measure=>have:=D.out;have:=V.out;omega
                case rel=>exact⟨(b0),(wrap64 (a+1)),zT,u,⟨by have:=D.out;have:=V.out;omega⟩,⟨by(try simp only[q]);(with_reducible repeat(first|apply Kd.aI|apply Kd.ba|apply Kd.a8));exact b.out⟩,⟨by(try simp only[q]);(with_reducible repeat(first|apply Kd.aI|apply Kd.ba|apply Kd.a8));exact Kd.aV B.out (fun _ hk=>hk.2)⟩,⟨by(try simp only[q]);exact zK g⟩,⟨zB⟩⟩
               ·rw[if_neg aP] at H
                exact absurd H (by simp)
             ·rw[if_neg aL] at H
              exact absurd H (by simp)
            ·rw[if_neg aF] at H
             exact absurd H (by simp)
           ·rw[if_neg W] at H
            have ev:=decide_eq_false W;clear W;have u:=Aside0.mk H;clear H;obtain⟨g4,g5,g6,g7⟩:=au g;go_wp2
            (try simp only[<-q])
            go_roundg M
            case measure=>have:=D.out;have:=V.out;omega
            case rel=>exact⟨((wrap64 (y+1))),(m),(wrap64 (i+1)),zT,zT,u,⟨by have:=D.out;have:=V.out;omega⟩,⟨by(try simp only[q]);(with_reducible repeat(first|apply Kd.aI|apply Kd.ba|apply Kd.a8));exact Kd.aV b.out (fun _ hk=>trivial)⟩,⟨by(try simp only[q]);exact zK g⟩,⟨zB⟩⟩
       ·rw[if_neg ad] at H
        exact absurd H (by simp)
      ·rw[if_neg c9] at H
       exact absurd H (by simp)
     ·rw[if_neg K] at H
      have cs:=decide_eq_false K;clear K;obtain rfl:=Option.some.inj H;obtain⟨g8,g9,g',ha⟩:=au g;go_wp2;go_ret;exact⟨zE,zB⟩
  ·rw[if_neg c3] at H
   exact absurd H (by simp)
 ·rw[if_neg c2] at H
  exact absurd H (by simp)
def kY.f (k:Nat) (a:Int) (b:List (S83)):Option (Bool):=(cu.f k a b).bind fun t147=>(some (t147==1))
theorem kY.calls (k:Nat) (b:Int) (i:Option Addr) (j:Nat) (a:List (S83)) (r:Bool) (w:World) (n:Kd.C aK w i a.length a) (o:a.length<=j) (h:kY.f k b a=some r):
  Calls Tryz.prog 104 #[.agg #[.int .i64 b,.slice i a.length j]] w fun e w'=>e= .returned (.bool r)∧Below w.heap.size w w':=by
 have v:=Tryz.underlying24;have q:=Aside0.mk n;have s:=Aside0.mk o;clear n o;have g:=Aside0.mk (Below.refl w.heap.size w);have H:((cu.f k b a).bind fun t147=>(some (t147==1)))=some r:=h;clear h;obtain⟨t147,u,H⟩:=zo H;obtain rfl:=Option.some.inj H;go_enter Tryz.func104,Tryz.ntmps104
 go_wp2_with (first|((with_reducible refine aH (N:=1) rfl ?_);refine zX 1 #[.int .i64 b,.slice i a.length j] 24 ?_;intro x l w3 p hb;have m:=Aside0.mk (p);have y:=zG g l;have z:=zG g l;replace g:=zS g hb;clear hb p l;obtain⟨B,D,E,F⟩:=au m)|((with_reducible refine ax (f:=74) rfl ?_);refine zL (some 4) Tryz.func74 #[.agg #[.int .i64 b,.slice i a.length j]] ?_;(with_reducible refine(cu.calls k b _ _ a t147 _ ?af ?ah u.out).mono ?_);(case af=>exact Kd.al q.out zB);(case ah=>exact s.out);rintro e G ⟨rfl,hb⟩;refine⟨_,rfl,?_⟩;replace m:=zb m hb;replace g:=zS g hb;(try clear hb)))
 go_ret;exact⟨zE,zB⟩
def a7 (o:List Bool) (i:Nat):Bool:=o.getD i false
theorem pF (o:List Bool) (i:Nat):bH false o (i:Int)=a7 o i:=by simp[bH,a7]
theorem kZ (o:List Bool) (i j:Nat) (b:Bool):a7 (o.set i b) j=if i=j∧j<o.length then b else a7 o j:=by
 unfold a7;rw[List.getD_eq_getElem?_getD,List.getD_eq_getElem?_getD,List.getElem?_set];by_cases h:i=j
 ·subst h
  by_cases a:i<o.length
  ·simp[a]
  ·simp[a]
 ·simp[h]
def fH (E:List S83) (a:Nat) (o:List Bool) (b:Nat):List Bool:=if a7 o a=true∧dj E a b>0 then o.set b true else o
def ja (E:List S83) (n:Nat) (o:List Bool) (a:Nat):List Bool:=(List.range' 0 n).foldl (fH E a) o
def jb (E:List S83) (n:Nat) (o:List Bool):List Bool:=(List.range' 0 n).foldl (ja E n) o
def ia (E:List S83) (n:Nat):Nat->List Bool->List Bool
 |0,o=>o
 |m+1,o=>ia E n m (jb E n o)
def e8 (E:List S83) (n v:Nat):List Bool:=ia E n n ((List.replicate n false).set v true)
theorem pG (E:List S83) (a b:Nat) (o:List Bool):(fH E a o b).length=o.length:=by unfold fH;split<;>simp
theorem lf {f:List Bool->Nat->List Bool} (h:∀o b,(f o b).length=o.length):∀(l:List Nat) (o:List Bool),(l.foldl f o).length=o.length
 |[],_=>rfl
 |x::l,o=>by rw[List.foldl_cons,lf h l,h]
theorem pH (E:List S83) (n a:Nat) (o:List Bool):(ja E n o a).length=o.length:=lf (fun o b=>pG E a b o) _ _
theorem pI (E:List S83) (n:Nat) (o:List Bool):(jb E n o).length=o.length:=lf (fun o a=>pH E n a o) _ _
theorem s6 (E:List S83) (n:Nat):∀m o,(ia E n m o).length=o.length
 |0,_=>rfl
 |m+1,o=>by rw[ia,s6 E n m,pI]
theorem s7 (E:List S83) (i:E.length<=1000) (n a g:Nat) (hn:n<=1000) (p:a<n) (r:List Bool):∀(m j:Nat) (o:List Bool),j+m=n->o.length=n->Ev (fun k=>bO.l1 k ((List.range' j m).foldl (fH E a) o) g ((a+1:Nat):Int) n E) r->Ev (fun k=>bO.l2 k o g a j n E) r
 |0,j,o,q,l,h=>by
  refine Ev.of_succ ?_;simp only[bO.l2,if_neg (show ¬((j:Int)<(n:Int)) by omega),dU (show a<=1000000 by omega)];exact h
 |m+1,j,o,q,l,h=>by
  rw[List.range'_succ,List.foldl_cons] at h;have b:=s7 E i n a g hn p r m (j+1) (fH E a o j) (by omega) (by rw[pG];exact l) h;refine Ev.of_succ ?_;simp only[bO.l2,if_pos (show (j:Int)<(n:Int) by omega),if_pos (show (0:Int)<=(a:Int) by omega),if_pos (show (a:Int)<(o.length:Int) by omega),if_pos (show (0:Int)<=(j:Int) by omega),if_pos (show (j:Int)<(o.length:Int) by omega),dU (show j<=1000000 by omega),pF,Int.toNat_natCast];unfold fH at b;by_cases h1:a7 o a=true
  ·simp only[if_pos h1]
   refine Ev.bind (sQ n E a j i) ?_;by_cases e:dj E a j>0
   ·simp only[if_pos e];rw[if_pos ⟨h1,e⟩] at b;exact b
   ·simp only[if_neg e];rw[if_neg (fun h=>e h.2)] at b;exact b
  ·simp only[if_neg h1];rw[if_neg (fun h=>h1 h.1)] at b;exact b
theorem s8 (E:List S83) (g:E.length<=1000) (n b:Nat) (hn:n<=1000) (i:b<=1000) (r:List Bool):∀(m a:Nat) (o:List Bool),a+m=n->o.length=n->Ev (fun k=>bO.l0 k ((List.range' a m).foldl (ja E n) o) ((b+1:Nat):Int) n E) r->Ev (fun k=>bO.l1 k o b a n E) r
 |0,a,o,j,e,h=>by
  refine Ev.of_succ ?_;simp only[bO.l1,if_neg (show ¬((a:Int)<(n:Int)) by omega),dU (show b<=1000000 by omega)];exact h
 |m+1,a,o,j,e,h=>by
  rw[List.range'_succ,List.foldl_cons] at h;have l:=s8 E g n b hn i r m (a+1) (ja E n o a) (by omega) (by rw[pH];exact e) h;refine Ev.of_succ ?_;simp only[bO.l1,if_pos (show (a:Int)<(n:Int) by omega)];exact s7 E g n a b hn (by omega) r n 0 o (by omega) e l
theorem s9 (E:List S83) (b:E.length<=1000) (n:Nat) (hn:n<=1000):∀(m i:Nat) (o:List Bool),i+m=n->o.length=n->Ev (fun k=>bO.l0 k o i n E) (ia E n m o)
 |0,i,o,hi,a=>by
  refine Ev.of_succ ?_;simp only[bO.l0,if_neg (show ¬((i:Int)<(n:Int)) by omega)];exact Ev.const _
 |m+1,i,o,hi,a=>by
  have e:=s9 E b n hn m (i+1) (jb E n o) (by omega) (by rw[pI];exact a);refine Ev.of_succ ?_;simp only[bO.l0,if_pos (show (i:Int)<(n:Int) by omega)];exact s8 E b n i hn (by omega) _ n 0 o (by omega) a e
theorem zO (E:List S83) (a:E.length<=1000) (n v:Nat) (hn:n<=1000) (b:v<n):Ev (fun k=>bO.f k n E v) (e8 E n v):=by
 unfold bO.f;simp only[if_pos (show (0:Int)<=(n:Int) by omega),Int.toNat_natCast,if_pos (show n<=281474976710656 by omega),Option.bind_some,if_pos (show (0:Int)<=(v:Int) by omega),List.length_replicate,if_pos (show (v:Int)<(n:Int) by omega)];exact s9 E a n hn n 0 _ (by omega) (by simp)
def jc (s r:List Bool):List Bool:=(List.range' 0 s.length).foldl (fun s u=>s.set u (a7 s u||a7 r u)) s
def gj (E:List S83) (n:Nat):Nat->Nat->Nat->List Bool->Nat
 |0,_,c,_=>c
 |m+1,v,c,s=>if a7 s v=true then gj E n m (v+1) c s else gj E n m (v+1) (c+1) (jc s (e8 E n v))
theorem zP (r:List Bool) (o:List Bool) (u:Nat):(o.set u (a7 o u||a7 r u)).length=o.length:=by simp
theorem s_ (E:List S83) (n:Nat) (hn:n<=1000) (c v:Nat) (e:v<=1000) (q:List Bool) (g:q.length=n) (r:Int):∀(m j:Nat) (s:List Bool),j+m=n->s.length=n->Ev (fun k=>cu.l0 k c ((List.range' j m).foldl (fun s u=>s.set u (a7 s u||a7 q u)) s) ((v+1:Nat):Int) n E) r->Ev (fun k=>cu.l1 k c s v q j n E) r
 |0,j,s,i,b,h=>by
  refine Ev.of_succ ?_;simp only[cu.l1,if_neg (show ¬((j:Int)<(n:Int)) by omega),dU (show v<=1000000 by omega)];exact h
 |m+1,j,s,i,b,h=>by
  rw[List.range'_succ,List.foldl_cons] at h;have a:=s_ E n hn c v e q g r m (j+1) _ (by omega) (by rw[List.length_set];exact b) h;refine Ev.of_succ ?_;simp only[cu.l1,if_pos (show (j:Int)<(n:Int) by omega),if_pos (show (0:Int)<=(j:Int) by omega),if_pos (show (j:Int)<(s.length:Int) by omega),if_pos (show (j:Int)<(q.length:Int) by omega),dU (show j<=1000000 by omega),pF,Int.toNat_natCast];by_cases h1:a7 s j=true
  ·simp only[if_pos h1];rw[h1,Bool.true_or] at a;exact a
  ·simp only[if_neg h1];rw[Bool.eq_false_iff.2 h1,Bool.false_or] at a;exact a
theorem pJ (E:List S83) (e:E.length<=1000) (n:Nat) (hn:n<=1000):∀(m v c:Nat) (s:List Bool),v+m=n->c<=v->s.length=n->Ev (fun k=>cu.l0 k c s v n E) ((gj E n m v c s:Nat):Int)
 |0,v,c,s,g,h,a=>by
  refine Ev.of_succ ?_;simp only[cu.l0,if_neg (show ¬((v:Int)<(n:Int)) by omega)];exact Ev.const _
 |m+1,v,c,s,g,h,a=>by
  refine Ev.of_succ ?_;simp only[cu.l0,if_pos (show (v:Int)<(n:Int) by omega),if_pos (show (0:Int)<=(v:Int) by omega),if_pos (show (v:Int)<(s.length:Int) by omega),dU (show v<=1000000 by omega),pF,gj];by_cases h1:a7 s v=true
  ·simp only[if_pos h1]
   exact pJ E e n hn m (v+1) c s (by omega) (by omega) a
  ·simp only[if_neg h1]
   refine Ev.bind (zO E e n v hn (by omega)) ?_;have i:(e8 E n v).length=n:=by unfold e8;rw[s6];simp
   have j:=pJ E e n hn m (v+1) (c+1) (jc s (e8 E n v)) (by omega) (by omega) (by unfold jc;rw[lf (fun o b=>zP _ o b)];exact a);rw[dU (show c<=1000000 by omega)];refine s_ E n hn (c+1) v (by omega) _ i _ n 0 s (by omega) a ?_;rw[show (List.range' 0 n).foldl (fun s u=>s.set u (a7 s u||a7 (e8 E n v) u)) s=jc s (e8 E n v) from by unfold jc;rw[a]];exact j
def partsOf (E:List S83) (n:Nat):Nat:=gj E n n 0 0 (List.replicate n false)
theorem zQ (E:List S83) (a:E.length<=1000) (n:Nat) (hn:n<=1000):Ev (fun k=>cu.f k n E) ((partsOf E n:Nat):Int):=by
 unfold cu.f;simp only[if_pos (show (0:Int)<=(n:Int) by omega),Int.toNat_natCast,if_pos (show n<=281474976710656 by omega)];exact pJ E a n hn n 0 0 _ (by omega) (by omega) (by simp)
theorem pK {E:List S83} {a b:Nat} {o:List Bool} {i:Nat} (h:a7 o i=true):a7 (fH E a o b) i=true:=by
 unfold fH;split
 ·rw[kZ];split<;>simp_all
 ·exact h
theorem kb {f:List Bool->Nat->List Bool} (hf:∀o b i,a7 o i=true->a7 (f o b) i=true):∀(l:List Nat) (o:List Bool) (i:Nat),a7 o i=true->a7 (l.foldl f o) i=true
 |[],_,_,h=>h
 |x::l,o,i,h=>by rw[List.foldl_cons];exact kb hf l _ i (hf _ _ _ h)
theorem pL {E:List S83} {n a:Nat} {o:List Bool} {i:Nat} (h:a7 o i=true):a7 (ja E n o a) i=true:=kb (fun o b i h=>pK h) _ _ _ h
theorem ta {E:List S83} {n:Nat} {o:List Bool} {i:Nat} (h:a7 o i=true):a7 (jb E n o) i=true:=kb (fun o b i h=>pL h) _ _ _ h
theorem tb {E:List S83} {n:Nat}:∀{m:Nat} {o:List Bool} {i:Nat},a7 o i=true->a7 (ia E n m o) i=true
 |0,_,_,h=>h
 |m+1,o,i,h=>tb (m:=m) (ta h)
def ic (E:List S83) (n:Nat) (S:Nat->Bool):Prop:=∀a b:Nat,a<n->b<n->S a=true->dj E a b>0->S b=true
theorem me {P:List Bool->Prop} {f:List Bool->Nat->List Bool} {n:Nat} (hf:∀o b,b<n->P o->P (f o b)):∀(m j:Nat) (o:List Bool),j+m<=n->P o->P ((List.range' j m).foldl f o)
 |0,_,_,_,h=>h
 |m+1,j,o,a,h=>by rw[List.range'_succ,List.foldl_cons];exact me hf m (j+1) _ (by omega) (hf _ _ (by omega) h)
theorem zU {E:List S83} {n:Nat} {S:Nat->Bool} (hS:ic E n S) {o:List Bool} (h:∀i,a7 o i=true->S i=true):∀i,a7 (jb E n o) i=true->S i=true:=by
 refine me (P:=fun o=>∀i,a7 o i=true->S i=true) (n:=n) (fun o a g h=>?_) n 0 o (by omega) h;refine me (P:=fun o=>∀i,a7 o i=true->S i=true) (n:=n) (fun o b hb h=>?_) n 0 o (by omega) h;intro i hi;unfold fH at hi;split at hi
 ·rename_i e
  rw[kZ] at hi;split at hi
  ·rename_i j
   obtain⟨rfl,_⟩:=j;exact hS a b g hb (h a e.1) e.2
  ·exact h i hi
 ·exact h i hi
theorem tc {E:List S83} {n:Nat} {S:Nat->Bool} (hS:ic E n S):∀(m:Nat) {o:List Bool},(∀i,a7 o i=true->S i=true)->∀i,a7 (ia E n m o) i=true->S i=true
 |0,_,h=>h
 |m+1,o,h=>tc hS m (zU hS h)
theorem zV {o:List Bool} {b:Nat} (h:a7 o b=true):o.set b true=o:=by
 refine List.ext_getElem (by simp) fun i h1 a=>?_
 rw[List.getElem_set];by_cases e:b=i
 ·subst e
  rw[if_pos rfl];simp only[a7,List.getD_eq_getElem?_getD,List.getElem?_eq_getElem a,Option.getD_some] at h;exact h.symm
 ·rw[if_neg e]
theorem zW {E:List S83} {n:Nat} {o:List Bool} (h:ic E n (a7 o)):jb E n o=o:=by
 refine me (P:=fun x=>x=o) (n:=n) (fun x a g i=>?_) n 0 o (by omega) rfl;subst i;refine me (P:=fun y=>y=x) (n:=n) (fun y b hb j=>?_) n 0 x (by omega) rfl;subst j;unfold fH;split
 ·rename_i e
  exact zV (h a b g hb e.1 e.2)
 ·rfl
theorem td {E:List S83} {n:Nat}:∀(m:Nat) {o:List Bool},ic E n (a7 o)->ia E n m o=o
 |0,_,_=>rfl
 |m+1,o,h=>by rw[ia,zW h,td m h]
def jd (o:List Bool) (n:Nat):Nat:=(List.range n).countP (a7 o)
theorem zY (o:List Bool) (n:Nat):jd o n<=n:=by
 unfold jd;exact Nat.le_trans List.countP_le_length (by simp)
theorem pM {o p:List Bool} {b:Nat}:∀{n:Nat},(∀i,a7 o i=true->a7 p i=true)->b<n->a7 o b=false->a7 p b=true->jd o n<jd p n
 |0,_,hb,_,_=>by omega
 |n+1,h,hb,h1,g=>by
  have mono:∀m,jd o m<=jd p m:=fun m=>List.countP_mono_left (fun x _ j=>h x j)
  unfold jd at*;rw[List.range_succ,List.countP_append,List.countP_append];by_cases e:b=n
  ·subst e
   have:=mono b;simp[h1,g];omega
  ·have:=pM (n:=n) h (by omega) h1 g
   unfold jd at this;have k:(if a7 o n=true then 1 else 0)<=(if a7 p n=true then 1 else 0):=by
    by_cases a:a7 o n=true
    ·rw[if_pos a,if_pos (h n a)];exact Nat.le_refl _
    ·rw[if_neg a];exact Nat.zero_le _
   simp only[List.countP_cons,List.countP_nil,Nat.zero_add];omega
theorem zZ {E:List S83} {n:Nat} {o:List Bool} (r:o.length=n) {a b:Nat} (s:a<n) (hb:b<n) (h1:a7 o a=true) (k:dj E a b>0):a7 (jb E n o) b=true:=by
 unfold jb;have l:List.range' 0 n=List.range' 0 a++a::List.range' (a+1) (n-a-1):=by
  rw[<-List.range'_succ,show n-a-1+1=n-a by omega];rw[show List.range' 0 a++List.range' a (n-a)=List.range' 0 a++List.range' (0+a) (n-a) by rw[Nat.zero_add],List.range'_append_1];rw[show a+(n-a)=n by omega]
 have m:List.range' 0 n=List.range' 0 b++b::List.range' (b+1) (n-b-1):=by
  rw[<-List.range'_succ,show n-b-1+1=n-b by omega];rw[show List.range' 0 b++List.range' b (n-b)=List.range' 0 b++List.range' (0+b) (n-b) by rw[Nat.zero_add],List.range'_append_1];rw[show b+(n-b)=n by omega]
 rw[l,List.foldl_append,List.foldl_cons];refine kb (fun o b i h=>pL h) _ _ _ ?_;have g:=kb (f:=ja E n) (fun o b i h=>pL h) (List.range' 0 a) o a h1;have p:=lf (f:=ja E n) (fun o a=>pH E n a o) (List.range' 0 a) o;generalize (List.range' 0 a).foldl (ja E n) o=e at g p⊢;unfold ja;rw[m,List.foldl_append,List.foldl_cons];refine kb (fun o b i h=>pK h) _ _ _ ?_;have j:=kb (f:=fH E a) (fun o b i h=>pK h) (List.range' 0 b) e a g;have q:=lf (f:=fH E a) (fun o b=>pG E a b o) (List.range' 0 b) e;generalize (List.range' 0 b).foldl (fH E a) e=u at j q⊢;unfold fH;rw[if_pos ⟨j,k⟩,kZ,if_pos ⟨rfl,by omega⟩]
theorem te {E:List S83} {n:Nat}:∀(m:Nat) (o:List Bool),o.length=n->n<jd o n+m->ic E n (a7 (ia E n m o))
 |0,o,g,h=>by have:=zY o n;omega
 |m+1,o,g,h=>by
  by_cases e:ic E n (a7 o)
  ·rw[td (m+1) e];exact e
  ·rw[ia]
   refine te m _ (by rw[pI];exact g) ?_;unfold ic at e;simp only[Classical.not_forall] at e;obtain⟨a,b,j,hb,h1,k,l⟩:=e;have:=pM (o:=o) (p:=jb E n o) (b:=b) (n:=n) (fun i hi=>ta hi) hb (Bool.eq_false_iff.2 l) (zZ g j hb h1 k);omega
theorem z7 {E:List S83} {n v:Nat} (e:v<n):a7 (e8 E n v) v=true∧ic E n (a7 (e8 E n v))∧∀S:Nat->Bool,ic E n S->S v=true->∀i,a7 (e8 E n v) i=true->S i=true:=by
 have g:a7 ((List.replicate n false).set v true) v=true:=by rw[kZ,if_pos ⟨rfl,by simpa using e⟩]
 have a:∀i,a7 (List.replicate n false) i=false:=fun i=>by simp[a7,List.getD_eq_getElem?_getD,List.getElem?_replicate];split<;>rfl
 refine⟨tb g,te n _ (by simp) ?_,fun S hS j=>tc hS n (fun i hi=>?_)⟩
 ·have:=pM (o:=List.replicate n false) (p:=(List.replicate n false).set v true) (b:=v) (n:=n) (fun i hi=>by rw[a] at hi;cases hi) e (a v) g
  omega
 ·rw[kZ] at hi
  split at hi
  ·rename_i h;rw[<-h.1];exact j
  ·rw[a] at hi;cases hi
def lh (N:Int) (E:List S83):Bool:=decide (0<=N∧N<=12)&&iI 12 E
def bS.f (k:Nat) (N:Int) (E:List S83):Option (Bool×Int):=
 (aY.f k N E).bind fun t=>if t=0 then(if lh N E=true then some (decide (bN (aJ E) N.toNat=1),0) else none) else some (false,t)
theorem bS.mono:∀a b k,ae (bS.f k a b) (bS.f (k+1) a b):=by
 intro a b k;unfold bS.f;exact ae.bind (aY.mono _ _ _) (fun _=>ae.refl _)
theorem z8 (k:Nat) (N:Int) (A0:Option Addr) (c0:Nat) (E:List S83) (t:Int) (w:World) (b:Kd.C aK w A0 E.length E) (g:E.length<=c0) (a:aY.f k N E=some t) (j:t≠0):
  Calls Tryz.prog 172 #[.agg #[.int .i64 N,.slice A0 E.length c0]] w fun e w'=>e= .returned (.tuple #[.slice none 0 0,.int .i64 t])∧Below w.heap.size w w':=by
 have hu:=Tryz.underlying24;have h:=Aside0.mk a;clear a;go_enter Tryz.func172,Tryz.ntmps172
 go_wp2_with (first|(go_at_call 64;refine(aY.calls k N A0 c0 E t _ (Kd.br b _) g h.out).mono ?_;rintro e w1 ⟨rfl,hb⟩;have i:=Aside0.mk (aU (aq (Below.refl w.heap.size w) _) hb);clear hb))
 go_ret2;exact⟨rfl,i.out⟩
theorem z_ (E:List S83):∀i,i<12->(#[.int .i64 (aJ E 0:Nat),.int .i64 (aJ E 1:Nat),.int .i64 (aJ E 2:Nat),.int .i64 (aJ E 3:Nat),.int .i64 (aJ E 4:Nat),.int .i64 (aJ E 5:Nat),.int .i64 (aJ E 6:Nat),.int .i64 (aJ E 7:Nat),.int .i64 (aJ E 8:Nat),.int .i64 (aJ E 9:Nat),.int .i64 (aJ E 10:Nat),.int .i64 (aJ E 11:Nat)]:Array Value)[i]? =some (.int .i64 (aJ E i:Nat)):=fun i hi=>by
 match i,hi with|0,_=>rfl|1,_=>rfl|2,_=>rfl|3,_=>rfl|4,_=>rfl|5,_=>rfl|6,_=>rfl|7,_=>rfl|8,_=>rfl|9,_=>rfl|10,_=>rfl|11,_=>rfl
theorem z' (k:Nat) (n:Nat) (A0:Option Addr) (c0:Nat) (E:List S83) (w:World) (b:Kd.C aK w A0 E.length E) (j:E.length<=c0) (g:aY.f k n E=some 0) (hn:n<=12) (h:dV 12 E):
  Calls Tryz.prog 172 #[.agg #[.int .i64 n,.slice A0 E.length c0]] w fun e w'=>∃A c,e= .returned (.tuple #[.slice A (bN (aJ E) n) c,.int .i64 0])∧Below w.heap.size w w':=by
 have hu:=Tryz.underlying24;have l:=Aside0.mk g;clear g;have m:=Aside0.mk h;clear h;go_enter Tryz.func172,Tryz.ntmps172
 go_wp2_with (first|(go_at_call 64;refine(aY.calls k n A0 c0 E 0 _ (Kd.br b _) j l.out).mono ?_;rintro e w1 ⟨rfl,hb⟩;have a:w1.heap[w.heap.size]? =some (.cells #[.int .i64 n,.slice A0 E.length c0] 24 (0,0)):=aG (heap_alloc_new w _) hb;have o:=Aside0.mk (Kd.al b (aU (aq (Below.refl w.heap.size w) _) hb));have p:=Aside0.mk (aU (aq (Below.refl w.heap.size w) _) hb);clear hb;have v:w1.cell? ⟨w.heap.size,0,none⟩=some (.int .i64 n):=(ao a 0).trans rfl;have x:w1.cell? ⟨w.heap.size,1,none⟩=some (.slice A0 E.length c0):=(ao a 1).trans rfl)|(go_at_call 196;(with_reducible refine(zD _ _ _ E _ o.out m.out).mono ?_);rintro e w2 ⟨rfl,hb⟩;have i:=aw (aG a hb) (.cells #[.int .i64 (aJ E 0:Nat),.int .i64 (aJ E 1:Nat),.int .i64 (aJ E 2:Nat),.int .i64 (aJ E 3:Nat),.int .i64 (aJ E 4:Nat),.int .i64 (aJ E 5:Nat),.int .i64 (aJ E 6:Nat),.int .i64 (aJ E 7:Nat),.int .i64 (aJ E 8:Nat),.int .i64 (aJ E 9:Nat),.int .i64 (aJ E 10:Nat),.int .i64 (aJ E 11:Nat)] 217);have y:(w2.alloc (.cells #[.int .i64 (aJ E 0:Nat),.int .i64 (aJ E 1:Nat),.int .i64 (aJ E 2:Nat),.int .i64 (aJ E 3:Nat),.int .i64 (aJ E 4:Nat),.int .i64 (aJ E 5:Nat),.int .i64 (aJ E 6:Nat),.int .i64 (aJ E 7:Nat),.int .i64 (aJ E 8:Nat),.int .i64 (aJ E 9:Nat),.int .i64 (aJ E 10:Nat),.int .i64 (aJ E 11:Nat)] 217)).cell? ⟨w.heap.size,0,none⟩=some (.int .i64 n):=(ao i 0).trans rfl;have q:=Aside0.mk (aq (aU p.out hb) (.cells #[.int .i64 (aJ E 0:Nat),.int .i64 (aJ E 1:Nat),.int .i64 (aJ E 2:Nat),.int .i64 (aJ E 3:Nat),.int .i64 (aJ E 4:Nat),.int .i64 (aJ E 5:Nat),.int .i64 (aJ E 6:Nat),.int .i64 (aJ E 7:Nat),.int .i64 (aJ E 8:Nat),.int .i64 (aJ E 9:Nat),.int .i64 (aJ E 10:Nat),.int .i64 (aJ E 11:Nat)] 217));have r:=Aside0.mk (show dN (w2.alloc (.cells #[.int .i64 (aJ E 0:Nat),.int .i64 (aJ E 1:Nat),.int .i64 (aJ E 2:Nat),.int .i64 (aJ E 3:Nat),.int .i64 (aJ E 4:Nat),.int .i64 (aJ E 5:Nat),.int .i64 (aJ E 6:Nat),.int .i64 (aJ E 7:Nat),.int .i64 (aJ E 8:Nat),.int .i64 (aJ E 9:Nat),.int .i64 (aJ E 10:Nat),.int .i64 (aJ E 11:Nat)] 217)) w2.heap.size (aJ E) from⟨_,heap_alloc_new _ _,rfl,z_ E⟩);clear hb i)|(go_at_call 197;(with_reducible refine(zF _ n (aJ E) _ hn (sS E) r.out).mono ?_);rintro e w3 ⟨s,c3,rfl,hb⟩;have u:=Aside0.mk (aU q.out hb);clear hb))
 go_ret2;exact⟨s,c3,rfl,u.out⟩
theorem bS.calls (k:Nat) (p:Int) (j:Option Addr) (l:Nat) (a:List (S83)) (v:Bool) (x:Int) (w:World) (q:Kd.C aK w j a.length a) (y:a.length<=l) (h:bS.f k p a=some (v,x)):
  Calls Tryz.prog 113 #[.agg #[.int .i64 p,.slice j a.length l]] w fun e w'=>e= .returned (.tuple #[.bool v,.int .i64 x])∧Below w.heap.size w w':=by
 unfold bS.f at h;obtain⟨t,o,h⟩:=Option.bind_eq_some_iff.1 h;split at h
 ·rename_i r
  subst r;split at h
  case isFalse=>cases h
  rename_i z;simp only[lh,Bool.and_eq_true,decide_eq_true_eq] at z;obtain⟨⟨D,H⟩,B⟩:=z;obtain⟨n,rfl⟩:=Int.eq_ofNat_of_zero_le D;injection h with h
  injection h with h1 s
  subst s;rw[Int.toNat_natCast] at h1;have b:=fun W u=>z' k n j l a W u y o (by omega) (kT (n:=12) B)
  have g:=Aside0.mk b;have H1:=Aside0.mk h1;clear b o B h1;have E:=mc (aJ a) n;generalize bN (aJ a) n=m at g H1 E;by_cases hm:m=1
  ·subst hm
   go_enter Tryz.func113,Tryz.ntmps113
   go_wp2_with (first|(go_at_call 172;refine(g.out _ (Kd.br q _)).mono ?_;rintro e w1 ⟨F,c1,rfl,hb⟩;have i:=Aside0.mk (aU (aq (Below.refl w.heap.size w) _) hb);clear hb))
   go_ret2;exact⟨by rw[<-H1.out];rfl,i.out⟩
  ·have G:((m:Nat):Int)≠1:=by omega
   go_enter Tryz.func113,Tryz.ntmps113
   go_wp2_with (first|(go_at_call 172;refine(g.out _ (Kd.br q _)).mono ?_;rintro e w1 ⟨F,c1,rfl,hb⟩;have i:=Aside0.mk (aU (aq (Below.refl w.heap.size w) _) hb);clear hb))
   go_ret2;exact⟨by rw[<-H1.out,decide_eq_false hm,<-(beq_eq_false_iff_ne.2 G:((m:Int)==1)=false)];rfl,i.out⟩
 ·rename_i r
  injection h with h
  injection h with h1 s
  subst h1;subst s;have b:=fun W u=>z8 k p j l a t W u y o r
  have g:=Aside0.mk b;clear b o;go_enter Tryz.func113,Tryz.ntmps113
  go_wp2_with (first|(go_at_call 172;refine(g.out _ (Kd.br q _)).mono ?_;rintro e w1 ⟨rfl,hb⟩;have i:=Aside0.mk (aU (aq (Below.refl w.heap.size w) _) hb);clear hb))
  go_ret2;exact⟨rfl,i.out⟩
def cX.f (k:Nat) (b:Int) (g:List (S83)) (e:Int):Option (Int):=(bS.f k b g).bind fun a=>(if a.2=0 then(if a.1=true then(if e<0 then(some 2) else(if e>=b then(some 2) else(some 0))) else(some 13)) else(some a.2))
theorem cX.mono:∀a0 a a2 k,ae (cX.f k a0 a a2) (cX.f (k+1) a0 a a2):=by
 intro a0 a a2 k;unfold cX.f;repeat' first
   |(with_reducible exact bS.mono _ _ _)
   |(with_reducible exact ae.refl _)
   |(with_reducible exact ae.none _)
   |(with_reducible refine ae.ite ?_ ?_)
   |(with_reducible refine ae.bind ?_ (fun _=>?_))
   |exact bS.mono _ _ _
   |exact ae.none _
   |refine ae.ite ?_ ?_
   |refine ae.bind ?_ (fun _=>?_)
theorem cX.calls (k:Nat) (j:Int) (m:Option Addr) (n:Nat) (g:List (S83)) (x:Int) (r:Int) (w:World) (E:Kd.C aK w m g.length g) (F:g.length<=n) (h:cX.f k j g x=some r):
  Calls Tryz.prog 211 #[.agg #[.int .i64 j,.slice m g.length n],.int .i64 x] w fun e w'=>e= .returned (.int .i64 r)∧Below w.heap.size w w':=by
 have M:=Tryz.underlying24;have s:=Aside0.mk E;have u:=Aside0.mk F;clear E F;have a:=Aside0.mk (Below.refl w.heap.size w);unfold cX.f at h;have H:=h;clear h;obtain⟨⟨G,o⟩,v,H⟩:=zo H;dsimp only at H;by_cases c4:o=0
 ·rw[if_pos c4] at H
  obtain⟨I,J⟩:=bt c4;clear c4;by_cases y:G=true
  ·subst y
   replace H:=zi H;by_cases p:x<0
   ·rw[if_pos p] at H
    have K:=decide_eq_true p;clear p;obtain rfl:=Option.some.inj H;go_enter Tryz.func211,Tryz.ntmps211
    go_wp2_with (first|((with_reducible refine aH (N:=2) rfl ?_);refine zX 2 #[.int .i64 j,.slice m g.length n] 24 ?_;intro z i O l hb;have b:=Aside0.mk (l);have B:=zG a i;have D:=zG a i;replace a:=zS a hb;clear hb l i;obtain⟨P,Q,R,S⟩:=au b)|((with_reducible refine ax (f:=113) rfl ?_);refine zL (some 9) Tryz.func113 #[.agg #[.int .i64 j,.slice m g.length n]] ?_;(with_reducible refine(bS.calls k j _ _ g true o _ ?af ?ah v.out).mono ?_);(case af=>exact Kd.al s.out zB);(case ah=>exact u.out);rintro e T ⟨rfl,hb⟩;refine⟨_,rfl,?_⟩;replace b:=zb b hb;replace a:=zS a hb;(try clear hb)))
    go_ret;exact⟨zE,zB⟩
   ·rw[if_neg p] at H
    have K:=decide_eq_false p;clear p;by_cases q:x>=j
    ·rw[if_pos q] at H
     have L:=decide_eq_true q;clear q;obtain rfl:=Option.some.inj H;go_enter Tryz.func211,Tryz.ntmps211
     go_wp2_with (first|((with_reducible refine aH (N:=2) rfl ?_);refine zX 2 #[.int .i64 j,.slice m g.length n] 24 ?_;intro z i iy l hb;have b:=Aside0.mk (l);have B:=zG a i;have D:=zG a i;replace a:=zS a hb;clear hb l i;obtain⟨U,V,W,X⟩:=au b)|((with_reducible refine ax (f:=113) rfl ?_);refine zL (some 9) Tryz.func113 #[.agg #[.int .i64 j,.slice m g.length n]] ?_;(with_reducible refine(bS.calls k j _ _ g true o _ ?af ?ah v.out).mono ?_);(case af=>exact Kd.al s.out zB);(case ah=>exact u.out);rintro e Y ⟨rfl,hb⟩;refine⟨_,rfl,?_⟩;replace b:=zb b hb;replace a:=zS a hb;(try clear hb);obtain⟨Z,aa,ab,ad⟩:=au b))
     go_ret;exact⟨zE,zB⟩
    ·rw[if_neg q] at H
     have L:=decide_eq_false q;clear q;obtain rfl:=Option.some.inj H;go_enter Tryz.func211,Tryz.ntmps211
     go_wp2_with (first|((with_reducible refine aH (N:=2) rfl ?_);refine zX 2 #[.int .i64 j,.slice m g.length n] 24 ?_;intro z i ag l hb;have b:=Aside0.mk (l);have B:=zG a i;have D:=zG a i;replace a:=zS a hb;clear hb l i;obtain⟨ak,am,an,ap⟩:=au b)|((with_reducible refine ax (f:=113) rfl ?_);refine zL (some 9) Tryz.func113 #[.agg #[.int .i64 j,.slice m g.length n]] ?_;(with_reducible refine(bS.calls k j _ _ g true o _ ?af ?ah v.out).mono ?_);(case af=>exact Kd.al s.out zB);(case ah=>exact u.out);rintro e ar ⟨rfl,hb⟩;refine⟨_,rfl,?_⟩;replace b:=zb b hb;replace a:=zS a hb;(try clear hb);obtain⟨av,aB,aF,aL⟩:=au b))
     go_ret;exact⟨zE,zB⟩
  ·replace y:=Bool.eq_false_iff.mpr y
   subst y;replace H:=zj H;obtain rfl:=Option.some.inj H;go_enter Tryz.func211,Tryz.ntmps211
   go_wp2_with (first|((with_reducible refine aH (N:=2) rfl ?_);refine zX 2 #[.int .i64 j,.slice m g.length n] 24 ?_;intro z i aO l hb;have b:=Aside0.mk (l);have B:=zG a i;have D:=zG a i;replace a:=zS a hb;clear hb l i;obtain⟨aP,aS,a0,a2⟩:=au b)|((with_reducible refine ax (f:=113) rfl ?_);refine zL (some 9) Tryz.func113 #[.agg #[.int .i64 j,.slice m g.length n]] ?_;(with_reducible refine(bS.calls k j _ _ g false o _ ?af ?ah v.out).mono ?_);(case af=>exact Kd.al s.out zB);(case ah=>exact u.out);rintro e a3 ⟨rfl,hb⟩;refine⟨_,rfl,?_⟩;replace b:=zb b hb;replace a:=zS a hb;(try clear hb)))
   go_ret;exact⟨zE,zB⟩
 ·rw[if_neg c4] at H
  obtain⟨I,J⟩:=bu c4;obtain rfl:=Option.some.inj H;go_enter Tryz.func211,Tryz.ntmps211
  go_wp2_with (first|((with_reducible refine aH (N:=2) rfl ?_);refine zX 2 #[.int .i64 j,.slice m g.length n] 24 ?_;intro z i a4 l hb;have b:=Aside0.mk (l);have B:=zG a i;have D:=zG a i;replace a:=zS a hb;clear hb l i;obtain⟨a5,a9,be,bf⟩:=au b)|((with_reducible refine ax (f:=113) rfl ?_);refine zL (some 9) Tryz.func113 #[.agg #[.int .i64 j,.slice m g.length n]] ?_;(with_reducible refine(bS.calls k j _ _ g G o _ ?af ?ah v.out).mono ?_);(case af=>exact Kd.al s.out zB);(case ah=>exact u.out);rintro e bg ⟨rfl,hb⟩;refine⟨_,rfl,?_⟩;replace b:=zb b hb;replace a:=zS a hb;(try clear hb)))
  go_ret;exact⟨zE,zB⟩
theorem Aa {E:List S83} {a b:Int} (h:dj E a b>0):∃x∈E,x.f0=min a b∧x.f1=max a b:=by
 unfold dj at h;split at h
 ·rename_i x e
  refine⟨x,List.mem_of_find?_eq_some e,?_⟩;have:=List.find?_some e;simpa [fG] using this
 ·omega
theorem Ab {N:Int} {E:List S83} (h:bm N E) {x:S83} (a:x∈E):dj E x.f0 x.f1>0:=by
 unfold dj;split
 ·rename_i y b
  have:=h.ok y (List.mem_of_find?_eq_some b);simp[bQ] at this;omega
 ·rename_i hn
  rw[List.find?_eq_none] at hn;have:=hn x a;have hle:=h.le x a;simp[fG] at this;omega
theorem Af {E:List S83} {n:Nat} {S:Nat->Bool} (h:∀x∈E,S x.f0.toNat=S x.f1.toNat):ic E n S:=by
 intro a b k hb e g;obtain⟨x,i,l,h1⟩:=Aa g;have:=h x i;rcases Nat.le_total a b with j|j
 ·rw[show x.f0.toNat=a by omega,show x.f1.toNat=b by omega] at this
  rw[<-this];exact e
 ·rw[show x.f0.toNat=b by omega,show x.f1.toNat=a by omega] at this
  rw[this];exact e
theorem Ag {n:Nat} {E:List S83} (b:bm n E) {S:Nat->Bool} (h:ic E n S):∀x∈E,S x.f0.toNat=S x.f1.toNat:=by
 intro x e;have hb:=Ab b e;have k:=b.ok x e;simp[bQ] at k;have g:((x.f0.toNat:Nat):Int)=x.f0:=by omega
 have i:((x.f1.toNat:Nat):Int)=x.f1:=by omega
 have h1:=h x.f0.toNat x.f1.toNat (by omega) (by omega);have j:=h x.f1.toNat x.f0.toNat (by omega) (by omega);rw[g,i] at h1;rw[g,i,sL] at j;cases a:S x.f0.toNat with
 |true=>exact(h1 a hb).symm
 |false=>
  cases l:S x.f1.toNat with
  |false=>rfl
  |true=>rw[j l hb] at a;cases a
theorem Ah (s r:List Bool) (i:Nat) (hi:i<s.length):a7 (jc s r) i=(a7 s i||a7 r i):=by
 unfold jc;have key:∀(m j:Nat) (o:List Bool),o.length=s.length->a7 ((List.range' j m).foldl (fun s u=>s.set u (a7 s u||a7 r u)) o) i=if j<=i∧i<j+m then(a7 o i||a7 r i) else a7 o i:=by
  intro m;induction m with
  |zero=>intro j o _;rw[if_neg (by omega)];rfl
  |succ m b=>
   intro j o e;rw[List.range'_succ,List.foldl_cons,b _ _ (by rw[List.length_set];exact e),kZ];by_cases h1:j=i
   ·subst h1
    rw[if_neg (by omega),if_pos ⟨rfl,by omega⟩,if_pos (by omega)]
   ·rw[if_neg (show ¬(j=i∧i<o.length) from fun h=>h1 h.1)]
    by_cases a:j+1<=i∧i<j+1+m
    ·rw[if_pos a,if_pos (by omega)]
    ·rw[if_neg a,if_neg (by omega)]
 rw[key s.length 0 s rfl,if_pos (by omega)]
theorem tf (E:List S83) (n:Nat):∀(m v c:Nat) (s:List Bool),(∀i,v<=i->i<v+m->a7 s i=true)->gj E n m v c s=c
 |0,_,_,_,_=>rfl
 |m+1,v,c,s,h=>by
  rw[gj,if_pos (h v (Nat.le_refl _) (by omega))];exact tf E n m (v+1) c s (fun i h1 a=>h i (by omega) (by omega))
theorem pN (E:List S83) (n:Nat):∀(m v c:Nat) (s:List Bool),c<=gj E n m v c s
 |0,_,_,_=>Nat.le_refl _
 |m+1,v,c,s=>by
  rw[gj];split
  ·exact pN E n m _ _ _
  ·exact Nat.le_trans (Nat.le_succ c) (pN E n m _ _ _)
theorem tg (E:List S83) (n:Nat):∀(m v c:Nat) (s:List Bool) (u:Nat),v<=u->u<v+m->a7 s u=false->c+1<=gj E n m v c s
 |0,_,_,_,_,_,h,_=>by omega
 |m+1,v,c,s,u,h1,e,a=>by
  rw[gj];split
  ·rename_i b
   exact tg E n m (v+1) c s u (by rcases Nat.lt_or_ge v u with h|h;exact h;exfalso;have:v=u:=(by omega);subst this;rw[a] at b;cases b) (by omega) a
  ·exact pN E n m _ _ _
theorem kc {n:Nat} {E:List S83} (hn:1<=n) (q:bm n E):partsOf E n=1↔e7 n E:=by
 obtain⟨m,rfl⟩:∃m,n=m+1:=⟨n-1,by omega⟩;obtain⟨r,s,w⟩:=z7 (E:=E) (n:=m+1) (v:=0) (by omega);have j:∀i,a7 (List.replicate (m+1) false) i=false:=fun i=>by simp[a7,List.getD_eq_getElem?_getD,List.getElem?_replicate];split<;>rfl
 have e:partsOf E (m+1)=gj E (m+1) m 1 1 (jc (List.replicate (m+1) false) (e8 E (m+1) 0)):=by
  unfold partsOf;rw[gj,if_neg (by rw[j];decide)]
 have k:∀i,i<m+1->a7 (jc (List.replicate (m+1) false) (e8 E (m+1) 0)) i=a7 (e8 E (m+1) 0) i:=fun i hi=>by
  rw[Ah _ _ _ (by simpa using hi),j,Bool.false_or]
 rw[e];constructor
 ·intro h S y z
  refine Classical.byContradiction fun a=>?_
  have hS:∀x∈E,S x.f0.toNat=S x.f1.toNat:=fun x B=>Classical.byContradiction fun b=>a ⟨x,B,b⟩
  have main:∀T:Nat->Bool,(∀x∈E,T x.f0.toNat=T x.f1.toNat)->T 0=true->(∃u,u<m+1∧T u=false)->False:=by
   rintro T C l ⟨u,hu,g⟩;have h1:a7 (e8 E (m+1) 0) u=false:=by
    cases o:a7 (e8 E (m+1) 0) u with
    |false=>rfl
    |true=>have:=w T (Af C) l u o;rw[g] at this;cases this
   have F:u≠0:=fun e=>by subst e;rw[l] at g;cases g
   have:=tg E (m+1) m 1 1 _ u (by omega) (by omega) (by rw[k u hu];exact h1);omega
  cases p:S 0 with
  |true=>exact main S hS p z
  |false=>
   refine main (fun u=> !S u) (fun x a=>by simp[hS x a]) (by simp[p]) ?_;obtain⟨u,hu,D⟩:=y;exact⟨u,hu,by simp[D]⟩
 ·intro h
  refine tf E _ m 1 1 _ fun i h1 o=>?_
  rw[k i (by omega)];cases hi:a7 (e8 E (m+1) 0) i with
  |true=>rfl
  |false=>
   obtain⟨x,a,b⟩:=h (a7 (e8 E (m+1) 0)) ⟨0,by omega,r⟩ ⟨i,by omega,hi⟩;exact absurd (Ag q s x a) b
end Go.Proofs.YtffdiakgjakngaaGreat.P
namespace Go.Proofs.YtffdiakgjakngaaGreat.T
set_option linter.unusedVariables false
set_option linter.unusedSimpArgs false
set_option maxHeartbeats 8000000
set_option maxRecDepth 100000
theorem Ai {f:Nat->Int} {n:Nat} {M:Int} (a:0<=M) (S:Nat->Bool) (h:∀v,v<n->S v=true->f v<=M):sN (fun v=>if S v=true then f v else 0) n<=n*M:=by
 rw[<-iH];refine cM fun v b=>?_
 show (if S v=true then f v else 0)<=M
 split
 ·exact h v b ‹_›
 ·exact a
theorem nD {n:Nat} {t:Nat->Nat->Int} (e:Wt n t) (g:dp n t) {q:Nat} (i:q<n) {b:Nat->Int} (hb:b q=0) {M:Int} (a:0<=M) (h:∀v,v<n->0<b v->aN n t b v<=M):∀v,v<n->b v<=n*(n*M):=by
 refine jD e g i (by omega) (Int.mul_nonneg (by omega) a) fun x l=>?_
 refine Ai a (fun v=>decide (x<b v)) fun v j k=>h v j ?_
 have:=of_decide_eq_true k;omega
theorem Ak {n:Nat} {t:Nat->Nat->Int} (g:Wt n t) (i:dp n t) {q:Nat} (j:q<n) {s s':Nat->Int} (l:s q=s' q) (h:∀v,v<n->aN n t s v=aN n t s' v):∀v,v<n->s v=s' v:=by
 have h1:=nD g i j (b:=fun u=>s u-s' u) (by show s q-s' q=0;omega) (M:=0) (by omega) (fun v e _=>by rw[kQ,h v e];omega);have k:=nD g i j (b:=fun u=>s' u-s u) (by show s' q-s q=0;omega) (M:=0) (by omega) (fun v e _=>by rw[kQ,h v e];omega);intro v e;have a:=h1 v e;have b:=k v e;simp only[Int.mul_zero] at a b;omega
theorem nE {n:Nat} {t:Nat->Nat->Int} (a:Wt n t) {q:Nat} {c:Nat->Int} (h:jH n t q c) {v:Nat} (b:v<n) (g:v≠q):c v<val n t v:=by
 obtain⟨u,hu,i,j⟩:=h (fun u=>decide (u=v)) ⟨v,b,by simp⟩ (by simpa using fun e=>g e.symm);obtain rfl:u=v:=of_decide_eq_true i;refine Int.lt_of_lt_of_le j ?_;unfold val;refine cM fun w hw=>?_
 show (if decide (w=u)=false then t u w else 0)<=t u w
 have:=a.pos u w;split<;>omega
theorem Am {n:Nat} {t:Nat->Nat->Int} (h:Wt n t) (i:dp n t) {q:Nat} (j:q<n) {D c s:Nat->Int} (k:jI n t q c) (l:∀v,v<n->c v=D v-aN n t s v) (o:s q=0) {B V:Int} (x:0<=B) (y:0<=V) (m:∀v,v<n-> -B<=D v∧D v<=B) (p:∀v,v<n->val n t v<=V):∀v,v<n-> -(n*(n*(B+V)))<=s v∧s v<=n*(n*(B+V)):=by
 have h1:=nD h i j (b:=s) o (M:=B+V) (by omega) (fun v g hp=>by
  have:=l v g;have:=k.1 v g (fun e=>by subst e;omega);have:=m v g;omega)
 have r:=nD h i j (b:=fun u=> -s u) (by show -s q=0;omega) (M:=B+V) (by omega) (fun v g hp=>by
  rw[kP];have:=l v g;have w:v≠q:=fun e=>by subst e;omega
  have:=nE h k.2 g w;have:=p v g;have:=m v g;omega)
 intro v g;have a:=h1 v g;have b: -s v<=_:=r v g;omega
theorem An (f:Nat->Int) {q n:Nat} (a:q<n):sN (fun v=>if v=q then 0 else f v) n=sN f n-f q:=by
 have h:=dn (fun v=>if v=q then 0 else f v) (fun v=>if v=q then f v else 0) n;have b:sN (fun v=>if v=q then f v else 0) n=f q:=by
  rw[i_ a (fun u _ hu=>if_neg hu)];simp
 have g:sN (fun v=>(if v=q then 0 else f v)+(if v=q then f v else 0)) n=sN f n:=bC fun v _=>by
  by_cases e:v=q<;>simp[e]
 have i:sN (fun v=>(if v=q then 0 else f v)+(if v=q then f v else 0)) n=sN (fun v=>if v=q then 0 else f v) n+sN (fun v=>if v=q then f v else 0) n:=h;omega
theorem Ap {f:Nat->Int} {q n:Nat} (g:q<n) {a b:Int} (i:a<=0) (hb:0<=b) (h:∀v,v<n->v≠q->a<=f v∧f v<=b):sN f n-n*b<=f q∧f q<=sN f n-n*a:=by
 have h1:=An f g;have j:sN (fun v=>if v=q then 0 else f v) n<=sN (fun _=>b) n:=cM fun v e=>by
  show (if v=q then 0 else f v)<=b
  split
  ·exact hb
  ·exact(h v e ‹_›).2
 have k:sN (fun _=>a) n<=sN (fun v=>if v=q then 0 else f v) n:=cM fun v e=>by
  show a<=(if v=q then 0 else f v)
  split
  ·exact i
  ·exact(h v e ‹_›).1
 rw[iH] at j k;omega
theorem nF {f:Nat->Int} {n:Nat} {B:Int} (h:∀v,v<n-> -B<=f v∧f v<=B): -(n*B)<=sN f n∧sN f n<=n*B:=by
 have h1:sN (fun _=> -B) n<=sN f n:=cM fun v a=>(h v a).1
 have b:sN f n<=sN (fun _=>B) n:=cM fun v a=>(h v a).2
 rw[iH] at h1 b;rw[Int.mul_neg] at h1;omega
theorem pO {n:Nat} {t:Nat->Nat->Int} (b:Wt n t) (e:dp n t) {q:Nat} (g:q<n) {D c σ d s:Nat->Int} (i:jI n t q c) (j:∀v,v<n->c v=D v-aN n t σ v) (k:σ q=0) (hd:∀v,v<n->d v=D v-aN n t s v) (hp:∀v,v<n->v≠q->0<=d v):∀v,v<n->s v<=σ v+s q:=by
 have:=pw b e g i hp (s:=fun u=>s u-σ u) (fun v a=>by rw[kQ,j v a,hd v a];omega);intro v a;have h:s v-σ v<=s q-σ q:=this v a;omega
theorem Aq {n:Nat} {t:Nat->Nat->Int} (b:Wt n t) {L:Nat->Bool} {d:Nat->Int} {T:Int} (e:0<=T) (h:∀v,v<n->L v=true->T*sN (fun u=>if L u=false then t v u else 0) n<=d v):∀v,v<n->(L v=true->0<=d v-T*aN n t (ind L) v)∧(L v=false->d v<=d v-T*aN n t (ind L) v):=by
 intro v g;rw[pv];refine⟨fun a=>?_,fun a=>?_⟩
 ·rw[if_pos a]
  have:=h v g a;omega
 ·rw[if_neg (by simp[a]),Int.mul_neg]
  have:0<=T*sN (fun u=>if L u=true then t v u else 0) n:=Int.mul_nonneg e (di fun u _=>by
   show 0<=(if L u=true then t v u else 0)
   have:=b.pos v u;split<;>omega)
  omega
def et (n:Nat) (t:Nat->Nat->Int) (dist:Nat->Int) (v:Nat):Int:=sN (fun u=>if dist v<dist u then t v u else 0) n
theorem ll {n:Nat} {t:Nat->Nat->Int} (a:Wt n t) (dist:Nat->Int) (v:Nat):0<=et n t dist v:=di fun u _=>by
 show 0<=(if dist v<dist u then t v u else 0)
 have:=a.pos v u;split<;>omega
theorem As {n:Nat} {t:Nat->Nat->Int} (a:Wt n t) (dist:Nat->Int):2*sN (et n t dist) n<=sN (val n t) n:=by
 have h1:sN (et n t dist) n=sN (fun v=>sN (fun u=>if dist u<dist v then t v u else 0) n) n:=by
  show sN (fun v=>sN (fun u=>if dist v<dist u then t v u else 0) n) n=_
  rw[l8];refine bC fun u _=>bC fun v _=>?_
  rw[a.sym v u]
 have b:sN (fun v=>et n t dist v+sN (fun u=>if dist u<dist v then t v u else 0) n) n<=sN (val n t) n:=by
  refine cM fun v e=>?_
  show sN (fun u=>if dist v<dist u then t v u else 0) n+sN (fun u=>if dist u<dist v then t v u else 0) n<=sN (fun u=>t v u) n
  rw[<-dn];refine cM fun u hu=>?_
  show (if dist v<dist u then t v u else 0)+(if dist u<dist v then t v u else 0)<=t v u
  have:=a.pos v u;split<;>split<;>omega
 rw[dn,<-h1] at b;omega
def ef (n:Nat) (t:Nat->Nat->Int) (dist:Nat->Int) (k:Int):Int:=sN (fun v=>if k<=dist v then et n t dist v else 0) n
theorem th {n:Nat} {t:Nat->Nat->Int} (a:Wt n t) (dist:Nat->Int) (k:Int):0<=ef n t dist k∧ef n t dist k<=sN (et n t dist) n:=by
 refine⟨di fun v _=>?_,cM fun v _=>?_⟩
 ·show 0<=(if k<=dist v then et n t dist v else 0)
  have:=ll a dist v;split<;>omega
 ·show (if k<=dist v then et n t dist v else 0)<=_
  have:=ll a dist v;split<;>omega
theorem Au {n:Nat} {t:Nat->Nat->Int} (a:Wt n t) (dist:Nat->Int) (k:Int) {v:Nat} (b:v<n) (hd:dist v=k-1):ef n t dist k+et n t dist v<=ef n t dist (k-1):=by
 have h1:sN (fun u=>(if k<=dist u then et n t dist u else 0)+(if u=v then et n t dist u else 0)) n<=ef n t dist (k-1):=by
  refine cM fun u _=>?_
  show (if k<=dist u then et n t dist u else 0)+(if u=v then et n t dist u else 0)<=(if k-1<=dist u then et n t dist u else 0)
  have:=ll a dist u;by_cases e:u=v
  ·subst e
   rw[if_neg (show ¬k<=dist u by omega),if_pos rfl,if_pos (by omega)];omega
  ·rw[if_neg e]
   split
   ·rw[if_pos (by omega)];omega
   ·split<;>omega
 rw[dn] at h1;have g:sN (fun u=>if u=v then et n t dist u else 0) n=et n t dist v:=by
  rw[i_ b (fun u _ hu=>if_neg hu)];simp
 unfold ef at h1⊢;omega
theorem ke (m:Nat):1+(m:Int)<=2 ^ m:=by
 induction m with
 |zero=>decide
 |succ m a=>rw[Int.pow_succ];omega
def e9 (n:Nat) (t:Nat->Nat->Int) (dist:Nat->Int) (B k:Int):Int:=B*2 ^ (ef n t dist k).toNat
theorem nG {n:Nat} {t:Nat->Nat->Int} (dist:Nat->Int) {B:Int} (a:0<=B) (k:Int):B<=e9 n t dist B k:=by
 unfold e9;have h:(1:Int)<=2 ^ (ef n t dist k).toNat:=by have:=ke (ef n t dist k).toNat;omega
 have:=Int.mul_le_mul_of_nonneg_left h a;omega
theorem pP {n:Nat} {t:Nat->Nat->Int} (a:Wt n t) (dist:Nat->Int) {B:Int} (e:0<=B) (g:sN (val n t) n<=19) (k:Int):e9 n t dist B k<=B*512:=by
 unfold e9;have h1:=th a dist k;have h:=As a dist;have b:(ef n t dist k).toNat<=9:=by omega
 refine Int.mul_le_mul_of_nonneg_left ?_ e;generalize (ef n t dist k).toNat=m at b;have:∀m:Nat,m<=9->(2:Int) ^ m<=512:=by decide
 exact this m b
theorem Aw {n:Nat} {t:Nat->Nat->Int} (e:Wt n t) (dist:Nat->Int) {B:Int} (i:0<=B) (k:Int) {v:Nat} (j:v<n) (hd:dist v=k-1):e9 n t dist B k*(1+et n t dist v)<=e9 n t dist B (k-1):=by
 unfold e9;have h1:=Au e dist k j hd;have l:=th e dist k;have o:=ll e dist v;obtain⟨m,hm⟩:=Int.eq_ofNat_of_zero_le o;obtain⟨a,g⟩:=Int.eq_ofNat_of_zero_le l.1;rw[hm,g];rw[hm,g] at h1;obtain⟨b,hb⟩:∃b:Nat,ef n t dist (k-1)=((a+m+b:Nat):Int):=⟨(ef n t dist (k-1)).toNat-a-m,by omega⟩;rw[hb,Int.toNat_natCast,Int.toNat_natCast,Int.mul_assoc];refine Int.mul_le_mul_of_nonneg_left ?_ i;have p:=ke m;have h:(0:Int)<=2 ^ a:=by have:=ke a;omega
 have s:=Int.mul_le_mul_of_nonneg_left p h;have q:(1:Int)<=2 ^ b:=by have:=ke b;omega
 have r:(0:Int)<=2 ^ a*2 ^ m:=Int.mul_nonneg h (by have:=ke m;omega);have u:=Int.mul_le_mul_of_nonneg_left q r;rw[Int.pow_add,Int.pow_add];omega
theorem Ay {n:Nat} {t:Nat->Nat->Int} (a:Wt n t) (dist:Nat->Int) {B:Int} (e:0<=B) (k:Int):e9 n t dist B k<=e9 n t dist B (k-1):=by
 unfold e9;have h1:ef n t dist k<=ef n t dist (k-1):=cM fun v _=>by
  show (if k<=dist v then et n t dist v else 0)<=(if k-1<=dist v then et n t dist v else 0)
  have:=ll a dist v;split
  ·rw[if_pos (by omega)];omega
  ·split<;>omega
 refine Int.mul_le_mul_of_nonneg_left ?_ e;obtain⟨b,hb⟩:∃b:Nat,(ef n t dist (k-1)).toNat=(ef n t dist k).toNat+b:=⟨(ef n t dist (k-1)).toNat- (ef n t dist k).toNat,by omega⟩;rw[hb,Int.pow_add];have g:(0:Int)<=2 ^ (ef n t dist k).toNat:=by have:=ke (ef n t dist k).toNat;omega
 have h:(1:Int)<=2 ^ b:=by have:=ke b;omega
 have:=Int.mul_le_mul_of_nonneg_left h g;omega
def bs (dist:Nat->Int) (k:Int) (u:Nat):Bool:=decide (dist u<k)
structure eO (n:Nat) (t:Nat->Nat->Int) (D dist:Nat->Int) (B k:Int) (d s:Nat->Int):Prop where
 eq:∀v,v<n->d v=D v-aN n t s v
 jK:∀v,v<n->k<dist v->0<=d v
 low:∀v,v<n-> -e9 n t dist B k<=d v
 s0:∀v,v<n->0<=s v∧s v<=(n-k)*(B*512)
theorem eO.start {n:Nat} {t:Nat->Nat->Int} {D dist:Nat->Int} {B k:Int} (b:0<=B) (e:∀v,v<n-> -B<=D v) (hk:∀v,v<n->dist v<=k) (g:k<=n):eO n t D dist B k D (fun _=>0):=by
 refine⟨fun v _=>by rw[jG];omega,fun v a h=>by have:=hk v a;omega,fun v a=>?_,fun v _=>⟨Int.le_refl _,Int.mul_nonneg (by omega) (by omega)⟩⟩;have:=nG (n:=n) (t:=t) dist b k;have:=e v a;omega
theorem eO.step {n:Nat} {t:Nat->Nat->Int} (b:Wt n t) {D dist:Nat->Int} {B k:Int} (i:0<=B) (x:sN (val n t) n<=19) (o:∀u v,u<n->v<n->0<t u v->dist v<=dist u+1) {d s:Nat->Int} (h:eO n t D dist B k d s) {T:Int} (j:0<=T) (y:T<=e9 n t dist B k)
  (z:∀v,v<n->dist v=k->d v<0-> -d v<=T*sN (fun u=>if bs dist k u=true then t v u else 0) n) {d' s':Nat->Int} (l:∀v,v<n->d' v=d v-T*aN n t (ind (bs dist k)) v) (p:∀v,v<n->s' v=s v+T*ind (bs dist k) v):eO n t D dist B (k-1) d' s':=by
 have g:∀v,v<n->(k<dist v->aN n t (ind (bs dist k)) v=0)∧(dist v=k->aN n t (ind (bs dist k)) v= -sN (fun u=>if bs dist k u=true then t v u else 0) n)∧(dist v<k-1->aN n t (ind (bs dist k)) v=0)∧(dist v=k-1->0<=aN n t (ind (bs dist k)) v∧aN n t (ind (bs dist k)) v<=et n t dist v):=by
  intro v a;rw[pv];refine⟨fun hk=>?_,fun hk=>?_,fun hk=>?_,fun hk=>?_⟩
  ·rw[if_neg (by unfold bs;simp;omega),ga fun u hu=>?_]; · rfl
   show (if bs dist k u=true then t v u else 0)=0
   split
   ·rename_i hn
    have h1:=of_decide_eq_true hn;have m:=b.pos v u;by_cases e:0<t v u
    ·rw[b.sym] at e
     have:=o u v hu a e;omega
    ·omega
   ·rfl
  ·rw[if_neg (by unfold bs;simp;omega)]
  ·rw[if_pos (by unfold bs;simp;omega)]
   refine ga fun u hu=>?_
   show (if bs dist k u=false then t v u else 0)=0
   split
   ·rename_i hn
    have h1:=of_decide_eq_false hn;have m:=b.pos v u;by_cases e:0<t v u
    ·have:=o v u a hu e
     omega
    ·omega
   ·rfl
  ·rw[if_pos (by unfold bs;simp;omega)]
   refine⟨di fun u _=>?_,cM fun u _=>?_⟩
   ·show 0<=(if bs dist k u=false then t v u else 0)
    have:=b.pos v u;split<;>omega
   ·show (if bs dist k u=false then t v u else 0)<=(if dist v<dist u then t v u else 0)
    have:=b.pos v u;by_cases e:bs dist k u=false
    ·have h1:=of_decide_eq_false e
     rw[if_pos e,if_pos (by omega)];omega
    ·rw[if_neg e];split<;>omega
 have G:0<=e9 n t dist B k:=by have:=nG (n:=n) (t:=t) dist i k;omega
 refine⟨fun v a=>?_,fun v a hk=>?_,fun v a=>?_,fun v a=>?_⟩
 ·have e:aN n t s' v=aN n t s v+T*aN n t (ind (bs dist k)) v:=by
   rw[kR (r:=fun u=>s u+T*ind (bs dist k) u) (fun u hu=>p u hu) a,j9,sx]
  rw[l v a,h.eq v a,e];omega
 ·rw[l v a]
  by_cases e:k<dist v
  ·rw[(g v a).1 e]
   have:=h.jK v a e;omega
  ·have q:dist v=k:=by omega
   rw[(g v a).2.1 q,Int.mul_neg];have h1:0<=T*sN (fun u=>if bs dist k u=true then t v u else 0) n:=Int.mul_nonneg j (di fun u _=>by
    show 0<=(if bs dist k u=true then t v u else 0)
    have:=b.pos v u;split<;>omega)
   by_cases C:d v<0
   ·have:=z v a q C
    omega
   ·omega
 ·rw[l v a]
  have H:=h.low v a;have hm:=Ay b dist i k;by_cases E:k<dist v
  ·rw[(g v a).1 E];omega
  by_cases e2:dist v=k
  ·rw[(g v a).2.1 e2,Int.mul_neg]
   have h1:0<=T*sN (fun u=>if bs dist k u=true then t v u else 0) n:=Int.mul_nonneg j (di fun u _=>by
    show 0<=(if bs dist k u=true then t v u else 0)
    have:=b.pos v u;split<;>omega)
   omega
  by_cases F:dist v<k-1
  ·rw[(g v a).2.2.1 F];omega
  have w:dist v=k-1:=by omega
  obtain⟨l1,l2⟩:=(g v a).2.2.2 w;have h1:=Aw b dist i k a w;have m:=Int.mul_le_mul_of_nonneg_left l2 j;have I:=Int.mul_le_mul_of_nonneg_right y (ll b dist v);rw[Int.mul_add] at h1;omega
 ·have h1:=h.s0 v a
  have m:=pP b dist i x k;rw[p v a];have e:(n- (k-1))*(B*512)=(n-k)*(B*512)+B*512:=by
   rw[show (n:Int)- (k-1)=(n-k)+1 by omega,Int.add_mul,Int.one_mul]
  rw[e];unfold ind;split
  ·rw[Int.mul_one];omega
  ·rw[Int.mul_zero];omega
end Go.Proofs.YtffdiakgjakngaaGreat.T
namespace Go.Proofs.YtffdiakgjakngaaGreat.P
open Go.RowKit Go.Proofs.YtffdiakgjakngaaGreatW.PrintWords Go.Proofs.YtffdiakgjakngaaGreatW.PrintLast Go.Proofs.YtffdiakgjakngaaGreatW.PrintMore
set_option linter.unusedVariables false
set_option linter.unusedSimpArgs false
set_option maxHeartbeats 8000000
set_option maxRecDepth 100000
theorem ti:(Tryz.prog.info? 205).map (fun i=>(i.zero,i.size,i.bytes))=some (some (.agg #[.int .i64 0,.int .i64 0]),2,16):=by kernel_rfl
def cA (E:List S83):Nat->Nat
 |0=>0
 |i+1=>cA E i+(ai E i).f2.toNat
def eF (E:List S83):Bool:=decide (E.length<=40)&&E.all fun x=>decide (1<=x.f2∧x.f2<=50)
theorem nH {E:List S83} (h:∀k,k<E.length->1<=(ai E k).f2∧(ai E k).f2<=50):∀i,i<=E.length->cA E i<=50*i
 |0,_=>by simp[cA]
 |i+1,hi=>by
  have h1:=nH h i (by omega);have a:=h i (by omega);simp only[cA];omega
theorem pQ {E:List S83} (h:eF E=true):E.length<=40∧∀k,k<E.length->1<=(ai E k).f2∧(ai E k).f2<=50:=by
 simp only[eF,Bool.and_eq_true,decide_eq_true_eq,List.all_eq_true] at h;refine⟨h.1,fun k hk=>?_⟩;have e:ai E k=E[k]:=by simp[ai,List.getD_eq_getElem?_getD,List.getElem?_eq_getElem hk]
 rw[e];exact h.2 _ (List.getElem_mem hk)
def ln.f (N:Int) (E:List S83):Option Int:=if eF E=true then some (cA E E.length:Nat) else none
theorem Az (N:Int) (A0:Option Addr) (c0:Nat) (E:List S83) (w:World) (S:Kd.C aK w A0 E.length E) (H:eF E=true):
  Calls Tryz.prog 130 #[.agg #[.int .i64 N,.slice A0 E.length c0]] w fun e w'=>∃A c,e= .returned (.slice A (cA E E.length) c)∧Below w.heap.size w w':=by
 have hu:=Tryz.underlying24;have aB:=Tryz.underlying83;obtain⟨hlen,hm⟩:=pQ H;have aQ:=fun i hi=>nH hm i hi
 have T:=Aside0.mk hm;have U:=Aside0.mk aQ;clear hm aQ H;obtain⟨i0,I,J,K,L⟩:=info_parts ti;have V:=Aside0.mk I;have W:=Aside0.mk J;have X:=Aside0.mk K;have Y:=Aside0.mk L;clear I J K L;go_enter Tryz.func130,Tryz.ntmps130
 go_wp2;have u:(w.alloc (.cells #[.int .i64 N,.slice A0 E.length c0] 24)).heap[w.heap.size]? =some (.cells #[.int .i64 N,.slice A0 E.length c0] 24 (0,0)):=by simpa using heap_alloc_new w _
 have y:=aq (Below.refl w.heap.size w) (.cells #[.int .i64 N,.slice A0 E.length c0] 24);have Z:w.heap.size<=w.heap.size:=Nat.le_refl _;generalize z:w.heap.size=gb at u Z⊢;rw[z] at y;generalize (w.alloc (.cells #[.int .i64 N,.slice A0 E.length c0] 24))=W0 at u y⊢;go_loopw [3,4] (fun v i wr=>∃(k:Nat) (xs:List Value),k<=E.length∧i= .int .i64 k∧Aside0 (wr.ownsRow gb 205 2 v (cA E k) xs)∧Aside0 (wr.heap[gb]? =some (.cells #[.int .i64 N,.slice A0 E.length c0] 24 (0,0)))∧Aside0 (Below gb w wr)) (fun _ i _=>E.length- (intOf i).toNat)
 case atStart=>exact⟨0,[],Nat.zero_le _,rfl,⟨qU _ _ _ _⟩,⟨u⟩,⟨y⟩⟩
 case round=>
  obtain⟨k,xs,hk,rfl,h,g,l⟩:=hrel;have B:wr.cell? ⟨gb,0,none⟩=some (.int .i64 N):=(ao g.out 0).trans rfl;have D:wr.cell? ⟨gb,1,none⟩=some (.slice A0 E.length c0):=(ao g.out 1).trans rfl;by_cases F:k<E.length
  ·obtain⟨M,rfl⟩:∃M:World,M=wr:=⟨_,rfl⟩
   have O:=T.out k F;have s:cA E (k+1)=cA E k+(ai E k).f2.toNat:=rfl;have aa:=U.out (k+1) (by omega);have P:=Lib.hid s;obtain⟨ad,rfl,n,o,q⟩:=eo S k (by omega) (by omega);rw[Int.toNat_natCast] at n o q;generalize ai E k=x at O n o q P s;obtain⟨a,b,m⟩:=x;simp only at O n o q;obtain⟨m,rfl⟩:=Int.eq_ofNat_of_zero_le (show 0<=m by omega);simp only[Int.toNat_natCast] at s;have aF:cA E k+m<=2000:=by omega
   have aL:(0:Int)<=(k:Int):=by omega
   have aO:(k:Int)<(E.length:Int):=by omega
   have ab:=Aside0.mk n;have am:=Aside0.mk o;have an:=Aside0.mk q;have G:(ad.add (k*3)).block<gb:=by rw[<-z];exact World.block_lt_of_cell? w _ n
   clear n o q s aa;go_wp2;go_loopw [3,5] (fun v i wr=>∃(j:Nat) (xs:List Value),j<=m∧i= .int .i64 j∧Aside0 (wr.ownsRow gb 205 2 v (cA E k+j) xs)∧Aside0 (wr.heap[gb]? =some (.cells #[.int .i64 N,.slice (some ad) E.length c0] 24 (0,0)))∧Aside0 (Below gb w wr)) (fun _ i _=>m- (intOf i).toNat)
   case atStart=>exact⟨0,xs,Nat.zero_le _,rfl,h,g,l⟩
   case round=>
    clear B D h g l;obtain⟨j,ys,hj,rfl,h,g,l⟩:=hrel;have B:wr.cell? ⟨gb,0,none⟩=some (.int .i64 N):=(ao g.out 0).trans rfl;have D:wr.cell? ⟨gb,1,none⟩=some (.slice (some ad) E.length c0):=(ao g.out 1).trans rfl;have n:=(l.out.cell (p:=ad.add (k*3)) G).trans ab.out;have o:=(l.out.cell (p:=⟨(ad.add (k*3)).block,(ad.add (k*3)).off+1,none⟩) G).trans am.out;have q:=(l.out.cell (p:=⟨(ad.add (k*3)).block,(ad.add (k*3)).off+2,none⟩) G).trans an.out;by_cases aS:j<m
    ·have Q:u3.ownBlock≠some gb:=fun e=>qY h.out g.out (by decide) e.symm
     have R:u3.ownBlock≠some (ad.add (k*3)).block:=fun e=>by have:=jv h.out _ e;omega
     have lg:gb<wr.heap.size:=ay g.out;have la:(ad.add (k*3)).block<wr.heap.size:=by omega
     go_wp2;go_region_held3 (fun w'=>w'.cell? ⟨gb,1,none⟩=some (.slice (some ad) E.length c0)∧w'.cell? (ad.add (k*3))=some (.int .i64 a)∧w'.cell? ⟨(ad.add (k*3)).block,(ad.add (k*3)).off+1,none⟩=some (.int .i64 b))
      (first
       |go_keep
       |(
         go_split_ands
         refine⟨?_,?_,?_⟩
         ·(rw[r.cell_far ⟨gb,1,none⟩ (by simp;omega) (Ne.symm Q)];assumption)
         ·(rw[r.cell_far (ad.add (k*3)) (by simp;omega) (Ne.symm R)];assumption)
         ·(rw[r.cell_far ⟨(ad.add (k*3)).block,(ad.add (k*3)).off+1,none⟩ (by simp;omega) (Ne.symm R)];assumption)))
      ((refine step_append_lies _ (by rfl) _ _ _ (by rfl) gb 205 i0 _ 2 16 Tryz.underlying156 V.out W.out X.out Y.out rfl (by omega) u3 (cA E k+j) ys (by rfl) ((h.out.alloc _).drew) ⟨wr.heap.size,0,none⟩ 1 1 [.int .i64 a,.int .i64 b] (by rfl) (by rfl) (World.news_of_block (cs:=#[.int .i64 a,.int .i64 b]) (t:=205) (fr:=(0,0)) (heap_alloc_new wr _)) (by simp[Value.oneCell']) (by omega) (by unfold maxLen;omega) (by omega) (by simp;omega) (wr.heap.size+1) (by simp) ?_;intro gg cap w1 ap r ar F))
     have n1:=Aside0.mk (cI (ff (aw g.out _)) r (Ne.symm Q));have n2:=Aside0.mk (Below.grown (bL (l.out.alloc (by omega) _)) r (by simp;omega) (jv h.out));clear r ar F n o q B D;go_wp2;go_roundw
     case rel=>exact⟨j+1,_,by omega,by go_num,⟨by rw[<-Nat.add_assoc];exact ap⟩,n1,n2⟩
     case measure=>(show m- ((j:Int)+1).toNat<m- ((j:Int)).toNat;omega)
    ·obtain rfl:j=m:=by omega
     go_wp2;exact⟨⟨k+1,ys,by omega,by go_num,⟨by rw[P.out,Int.toNat_natCast];exact h.out⟩,g,l⟩,(show E.length- ((k:Int)+1).toNat<E.length- ((k:Int)).toNat by omega)⟩
  ·obtain rfl:k=E.length:=by omega
   go_wp2;go_ret;obtain⟨A,c,rfl⟩:=qW h.out;exact⟨A,c,rfl,by rw[z];exact l.out⟩
theorem ln.calls (b:Int) (g:Option Addr) (i:Nat) (a:List (S83)) (r:Int) (w:World) (j:Kd.C aK w g a.length a) (m:a.length<=i) (h:ln.f b a=some r):
  Calls Tryz.prog 73 #[.agg #[.int .i64 b,.slice g a.length i]] w fun e w'=>e= .returned (.int .i64 r)∧Below w.heap.size w w':=by
 unfold ln.f at h;split at h
 case isFalse=>cases h
 rename_i k;injection h with h
 subst h;go_enter Tryz.func73,Tryz.ntmps73
 go_wp2_with (first|(go_at_call 130;refine(Az b g i a _ (Kd.br j _) k).mono ?_;rintro e w1 ⟨A,c,rfl,hb⟩;have l:=Aside0.mk (aU (aq (Below.refl w.heap.size w) _) hb);clear hb))
 go_ret;exact⟨rfl,l.out⟩
section
structure nI (cs:Array Value) (n:Int) (times:Nat->Nat->Int) (chips:Value) (burnt:Nat->Bool):Prop where
 size:cs.size=158
 n:cs[0]? =some (.int .i64 n)
 times:∀i j,i<12->j<12->cs[1+i*12+j]? =some (.int .i64 (times i j))
 chips:cs[145]? =some chips
 burnt:∀i,i<12->cs[146+i]? =some (.bool (burnt i))
def ct (w:World) (g:Nat) (n:Int) (times:Nat->Nat->Int) (chips:Value) (burnt:Nat->Bool):Prop:=
 ∃cs:Array Value,w.heap[g]? =some (.cells cs 252 (0,0))∧nI cs n times chips burnt
namespace ct
variable {w w':World} {g:Nat} {n:Int} {times:Nat->Nat->Int} {chips:Value} {burnt:Nat->Bool}
theorem lt (h:ct w g n times chips burnt):g<w.heap.size:=by
 obtain⟨cs,hb,_⟩:=h;exact(Array.getElem?_eq_some_iff.1 hb).1
theorem cellAt {cs:Array Value} {k:Nat} {v:Value} (hb:w.heap[g]? =some (.cells cs 252 (0,0))) (a:cs[k]? =some v):w.cell? ⟨g,k,none⟩=some v:=(ao hb k).trans a
theorem nJ (h:ct w g n times chips burnt):w.cell? ⟨g,0,none⟩=some (.int .i64 n):=by
 obtain⟨cs,hb,a⟩:=h;exact cellAt hb a.n
theorem mf (h:ct w g n times chips burnt) (i j:Nat) (hi:i<12) (a:j<12):w.cell? ⟨g,1+i*12+j,none⟩=some (.int .i64 (times i j)):=by
 obtain⟨cs,hb,b⟩:=h;exact cellAt hb (b.times i j hi a)
theorem AA (h:ct w g n times chips burnt):w.cell? ⟨g,145,none⟩=some chips:=by
 obtain⟨cs,hb,a⟩:=h;exact cellAt hb a.chips
theorem lq (h:ct w g n times chips burnt) (i:Nat) (hi:i<12):w.cell? ⟨g,146+i,none⟩=some (.bool (burnt i)):=by
 obtain⟨cs,hb,a⟩:=h;exact cellAt hb (a.burnt i hi)
theorem frozen (h:ct w g n times chips burnt) (k:Nat):w.frozen? ⟨g,k,none⟩=false:=by
 obtain⟨cs,hb,_⟩:=h;exact bq hb k
theorem below (h:ct w g n times chips burnt) (hb:Below w.heap.size w w'):ct w' g n times chips burnt:=by
 obtain⟨cs,a,b⟩:=h;exact⟨cs,aG a hb,b⟩
theorem drew (h:ct w g n times chips burnt):ct w.drew g n times chips burnt:=h
theorem eK (h:ct w g n times chips burnt) {α:Type} {d:Kd α} {e base:Nat} {ok:Nat->Prop} {v:Value} {xs:List α} (a:d.R e w base ok v xs) (b:∀q,q∈e::d.E->q≠252) (j:Nat) (u:Value):d.R e (w.setCell ⟨g,j,none⟩ u) base ok v xs:=by
 obtain⟨cs,hb,_⟩:=h;exact Kd.eK a hb b j u
theorem drewN (h:ct w g n times chips burnt) (m:Nat):ct (w.drewN m) g n times chips burnt:=h
theorem tj (h:ct w g n times chips burnt) (i:Nat) (hi:i<12) (b:Bool):ct (w.setCell ⟨g,146+i,none⟩ (.bool b)) g n times chips (fun j=>if j=i then b else burnt j):=by
 obtain⟨cs,l,a⟩:=h;refine⟨cs.setIfInBounds (146+i) (.bool b),by simpa using bE l (146+i) (.bool b),?_,?_,?_,?_,?_⟩
 ·simp[a.size]
 ·rw[Array.getElem?_setIfInBounds_ne (by omega)];exact a.n
 ·intro k j hk m
  rw[Array.getElem?_setIfInBounds_ne (by omega)];exact a.times k j hk m
 ·rw[Array.getElem?_setIfInBounds_ne (by omega)];exact a.chips
 ·intro k hk
  have o:=a.size;by_cases e:k=i
  ·subst e
   rw[Array.getElem?_setIfInBounds_self_of_lt (by omega)];simp
  ·rw[Array.getElem?_setIfInBounds_ne (by omega),if_neg e];exact a.burnt k hk
theorem mg (h:ct w g n times chips burnt) (i j:Nat) (hi:i<12) (q:j<12) (x:Int):ct (w.setCell ⟨g,1+i*12+j,none⟩ (.int .i64 x)) g n (fun a b=>if a=i∧b=j then x else times a b) chips burnt:=by
 obtain⟨cs,o,m⟩:=h;refine⟨cs.setIfInBounds (1+i*12+j) (.int .i64 x),by simpa using bE o (1+i*12+j) (.int .i64 x),?_,?_,?_,?_,?_⟩
 ·simp[m.size]
 ·rw[Array.getElem?_setIfInBounds_ne (by omega)];exact m.n
 ·intro k l hk p
  have r:=m.size;by_cases e:k=i∧l=j
  ·obtain⟨rfl,rfl⟩:=e
   rw[Array.getElem?_setIfInBounds_self_of_lt (by omega)];simp
  ·rw[Array.getElem?_setIfInBounds_ne (by omega),if_neg e];exact m.times k l hk p
 ·rw[Array.getElem?_setIfInBounds_ne (by omega)];exact m.chips
 ·intro k hk
  rw[Array.getElem?_setIfInBounds_ne (by omega)];exact m.burnt k hk
end ct
theorem AB {k:IntKind} {a b:Int} (h:a=b):Ending.returned (.int k a)= .returned (.int k b):=by rw[h]
def dr (times:Nat->Nat->Int) (burnt:Nat->Bool) (v:Nat):Nat->Int
 |0=>0
 |u+1=>dr times burnt v u+(if burnt u then times v u else 0)
theorem pR {times:Nat->Nat->Int} {burnt:Nat->Bool} (h:∀i j,0<=times i j∧times i j<=50) (v:Nat):∀u:Nat,0<=dr times burnt v u∧dr times burnt v u<=50*u
 |0=>by simp[dr]
 |u+1=>by
  have h1:=pR h v u (burnt:=burnt);have a:=h v u;simp only[dr];split<;>omega
theorem AD (g:Nat) (n v:Nat) (times:Nat->Nat->Int) (chips:Value) (burnt:Nat->Bool) (w:World) (hn:n<=12) (p:v<12) (h:∀i j,0<=times i j∧times i j<=50) (hw:ct w g n times chips burnt):
  Calls Tryz.prog 227 #[.pointer (some ⟨g,0,none⟩),.int .i64 v] w fun e w'=>e= .returned (.int .i64 (dr times burnt v n))∧w=w':=by
 have q:=hw.nJ;go_enter Tryz.func227,Tryz.ntmps227
 go_wp2;go_loop [5,6,11] (fun s _ u=>∃k:Nat,k<=n∧u= .int .i64 k∧s= .int .i64 (dr times burnt v k)) (fun _ _ u=>n- (intOf u).toNat)
 case atStart=>exact⟨0,Nat.zero_le _,rfl,rfl⟩
 case round=>
  obtain⟨k,hk,rfl,rfl⟩:=hrel;have hb:=pR (burnt:=burnt) h v k;by_cases r:k<n
  ·have l:=hw.lq k (by omega)
   have x:=hw.mf v k p (by omega);have y:=h v k;have m:dr times burnt v (k+1)=dr times burnt v k+(if burnt k then times v k else 0):=rfl;have o:=Lib.hid m;clear m;cases a:burnt k with
   |true=>
    rw[a] at l;have b:=Lib.hid a;clear a;go_wp2;go_round
    case rel=>exact⟨k+1,by omega,by go_num,by rw[o.out,b.out];rfl⟩
    case measure=>simp[intOf];omega
   |false=>
    rw[a] at l;have b:=Lib.hid a;clear a;go_wp2;go_round
    case rel=>exact⟨k+1,by omega,by go_num,by rw[o.out,b.out];simp⟩
    case measure=>simp[intOf];omega
  ·go_wp2
   go_ret;exact⟨AB (by rw[show k=n from by omega]),rfl⟩
theorem AE (g:Nat) (n v:Nat) (times:Nat->Nat->Int) (chips:Value) (burnt:Nat->Bool) (w:World) (a:v<12) (hw:ct w g n times chips burnt) (hb:burnt v=true):
  Calls Tryz.prog 226 #[.pointer (some ⟨g,0,none⟩),.int .i64 v] w fun e w'=>e= .returned (.bool false)∧az w w':=by
 have b:=hw.lq v a;rw[hb] at b;clear hb;have h:(0:Int)<=(v:Int):=by omega
 have i:(v:Int)<12:=by omega
 go_enter Tryz.func226,Tryz.ntmps226
 go_wp2_with fail
 go_quiet (fail)
 go_wp2;go_ret;exact⟨rfl,by repeat(first|exact az.refl _|apply az.step)⟩
theorem AF (g:Nat) (n v:Nat) (times:Nat->Nat->Int) (A:Option Addr) (c:Nat) (l:List Int) (burnt:Nat->Bool) (w:World) (hn:n<=12) (a:v<12) (p:v<l.length) (k:∀i j,0<=times i j∧times i j<=50) (hw:ct w g n times (.slice A l.length c) burnt) (b:Kd.C (Kd.int .i64) w A l.length l) (hb:burnt v=false):
  Calls Tryz.prog 226 #[.pointer (some ⟨g,0,none⟩),.int .i64 v] w fun e w'=>e= .returned (.bool (decide (rd l v<dr times burnt v n)))∧az w w':=by
 have m:=hw.lq v a;have q:=hw.AA;rw[hb] at m;clear hb;have r:=b.2.1;obtain⟨ad,rfl,o⟩:=Kd.bG b v (by omega) (by omega);rw[Int.toNat_natCast] at o;have s:(0:Int)<=(v:Int):=by omega
 have u:(v:Int)<(l.length:Int):=by omega
 have x:(v:Int)<12:=by omega
 go_enter Tryz.func226,Tryz.ntmps226
 go_wp2_with fail
 go_quiet ((go_at_call 227;refine Calls.quiet_of_same ((AD g n v times _ burnt (w.drewN _) hn a k (hw.drewN _)).mono (fun e w' h=>⟨h.1,h.2.symm⟩))))
 go_wp2;go_ret;exact⟨rfl,by repeat(first|exact az.refl _|apply az.step)⟩
def gu (burnt:Nat->Bool):Nat->List Int
 |0=>[]
 |u+1=>gu burnt u++(if burnt u then[] else[(u:Int)])
theorem tk (burnt:Nat->Bool):∀u,(gu burnt u).length<=u
 |0=>by simp[gu]
 |u+1=>by
  have:=tk burnt u;simp only[gu,List.length_append];split<;>simp<;>omega
theorem AG (g:Nat) (n:Nat) (times:Nat->Nat->Int) (chips:Value) (burnt:Nat->Bool) (w:World) (hn:n<=12) (hw:ct w g n times chips burnt):
  Calls Tryz.prog 222 #[.pointer (some ⟨g,0,none⟩)] w fun e w'=>∃l:Value,e= .returned l∧Kd.R (Kd.int .i64) 3 w' w.heap.size (fun _=>True) l (gu burnt n)∧Below w.heap.size w w':=by
 have r:=hw.nJ;go_enter Tryz.func222,Tryz.ntmps222
 go_wp2;go_loopw [3,4,9] (fun s _ u wr=>∃k:Nat,k<=n∧u= .int .i64 k∧Aside0 (Kd.R (Kd.int .i64) 3 wr w.heap.size (fun _=>True) s (gu burnt k))∧Aside0 (Below w.heap.size w wr)) (fun _ _ u _=>n- (intOf u).toNat)
 case atStart=>exact⟨0,Nat.zero_le _,rfl,⟨Kd.cV _ _ _ _ _⟩,⟨Below.refl _ _⟩⟩
 case round=>
  obtain⟨k,hk,rfl,h,b⟩:=hrel;have hlen:=tk burnt k;by_cases y:k<n
  ·have i:=hw.below b.out
   have m:=i.lq k (by omega);have r:=i.nJ;clear i;have o:gu burnt (k+1)=gu burnt k++(if burnt k then[] else[(k:Int)]):=rfl;have p:=Lib.hid o;clear o;cases a:burnt k with
   |true=>
    rw[a] at m;have j:=Lib.hid a;clear a;go_wp2;go_roundw
    case rel=>exact⟨k+1,by omega,by go_num,⟨by rw[p.out,j.out];simpa using h.out⟩,b⟩
    case measure=>simp[intOf];omega
   |false=>
    rw[a] at m;have j:=Lib.hid a;clear a;go_wp2_with (at_builtin;refine Kd.lI (Kd.int .i64) (w0:=w) w.heap.size rfl (.tmp 19) (.tmp 21) 25 3 (.int .i64 0) 8 rfl Tryz.underlying25 fY rfl (by decide) (by omega) _ (gu burnt k) (k:Int) [.int .i64 k] (fun _=>True) (fun _=>False) rfl rfl rfl (fun _ hk=>hk.elim) (fun _ _=>trivial) h.out b.out b.out.size (by omega) ?_;intro v1 w1 q hb _ _;have v:=Aside0.mk q;have x:=Aside0.mk hb;clear q hb)
    go_roundw
    case rel=>exact⟨k+1,by omega,by go_num,⟨by rw[p.out,j.out];exact v.out⟩,x⟩
    case measure=>simp[intOf];omega
  ·go_wp2
   go_ret;obtain rfl:k=n:=by omega
   exact⟨_,rfl,h.out,b.out⟩
end
end Go.Proofs.YtffdiakgjakngaaGreat.P

