/- Canons answers true whatever the input (text 6 of 7): own walks and plain laws; no conditions. -/
import Derived.Shelf.SlSortCmp.NoneTotal
import Derived.Test.YtffdiakgjakngaaGreatCanons5
namespace Go.Proofs.YtffdiakgjakngaaGreat.P
open Go.RowKit Go.Proofs.YtffdiakgjakngaaGreatW.PrintWords Go.Proofs.YtffdiakgjakngaaGreatW.PrintLast Go.Proofs.YtffdiakgjakngaaGreatW.PrintMore
set_option linter.unusedVariables false
set_option linter.unusedSimpArgs false
set_option maxHeartbeats 8000000
set_option maxRecDepth 100000
mutual
def bK.l0:Nat->List Int->List Bool->Int->Int->List (S83)->Option (Bool)
 |0,_,_,_,_,_=>none
 |k+1,x1,b,e,g,h=>if e<10000000 then((eD.f k x1).bind fun a=>(if a<0 then(some true) else((eE.f k b).bind fun i=>(if i=true then(some false) else(if 0<=a then(if a<(b.length:Int) then(bK.l1 k x1 (b.set (a:Int).toNat true) e a 0 g h) else(none)) else(none)))))) else(some false)
def bK.l1:Nat->List Int->List Bool->Int->Int->Int->Int->List (S83)->Option (Bool)
 |0,_,_,_,_,_,_,_=>none
 |k+1,x1,h,i,b,a,e,g=>if a<e then(if a=b then(bK.l1 k x1 h i b (wrap64 (a+1)) e g) else(if 0<=a then(if a<(x1.length:Int) then((di.f k e g a b).bind fun l=>((some (x1.set (a:Int).toNat (wrap64 ((rd x1 a)-l)):List Int)).bind fun j=>(if 0<=b then(if b<(x1.length:Int) then((di.f k e g a b).bind fun m=>(bK.l1 k (j.set (b:Int).toNat (wrap64 ((rd j b)+m))) h i b (wrap64 (a+1)) e g)) else(none)) else(none)))) else(none)) else(none))) else(bK.l0 k x1 h (wrap64 (i+1)) e g)
end
def bK.f (k:Nat) (a:Int) (e:List (S83)) (l1:List Int):Option (Bool):=(fs.f k l1).bind fun g=>(if g<0 then(some false) else((some (([]:List Int):List Int)).bind fun b=>(if b.length+l1.length<17592186044416 then(if 0<=a then(if(a:Int).toNat<=281474976710656 then(bK.l0 k (b++l1) (List.replicate (a:Int).toNat false) 0 a e) else(none)) else(none)) else(none))))
def bK.wC:Bool×List (List Nat×List Nat):=(true,[([],[]),([],[]),([0,1],[0,1]),([2],[2]),([],[]),([],[]),([],[]),([4,5,6],[4,5,6]),([3,7],[3,7]),([0,1,0,1,2,3,4,5,6,7,8],[0,1]),([9,8,7,0,1,2,3,4,5,6,7,8],[8,9])])
def bK.EI:List Nat:=[0,0,3,7,0,0,0,112,255,511,1023]
theorem bK.EJ:dE .any (opsOf Tryz.f92 18)=bK.wC:=by kernel_rfl
theorem bK.EK:jZ bK.wC.2 bK.EI=true:=by kernel_rfl
def bK.wD:Bool×List (List Nat×List Nat):=(true,[([],[]),([],[]),([0,1],[0,1]),([2],[2]),([],[]),([],[]),([],[]),([4,5,6],[4,5,6]),([3,7],[3,7]),([0,1,0,1,2,3,4,5,6,7,8],[0,1]),([9,8,7,0,1,2,3,4,5,6,7,8],[8,9])])
def bK.EL:List Nat:=[0,0,3,7,0,0,0,112,255,511,1023]
theorem bK.EM:dE .any (opsOf Tryz.f92 19)=bK.wD:=by kernel_rfl
theorem bK.EN:jZ bK.wD.2 bK.EL=true:=by kernel_rfl
theorem bK.calls (k:Nat) (q:Int) (E:Option Addr) (F:Nat) (s:List (S83)) (A1:Option Addr) (c1:Nat) (l1:List Int) (r:Bool) (w:World) (d6:Kd.C aT w E s.length s) (d7:s.length<=F) (d8:Kd.C (Kd.int .i64) w A1 l1.length l1) (d9:l1.length<=c1) (h:bK.f k q s l1=some r):
  Calls Tryz.prog 92 #[.agg #[.int .i64 q,.slice E s.length F],.slice A1 l1.length c1] w fun e w'=>e= .returned (.bool r)/\Below w.heap.size w w':=by
 have hj:=Tryz.underlying24;have ea:=zA d6;have eb:=zA d7;clear d6 d7;have cb:=zA d8;have ed:=zA d9;clear d8 d9;have o:=zA (ao w.heap.size w);unfold bK.f at h;have H:=h;clear h;obtain⟨cc,A3,H⟩:=zo H;by_cases c4:cc<0
 ·rw[if_pos c4] at H
  have ek:=az c4;clear c4;obtain rfl:=aH H;go_enter Tryz.func92,Tryz.ntmps92
  go_wp2_with (first|((with_reducible refine aJ (N:=2) rfl ?_);refine zX 2 #[.int .i64 q,.slice E s.length F] 24 ?_;intro O hg w5 a1 hb;have a:=zA (a1);have fr:=zG o hg;have cd:=zG o hg;replace o:=zS o hb;clear hb a1 hg)|((with_reducible refine aC (f:=22) rfl ?_);refine zL (some 10) Tryz.func22 #[.slice A1 l1.length c1] ?_;(with_reducible refine(fs.calls k _ _ l1 cc _ ?af ?ah A3.out).mono ?_);(case af=>exact Kd.au cb.out zB);(case ah=>exact ed.out);rintro e w' ⟨rfl,⟨nd,rfl⟩⟩;refine⟨_,rfl,?_⟩))
  go_ret;exact⟨zE,zB⟩
 ·rw[if_neg c4] at H
  have ek:=aZ c4;clear c4;obtain⟨a2,ce⟩:∃G:List Int,G=(([]:List Int)):=⟨_,rfl⟩;replace H:(if a2.length+l1.length<17592186044416 then(if 0<=q then(if(q:Int).toNat<=281474976710656 then(bK.l0 k (a2++l1) (List.replicate (q:Int).toNat false) 0 q s) else(none)) else(none)) else(none))=some r:=zh ce H;have el:=zA ce;clear ce;by_cases c6:a2.length+l1.length<17592186044416
  ·rw[if_pos c6] at H
   have ft:=zA c6;clear c6;obtain⟨cf,ch⟩:∃G:List Int,G=(a2++l1):=⟨_,rfl⟩;replace H:(if 0<=q then(if(q:Int).toNat<=281474976710656 then(bK.l0 k cf (List.replicate (q:Int).toNat false) 0 q s) else(none)) else(none))=some r:=zh ch H;have fv:=zA ch;clear ch;by_cases c7:0<=q
   ·rw[if_pos c7] at H
    have f0:=eq_true c7;have f1:=az c7;clear c7;by_cases c8:(q:Int).toNat<=281474976710656
    ·rw[if_pos c8] at H
     have f2:=eq_true c8;have f3:=az c8;clear c8;obtain⟨em,ci⟩:∃G:List Bool,G=(List.replicate (q:Int).toNat false):=⟨_,rfl⟩;replace H:(bK.l0 k cf em 0 q s)=some r:=zh ci H;have er:=zA ci;clear ci;have I:=zA H;clear H;go_enter Tryz.func92,Tryz.ntmps92
     go_wp2_with (first|((with_reducible refine aJ (N:=2) rfl ?_);refine zX 2 #[.int .i64 q,.slice E s.length F] 24 ?_;intro O hg w9 a1 hb;have a:=zA (a1);have fr:=zG o hg;have cd:=zG o hg;replace o:=zS o hb;clear hb a1 hg)|((with_reducible refine aC (f:=22) rfl ?_);refine zL (some 10) Tryz.func22 #[.slice A1 l1.length c1] ?_;(with_reducible refine(fs.calls k _ _ l1 cc _ ?af ?ah A3.out).mono ?_);(case af=>exact Kd.au cb.out zB);(case ah=>exact ed.out);rintro e w' ⟨rfl,⟨nd,rfl⟩⟩;refine⟨_,rfl,?_⟩)|((with_reducible refine aJ (N:=12) rfl ?_);refine Kd.eO (Kd.int .i64) _ 3 ?hg (N:=12) ?hd (xs:=([]:List Int)) (inner:=[]) (ok:=fun _=>True) (okp:=fun _=>True) ?hr ?hp (fun _ hk=>hk) trivial (ao _ _) (aI _) (by simp) ?_;(case hd=>rfl);(case hg=>rfl);(case hr=>first|(go_simp;done)|(go_simp;rfl));(case hp=>exact(aU.none _ _));intro f4 hq a5 hb cj ck;clear cj ck;(first|rw[<-el.out] at a5|(simp only[Int.reduceToNat] at a5;rw[<-el.out] at a5));have cl:=zA (Kd.ba a5 (bp zB));replace a:=zb a hb;replace o:=zS o hb;clear hb a5)|((with_reducible refine nJ (b:=.append) (xs:=#[.tmp 12,.tmp 13]) rfl ?_);at_builtin;refine Kd.xT (Kd.int .i64) (w0:=w) w.heap.size rfl (.tmp 12) (.tmp 13) 25 3 (.int .i64 0) 8 rfl Tryz.underlying25 fW rfl (by decide) (by omega) f4 a2 l1 _ _ _ (fun _=>True) (fun _=>False) rfl rfl ?aO ?aR (fun _ _ h=>h) (fun _ h=>h.elim) ?aF ?aB ?aS ?aL ?_;(case aR=>exact Kd.au cb.out zB);(case aB=>exact zB);(case aF=>exact(fun _ _=>trivial));(case aO=>exact(zR cl));(case aS=>exact(bp zB));(case aL=>have:=ft.out;omega);intro f5 hs ho hb hg f6;rw[<-fv.out] at ho;replace a:=zA (cR (zK a) hg (Kd.db cl.out a.out (by decide)));replace o:=zA (hb);have co:=zA (ho);clear cl;clear ho hb hg f6;obtain⟨f7,f8,f9,f'⟩:=ax a)|((with_reducible refine aJ (N:=17) rfl ?_);refine Kd.jn Kd.bool _ 4 rfl (N:=17) rfl 43 _ _ rfl q rfl rfl Tryz.underlying43 (.bool false) 1 lH rfl (by decide) (by omega) false (ok:=fun _=>True) (okp:=fun _=>True) rfl (fun _ hk=>hk) trivial (aw ‹_›) (Nat.le_trans (Nat.mul_le_mul_right _ (aw ‹_› :q.toNat<=281474976710656)) (by omega)) (ao _ _) (aI _) ?_;intro es ht a9 hb cj ck;clear cj ck;(first|rw[<-er.out] at a9|(simp only[Int.reduceToNat] at a9;rw[<-er.out] at a9));replace co:=br co hb;have gb:=zA (Kd.ba a9 (bp zB));replace a:=zb a hb;replace o:=zS o hb;clear hb a9))
     go_loopg [6] k (fun kq v6 w'=>∃(y:List Int) (z:List Bool) (P:Int),v6= .int .i64 P/\Aside0 (bK.l0 kq y z P q s=some r)/\Aside0 (kq<=k)/\Aside0 (Kd.R (Kd.int .i64) 3 w' w.heap.size (fun _=>True) f5 y)/\Aside0 (Kd.R Kd.bool 4 w' w.heap.size (fun _=>True) es z)/\Aside0 (w'.heap[O]? =some (.cells #[.int .i64 q,(.slice E s.length F)] 24 (0,0)))/\Aside0 (Below w.heap.size w w'))
     case atStart=>exact⟨(cf),(em),(0),zT,I,⟨aI _⟩,⟨zR co⟩,⟨zR gb⟩,⟨zK a⟩,⟨zB⟩⟩
     case round=>
      clear I;clear ek f0 f1 f2 f3 f7 f8 f9 f';obtain⟨y,z,P,rfl,HA,ak,g,l,a,o⟩:=hrel;cases gk with
      |zero=>exact absurd HA.out (by simp[bK.l0])
      |succ k1=>
       have H:=HA.out;clear HA;simp only[bK.l0] at H;by_cases am:P<10000000
       ·rw[if_pos am] at H
        have ev:=az am;clear am;obtain⟨j,cq,H⟩:=zo H;by_cases an:j<0
        ·rw[if_pos an] at H
         have ew:=az an;clear an;obtain rfl:=aH H;obtain⟨gc,gd,ge⟩:=Kd.bb g.out;subst ge;go_wp2_with (first|((with_reducible refine aC (f:=145) rfl ?_);refine zL (some 23) Tryz.func145 #[.slice gc y.length gd] ?_;(with_reducible refine(eD.calls k1 _ _ y j _ ?af ?ah cq.out).mono ?_);(case af=>exact zC (Kd.aD g.out).2.2);(case ah=>exact(Kd.aD g.out).2.1);rintro e w' ⟨rfl,⟨nd,rfl⟩⟩;refine⟨_,rfl,?_⟩))
         go_ret;exact⟨zE,zB⟩
        ·rw[if_neg an] at H
         have ew:=aZ an;clear an;obtain⟨gf,ex,H⟩:=zo H;by_cases bx:gf=true
         ·subst bx
          replace H:=zi H;obtain rfl:=aH H;obtain⟨gg,gi,gl⟩:=Kd.bb g.out;subst gl;go_wp2_with (first|((with_reducible refine aC (f:=145) rfl ?_);refine zL (some 23) Tryz.func145 #[.slice gg y.length gi] ?_;(with_reducible refine(eD.calls k1 _ _ y j _ ?af ?ah cq.out).mono ?_);(case af=>exact zC (Kd.aD g.out).2.2);(case ah=>exact(Kd.aD g.out).2.1);rintro e w' ⟨rfl,⟨nd,rfl⟩⟩;refine⟨_,rfl,?_⟩;obtain⟨gm,gn,go⟩:=Kd.bb l.out;subst go)|((with_reducible refine aC (f:=146) rfl ?_);refine zL (some 27) Tryz.func146 #[.slice gm z.length gn] ?_;(with_reducible refine(eE.calls k1 _ _ z true _ ?af ?ah ex.out).mono ?_);(case af=>exact zC (Kd.aD l.out).2.2);(case ah=>exact(Kd.aD l.out).2.1);rintro e w' ⟨rfl,⟨nd,rfl⟩⟩;refine⟨_,rfl,?_⟩))
          go_ret;exact⟨zE,zB⟩
         ·replace bx:=Bool.eq_false_iff.mpr bx
          subst bx;replace H:=zj H;by_cases b0:0<=j
          ·rw[if_pos b0] at H
           have gp:=az b0;clear b0;by_cases b1:j<(z.length:Int)
           ·rw[if_pos b1] at H
            have gq:=az b1;clear b1;obtain⟨Q,cr⟩:∃G:List Bool,G=(z.set (j:Int).toNat true):=⟨_,rfl⟩;replace H:(bK.l1 k1 y Q P j 0 q s)=some r:=zh cr H;have gr:=zA cr;clear cr;have I:=zA H;clear H;obtain⟨b2,bf,gs⟩:=Kd.bb g.out;subst gs;go_wp2_with (first|((with_reducible refine aC (f:=145) rfl ?_);refine zL (some 23) Tryz.func145 #[.slice b2 y.length bf] ?_;(with_reducible refine(eD.calls k1 _ _ y j _ ?af ?ah cq.out).mono ?_);(case af=>exact zC (Kd.aD g.out).2.2);(case ah=>exact(Kd.aD g.out).2.1);rintro e w' ⟨rfl,⟨nd,rfl⟩⟩;refine⟨_,rfl,?_⟩;(try(rw[sI wr];generalize J:World.drewN wr _=wr;have T:Aside0 (Kd.R (Kd.int .i64) 3 wr w.heap.size (fun _=>True) (.slice b2 y.length bf) y):=⟨by rw[<-J];exact(zR g)⟩;have U:Aside0 (Kd.R Kd.bool 4 wr w.heap.size (fun _=>True) es z):=⟨by rw[<-J];exact(zR l)⟩;have V:Aside0 (wr.heap[O]? =some (.cells #[.int .i64 q,.slice E s.length F] 24 (0,0))):=⟨by rw[<-J];exact(zK a)⟩;have W:Aside0 (Below w.heap.size w wr):=⟨by rw[<-J];exact zB⟩;clear g l a o J;have g:=T;have l:=U;have a:=V;have o:=W;clear T U V W));obtain⟨ey,ap,gt⟩:=Kd.bb l.out;subst gt)|((with_reducible refine aC (f:=146) rfl ?_);refine zL (some 27) Tryz.func146 #[.slice ey z.length ap] ?_;(with_reducible refine(eE.calls k1 _ _ z false _ ?af ?ah ex.out).mono ?_);(case af=>exact zC (Kd.aD l.out).2.2);(case ah=>exact(Kd.aD l.out).2.1);rintro e w' ⟨rfl,⟨nd,rfl⟩⟩;refine⟨_,rfl,?_⟩;(try(rw[sI wr];generalize J:World.drewN wr _=wr;have T:Aside0 (Kd.R (Kd.int .i64) 3 wr w.heap.size (fun _=>True) (.slice b2 y.length bf) y):=⟨by rw[<-J];exact(zR g)⟩;have U:Aside0 (Kd.R Kd.bool 4 wr w.heap.size (fun _=>True) (.slice ey z.length ap) z):=⟨by rw[<-J];exact(zR l)⟩;have V:Aside0 (wr.heap[O]? =some (.cells #[.int .i64 q,.slice E s.length F] 24 (0,0))):=⟨by rw[<-J];exact(zK a)⟩;have W:Aside0 (Below w.heap.size w wr):=⟨by rw[<-J];exact zB⟩;clear g l a o J;have g:=T;have l:=U;have a:=V;have o:=W;clear T U V W));have b3:0<=(j:Int):=aw ‹_›;have b4:(j:Int)<((z.length:Int):Int):=aw ‹_›;obtain⟨ar,hv,e0,e1,gx,hx,e2⟩:=Kd.eV l.out (by omega);(first|cases e0|(injection e0 with X cs cv;(first|subst X|(injection X with X;subst X));subst cv;clear cs));have g0:=zA e1;have hy:=zA e2;clear e1 gx e2;obtain⟨g1,hz⟩:=Kd.bP false l.out (j:Int) b3 b4;replace b3:=eq_true b3;replace b4:=eq_true b4;obtain⟨hA,hB⟩:=Kd.bP false l.out (j:Int) (aw ‹_›) (aw ‹_›);have cx:=Kd.de l.out (j:Int) true)|((with_reducible refine jq (t:=4) (p:=30) rfl ?_);refine jo (t:=4) (p:=30) (v:=?Ju) (w1:=(wr.setCell ⟨ar,(j:Int).toNat,none⟩ (.bool true))) ?hg ?ho ?hn ?hr ?_;(case ho=>rfl);(case hg=>rfl);(case hn=>rfl);(case hr=>first|(go_simp;done)|(go_simp;rfl));intro c0 hw;have hg:wr.grownBy c0 (some ar):=(by rw[hw];exact cx.2);have e3:Kd.R Kd.bool 4 c0 w.heap.size (fun _=>True) (.slice (some ⟨ar,0,none⟩) z.length ap) Q:=(by rw[hw,gr.out];exact cx.1);clear cx;replace g:=zA (Kd.pr (v:=(.slice (some ⟨ar,0,none⟩) z.length ap)) (zR g) (Kd.fT l.out) (by decide) hg);replace a:=zA (cR (zK a) hg (Kd.db l.out a.out (by decide)));replace l:=zA (e3);replace o:=zA ((by rw[hw];exact dx (o.out) g0.out:Below w.heap.size w c0));clear hg hw e3))
            go_loopg [8] k1 (fun kq v8 w'=>∃(u:List Int) (m:Int),v8= .int .i64 m/\Aside0 (bK.l1 kq u Q P j m q s=some r)/\Aside0 (kq<=k1)/\Aside0 (Kd.R (Kd.int .i64) 3 w' w.heap.size (fun _=>True) (.slice b2 y.length bf) u)/\Aside0 (Kd.R Kd.bool 4 w' w.heap.size (fun _=>True) (.slice (some ⟨ar,0,none⟩) z.length ap) Q)/\Aside0 (w'.heap[O]? =some (.cells #[.int .i64 q,(.slice E s.length F)] 24 (0,0)))/\Aside0 (Below w.heap.size w w'))
            case atStart=>exact⟨(y),(0),zT,I,⟨aI _⟩,⟨zR g⟩,⟨zR l⟩,⟨zK a⟩,⟨zB⟩⟩
            case round=>
             clear I;clear ev ew gp gq b3 b4 g1;obtain⟨u,m,rfl,HA,av,g,l,a,o⟩:=hrel;have B:=(Kd.aD g.out).1;rw[B] at g
             (try simp only[B])
             (try simp only[B] at a)
             (try simp only[B] at l)
             have D:=(Kd.aD l.out).1;rw[D] at l
             (try simp only[D])
             (try simp only[D] at a)
             (try simp only[D] at g)
             cases gk with
             |zero=>exact absurd HA.out (by simp[bK.l1])
             |succ k2=>
              have H:=HA.out;clear HA;simp only[bK.l1] at H;by_cases aP:m<q
              ·rw[if_pos aP] at H
               have g3:=az aP;clear aP;by_cases bg:m=j
               ·rw[if_pos bg] at H
                obtain⟨g4,g5⟩:=bF bg;clear bg;have I:=zA H;clear H;obtain⟨hC,hD,hE,hG⟩:=ax a;go_wp2
                (try simp only[<-B,<-D])
                go_roundg k2
                case measure=>have:=ak.out;have:=av.out;omega
                case rel=>exact⟨(u),(wrap64 (m+1)),zT,I,⟨by have:=ak.out;have:=av.out;omega⟩,⟨by(try simp only[B]);(try simp only[D]);(with_reducible repeat(first|apply Kd.aK|apply Kd.bq|apply Kd.bd));exact g.out⟩,⟨by(try simp only[B]);(try simp only[D]);(with_reducible repeat(first|apply Kd.aK|apply Kd.bq|apply Kd.bd));exact l.out⟩,⟨by(try simp only[B]);(try simp only[D]);exact zK a⟩,⟨zB⟩⟩
               ·rw[if_neg bg] at H
                obtain⟨g4,g5⟩:=bI bg;by_cases b5:0<=m
                ·rw[if_pos b5] at H
                 have hH:=az b5;clear b5;by_cases b6:m<(u.length:Int)
                 ·rw[if_pos b6] at H
                  have hI:=az b6;clear b6;obtain⟨Y,g6,H⟩:=zo H;obtain⟨Z,c2⟩:∃G:List Int,G=(u.set (m:Int).toNat (wrap64 ((rd u m)-Y))):=⟨_,rfl⟩;replace H:(if 0<=j then(if j<(u.length:Int) then((di.f k2 q s m j).bind fun a0=>(bK.l1 k2 (Z.set (j:Int).toNat (wrap64 ((rd Z j)+a0))) Q P j (wrap64 (m+1)) q s)) else(none)) else(none))=some r:=zh c2 H;have e4:=zA c2;clear c2;by_cases b_:0<=j
                  ·rw[if_pos b_] at H
                   have hJ:=az b_;clear b_;by_cases b':j<(u.length:Int)
                   ·rw[if_pos b'] at H
                    have hL:=az b';clear b';obtain⟨a0,g7,H⟩:=zo H;obtain⟨e5,c3⟩:∃G:List Int,G=(Z.set (j:Int).toNat (wrap64 ((rd Z j)+a0))):=⟨_,rfl⟩;replace H:(bK.l1 k2 e5 Q P j (wrap64 (m+1)) q s)=some r:=zh c3 H;have g8:=zA c3;clear c3;have I:=zA H;clear H;obtain⟨hM,hN,hO,hP⟩:=ax a;try go_wp2
                    replace g:=zA (Kd.bd g.out);replace l:=zA (Kd.bd l.out);replace a:=zA (fw a.out);replace o:=zA (bV o.out);have c5:0<=(m:Int):=aw ‹_›;have c9:m<(u.length:Int):=aw ‹_›;obtain⟨g9,g',c'⟩:=Kd.bL (Kd.aD g.out).2.2 m c5 c9;cases g';replace c5:=eq_true c5;replace c9:=eq_true c9;refine nz (n:=11) (S:=fun w'=>w'.cell? ⟨O,0,none⟩=some (.int .i64 q)/\w'.cell? ⟨O,1,none⟩=some (.slice E s.length F)/\w'.cell? (g9.add (m).toNat)=some (.int .i64 (rd u m))) (ds:=[10]) #[false,false,false,false,false,false,false,false,false,false,false] (by kernel_rfl) rfl rfl ⟨(al a.out 0).trans rfl,(al a.out 1).trans rfl,c'⟩ (fun hHeld=>?_);refine nS bK.EJ bK.EK (fun x bi=>?_);generalize wr.drew=hQ at g l a o c' hHeld⊢;refine zs 11 0 0 (by kernel_rfl) ?_;iterate 3 (refine zn (v:=?_) (a':=?_) (by simp only[Nat.reduceAdd];rfl) x rfl rfl (by kernel_rfl) (Or.inl ⟨by rfl,?_⟩) ?_ ?_;rotate_left;(focus (intro w';go_simp;with_reducible rfl));rotate_left;(focus (simp only[Act.put,List.setIfInBounds_toArray,List.set_cons_zero,List.set_cons_succ,bT,bW];rfl)))
                    refine zs 11 7 5 (by kernel_rfl) ?_;iterate 2 (refine zn (v:=?_) (a':=?_) (by simp only[Nat.reduceAdd];rfl) x rfl rfl (by kernel_rfl) (Or.inl ⟨by rfl,?_⟩) ?_ ?_;rotate_left;(focus (intro w';go_simp;with_reducible rfl));rotate_left;(focus (simp only[Act.put,List.setIfInBounds_toArray,List.set_cons_zero,List.set_cons_succ,bT,bW];rfl)))
                    refine iU (i:=3) (N:=some 43) (v:=?_) (a':=?_) #[true,true,true,true,false,true,true,false,false,false,false] rfl rfl (iW x.out bi.out (by kernel_rfl)) (fun _ _ _ h=>h) (Or.inl ⟨by rfl,?_⟩) hHeld ?_ ?_;rotate_left
                    ·rintro w' ⟨s0,s1,s2⟩
                     go_simp
                     with_reducible rfl
                    rotate_left
                    ·simp only[Act.put,List.setIfInBounds_toArray,List.set_cons_zero,List.set_cons_succ,bT,bW]
                     rfl
                    refine iU (i:=4) (N:=some 44) (v:=?_) (a':=?_) #[true,true,true,true,true,true,true,false,false,false,false] rfl rfl (iW x.out bi.out (by kernel_rfl)) (fun _ _ _ h=>h) (Or.inl ⟨by rfl,?_⟩) hHeld ?_ ?_;rotate_left
                    ·rintro w' ⟨s0,s1,s2⟩
                     go_simp
                     with_reducible rfl
                    rotate_left
                    ·simp only[Act.put,List.setIfInBounds_toArray,List.set_cons_zero,List.set_cons_succ,bT,bW]
                     rfl
                    refine ly (i:=7) (N:=some 47) #[true,true,true,true,true,true,true,true,false,false,false] rfl rfl (jv x.out (by kernel_rfl)) (by decide) (fun K L=>?_);refine me Tryz.func147 (by kernel_rfl) rfl #[.agg #[.int .i64 q,.slice E s.length F],.int .i64 m,.int .i64 j] (by rfl) rfl rfl (by(try simp only[List.map_toArray,List.map_cons,List.map_nil]);first|done|rfl|(simp only[List.length_drop,List.length_take];rfl)) ?_;with_reducible refine(di.calls k2 q _ _ s m j Y _ ?af ?ah g6.out).mono ?_
                    (case af=>exact Kd.au ea.out zB)
                    (case ah=>exact eb.out)
                    rintro e bk ⟨rfl,hb⟩;have dd:=(hb.cell (bs _ _ (hHeld.2.2))).trans (hHeld.2.2);refine⟨_,rfl,?_⟩;replace g:=br g hb;replace l:=br l hb;replace a:=zb a hb;replace o:=zS o hb
                    (try clear hb)
                    skip;skip;skip;have dk:0<=(m:Int):=aw ‹_›;have dl:(m:Int)<((u.length:Int):Int):=aw ‹_›;obtain⟨M,hR,e6,e',ha,hT,fb⟩:=Kd.eV g.out (by omega)
                    (first|cases e6|(injection e6 with X cs cv;(first|subst X|(injection X with X;subst X));subst cv;clear cs))
                    have fd:=zA e';have dv:=zA fb;clear e' ha fb
                    (first|simp only[add_plain] at c'|skip)
                    obtain⟨hV,hW⟩:=Kd.bP 0 g.out (m:Int) dk dl;replace dk:=eq_true dk;replace dl:=eq_true dl;have d0:=Kd.pv g.out (m:Int) (wrap64 ((rd u m)-Y));rw[<-e4.out] at d0;have fn:=zA d0;clear d0;refine L.out _ _ ⟨(al a.out 0).trans rfl,(al a.out 1).trans rfl,dd⟩ (fun hHeld=>?_);clear L K;refine lz (a':=?_) ?_ ?_;rotate_left
                    ·show Act.put _ (some 47) _=_
                     simp only[Act.put,List.setIfInBounds_toArray,List.set_cons_zero,List.set_cons_succ,bT,bW];rfl
                    refine zs 11 255 8 (by kernel_rfl) ?_;iterate 2 (refine zn (v:=?_) (a':=?_) (by simp only[Nat.reduceAdd];rfl) x rfl rfl (by kernel_rfl) (Or.inl ⟨by rfl,?_⟩) ?_ ?_;rotate_left;(focus (intro w';go_simp;with_reducible rfl));rotate_left;(focus (simp only[Act.put,List.setIfInBounds_toArray,List.set_cons_zero,List.set_cons_succ,bT,bW];rfl)))
                    refine pw (i:=10) (N:=none) #[true,true,true,true,true,true,true,true,true,true,true] rfl rfl (jv x.out (by kernel_rfl)) (by decide) (fun K L=>?_);refine px (w1:=?_) (by rfl) rfl ?_ ?_;rotate_left
                    ·go_simp
                     rfl
                    refine L.out _ _ ?_;clear L K;refine nB (nR x.out (by kernel_rfl)) ?_;try go_wp2
                    have T:Aside0 (Kd.R (Kd.int .i64) 3 (bk.setCell ⟨M,(m:Int).toNat,none⟩ (.int .i64 (wrap64 ((rd u m)-Y)))) w.heap.size (fun _=>True) (.slice (some ⟨M,0,none⟩) u.length bf) Z):=⟨zR fn⟩;have U:Aside0 (Kd.R Kd.bool 4 (bk.setCell ⟨M,(m:Int).toNat,none⟩ (.int .i64 (wrap64 ((rd u m)-Y)))) w.heap.size (fun _=>True) (.slice (some ⟨ar,0,none⟩) Q.length ap) Q):=⟨by(with_reducible repeat(first|apply Kd.aK|apply Kd.bq|apply Kd.bd));exact Kd.a_ (Kd.dC (p:=⟨M,(m:Int).toNat,none⟩) (Kd.fS l.out dv.out (by decide)) (fun _ hk=>hk.2) (.int .i64 (wrap64 ((rd u m)-Y)))) (fun _ hk=>trivial)⟩;have V:Aside0 ((bk.setCell ⟨M,(m:Int).toNat,none⟩ (.int .i64 (wrap64 ((rd u m)-Y)))).heap[O]? =some (.cells #[.int .i64 q,.slice E s.length F] 24 (0,0))):=⟨by refine zk ?_;refine aG ?_ (by have h_:=Kd.db g.out a.out (by decide);intro e_;exact h_ (by rw[e_];rfl)) _;exact zK a⟩;have W:Aside0 (Below w.heap.size w (bk.setCell ⟨M,(m:Int).toNat,none⟩ (.int .i64 (wrap64 ((rd u m)-Y))))):=⟨by repeat(first|(with_reducible first|exact o.out|apply aq|apply bY|apply bV|refine dx ?_ fd.out|refine dx ?_ cd.out)|exact o.out)⟩
                    (try clear g)
                    (try clear l)
                    (try clear a)
                    (try clear o)
                    generalize (bk.setCell ⟨M,(m:Int).toNat,none⟩ (.int .i64 (wrap64 ((rd u m)-Y))))=hc at T U V W⊢;have g:=T;have l:=U;have a:=V;have o:=W;clear T U V W;replace g:=zA (Kd.bd g.out);replace l:=zA (Kd.bd l.out);replace a:=zA (fw a.out);replace o:=zA (bV o.out);have d1:0<=(j:Int):=aw ‹_›;have d2:j<(Z.length:Int):=(by have h_:(j:Int)<((u.length:Int):Int):=aw ‹_›;first|(have e_:=(Kd.aD g.out).1;omega)|simpa only[e4.out,List.length_set] using h_);have hX:((j:Int)<((u.length:Int):Int))=True:=eq_true (aw ‹_›);obtain⟨he,hf,bo⟩:=Kd.bL (Kd.aD g.out).2.2 j d1 d2;obtain rfl:(⟨M,0,none⟩:Addr)=he:=(by injection hf)
                    (first|simp only[add_plain] at bo|simp only[gT] at bo|simp only[Addr.add,Nat.zero_add] at bo|skip)
                    replace d1:=eq_true d1;replace d2:=eq_true d2;refine nz (n:=11) (S:=fun w'=>w'.cell? ⟨O,0,none⟩=some (.int .i64 q)/\w'.cell? ⟨O,1,none⟩=some (.slice E s.length F)/\w'.cell? ⟨M,(j).toNat,none⟩=some (.int .i64 (rd Z j))) (ds:=[10]) #[false,false,false,false,false,false,false,false,false,false,false] (by kernel_rfl) rfl rfl ⟨(al a.out 0).trans rfl,(al a.out 1).trans rfl,bo⟩ (fun hHeld=>?_);refine nS bK.EM bK.EN (fun x bi=>?_);generalize hc.drew=hY at g l a o fn bo hHeld⊢;refine zs 11 0 0 (by kernel_rfl) ?_;iterate 3 (refine zn (v:=?_) (a':=?_) (by simp only[Nat.reduceAdd];rfl) x rfl rfl (by kernel_rfl) (Or.inl ⟨by rfl,?_⟩) ?_ ?_;rotate_left;(focus (intro w';go_simp;with_reducible rfl));rotate_left;(focus (simp only[Act.put,List.setIfInBounds_toArray,List.set_cons_zero,List.set_cons_succ,bT,bW];rfl)))
                    refine zs 11 7 5 (by kernel_rfl) ?_;iterate 2 (refine zn (v:=?_) (a':=?_) (by simp only[Nat.reduceAdd];rfl) x rfl rfl (by kernel_rfl) (Or.inl ⟨by rfl,?_⟩) ?_ ?_;rotate_left;(focus (intro w';go_simp;with_reducible rfl));rotate_left;(focus (simp only[Act.put,List.setIfInBounds_toArray,List.set_cons_zero,List.set_cons_succ,bT,bW];rfl)))
                    refine iU (i:=3) (N:=some 53) (v:=?_) (a':=?_) #[true,true,true,true,false,true,true,false,false,false,false] rfl rfl (iW x.out bi.out (by kernel_rfl)) (fun _ _ _ h=>h) (Or.inl ⟨by rfl,?_⟩) hHeld ?_ ?_;rotate_left
                    ·rintro w' ⟨s0,s1,s2⟩
                     go_simp
                     with_reducible rfl
                    rotate_left
                    ·simp only[Act.put,List.setIfInBounds_toArray,List.set_cons_zero,List.set_cons_succ,bT,bW]
                     rfl
                    refine iU (i:=4) (N:=some 54) (v:=?_) (a':=?_) #[true,true,true,true,true,true,true,false,false,false,false] rfl rfl (iW x.out bi.out (by kernel_rfl)) (fun _ _ _ h=>h) (Or.inl ⟨by rfl,?_⟩) hHeld ?_ ?_;rotate_left
                    ·rintro w' ⟨s0,s1,s2⟩
                     go_simp
                     with_reducible rfl
                    rotate_left
                    ·simp only[Act.put,List.setIfInBounds_toArray,List.set_cons_zero,List.set_cons_succ,bT,bW]
                     rfl
                    refine ly (i:=7) (N:=some 57) #[true,true,true,true,true,true,true,true,false,false,false] rfl rfl (jv x.out (by kernel_rfl)) (by decide) (fun K L=>?_);refine me Tryz.func147 (by kernel_rfl) rfl #[.agg #[.int .i64 q,.slice E s.length F],.int .i64 m,.int .i64 j] (by rfl) rfl rfl (by(try simp only[List.map_toArray,List.map_cons,List.map_nil]);first|done|rfl|(simp only[List.length_drop,List.length_take];rfl)) ?_;with_reducible refine(di.calls k2 q _ _ s m j a0 _ ?af ?ah g7.out).mono ?_
                    (case af=>exact Kd.au ea.out zB)
                    (case ah=>exact eb.out)
                    rintro e h0 ⟨rfl,hb⟩;have dd:=(hb.cell (bs _ _ (hHeld.2.2))).trans (hHeld.2.2);refine⟨_,rfl,?_⟩;replace g:=br g hb;replace l:=br l hb;replace a:=zb a hb;replace o:=zS o hb
                    (try clear hb)
                    skip;skip;skip;have d3:0<=(j:Int):=aw ‹_›;have d4:(j:Int)<((u.length:Int):Int):=aw ‹_›;obtain⟨h1,h2⟩:=Kd.bP 0 g.out (j:Int) d3 d4;replace d3:=eq_true d3;replace d4:=eq_true d4;have d5:=Kd.pv g.out (j:Int) (wrap64 ((rd Z j)+a0));rw[<-g8.out] at d5;have hh:=zA d5;clear d5;refine L.out _ _ ⟨(al a.out 0).trans rfl,(al a.out 1).trans rfl,dd⟩ (fun hHeld=>?_);clear L K;refine lz (a':=?_) ?_ ?_;rotate_left
                    ·show Act.put _ (some 57) _=_
                     simp only[Act.put,List.setIfInBounds_toArray,List.set_cons_zero,List.set_cons_succ,bT,bW];rfl
                    refine zs 11 255 8 (by kernel_rfl) ?_;iterate 2 (refine zn (v:=?_) (a':=?_) (by simp only[Nat.reduceAdd];rfl) x rfl rfl (by kernel_rfl) (Or.inl ⟨by rfl,?_⟩) ?_ ?_;rotate_left;(focus (intro w';go_simp;with_reducible rfl));rotate_left;(focus (simp only[Act.put,List.setIfInBounds_toArray,List.set_cons_zero,List.set_cons_succ,bT,bW];rfl)))
                    refine pw (i:=10) (N:=none) #[true,true,true,true,true,true,true,true,true,true,true] rfl rfl (jv x.out (by kernel_rfl)) (by decide) (fun K L=>?_);refine px (w1:=?_) (by rfl) rfl ?_ ?_;rotate_left
                    ·go_simp
                     rfl
                    refine L.out _ _ ?_;clear L K;refine nB (nR x.out (by kernel_rfl)) ?_;try go_wp2
                    (try simp only[<-B,<-D])
                    obtain⟨i_,fo⟩:=Kd.iS g.out;obtain⟨k_,H_⟩:=iR fo M rfl;have dv:=zA H_;clear H_ fo;go_roundg k2
                    case measure=>have:=ak.out;have:=av.out;omega
                    case rel=>exact⟨(e5),(wrap64 (m+1)),zT,I,⟨by have:=ak.out;have:=av.out;omega⟩,⟨by(try simp only[B]);(try simp only[D]);(with_reducible repeat(first|apply Kd.aK|apply Kd.bq|apply Kd.bd));exact hh.out⟩,⟨by(try simp only[B]);(try simp only[D]);(with_reducible repeat(first|apply Kd.aK|apply Kd.bq|apply Kd.bd));exact Kd.a_ (Kd.dC (p:=⟨M,(j:Int).toNat,none⟩) (Kd.fS l.out dv.out (by decide)) (fun _ hk=>hk.2) (.int .i64 (wrap64 ((rd Z j)+a0)))) (fun _ hk=>trivial)⟩,⟨by(try simp only[B]);(try simp only[D]);refine zk ?_;refine aG ?_ (by have h_:=Kd.db g.out a.out (by decide);intro e_;exact h_ (by rw[e_];rfl)) _;exact zK a⟩,⟨by repeat(first|(with_reducible first|exact o.out|apply aq|apply bY|apply bV|refine dx ?_ fd.out|refine dx ?_ cd.out)|exact o.out)⟩⟩
                   ·rw[if_neg b'] at H
                    exact absurd H (by simp)
                  ·rw[if_neg b_] at H
                   exact absurd H (by simp)
                 ·rw[if_neg b6] at H
                  exact absurd H (by simp)
                ·rw[if_neg b5] at H
                 exact absurd H (by simp)
              ·rw[if_neg aP] at H
               have g3:=aZ aP;clear aP;have I:=zA H;clear H;obtain⟨h5,h6,h7,h8⟩:=ax a;go_wp2
               (try simp only[<-B,<-D])
               go_roundg k2
               case measure=>have:=ak.out;have:=av.out;omega
               case rel=>exact⟨(u),(Q),(wrap64 (P+1)),zT,I,⟨by have:=ak.out;have:=av.out;omega⟩,⟨by(try simp only[B]);(try simp only[D]);(with_reducible repeat(first|apply Kd.aK|apply Kd.bq|apply Kd.bd));exact g.out⟩,⟨by(try simp only[B]);(try simp only[D]);(with_reducible repeat(first|apply Kd.aK|apply Kd.bq|apply Kd.bd));exact l.out⟩,⟨by(try simp only[B]);(try simp only[D]);exact zK a⟩,⟨zB⟩⟩
           ·rw[if_neg b1] at H
            exact absurd H (by simp)
          ·rw[if_neg b0] at H
           exact absurd H (by simp)
       ·rw[if_neg am] at H
        have ev:=aZ am;clear am;obtain rfl:=aH H;go_wp2;go_ret;exact⟨zE,zB⟩
    ·rw[if_neg c8] at H
     exact absurd H (by simp)
   ·rw[if_neg c7] at H
    exact absurd H (by simp)
  ·rw[if_neg c6] at H
   exact absurd H (by simp)
theorem ry (c:List Int) (a:c.length<=1000):∀(m i:Nat),i+m=c.length->(∀v:Nat,v<i->0<=rd c v)->∃r,Ev (fun k=>eD.l0 k c i) r/\(r= -1/\(∀v:Nat,v<c.length->0<=rd c v)\/∃v:Nat,v<c.length/\r=v/\rd c v<0)
 |0,i,hi,hp=>by
  refine⟨-1,Ev.of_succ ?_,.inl ⟨rfl,fun v b=>hp v (by omega)⟩⟩;simp only[eD.l0,if_neg (show ¬(i:Int)<c.length by omega)];exact Ev.const _
 |m+1,i,hi,hp=>by
  by_cases e:rd c i<0
  ·refine⟨i,Ev.of_succ ?_,.inr ⟨i,by omega,rfl,e⟩⟩
   simp only[eD.l0,if_pos (show (i:Int)<c.length by omega),if_pos (show (0:Int)<=i by omega),if_pos e];exact Ev.const _
  ·obtain⟨r,g,h⟩:=ry c a m (i+1) (by omega) (fun v b=>by
    by_cases e2:v=i
    ·subst e2;omega
    ·exact hp v (by omega))
   refine⟨r,Ev.of_succ ?_,h⟩;simp only[eD.l0,if_pos (show (i:Int)<c.length by omega),if_pos (show (0:Int)<=i by omega),if_neg e,dF (show i<=1000000 by omega)];exact g
theorem rz (o:List Bool) (b:o.length<=1000):∀(m i:Nat),i+m=o.length->(∀v:Nat,v<i->bc o v=true)->∃r,Ev (fun k=>eE.l0 k o i) r/\(r=true↔∀v:Nat,v<o.length->bc o v=true)
 |0,i,hi,hp=>by
  refine⟨true,Ev.of_succ ?_,⟨fun _ v g=>hp v (by omega),fun _=>rfl⟩⟩;simp only[eE.l0,if_neg (show ¬(i:Int)<o.length by omega)];exact Ev.const _
 |m+1,i,hi,hp=>by
  have a:bO false o (i:Int)=bc o i:=by simp[bO,bc]
  by_cases e:bc o i=true
  ·obtain⟨r,j,h⟩:=rz o b m (i+1) (by omega) (fun v g=>by
    by_cases e2:v=i
    ·subst e2;exact e
    ·exact hp v (by omega))
   refine⟨r,Ev.of_succ ?_,h⟩;simp only[eE.l0,if_pos (show (i:Int)<o.length by omega),if_pos (show (0:Int)<=i by omega),a,if_pos e,dF (show i<=1000000 by omega)];exact j
  ·refine⟨false,Ev.of_succ ?_,⟨nofun,fun h=>absurd (h i (by omega)) e⟩⟩
   simp only[eE.l0,if_pos (show (i:Int)<o.length by omega),if_pos (show (0:Int)<=i by omega),a,if_neg e];exact Ev.const _
def cB (n:Nat) (t:Nat->Nat->Int) (c:List Int) (v i:Nat):List Int:=(List.range n).map fun u=>if u=v then rd c v+T.sN (fun w=>t w v) i else if u<i then rd c u-t u v else rd c u
theorem jS (n:Nat) (t:Nat->Nat->Int) (c:List Int) (v i:Nat):(cB n t c v i).length=n:=by simp[cB]
theorem EO {n:Nat} (t:Nat->Nat->Int) {c:List Int} (a:c.length=n) (v:Nat):cB n t c v 0=c:=by
 refine mS (jS ..) a fun u hu=>?_
 unfold cB;rw[gL _ hu];by_cases e:u=v
 ·subst e;simp[T.sN]
 ·simp[e]
theorem EP {n:Nat} {t:Nat->Nat->Int} (c:List Int) {v:Nat} (a:t v v=0):cB n t c v (v+1)=cB n t c v v:=by
 unfold cB;refine List.map_congr_left fun u hu=>?_
 by_cases e:u=v
 ·rw[if_pos e,if_pos e,T.dH,a,Int.add_zero]
 ·rw[if_neg e,if_neg e]
  by_cases e2:u<v
  ·rw[if_pos e2,if_pos (by omega)]
  ·rw[if_neg e2,if_neg (by omega)]
theorem ER {n:Nat} {t:Nat->Nat->Int} (c:List Int) {v i:Nat} (h:v<n) (hi:i<n) (a:i≠v):((cB n t c v i).set i (rd (cB n t c v i) i-t i v)).set v (rd ((cB n t c v i).set i (rd (cB n t c v i) i-t i v)) v+t i v)=cB n t c v (i+1):=by
 have j:rd (cB n t c v i) (i:Int)=rd c i:=by
  unfold cB;rw[gL _ hi,if_neg a,if_neg (by omega)]
 have e2:rd ((cB n t c v i).set i (rd (cB n t c v i) i-t i v)) (v:Int)=rd c v+T.sN (fun w=>t w v) i:=by
  rw[fD _ _ _ _ a];unfold cB;rw[gL _ h,if_pos rfl]
 rw[e2,j];refine mS (n:=n) (by simp[jS]) (jS ..) fun u hu=>?_
 have l:rd (cB n t c v (i+1)) (u:Int)=if u=v then rd c v+T.sN (fun w=>t w v) (i+1) else if u<i+1 then rd c u-t u v else rd c u:=by
  unfold cB;rw[gL _ hu]
 rw[l];by_cases e:u=v
 ·subst e
  rw[gZ _ _ _ (by simp[jS];exact hu),if_pos rfl,T.dH,Int.add_assoc]
 ·rw[fD _ _ _ _ (fun k=>e k.symm),if_neg e]
  by_cases b:u=i
  ·subst b
   rw[gZ _ _ _ (by rw[jS];exact hu),if_pos (by omega)]
  ·rw[fD _ _ _ _ (fun k=>b k.symm)]
   unfold cB;rw[gL _ hu,if_neg e];by_cases g:u<i
   ·rw[if_pos g,if_pos (by omega)]
   ·rw[if_neg g,if_neg (by omega)]
theorem wE {n:Nat} {E:List S83} (hn:n<=12) (q:E.length<=1000) (a:bM n E) {v:Nat} (b:v<n) {c:List Int} (hb:∀u:Nat,u<n-> -10000000<=rd c u/\rd c u<=10000000) (o:List Bool) (l:Int) {r:Bool} (h:Ev (fun k=>bK.l0 k (cB n (ai E) c v n) o (wrap64 (l+1)) n E) r):
  ∀(m i:Nat),i+m=n->Ev (fun k=>bK.l1 k (cB n (ai E) c v i) o l v i n E) r
 |0,i,hi=>by
  obtain rfl:i=n:=by omega
  refine Ev.of_succ ?_;simp only[bK.l1,if_neg (show ¬(i:Int)<(i:Int) by omega)];exact h
 |m+1,i,hi=>by
  have g:=wE hn q a b hb o l h m (i+1) (by omega);refine Ev.of_succ ?_;by_cases e:i=v
  ·subst e
   rw[EP _ (a.wt.self i)] at g;simp only[bK.l1,if_pos (show (i:Int)<(n:Int) by omega),if_true,dF (show i<=1000000 by omega)];exact g
  ·have p:=p3 (n:Int) E (i:Int) (v:Int) q
   rw[<-jC a i v e] at p;have z:0<=ai E i v/\ai E i v<=50:=by rw[jC a i v e];exact pZ a _ _
   have s:∀j:Nat,j<=12-> -(50*j:Int)<=T.sN (fun w=>ai E w v) j/\T.sN (fun w=>ai E w v) j<=50*j:=fun j=>by
    induction j with
    |zero=>intro _;simp[T.sN]
    |succ j x=>
     intro B;have h1:=x (by omega);have C:0<=ai E j v/\ai E j v<=50:=by
      by_cases e2:j=v
      ·subst e2;rw[a.wt.self j];omega
      ·rw[jC a j v e2];exact pZ a _ _
     rw[T.dH];omega
   have y:rd (cB n (ai E) c v i) (i:Int)=rd c i:=by
    unfold cB;rw[gL _ (show i<n by omega),if_neg e,if_neg (by omega)]
   have e2:rd ((cB n (ai E) c v i).set i (rd (cB n (ai E) c v i) i-ai E i v)) (v:Int)=rd c v+T.sN (fun w=>ai E w v) i:=by
    rw[fD _ _ _ _ e];unfold cB;rw[gL _ b,if_pos rfl]
   have w1:wrap64 (rd (cB n (ai E) c v i) (i:Int)-ai E i v)=rd (cB n (ai E) c v i) (i:Int)-ai E i v:=gV (by have:=hb i (by omega);rw[y];omega);have w2:wrap64 (rd ((cB n (ai E) c v i).set i (rd (cB n (ai E) c v i) i-ai E i v)) (v:Int)+ai E i v)=rd ((cB n (ai E) c v i).set i (rd (cB n (ai E) c v i) i-ai E i v)) (v:Int)+ai E i v:=gV (by have:=hb v b;have:=s i (by omega);rw[e2];omega);rw[<-ER c b (by omega) e] at g;simp only[bK.l1,jS,if_pos (show (i:Int)<(n:Int) by omega),if_neg (show ¬(i:Int)=(v:Int) by omega),if_pos (show (0:Int)<=(i:Int) by omega)];refine Ev.bind p ?_;simp only[Option.bind_some,aQ,w1,List.length_set,jS,if_pos (show (0:Int)<=(v:Int) by omega),if_pos (show (v:Int)<(n:Int) by omega)];refine Ev.bind p ?_;simp only[w2,dF (show i<=1000000 by omega)];exact g
structure wF (n:Nat) (E:List S83) (d:List Int) (b:Nat->Int) (c:List Int) (o:List Bool):Prop where
 g:T.fQ n (ai E) (fun v=>rd d (v:Nat)) b
 cl:c.length=n
 ol:o.length=n
 c:∀v:Nat,v<n->rd c v=rd d v+T.aV n (ai E) b v
 o:∀v:Nat,v<n->(bc o v=true↔0<b v)
theorem ES {n:Nat} {t:Nat->Nat->Int} (g:T.Wt n t) {V B:Int} (j:T.sN (T.val n t) n<=V) (k:0<=B) {b:Nat->Int} (hb:∀v,v<n->0<=b v/\b v<=B) {v:Nat} (h:v<n): -(V*B)<=T.aV n t b v/\T.aV n t b v<=V*B:=by
 have hp:∀u,u<n->0<=T.val n t u:=fun u _=>T.dg fun w _=>g.pos _ _
 have h1:T.val n t v*B<=V*B:=Int.mul_le_mul_of_nonneg_right (Int.le_trans (T.fz h hp) j) k;have i:T.aV n t b v<=T.sN (fun u=>B*t v u) n:=T.cN fun u hu=>by
  rw[Int.mul_comm B];exact Int.mul_le_mul_of_nonneg_left (by have:=hb u hu;have:=hb v h;omega) (g.pos _ _)
 have a:T.sN (fun u=>(-B)*t v u) n<=T.aV n t b v:=T.cN fun u hu=>by
  rw[Int.mul_comm (-B)];exact Int.mul_le_mul_of_nonneg_left (by have:=hb u hu;have:=hb v h;omega) (g.pos _ _)
 rw[T.eY] at i a;rw[Int.neg_mul] at a;have e:T.sN (fun u=>t v u) n=T.val n t v:=rfl;rw[e] at i a;rw[Int.mul_comm B] at i;rw[Int.mul_comm B] at a;omega
theorem ET {n:Nat} {E:List S83} {d:List Int} (h:dN n 0 E d):∀(m:Nat) (b:Nat->Int) (c:List Int) (o:List Bool),wF n E d b c o->(∃q,q<n/\b q=0)->(400000:Int)-T.sN b n<=m->0<=T.sN b n->
  ∃r,Ev (fun k=>bK.l0 k c o (T.sN b n) n E) r/\(r=true↔T.bZ n (ai E) (fun v=>rd d (v:Nat))):=by
 have aS:=h.n1;have hn:=h.n12;have l:=h.right.wt;have J:=h.right.conn h.conn;have K:∀v,v<n->0<=T.val n (ai E) v:=fun v a=>T.dg fun w _=>l.pos _ _
 have z:∀(b:Nat->Int),T.fQ n (ai E) (fun v=>rd d (v:Nat)) b->(∃q,q<n/\b q=0)->T.sN b n<=378432:=fun b L ⟨q,i,C⟩=>by
  have h1:=L.EH l J i C (M:=219) (by omega) (fun v a=>by
   have N:=T.fz a K;have p:=h.val;have O:=h.d v a;show T.val n (ai E) v-1-rd d (v:Nat)<=219
   omega)
  have P:(n:Int)*219<=12*219:=by omega
  have Q:(n:Int)*((n:Int)*219)<=12*(12*219):=Int.mul_le_mul (by omega) P (by omega) (by omega);have h7:(n:Int)*((n:Int)*((n:Int)*219))<=12*(12*(12*219)):=Int.mul_le_mul (by omega) Q (Int.mul_nonneg (by omega) (by omega)) (by omega);omega
 intro m;induction m with
 |zero=>
  intro b c o hp i hm R;have:=z b hp.g i;omega
 |succ m S=>
  intro b c o hp i hm R;have U:=z b hp.g i;obtain⟨V,W,X⟩:=ry c (by rw[hp.cl];omega) c.length 0 (by omega) (fun v a=>by omega);have D:Ev (fun k=>eD.f k c) V:=by unfold eD.f;exact W
  rcases X with⟨rfl,s⟩|⟨v,a,rfl,Y⟩
  ·refine⟨true,Ev.of_succ ?_,⟨fun _=>?_,fun _=>rfl⟩⟩
   ·simp only[bK.l0,if_pos (show T.sN b n<10000000 by omega)]
    refine Ev.bind D ?_;simp only[if_pos (show (-1:Int)<0 by decide)];exact Ev.const _
   ·refine T.fQ.nf (b:=b) fun v a=>?_
    have:=s v (by rw[hp.cl];exact a);rw[hp.c v a] at this;exact this
  ·rw[hp.cl] at a
   obtain⟨x,Z,aa⟩:=rz o (by rw[hp.ol];omega) o.length 0 (by omega) (fun v a=>by omega);have ab:Ev (fun k=>eE.f k o) x:=by unfold eE.f;exact Z
   obtain⟨q,i,C⟩:=i;have ad:x=false:=by
    cases x with
    |false=>rfl
    |true=>
     have:=(hp.o q i).1 (aa.1 rfl q (by rw[hp.ol];exact i));omega
   subst ad;have ag:rd d (v:Nat)+T.aV n (ai E) b v<0:=by rw[<-hp.c v a];exact Y
   have y:=hp.g.step l a ag;have ak:T.sN (fun u=>b u+T.one v u) n=T.sN b n+1:=by rw[T.dS,T.fB a]
   have am:∀u,u<n->0<=b u/\b u<=378432:=fun u hu=>⟨hp.g.pos u hu,Int.le_trans (T.fz hu hp.g.pos) U⟩
   have an:∀u:Nat,u<n-> -10000000<=rd c u/\rd c u<=10000000:=fun u hu=>by
    have h1:=ES l h.val (B:=378432) (by omega) am hu;have N:=h.d u hu;rw[hp.c u hu];omega
   have j:wF n E d (fun u=>b u+T.one v u) (cB n (ai E) c v n) (o.set v true):=by
    refine⟨y,jS ..,by simp[hp.ol],fun u hu=>?_,fun u hu=>?_⟩
    ·unfold cB
     rw[gL _ hu,T.jy];by_cases e:u=v
     ·subst e
      rw[if_pos rfl,T.nY l hu,hp.c u hu,T.bQ (g:=fun w=>ai E u w) (fun w _=>l.sym w u)];unfold T.val;omega
     ·rw[if_neg e,if_pos hu,T.nZ a e,hp.c u hu]
      omega
    ·have p:=hp.o u hu
     have O:=hp.g.pos u hu;unfold bc at p⊢;rw[bh,List.getElem?_set];show _↔0<b u+T.one v u
     unfold T.one;by_cases e:v=u
     ·subst e
      rw[if_pos rfl,if_pos (by rw[hp.ol];exact a),if_pos rfl];exact⟨fun _=>by omega,fun _=>rfl⟩
     ·rw[if_neg e,if_neg (fun k=>e k.symm),<-bh,p]
      omega
   have key:∃r,Ev (fun k=>bK.l0 k (cB n (ai E) c v n) (o.set v true) (wrap64 (T.sN b n+1)) n E) r/\(r=true↔T.bZ n (ai E) (fun v=>rd d (v:Nat))):=by
    rw[gV (show -1000000000<=T.sN b n+1/\T.sN b n+1<=1000000000 by omega),<-ak];by_cases hex:∃q,q<n/\b q+T.one v q=0
    ·exact S (fun u=>b u+T.one v u) _ _ j hex (by omega) (by omega)
    ·have F:∀u,u<n->1<=b u+T.one v u:=fun u hu=>by
      have h1:=y.pos u hu;by_cases e:b u+T.one v u=0
      ·exact absurd ⟨u,hu,e⟩ hex
      ·have:0<=b u+T.one v u:=h1
       omega
     have G:=y.lost (by omega) F;obtain⟨r3,ar,av⟩:=ry (cB n (ai E) c v n) (by rw[jS];omega) (cB n (ai E) c v n).length 0 (by omega) (fun v a=>by omega);have aB:Ev (fun k=>eD.f k (cB n (ai E) c v n)) r3:=by unfold eD.f;exact ar
     obtain⟨H,aF,aL⟩:=rz (o.set v true) (by rw[j.ol];omega) (o.set v true).length 0 (by omega) (fun v a=>by omega);have aO:Ev (fun k=>eE.f k (o.set v true)) H:=by unfold eE.f;exact aF
     rcases av with⟨rfl,s⟩|⟨w,hw,rfl,a1⟩
     ·exact absurd (T.fQ.nf (b:=fun u=>b u+T.one v u) fun u hu=>by
       have:=s u (by rw[j.cl];exact hu);rw[j.c u hu] at this;exact this) G
     ·have aP:H=true:=aL.2 fun u hu=>(j.o u (by rw[j.ol] at hu;exact hu)).2 (by have:=F u (by rw[j.ol] at hu;exact hu);show 0<b u+T.one v u;omega)
      subst aP;refine⟨false,Ev.of_succ ?_,⟨nofun,fun k=>absurd k G⟩⟩;simp only[bK.l0,if_pos (show T.sN (fun u=>b u+T.one v u) n<10000000 by omega)];refine Ev.bind aB ?_;simp only[if_neg (show ¬(w:Int)<0 by omega)];refine Ev.bind aO ?_;simp only[if_true];exact Ev.const _
   obtain⟨r,he,hr⟩:=key;refine⟨r,Ev.of_succ ?_,hr⟩;have I:=wE hn h.len h.right a an (o.set v true) (T.sN b n) he n 0 (by omega);rw[EO _ hp.cl] at I;simp only[bK.l0,if_pos (show T.sN b n<10000000 by omega)];refine Ev.bind D ?_;simp only[if_neg (show ¬(v:Int)<0 by omega)];refine Ev.bind ab ?_;simp only[Bool.false_eq_true,if_false,if_pos (show (0:Int)<=(v:Int) by omega),if_pos (show (v:Int)<(o.length:Int) by rw[hp.ol];omega),aQ];exact I
theorem EU {n:Nat} {E:List S83} {d:List Int} (h:dN n 0 E d):∃r,Ev (fun k=>bK.f k n E d) r/\(r=true↔T.bZ n (ai E) (fun v=>rd d (v:Nat))):=by
 have l:=h.n1;have hn:=h.n12;have i:=h.right.wt;have b:=EG d (by rw[h.dl];omega) (fun v a=>by have:=h.d v (by rw[<-h.dl];exact a);omega);rw[h.dl] at b;by_cases g:T.sN (fun v=>rd d (v:Nat)) n<0
 ·refine⟨false,?_,⟨nofun,fun k=>by have:=k.bl i;omega⟩⟩
  unfold bK.f;refine Ev.bind b ?_;simp only[if_pos g];exact Ev.const _
 ·have e:T.sN (fun _=>(0:Int)) n=0:=T.jw n
  obtain⟨r,he,j⟩:=ET h 400000 (fun _=>0) d (List.replicate n false) ⟨T.fQ.start _ _ _,h.dl,by simp,fun v a=>by rw[T.i'];omega,fun v a=>by simp[bc,bh,a]⟩ ⟨0,by omega,rfl⟩ (by rw[e];omega) (by rw[e];omega);rw[e] at he;refine⟨r,?_,j⟩;unfold bK.f;refine Ev.bind b ?_;simp only[if_neg g,Option.bind_some,List.length_nil,List.nil_append,Nat.zero_add,if_pos (show d.length<17592186044416 by rw[h.dl];omega),if_pos (show (0:Int)<=(n:Int) by omega),aQ,if_pos (show n<=281474976710656 by omega)];exact he
def kX.f (a0:Int):Option (Bool):=if a0>=(-1048576) then(some (decide (a0<=1048576))) else(some false)
theorem kX.calls (a0:Int) (r:Bool) (w:World) (h:kX.f a0=some r):
  Calls Tryz.prog 91 #[.int .i64 a0] w fun e w'=>e= .returned (.bool r)/\aA w w':=by
 have H:(if a0>=(-1048576) then(some (decide (a0<=1048576))) else(some false))=some r:=h;clear h;by_cases c2:a0>=(-1048576)
 ·rw[if_pos c2] at H
  have a:=az c2;clear c2;obtain rfl:=aH H;go_enter Tryz.func91,Tryz.ntmps91
  go_wp2;go_ret;exact⟨zT,by repeat(first|exact aA.refl _|apply aA.step)⟩
 ·rw[if_neg c2] at H
  have a:=aZ c2;clear c2;obtain rfl:=aH H;go_enter Tryz.func91,Tryz.ntmps91
  go_wp2;go_ret;exact⟨zT,by repeat(first|exact aA.refl _|apply aA.step)⟩
def dY.l0:Nat->List Int->Int->Int->List (S83)->Option (List Int×Int)
 |0,_,_,_,_=>none
 |k+1,b,a,e,g=>if a<e then(if 0<=a then(if a<(b.length:Int) then((kX.f (rd b a)).bind fun h=>(if h=true then(dY.l0 k b (wrap64 (a+1)) e g) else(some (([]:List Int),11)))) else(none)) else(none)) else(some (b,0))
def dY.f (k:Nat) (a:Int) (b:List (S83)) (l1:List Int):Option (List Int×Int):=(iL.f k a b l1).bind fun e=>(if e=0 then((kS.f k a b l1).bind fun g=>(dY.l0 k g 0 a b)) else(some (([]:List Int),e)))
theorem dY.calls (k:Nat) (j:Int) (m:Option Addr) (n:Nat) (g:List (S83)) (u:Option Addr) (c1:Nat) (l1:List Int) (D:List Int) (E:Int) (w:World) (O:Kd.C aT w m g.length g) (P:g.length<=n) (Q:Kd.C (Kd.int .i64) w u l1.length l1) (S:l1.length<=c1) (h:dY.f k j g l1=some (D,E)):
  Calls Tryz.prog 37 #[.agg #[.int .i64 j,.slice m g.length n],.slice u l1.length c1] w fun e w'=>∃T:Value,e= .returned (.tuple #[T,.int .i64 E])/\Kd.R (Kd.int .i64) 3 w' w.heap.size (fun _=>True) T D/\Below w.heap.size w w':=by
 have be:=Tryz.underlying24;have F:=zA O;have G:=zA P;clear O P;have I:=zA Q;have J:=zA S;clear Q S;have i:=zA (ao w.heap.size w);unfold dY.f at h;have H:=h;clear h;obtain⟨K,U,H⟩:=zo H;by_cases c4:K=0
 ·rw[if_pos c4] at H
  obtain⟨V,W⟩:=bF c4;clear c4;obtain⟨l,A5,H⟩:=zo H;have x:=zA H;clear H;go_enter Tryz.func37,Tryz.ntmps37
  go_wp2_with (first|((with_reducible refine aJ (N:=2) rfl ?_);refine zX 2 #[.int .i64 j,.slice m g.length n] 24 ?_;intro X o w6 v hb;have b:=zA (v);have ag:=zG i o;have ak:=zG i o;replace i:=zS i hb;clear hb v o;obtain⟨am,an,ap,ar⟩:=ax b)|((with_reducible refine aC (f:=80) rfl ?_);refine zL (some 11) Tryz.func80 #[.agg #[.int .i64 j,.slice m g.length n],.slice u l1.length c1] ?_;(with_reducible refine(iL.calls k j _ _ g _ _ l1 K _ ?af ?ah ?aX ?aW U.out).mono ?_);(case af=>exact Kd.au F.out zB);(case ah=>exact G.out);(case aX=>exact Kd.au I.out zB);(case aW=>exact J.out);rintro e w8 ⟨rfl,hb⟩;refine⟨_,rfl,?_⟩;replace b:=zb b hb;replace i:=zS i hb;(try clear hb);obtain⟨av,aB,aF,aL⟩:=ax b)|((with_reducible refine aC (f:=81) rfl ?_);refine zL (some 17) Tryz.func81 #[.agg #[.int .i64 j,.slice m g.length n],.slice u l1.length c1] ?_;(with_reducible refine(kS.calls k j _ _ g _ _ l1 l _ ?af ?ah ?aX ?aW A5.out).mono ?_);(case af=>exact Kd.au F.out zB);(case ah=>exact G.out);(case aX=>exact Kd.au I.out zB);(case aW=>exact J.out);rintro e bi ⟨aO,rfl,Y,hb⟩;refine⟨_,rfl,?_⟩;have aP:=zA (Kd.ba Y (bp zB));replace b:=zb b hb;replace i:=zS i hb;(try clear hb);(try clear Y)))
  go_loopg [8] k (fun Z v8 w'=>∃(a:Int),v8= .int .i64 a/\Aside0 (dY.l0 Z l a j g=some (D,E))/\Aside0 (Z<=k)/\Aside0 (Kd.R (Kd.int .i64) 3 w' w.heap.size (fun _=>True) aO l)/\Aside0 (w'.heap[X]? =some (.cells #[.int .i64 j,(.slice m g.length n)] 24 (0,0)))/\Aside0 (Below w.heap.size w w'))
  case atStart=>exact⟨(0),zT,x,⟨aI _⟩,⟨zR aP⟩,⟨zK b⟩,⟨zB⟩⟩
  case round=>
   clear x;clear V W am an av aB ap ar aF aL;obtain⟨a,rfl,L,aa,r,b,i⟩:=hrel;cases gk with
   |zero=>exact absurd L.out (by simp[dY.l0])
   |succ k1=>
    have H:=L.out;clear L;simp only[dY.l0] at H;by_cases s:a<j
    ·rw[if_pos s] at H
     have a0:=az s;clear s;by_cases y:0<=a
     ·rw[if_pos y] at H
      have bk:=az y;clear y;by_cases z:a<(l.length:Int)
      ·rw[if_pos z] at H
       have bn:=az z;clear z;obtain⟨a1,ab,H⟩:=zo H;by_cases B:a1=true
       ·subst B
        replace H:=zi H;have x:=zA H;clear H;obtain⟨bo,bv,bw,bx⟩:=ax b;obtain⟨b0,b1,a2⟩:=Kd.bb r.out;subst a2;have p:0<=(a:Int):=aw ‹_›;have q:a<(l.length:Int):=aw ‹_›;obtain⟨a3,M,a4⟩:=Kd.bL (Kd.aD r.out).2.2 a p q;cases M;replace p:=eq_true p;replace q:=eq_true q;go_wp2_with (first|((with_reducible refine aC (f:=91) rfl ?_);refine zL (some 28) Tryz.func91 #[.int .i64 (rd l a)] ?_;(with_reducible refine(kX.calls (rd l a) true _ ab.out).mono ?_);rintro e w' ⟨rfl,⟨nd,rfl⟩⟩;refine⟨_,rfl,?_⟩))
        go_roundg k1
        case measure=>have:=aa.out;omega
        case rel=>exact⟨(wrap64 (a+1)),zT,x,⟨by have:=aa.out;omega⟩,⟨zR r⟩,⟨zK b⟩,⟨zB⟩⟩
       ·replace B:=Bool.eq_false_iff.mpr B
        subst B;replace H:=zj H;simp only[Option.some.injEq,Prod.mk.injEq] at H;obtain⟨rfl,rfl⟩:=H;obtain⟨b2,b3,b4,b5⟩:=ax b;obtain⟨b6,b_,a9⟩:=Kd.bb r.out;subst a9;have p:0<=(a:Int):=aw ‹_›;have q:a<(l.length:Int):=aw ‹_›;obtain⟨a3,M,a4⟩:=Kd.bL (Kd.aD r.out).2.2 a p q;cases M;replace p:=eq_true p;replace q:=eq_true q;go_wp2_with (first|((with_reducible refine aC (f:=91) rfl ?_);refine zL (some 28) Tryz.func91 #[.int .i64 (rd l a)] ?_;(with_reducible refine(kX.calls (rd l a) false _ ab.out).mono ?_);rintro e w' ⟨rfl,⟨nd,rfl⟩⟩;refine⟨_,rfl,?_⟩))
        go_ret2;exact⟨_,zE,by first|exact Kd.cW _ _ _ _ _|exact Kd.fx _ _ _ _ _|exact Kd.V_nil _ _ _ _ _|exact Kd.Q_nil _ _ _ _ _|exact Kd.fh _ _ _ _ _,zB⟩
      ·rw[if_neg z] at H
       exact absurd H (by simp)
     ·rw[if_neg y] at H
      exact absurd H (by simp)
    ·rw[if_neg s] at H
     have a0:=aZ s;clear s;simp only[Option.some.injEq,Prod.mk.injEq] at H;obtain⟨rfl,rfl⟩:=H;obtain⟨b',ca,cb,cc⟩:=ax b;go_wp2;go_ret2;exact⟨_,zE,by(with_reducible repeat(first|apply Kd.aK|apply Kd.bq|apply Kd.bd));exact r.out,zB⟩
 ·rw[if_neg c4] at H
  obtain⟨V,W⟩:=bI c4;simp only[Option.some.injEq,Prod.mk.injEq] at H;obtain⟨rfl,rfl⟩:=H;go_enter Tryz.func37,Tryz.ntmps37
  go_wp2_with (first|((with_reducible refine aJ (N:=2) rfl ?_);refine zX 2 #[.int .i64 j,.slice m g.length n] 24 ?_;intro X o cd v hb;have b:=zA (v);have ag:=zG i o;have ak:=zG i o;replace i:=zS i hb;clear hb v o;obtain⟨ce,cf,ch,ci⟩:=ax b)|((with_reducible refine aC (f:=80) rfl ?_);refine zL (some 11) Tryz.func80 #[.agg #[.int .i64 j,.slice m g.length n],.slice u l1.length c1] ?_;(with_reducible refine(iL.calls k j _ _ g _ _ l1 K _ ?af ?ah ?aX ?aW U.out).mono ?_);(case af=>exact Kd.au F.out zB);(case ah=>exact G.out);(case aX=>exact Kd.au I.out zB);(case aW=>exact J.out);rintro e cj ⟨rfl,hb⟩;refine⟨_,rfl,?_⟩;replace b:=zb b hb;replace i:=zS i hb;(try clear hb)))
  go_ret2;exact⟨_,zE,by first|exact Kd.cW _ _ _ _ _|exact Kd.fx _ _ _ _ _|exact Kd.V_nil _ _ _ _ _|exact Kd.Q_nil _ _ _ _ _|exact Kd.fh _ _ _ _ _,zB⟩
section
theorem wG {a b:List Int} (j:a.length<=1000) (hb:a.length<=b.length) (g:∀v:Nat,v<a.length-> -2000000<=rd a v/\rd a v<=2000000/\ -2000000<=rd b v/\rd b v<=2000000):∀(m i:Nat),i+m=a.length->Ev (fun k=>dw.l0 k a b (-1) (eM a b i) i) (cI a b)
 |0,i,hi=>by
  obtain rfl:i=a.length:=by omega
  refine Ev.of_succ ?_;simp only[dw.l0,if_neg (show ¬((a.length:Int)<(a.length:Int)) by omega)];exact Ev.const _
 |m+1,i,hi=>by
  have l:=wG j hb g m (i+1) (by omega);obtain⟨o,p,b3,b4⟩:=g i (by omega);have e:(eM a b i).set i (rd a i-rd b i)=eM a b (i+1):=by
   refine mS (n:=a.length) (by simp[kV]) (kV ..) fun u hu=>?_
   by_cases e:u=i
   ·subst e
    rw[gZ _ _ _ (by rw[kV];exact hu)];unfold eM;rw[gL _ hu,if_pos (by omega)]
   ·rw[fD _ _ _ _ (fun k=>e k.symm)]
    unfold eM;rw[gL _ hu,gL _ hu];by_cases h:u<i
    ·rw[if_pos h,if_pos (by omega)]
    ·rw[if_neg h,if_neg (by omega)]
  have w:wrap64 (rd a (i:Int)+wrap64 (-1*rd b (i:Int)))=rd a i-rd b i:=by
   rw[gV (x:= -1*rd b (i:Int)) (by omega),gV (by omega)];omega
  refine Ev.of_succ ?_;simp only[dw.l0,if_pos (show (i:Int)<(a.length:Int) by omega),if_pos (show (0:Int)<=(i:Int) by omega),if_pos (show (i:Int)<(b.length:Int) by omega),if_pos (show (i:Int)<((eM a b i).length:Int) by rw[kV];omega),dF (show i<=1000000 by omega),aQ,w,e];exact l
theorem EV {a b:List Int} (g:a.length<=1000) (hb:a.length<=b.length) (j:∀v:Nat,v<a.length-> -2000000<=rd a v/\rd a v<=2000000/\ -2000000<=rd b v/\rd b v<=2000000):Ev (fun k=>dw.f k a b (-1)) (cI a b):=by
 unfold dw.f;have h:=wG g hb j a.length 0 (by omega);have e:eM a b 0=List.replicate a.length 0:=by
  unfold eM;refine List.ext_getElem (by simp) fun i h1 l=>?_
  simp
 rw[e] at h;simp only[if_pos (show (0:Int)<=(a.length:Int) by omega),aQ,if_pos (show a.length<=35184372088832 by omega)];exact h
end
section
theorem wH {f:Nat->Int} (hf:∀u,0<=f u) (j:Nat):∀e:Nat,T.sN f j<=T.sN f (j+e)
 |0=>Int.le_refl _
 |e+1=>by
  have h1:=wH hf j e;have a:=hf (j+e);rw[<-Nat.add_assoc,T.dH];omega
theorem EW {N:Int} {E:List S83} (h:dW N E≠0) (a:E.length<=9223372036854775807) (c:List Int):Ev (fun k=>iL.f k N E c) (dW N E):=by
 unfold iL.f;refine Ev.bind (oR N E a) ?_;simp only[if_neg h];exact Ev.const _
theorem wI {N:Int} {E:List S83} (e:E.length<=1000):Ev (fun k=>dB.f k N E) (dW N E):=by
 by_cases b:cT N E=0
 ·obtain⟨h1,m,g⟩:=j6 b
  obtain⟨n,rfl⟩:=Int.eq_ofNat_of_zero_le (show 0<=N by omega);by_cases hp:partsOf E n=1
  ·have:dW (n:Int) E=0:=by unfold dW;rw[if_pos b,aQ,if_pos hp]
   rw[this];exact wm e b hp
  ·have:dW (n:Int) E=13:=by unfold dW;rw[if_pos b,aQ,if_neg hp]
   rw[this];unfold dB.f;refine Ev.bind (a:=(false,(0:Int))) ?_ ?_
   ·unfold cu.f
    have i:=nU (n:Int) E e;rw[b] at i;refine Ev.bind i ?_;have j:j9 (n:Int) E=true:=by
     unfold j9;rw[az (by omega),Bool.true_and];refine List.all_eq_true.2 fun x l=>?_
     have:=g.ok x l;simp[cM] at this⊢;omega
    simp only[if_true,if_pos j,aQ];rw[show decide (cY (aN E) n=1)=false from aZ (fun h=>hp ((ka (by omega) g).2 ((tz (by omega) (kG g.ct)).1 h)))];exact Ev.const _
   ·simp only[if_true,Bool.false_eq_true,if_false]
    exact Ev.const _
 ·have:dW N E=cT N E:=by unfold dW;rw[if_neg b]
  rw[this];unfold dB.f;refine Ev.bind (a:=(false,cT N E)) ?_ ?_
  ·unfold cu.f
   refine Ev.bind (nU N E e) ?_;simp only[if_neg b];exact Ev.const _
  ·simp only[if_neg b];exact Ev.const _
theorem EX {N:Int} {E:List S83} (h:dW N E≠0) (b:E.length<=1000) (d:List Int):Ev (fun k=>cX.f k N E d) (([]:List Int),dW N E)/\Ev (fun k=>dY.f k N E d) (([]:List Int),dW N E):=by
 constructor
 ·unfold cX.f
  refine Ev.bind (a:=(([]:List Int),dW N E)) ?_ ?_
  ·unfold dq.f
   refine Ev.bind (wI b) ?_;simp only[if_neg h];exact Ev.const _
  ·simp only[if_neg h]
   exact Ev.const _
 ·unfold dY.f
  refine Ev.bind (EW h (by omega) d) ?_;simp only[if_neg h];exact Ev.const _
structure Right (n:Nat) (E:List S83):Prop where
 check:cT n E=0
 n1:1<=n
 n6:n<=6
 len:E.length<=144
 right:bM n E
 conn:jD n E
 val:T.sN (T.val n (ai E)) n<=19
theorem Right.kl {n:Nat} {E:List S83} (h:Right n E):(cG n E).length=n:=by simp[cG]
theorem Right.oY {n:Nat} {E:List S83} (h:Right n E) {d:List Int} (a:fO n d=0):d.length=n/\∀v:Nat,v<n-> -1048576<=rd d v/\rd d v<=1048576:=by
 unfold fO at a;by_cases e:(d.length:Int)=(n:Int)
 ·rw[if_pos e] at a
  have b:d.length=n:=by omega
  refine⟨b,fun v i=>?_⟩;have g:=vy a (d[v]'(by omega)) (List.getElem_mem _);have:rd d (v:Int)=d[v]'(by omega):=by simp[rd,bh,bX (show v<d.length by omega)]
  rw[this];exact g
 ·rw[if_neg e] at a;cases a
namespace Right
variable {n:Nat} {E:List S83} (h:Right n E)
include h
theorem parts:partsOf E n=1:=(ka h.n1 h.right).2 h.conn
theorem EY:dW n E=0:=by unfold dW;rw[if_pos h.check,aQ,if_pos h.parts]
theorem oZ:∀v:Nat,v<n->0<=T.val n (ai E) v/\T.val n (ai E) v<=19:=fun v a=>by
 have e:=h.right.wt;have b:∀u,u<n->0<=T.val n (ai E) u:=fun u hu=>T.dg fun w _=>e.pos _ _
 have h1:=T.fz a b;have g:=h.val;exact⟨b v a,by omega⟩
theorem wJ:∀v:Nat,v<n-> -2<=rd (cG n E) v/\rd (cG n E) v<=17:=fun v a=>by
 have h1:=h.oZ v a;rw[EE a];unfold T.can;omega
theorem nh:Ev (fun k=>dq.f k n E) (cG n E,(0:Int)):=by
 have h1:=h.n6;have b:=h.len;exact EF h.n1 (by omega) (by omega) h.check h.parts (fun v a=>by have:=h.oZ v a;omega)
theorem rA (v:Nat) (g:v<n):∀(m i:Nat) (s:Int),i+m=n->s=T.sN (fun u=>ai E v u) i->Ev (fun k=>fu.l0 k v s i n E) (T.val n (ai E) v)
 |0,i,s,hi,a=>by
  obtain rfl:i=n:=by omega
  subst a;refine Ev.of_succ ?_;simp only[fu.l0,if_neg (show ¬((i:Int)<(i:Int)) by omega)];exact Ev.const _
 |m+1,i,s,hi,a=>by
  have b:=h.right.wt;have h1:=h.oZ v g;have hle:∀j,j<=n->0<=T.sN (fun u=>ai E v u) j/\T.sN (fun u=>ai E v u) j<=T.val n (ai E) v:=fun j p=>by
   refine⟨T.dg fun u _=>b.pos _ _,?_⟩;have:=wH (f:=fun u=>ai E v u) (fun u=>b.pos v u) j (n-j);rw[show j+(n-j)=n by omega] at this;exact this
  have e:=T.dH (fun u=>ai E v u) i;have q:=hle (i+1) (by omega);have r:=hle i (by omega);refine Ev.of_succ ?_;by_cases o:i=v
  ·subst o
   have l:=rA i g m (i+1) s (by omega) (by rw[e,b.self,Int.add_zero];exact a);simp only[fu.l0,if_pos (show (i:Int)<(n:Int) by omega),if_true,dF (show i<=1000000 by have:=h.n6;omega)];exact l
  ·have hb:=p3 (n:Int) E (i:Int) (v:Int) (by have:=h.len;omega)
   rw[<-jC h.right i v o,b.sym i v] at hb;have l:=rA v g m (i+1) (s+ai E v i) (by omega) (by rw[e,a]);simp only[fu.l0,if_pos (show (i:Int)<(n:Int) by omega),if_neg (show ¬(i:Int)=(v:Int) by omega),dF (show i<=1000000 by have:=h.n6;omega)];refine Ev.bind hb ?_;simp only[gV (show -1000000000<=s+ai E v i/\s+ai E v i<=1000000000 by omega)];exact l
theorem wK:∀(m i:Nat),i+m=n->Ev (fun k=>eR.l0 k ((List.range i).map fun u=>T.can n (ai E) u) i n E) (cG n E)
 |0,i,hi=>by
  obtain rfl:i=n:=by omega
  refine Ev.of_succ ?_;simp only[eR.l0,if_neg (show ¬((i:Int)<(i:Int)) by omega)];exact Ev.const _
 |m+1,i,hi=>by
  have b:=wK m (i+1) (by omega);have e:=h.n6;have g:=h.oZ i (by omega);rw[List.range_succ,List.map_append] at b;refine Ev.of_succ ?_;simp only[eR.l0,if_pos (show (i:Int)<(n:Int) by omega)];refine Ev.bind (a:=T.val n (ai E) i) ?_ ?_
  ·unfold fu.f
   exact h.rA i (by omega) n 0 0 (by omega) rfl
  ·simp only[List.length_map,List.length_range,if_pos (show i<17592186044416 by omega),dF (show i<=1000000 by omega),gV (show -1000000000<=T.val n (ai E) i-2/\T.val n (ai E) i-2<=1000000000 by omega)]
   exact b
theorem wL:Ev (fun k=>eR.f k n E) (cG n E):=by
 unfold eR.f;exact h.wK n 0 (by omega)
theorem kY {c:List Int}:(cI (cG n E) c).length=n:=by unfold cI;rw[kV];exact h.kl
theorem EZ {c:List Int} (b:c.length=n) (hb:∀v:Nat,v<n-> -1048576<=rd c v/\rd c v<=1048576):Ev (fun k=>kS.f k n E c) (cI (cG n E) c):=by
 have e:=h.n6;unfold kS.f;refine Ev.bind h.wL ?_;refine Ev.bind (EV (by rw[h.kl];omega) (by rw[h.kl];omega) (fun v a=>by rw[h.kl] at a;have:=h.wJ v a;have:=hb v a;omega)) ?_;exact Ev.const _
theorem wM (c:List Int) (a:c.length=n):∀(m i:Nat),i+m=n->Ev (fun k=>dY.l0 k c i n E) (if(c.drop i).all ct=true then(c,(0:Int)) else([],11))
 |0,i,hi=>by
  obtain rfl:i=n:=by omega
  rw[List.drop_of_length_le (by omega)];refine Ev.of_succ ?_;simp only[dY.l0,if_neg (show ¬((i:Int)<(i:Int)) by omega),List.all_nil,if_true];exact Ev.const _
 |m+1,i,hi=>by
  have b:=wM c a m (i+1) (by omega);have j:=h.n6;rw[uF (by omega),List.all_cons];refine Ev.of_succ ?_;have g:kX.f (rd c (i:Int))=some (ct (rd c i)):=by
   unfold kX.f ct;by_cases e:rd c (i:Int)>= -1048576
   ·rw[if_pos e]
    congr 2
    exact propext ⟨fun h=>⟨e,h⟩,fun h=>h.2⟩
   ·rw[if_neg e,aZ (fun h=>e h.1)]
  simp only[dY.l0,if_pos (show (i:Int)<(n:Int) by omega),if_pos (show (0:Int)<=(i:Int) by omega),if_pos (show (i:Int)<(c.length:Int) by omega),g,Option.bind_some,dF (show i<=1000000 by omega)];cases hb:ct (rd c (i:Int)) with
  |true=>
   simp only[if_true,Bool.true_and];exact b
  |false=>
   simp only[Bool.false_eq_true,if_false,Bool.false_and];exact Ev.const _
theorem wN (d:List Int):Ev (fun k=>iL.f k n E d) (fO n d):=DD h.EY (by have:=h.len;omega) d
theorem E4 {d:List Int} (a:fO n d≠0):Ev (fun k=>dY.f k n E d) (([]:List Int),fO n d):=by
 unfold dY.f;refine Ev.bind (h.wN d) ?_;simp only[if_neg a];exact Ev.const _
theorem rB (d:List Int):Ev (fun k=>bt.f k d n) (fO n d):=Dw d n ⟨by have:=h.n1;omega,by have:=h.n6;omega⟩
theorem E5 {d:List Int} (a:fO n d≠0):Ev (fun k=>cX.f k n E d) (([]:List Int),fO n d):=by
 unfold cX.f;refine Ev.bind h.nh ?_;simp only[if_true];refine Ev.bind (h.rB d) ?_;simp only[if_neg a];exact Ev.const _
theorem wO {d:List Int} (a:fO n d=0):Ev (fun k=>dY.f k n E d) (if(cI (cG n E) d).all ct=true then(cI (cG n E) d,(0:Int)) else([],11)):=by
 obtain⟨h1,b⟩:=h.oY a;unfold dY.f;refine Ev.bind (h.wN d) ?_;simp only[if_pos a];refine Ev.bind (h.EZ h1 b) ?_;have:=h.wM (cI (cG n E) d) h.kY n 0 (by omega);rw[List.drop_zero] at this;exact this
end Right
end
def ik.f (k:Nat) (b:Int) (e:List (S83)) (l1:List Int):Option (Bool×Int):=(cX.f k b e l1).bind fun a=>(if a.2=0 then((jh.f k b e a.1).bind fun g=>(some (g.1,g.2.2.2))) else(some (false,a.2)))
theorem ik.calls (k:Nat) (g:Int) (m:Option Addr) (n:Nat) (b:List (S83)) (q:Option Addr) (c1:Nat) (l1:List Int) (y:Bool) (z:Int) (w:World) (B:Kd.C aT w m b.length b) (D:b.length<=n) (E:Kd.C (Kd.int .i64) w q l1.length l1) (F:l1.length<=c1) (h:ik.f k g b l1=some (y,z)):
  Calls Tryz.prog 39 #[.agg #[.int .i64 g,.slice m b.length n],.slice q l1.length c1] w fun e w'=>e= .returned (.tuple #[.bool y,.int .i64 z])/\Below w.heap.size w w':=by
 have aa:=Tryz.underlying24;have s:=zA B;have u:=zA D;clear B D;have G:=zA E;have I:=zA F;clear E F;have a:=zA (ao w.heap.size w);unfold ik.f at h;have H:=h;clear h;obtain⟨⟨r,v⟩,J,H⟩:=zo H;dsimp only at H;by_cases c4:v=0
 ·rw[if_pos c4] at H
  obtain⟨K,L⟩:=bF c4;clear c4;obtain⟨⟨M,O,P,Q⟩,R,H⟩:=zo H;dsimp only at H;simp only[Option.some.injEq,Prod.mk.injEq] at H;obtain⟨rfl,rfl⟩:=H;go_enter Tryz.func39,Tryz.ntmps39
  go_wp2_with (first|((with_reducible refine aJ (N:=2) rfl ?_);refine zX 2 #[.int .i64 g,.slice m b.length n] 24 ?_;intro S o w6 p hb;have i:=zA (p);have T:=zG a o;have U:=zG a o;replace a:=zS a hb;clear hb p o;obtain⟨ad,ag,ak,am⟩:=ax i)|((with_reducible refine aC (f:=32) rfl ?_);refine zL (some 14) Tryz.func32 #[.agg #[.int .i64 g,.slice m b.length n],.slice q l1.length c1] ?_;(with_reducible refine(cX.calls k g _ _ b _ _ l1 r v _ ?af ?ah ?aX ?aW J.out).mono ?_);(case af=>exact Kd.au s.out zB);(case ah=>exact u.out);(case aX=>exact Kd.au G.out zB);(case aW=>exact I.out);rintro e w8 ⟨V,rfl,j,hb⟩;refine⟨_,rfl,?_⟩;have l:=zA (Kd.ba j (bp zB));replace i:=zb i hb;replace a:=zS a hb;(try clear hb);(try clear j);obtain⟨ap,ar,av,aB⟩:=ax i;obtain⟨W,X,Y⟩:=Kd.bb l.out;subst Y)|((with_reducible refine aC (f:=14) rfl ?_);refine zL (some 23) Tryz.func14 #[.agg #[.int .i64 g,.slice m b.length n],.slice W r.length X] ?_;(with_reducible refine(jh.calls k g _ _ b _ _ r M O P Q _ ?af ?ah ?aX ?aW R.out).mono ?_);(case af=>exact Kd.au s.out zB);(case ah=>exact u.out);(case aX=>exact zC (Kd.aD l.out).2.2);(case aW=>exact(Kd.aD l.out).2.1);rintro e ie ⟨aF,aL,rfl,j,x,hb⟩;refine⟨_,rfl,?_⟩;have aO:=zA (Kd.ba (Kd.bB j (Kd.a7 (zR l))) (bp zB));have aP:=zA (Kd.ba (Kd.bB x (Kd.a7 (zR l))) (bp zB));replace l:=zA (Kd.a_ (Kd.sH (Kd.sH (Kd.yZ (zR l) hb) (Kd.dD j)) (Kd.dD x)) (fun _ Z=>Z.1));replace i:=zb i hb;replace a:=zS a hb;(try clear hb);(try clear j);(try clear x)))
  go_ret2;exact⟨zE,zB⟩
 ·rw[if_neg c4] at H
  obtain⟨K,L⟩:=bI c4;simp only[Option.some.injEq,Prod.mk.injEq] at H;obtain⟨rfl,rfl⟩:=H;go_enter Tryz.func39,Tryz.ntmps39
  go_wp2_with (first|((with_reducible refine aJ (N:=2) rfl ?_);refine zX 2 #[.int .i64 g,.slice m b.length n] 24 ?_;intro S o aR p hb;have i:=zA (p);have T:=zG a o;have U:=zG a o;replace a:=zS a hb;clear hb p o;obtain⟨aS,a0,a1,a2⟩:=ax i)|((with_reducible refine aC (f:=32) rfl ?_);refine zL (some 14) Tryz.func32 #[.agg #[.int .i64 g,.slice m b.length n],.slice q l1.length c1] ?_;(with_reducible refine(cX.calls k g _ _ b _ _ l1 r v _ ?af ?ah ?aX ?aW J.out).mono ?_);(case af=>exact Kd.au s.out zB);(case ah=>exact u.out);(case aX=>exact Kd.au G.out zB);(case aW=>exact I.out);rintro e a3 ⟨V,rfl,j,hb⟩;refine⟨_,rfl,?_⟩;have l:=zA (Kd.ba j (bp zB));replace i:=zb i hb;replace a:=zS a hb;(try clear hb);(try clear j)))
  go_ret2;exact⟨zE,zB⟩
def il.f (k:Nat) (b:Int) (e:List (S83)) (l1:List Int):Option (Bool×Int):=(dY.f k b e l1).bind fun a=>(if a.2=0 then((bK.f k b e a.1).bind fun g=>(some (g,0))) else(some (false,a.2)))
theorem il.calls (k:Nat) (g:Int) (j:Option Addr) (l:Nat) (b:List (S83)) (q:Option Addr) (c1:Nat) (l1:List Int) (x:Bool) (y:Int) (w:World) (z:Kd.C aT w j b.length b) (B:b.length<=l) (D:Kd.C (Kd.int .i64) w q l1.length l1) (E:l1.length<=c1) (h:il.f k g b l1=some (x,y)):
  Calls Tryz.prog 40 #[.agg #[.int .i64 g,.slice j b.length l],.slice q l1.length c1] w fun e w'=>e= .returned (.tuple #[.bool x,.int .i64 y])/\Below w.heap.size w w':=by
 have V:=Tryz.underlying24;have s:=zA z;have u:=zA B;clear z B;have F:=zA D;have G:=zA E;clear D E;have a:=zA (ao w.heap.size w);unfold il.f at h;have H:=h;clear h;obtain⟨⟨r,v⟩,I,H⟩:=zo H;dsimp only at H;by_cases c4:v=0
 ·rw[if_pos c4] at H
  obtain⟨J,K⟩:=bF c4;clear c4;obtain⟨L,M,H⟩:=zo H;simp only[Option.some.injEq,Prod.mk.injEq] at H;obtain⟨rfl,rfl⟩:=H;go_enter Tryz.func40,Tryz.ntmps40
  go_wp2_with (first|((with_reducible refine aJ (N:=2) rfl ?_);refine zX 2 #[.int .i64 g,.slice j b.length l] 24 ?_;intro O m W o hb;have i:=zA (o);have P:=zG a m;have Q:=zG a m;replace a:=zS a hb;clear hb o m;obtain⟨X,Y,Z,aa⟩:=ax i)|((with_reducible refine aC (f:=37) rfl ?_);refine zL (some 11) Tryz.func37 #[.agg #[.int .i64 g,.slice j b.length l],.slice q l1.length c1] ?_;(with_reducible refine(dY.calls k g _ _ b _ _ l1 r v _ ?af ?ah ?aX ?aW I.out).mono ?_);(case af=>exact Kd.au s.out zB);(case ah=>exact u.out);(case aX=>exact Kd.au F.out zB);(case aW=>exact G.out);rintro e w8 ⟨R,rfl,p,hb⟩;refine⟨_,rfl,?_⟩;have n:=zA (Kd.ba p (bp zB));replace i:=zb i hb;replace a:=zS a hb;(try clear hb);(try clear p);obtain⟨ad,ag,ak,am⟩:=ax i;obtain⟨S,T,U⟩:=Kd.bb n.out;subst U)|((with_reducible refine aC (f:=92) rfl ?_);refine zL (some 19) Tryz.func92 #[.agg #[.int .i64 g,.slice j b.length l],.slice S r.length T] ?_;(with_reducible refine(bK.calls k g _ _ b _ _ r L _ ?af ?ah ?aX ?aW M.out).mono ?_);(case af=>exact Kd.au s.out zB);(case ah=>exact u.out);(case aX=>exact zC (Kd.aD n.out).2.2);(case aW=>exact(Kd.aD n.out).2.1);rintro e ie ⟨rfl,hb⟩;refine⟨_,rfl,?_⟩;replace n:=br n hb;replace i:=zb i hb;replace a:=zS a hb;(try clear hb)))
  go_ret2;exact⟨zE,zB⟩
 ·rw[if_neg c4] at H
  obtain⟨J,K⟩:=bI c4;simp only[Option.some.injEq,Prod.mk.injEq] at H;obtain⟨rfl,rfl⟩:=H;go_enter Tryz.func40,Tryz.ntmps40
  go_wp2_with (first|((with_reducible refine aJ (N:=2) rfl ?_);refine zX 2 #[.int .i64 g,.slice j b.length l] 24 ?_;intro O m an o hb;have i:=zA (o);have P:=zG a m;have Q:=zG a m;replace a:=zS a hb;clear hb o m;obtain⟨ap,ar,av,aB⟩:=ax i)|((with_reducible refine aC (f:=37) rfl ?_);refine zL (some 11) Tryz.func37 #[.agg #[.int .i64 g,.slice j b.length l],.slice q l1.length c1] ?_;(with_reducible refine(dY.calls k g _ _ b _ _ l1 r v _ ?af ?ah ?aX ?aW I.out).mono ?_);(case af=>exact Kd.au s.out zB);(case ah=>exact u.out);(case aX=>exact Kd.au F.out zB);(case aW=>exact G.out);rintro e aF ⟨R,rfl,p,hb⟩;refine⟨_,rfl,?_⟩;have n:=zA (Kd.ba p (bp zB));replace i:=zb i hb;replace a:=zS a hb;(try clear hb);(try clear p)))
  go_ret2;exact⟨zE,zB⟩
def ji.f (k:Nat) (a:Int) (b:List (S83)):Option (List Int×Int):=(iK.f k a b).bind fun e=>(if e=0 then((eR.f k a b).bind fun g=>(some (g,0))) else(some (([]:List Int),e)))
theorem ji.calls (k:Nat) (g:Int) (j:Option Addr) (l:Nat) (b:List (S83)) (r:List Int) (s:Int) (w:World) (u:Kd.C aT w j b.length b) (v:b.length<=l) (h:ji.f k g b=some (r,s)):
  Calls Tryz.prog 36 #[.agg #[.int .i64 g,.slice j b.length l]] w fun e w'=>∃x:Value,e= .returned (.tuple #[x,.int .i64 s])/\Kd.R (Kd.int .i64) 3 w' w.heap.size (fun _=>True) x r/\Below w.heap.size w w':=by
 have L:=Tryz.underlying24;have o:=zA u;have p:=zA v;clear u v;have a:=zA (ao w.heap.size w);unfold ji.f at h;have H:=h;clear h;obtain⟨q,y,H⟩:=zo H;by_cases c3:q=0
 ·rw[if_pos c3] at H
  obtain⟨B,D⟩:=bF c3;clear c3;obtain⟨E,F,H⟩:=zo H;simp only[Option.some.injEq,Prod.mk.injEq] at H;obtain⟨rfl,rfl⟩:=H;go_enter Tryz.func36,Tryz.ntmps36
  go_wp2_with (first|((with_reducible refine aJ (N:=1) rfl ?_);refine zX 1 #[.int .i64 g,.slice j b.length l] 24 ?_;intro G m M n hb;have i:=zA (n);have I:=zG a m;have J:=zG a m;replace a:=zS a hb;clear hb n m;obtain⟨O,P,Q,S⟩:=ax i)|((with_reducible refine aC (f:=48) rfl ?_);refine zL (some 6) Tryz.func48 #[.agg #[.int .i64 g,.slice j b.length l]] ?_;(with_reducible refine(iK.calls k g _ _ b q _ ?af ?ah y.out).mono ?_);(case af=>exact Kd.au o.out zB);(case ah=>exact p.out);rintro e T ⟨rfl,hb⟩;refine⟨_,rfl,?_⟩;replace i:=zb i hb;replace a:=zS a hb;(try clear hb);obtain⟨U,V,W,X⟩:=ax i)|((with_reducible refine aC (f:=90) rfl ?_);refine zL (some 11) Tryz.func90 #[.agg #[.int .i64 g,.slice j b.length l]] ?_;(with_reducible refine(eR.calls k g _ _ b E _ ?af ?ah F.out).mono ?_);(case af=>exact Kd.au o.out zB);(case ah=>exact p.out);rintro e Y ⟨Z,rfl,z,hb⟩;refine⟨_,rfl,?_⟩;have K:=zA (Kd.ba z (bp zB));replace i:=zb i hb;replace a:=zS a hb;(try clear hb);(try clear z)))
  go_ret2;exact⟨_,zE,by(with_reducible repeat(first|apply Kd.aK|apply Kd.bq|apply Kd.bd));exact K.out,zB⟩
 ·rw[if_neg c3] at H
  obtain⟨B,D⟩:=bI c3;simp only[Option.some.injEq,Prod.mk.injEq] at H;obtain⟨rfl,rfl⟩:=H;go_enter Tryz.func36,Tryz.ntmps36
  go_wp2_with (first|((with_reducible refine aJ (N:=1) rfl ?_);refine zX 1 #[.int .i64 g,.slice j b.length l] 24 ?_;intro G m aa n hb;have i:=zA (n);have I:=zG a m;have J:=zG a m;replace a:=zS a hb;clear hb n m;obtain⟨ab,ad,ag,ak⟩:=ax i)|((with_reducible refine aC (f:=48) rfl ?_);refine zL (some 6) Tryz.func48 #[.agg #[.int .i64 g,.slice j b.length l]] ?_;(with_reducible refine(iK.calls k g _ _ b q _ ?af ?ah y.out).mono ?_);(case af=>exact Kd.au o.out zB);(case ah=>exact p.out);rintro e am ⟨rfl,hb⟩;refine⟨_,rfl,?_⟩;replace i:=zb i hb;replace a:=zS a hb;(try clear hb)))
  go_ret2;exact⟨_,zE,by first|exact Kd.cW _ _ _ _ _|exact Kd.fx _ _ _ _ _|exact Kd.V_nil _ _ _ _ _|exact Kd.Q_nil _ _ _ _ _|exact Kd.fh _ _ _ _ _,zB⟩
def l4.f (k:Nat) (a:Int) (b:List (S83)):Option (Bool):=(kR.f k a b 6 9).bind fun e=>(some e)
theorem l4.calls (k:Nat) (b:Int) (i:Option Addr) (j:Nat) (a:List (S83)) (r:Bool) (w:World) (o:Kd.C aT w i a.length a) (p:a.length<=j) (h:l4.f k b a=some r):
  Calls Tryz.prog 142 #[.agg #[.int .i64 b,.slice i a.length j]] w fun e w'=>e= .returned (.bool r)/\Below w.heap.size w w':=by
 have x:=Tryz.underlying24;have s:=zA o;have u:=zA p;clear o p;have g:=zA (ao w.heap.size w);have H:((kR.f k b a 6 9).bind fun l=>(some l))=some r:=h;clear h;obtain⟨l,v,H⟩:=zo H;obtain rfl:=aH H;go_enter Tryz.func142,Tryz.ntmps142
 go_wp2_with (first|((with_reducible refine aJ (N:=1) rfl ?_);refine zX 1 #[.int .i64 b,.slice i a.length j] 24 ?_;intro y m w3 q hb;have n:=zA (q);have z:=zG g m;have B:=zG g m;replace g:=zS g hb;clear hb q m;obtain⟨D,E,F,G⟩:=ax n)|((with_reducible refine aC (f:=97) rfl ?_);refine zL (some 4) Tryz.func97 #[.agg #[.int .i64 b,.slice i a.length j],.int .i64 6,.int .i64 9] ?_;(with_reducible refine(kR.calls k b _ _ a 6 9 l _ ?af ?ah v.out).mono ?_);(case af=>exact Kd.au s.out zB);(case ah=>exact u.out);rintro e I ⟨rfl,hb⟩;refine⟨_,rfl,?_⟩;replace n:=zb n hb;replace g:=zS g hb;(try clear hb)))
 go_ret;exact⟨zE,zB⟩
def l5.f (k:Nat) (a:Int) (b:List (S83)):Option (Bool):=(l4.f k a b).bind fun e=>(some e)
theorem l5.calls (k:Nat) (b:Int) (i:Option Addr) (j:Nat) (a:List (S83)) (r:Bool) (w:World) (o:Kd.C aT w i a.length a) (p:a.length<=j) (h:l5.f k b a=some r):
  Calls Tryz.prog 88 #[.agg #[.int .i64 b,.slice i a.length j]] w fun e w'=>e= .returned (.bool r)/\Below w.heap.size w w':=by
 have x:=Tryz.underlying24;have s:=zA o;have u:=zA p;clear o p;have g:=zA (ao w.heap.size w);have H:((l4.f k b a).bind fun l=>(some l))=some r:=h;clear h;obtain⟨l,v,H⟩:=zo H;obtain rfl:=aH H;go_enter Tryz.func88,Tryz.ntmps88
 go_wp2_with (first|((with_reducible refine aJ (N:=1) rfl ?_);refine zX 1 #[.int .i64 b,.slice i a.length j] 24 ?_;intro y m w3 q hb;have n:=zA (q);have z:=zG g m;have B:=zG g m;replace g:=zS g hb;clear hb q m;obtain⟨D,E,F,G⟩:=ax n)|((with_reducible refine aC (f:=142) rfl ?_);refine zL (some 4) Tryz.func142 #[.agg #[.int .i64 b,.slice i a.length j]] ?_;(with_reducible refine(l4.calls k b _ _ a l _ ?af ?ah v.out).mono ?_);(case af=>exact Kd.au s.out zB);(case ah=>exact u.out);rintro e I ⟨rfl,hb⟩;refine⟨_,rfl,?_⟩;replace n:=zb n hb;replace g:=zS g hb;(try clear hb)))
 go_ret;exact⟨zE,zB⟩
end Go.Proofs.YtffdiakgjakngaaGreat.P


namespace Go.Proofs.YtffdiakgjakngaaGreat.P
open Go.RowKit Go.Proofs.YtffdiakgjakngaaGreatW.PrintWords Go.Proofs.YtffdiakgjakngaaGreatW.PrintLast Go.Proofs.YtffdiakgjakngaaGreatW.PrintMore
set_option linter.unusedVariables false
set_option linter.unusedSimpArgs false
set_option maxHeartbeats 8000000
set_option maxRecDepth 100000
def kZ.f (k:Nat) (a:Int) (b:List (S83)):Option (Bool):=(l5.f k a b).bind fun e=>(some e)
theorem kZ.calls (k:Nat) (b:Int) (i:Option Addr) (j:Nat) (a:List (S83)) (r:Bool) (w:World) (o:Kd.C aT w i a.length a) (p:a.length<=j) (h:kZ.f k b a=some r):
  Calls Tryz.prog 34 #[.agg #[.int .i64 b,.slice i a.length j]] w fun e w'=>e= .returned (.bool r)/\Below w.heap.size w w':=by
 have x:=Tryz.underlying24;have s:=zA o;have u:=zA p;clear o p;have g:=zA (ao w.heap.size w);have H:((l5.f k b a).bind fun l=>(some l))=some r:=h;clear h;obtain⟨l,v,H⟩:=zo H;obtain rfl:=aH H;go_enter Tryz.func34,Tryz.ntmps34
 go_wp2_with (first|((with_reducible refine aJ (N:=1) rfl ?_);refine zX 1 #[.int .i64 b,.slice i a.length j] 24 ?_;intro y m w3 q hb;have n:=zA (q);have z:=zG g m;have B:=zG g m;replace g:=zS g hb;clear hb q m;obtain⟨D,E,F,G⟩:=ax n)|((with_reducible refine aC (f:=88) rfl ?_);refine zL (some 4) Tryz.func88 #[.agg #[.int .i64 b,.slice i a.length j]] ?_;(with_reducible refine(l5.calls k b _ _ a l _ ?af ?ah v.out).mono ?_);(case af=>exact Kd.au s.out zB);(case ah=>exact u.out);rintro e I ⟨rfl,hb⟩;refine⟨_,rfl,?_⟩;replace n:=zb n hb;replace g:=zS g hb;(try clear hb)))
 go_ret;exact⟨zE,zB⟩
section
attribute [local go_sem] Oper.semAt_some
theorem E6 (A:Option Addr) (n c:Nat) (bl:Int) (w:World):Calls Tryz.prog 182 #[.slice A n c,.int .i64 bl] w fun e w'=>e= .returned (.func (.func 202) #[] #[.pointer (some ⟨w.heap.size,0,none⟩),.pointer (some ⟨w.heap.size+1,0,none⟩)])/\w'=(w.alloc (.cells #[.slice A n c] 33)).alloc (.cells #[.int .i64 bl] 3):=by
 go_enter Tryz.func182,Tryz.ntmps182
 go_wp2;go_ret;exact⟨rfl,rfl⟩
def jT (bl:Int) (c:List Int):Int:=c.foldl (fun s x=>wrap64 (s-x)) bl
def cQ (bl:Int) (c:List Int):List Int:=c.set 0 (jT bl (c.drop 1))
theorem E7 (bl:Int) (c:List Int) (x:Int):jT bl (c++[x])=wrap64 (jT bl c-x):=by simp[jT,List.foldl_append]
theorem E8 (bl:Int) {c:List Int} {j:Nat} (h:j<c.length-1):jT bl ((c.drop 1).take (j+1))=wrap64 (jT bl ((c.drop 1).take j)-c.getD (j+1) 0):=by
 rw[List.take_succ_eq_append_getElem (by simpa using h),E7,List.getElem_drop,bh,bX (show j+1<c.length by omega)];simp[Nat.add_comm]
theorem wP {W:World} {e base:Nat} {ok:Nat->Prop} {A:Option Addr} {cap:Nat} {L:List (List Int)} (h:Kd.N (Kd.slice 3 (Kd.int .i64)) e W base ok (.slice A L.length cap) L) (i:Nat) (hi:i<L.length):
  ∃g a cc,A=some ⟨g,0,none⟩/\W.cell? ⟨g,i,none⟩=some (.slice a (L.getD i []).length cc)/\(L.getD i []).length<=cc/\Kd.F (Kd.int .i64) W ok a (L.getD i []).length (L.getD i []):=by
 have hC:=(Kd.iV h).2.2;obtain⟨ad,he,_⟩:=hC.2.2 (by omega);subst he;obtain⟨g,rfl⟩:∃g,ad=⟨g,0,none⟩:=by
  obtain⟨_,rows,_,j,_⟩:=h;exact Kd.lA j
 obtain⟨ce,o,k,l⟩:=Kd.nI h [] (i:Int) (by omega) (by omega);obtain⟨m,n,rfl,ul,ge⟩:=Kd.kC k;have b:=l 0 _ rfl;rw[Nat.add_zero,show ((Kd.slice 3 (Kd.int .i64))).sz=1 from rfl,Nat.mul_one,aQ,add_plain] at b;rw[aQ] at ul ge;exact⟨g,m,n,rfl,b,ul,Kd.nE ge (fun _ hk=>hk.1)⟩
theorem E9 {W:World} {e base:Nat} {ok:Nat->Prop} {v:Value} {xs:List Int} (h:(Kd.int .i64).R e W base ok v xs) (hp:0<xs.length):∃g c,v= .slice (some ⟨g,0,none⟩) xs.length c:=by
 obtain⟨A,c,rfl⟩:=Kd.bb h;obtain⟨ad,he,_⟩:=(Kd.aD h).2.2.2.2 hp;subst he;obtain⟨g,rfl⟩:=Kd.lA h;exact⟨g,c,rfl⟩
theorem E_ {c:List Int} {x:Int} (h:0<c.length):bO 0 (c.set 0 x) 0=x:=by
 cases c with
 |nil=>simp at h
 |cons a c=>rfl
theorem Fa {W:World} {ok:Nat->Prop} {A:Option Addr} {c:List Int} (h:Kd.F (Kd.int .i64) W ok A c.length c) (hp:0<c.length):∃ad,A=some ad:=by
 obtain⟨ad,he,_⟩:=(Kd.jX h).2.2 hp;exact⟨ad,he⟩
theorem Fb {W:World} {ad:Addr} {c:List Int} (h:(Kd.int .i64).C W (some ad) c.length c) {j:Nat} (a:j<c.length-1):W.cell? ⟨ad.block,ad.off+1+j,none⟩=some (.int .i64 (c.getD (j+1) 0)):=by
 have h1:=Kd.zd h ((j+1:Nat):Int) (by omega) (by omega);rw[aQ] at h1;have e:ad.add (j+1)=⟨ad.block,ad.off+1+j,none⟩:=by unfold Addr.add;rw[if_neg (by omega)];simp only[Addr.mk.injEq,and_true,true_and];omega
 rw[e] at h1;simpa [rd] using h1
def Fc (a b e gd:Nat) (X Y:World):Prop:=∀k,(a<=k/\k<b\/k=e\/k=gd)->k<X.heap.size->Y.heap[k]? =X.heap[k]?
theorem Fe (a gd I y n:Nat) (s:Option Addr) (cl base:Nat) (L:List (List Int)) (bl:Int) (W:World) (b':y<=a) (hg:a<gd) (hn:2<=n) (cb:n<=12) (hL:∀c∈L,c.length=n) (cd:L.length<=16384)
  (hR:Kd.N (Kd.slice 3 (Kd.int .i64)) 26 W base (fun k=>I<=k/\k<y) (.slice s L.length cl) L)
  (K:W.heap[a]? =some (.cells #[.slice s L.length cl] 33 (0,0))) (am:W.heap[gd]? =some (.cells #[.int .i64 bl] 3 (0,0))):
  jb (σ:=Unit) Fence.wide 9 Tryz.prog 202 #[.pointer (some ⟨a,0,none⟩),.pointer (some ⟨gd,0,none⟩)] (fun x:List Int×Value=>#[x.2]) (fun _ W W1=>W1=W) (fun _ A B=>Below A.heap.size A B) (fun _ x A B=>(∃c,c∈L/\x.1=cQ bl c)/\(Kd.int .i64).R 3 B A.heap.size (fun _=>True) x.2 x.1/\Below A.heap.size A B)
   (fun _ X Y=>Fc I y a gd X Y)
   (fun _ xs W'=>xs.map Prod.fst=L.map (cQ bl)) (fun _ _ _=>True) (fun pre=>pre.length<L.length) W:=by
 intro lp J Jx an ap ar av;have bg:=zA an;have cf:=zA ap;have hY:=zA av;have HL:=zA hL;have aB:=ar () W rfl;clear an ap ar av hL;refine callsIn_of_wp Tryz.func202 rfl trivial ?_ rfl;simp only[Tryz.ntmps202,List.size_toArray,List.length_cons,List.length_nil,Nat.reduceAdd,Nat.reduceSub,Array.replicate_succ,Array.replicate_zero,List.push_toArray,List.append_toArray,List.nil_append,List.cons_append];have x0:W.cell? ⟨a,0,none⟩=some (.slice s L.length cl):=(al K 0).trans rfl;have b:=zA K;have o:=zA am;have h:=zA hR;have ch:L.length<=9223372036854775807:=by omega
 clear K am hR;gi_wp2;clear x0;gi_loopg [11] (L.length) (fun M i wr=>∃(v:Nat) (xs:List (List Int×Value)),i= .int .i64 v/\v<=L.length/\Aside0 (J () xs wr)/\Aside0 (xs.map Prod.fst=(L.take v).map (cQ bl))/\Aside0 (wr.heap[a]? =some (.cells #[.slice s L.length cl] 33 (0,0)))/\Aside0 (wr.heap[gd]? =some (.cells #[.int .i64 bl] 3 (0,0)))/\Aside0 (Kd.N (Kd.slice 3 (Kd.int .i64)) 26 wr base (fun k=>I<=k/\k<y) (.slice s L.length cl) L)/\Aside0 (M=L.length-v))
 case atStart=>exact⟨0,[],rfl,Nat.zero_le _,⟨aB⟩,⟨rfl⟩,b,o,h,⟨rfl⟩⟩
 case round=>
  clear aB b o h;obtain⟨v,xs,rfl,hv,z,O,b,o,h,HK⟩:=hrel;by_cases l:v<L.length
  ·have cj:(0:Int)<=(v:Int):=by omega
   have ck:(v:Int)<(L.length:Int):=by omega
   obtain⟨g,Ac,cc,rfl,y1,y2,u⟩:=wP h.out v l;have aO:=HL.out (L.getD v []) (by rw[bh,bX l];exact List.getElem_mem l);have aP:=zA (show (L.take (v+1)).map (cQ bl)=(L.take v).map (cQ bl)++[cQ bl (L.getD v [])] by rw[List.take_succ_eq_append_getElem l,List.map_append,bh,bX l];rfl);have aR:=zA (show L.getD v []∈L by rw[bh,bX l];exact List.getElem_mem l);generalize L.getD v []=c at y1 y2 u aO aP aR;subst aO;obtain⟨ad,rfl⟩:=Fa u (by omega);have P:=zA u;have cq:=Kd.yG u;have bv:Aside0 (∀W,(Kd.int .i64).C W (some ad) c.length c->Calls Tryz.prog 57 #[.slice (some ad) c.length cc] W fun e w'=>∃aS:Value,e= .returned (aS)/\Kd.R (Kd.int .i64) 3 w' W.heap.size (fun _=>True) aS c/\Below W.heap.size W w'):=⟨fun W hC=>fL.calls (some ad) cc c c W hC y2 (by unfold fL.f clone.f;rw[if_pos (by omega)])⟩;clear u;have cr:(0:Int)<(c.length:Int):=by omega
   have cs:(1:Int)<=(c.length:Int):=by omega
   have cv:¬cc=1:=by omega
   gi_wp2_with (refine⟨trivial,?_⟩;gi_at_call 57;refine(callsIn_wide.2 (bv.out _ (Kd.jX P.out))).mono ?_;rintro e w3 ⟨vd,rfl,D,m⟩;obtain⟨g0,c0,rfl⟩:=E9 D (by omega);have Q:=zA D;have S:=zA (bg.out () _ _ _ z.out m);have T:=zA (aM b.out m);have E:=zA (aM o.out m);have U:=zA (Kd.gD h.out m);have bw:=zA (Kd.pD P.out m);have a0:=zA m;have z1:w3.cell? ⟨gd,0,none⟩=some (.int .i64 bl):=(al E.out 0).trans rfl;obtain⟨z2,z3⟩:=Kd.bP 0 D (0:Int) (by omega) (by omega);simp only[Int.toNat_zero] at z2 z3;clear D m y1)
   have a1:=zA (show wr.heap.size<=g0 from Kd.dD Q.out g0 rfl);have c1:=zA (aE b.out);have F:=zA (Kd.de Q.out 0 bl).1;have V:=zA (Below.setCell (p:=⟨g0,0,none⟩) a0.out a1.out (.int .i64 bl));simp only[Int.toNat_zero] at F;clear S T E U bw a0 Q z1 z2 z3;generalize w3.setCell ⟨g0,0,none⟩ (.int .i64 bl)=w4 at F V⊢;obtain⟨q,rfl⟩:∃q:World,q=wr:=⟨_,rfl⟩;gi_loopg [23] (c.length-1) (fun M i wi=>∃j:Nat,i= .int .i64 j/\j<=c.length-1/\Aside0 (Kd.R (Kd.int .i64) 3 wi q.heap.size (fun _=>True) (.slice (some ⟨g0,0,none⟩) c.length c0) (c.set 0 (jT bl ((c.drop 1).take j))))/\Aside0 (Below q.heap.size q wi)/\Aside0 (M=c.length-1-j))
   case atStart=>exact⟨0,rfl,Nat.zero_le _,F,V,⟨rfl⟩⟩
   case round=>
    clear F V;obtain⟨j,rfl,hj,w,r,bx⟩:=hrel;by_cases a2:j<c.length-1
    ·have c4:(0:Int)<=(j:Int):=by omega
     have c5:(j:Int)<((c.length-1:Nat):Int):=by omega
     have z1:=Fb (Kd.jX (Kd.pD P.out r.out)) a2;obtain⟨z2,z3⟩:=Kd.bP 0 w.out (0:Int) (by omega) (by simp;omega);rw[E_ (by omega)] at z2;simp only[Int.toNat_zero] at z2 z3;have Z:=zA (E8 bl a2);have G:=zA (Kd.de w.out 0 (wrap64 (jT bl ((c.drop 1).take j)-c.getD (j+1) 0))).1;have aa:=zA (Below.setCell (p:=⟨g0,0,none⟩) r.out a1.out (.int .i64 (wrap64 (jT bl ((c.drop 1).take j)-c.getD (j+1) 0))));simp only[Int.toNat_zero,List.set_set] at G;rw[<-Z.out] at G;rw[<-Z.out] at aa;gi_wp2;gi_roundg (c.length-1- (j+1))
     case measure=>rw[bx.out];omega
     case rel=>
      have e:=Z.out;rw[List.drop_one,bh] at e;rw[List.drop_one] at G aa;rw[<-e];exact⟨j+1,by go_num,by omega,by rw[List.drop_one];exact G,aa,⟨rfl⟩⟩
    ·obtain rfl:j=c.length-1:=by omega
     rw[List.take_of_length_le (by simp)] at w;have a3:Aside0 (Kd.R (Kd.int .i64) 3 wr q.heap.size (fun _=>True) (.slice (some ⟨g0,0,none⟩) c.length c0) (cQ bl c)):=w;have c6:xs.length=v:=by have:=congrArg List.length O.out;simp at this;omega
     obtain⟨fn,tmps,c7,c8,hy,a4⟩:=hY.out () xs (cQ bl c,.slice (some ⟨g0,0,none⟩) c.length c0) _ _ z.out ⟨⟨c,aR.out,rfl⟩,a3.out,r.out⟩ (by omega);have b2:=zA a4;have a5:=zA (aM b.out r.out);have a9:=zA (aM o.out r.out);have b3:=zA (Kd.gD h.out r.out);have b4:=zA (aE a9.out);have b5:=zA (aE a5.out);simp only at hy;clear a4 z b o h w a3;gi_wp2;refine b2.out.mono ?_;rintro e W3 (⟨rfl,be,H⟩|⟨rfl,bf⟩)
     ·have S:=zA be
      have T:=zA ((H a (.inr (.inl rfl)) b5.out).trans a5.out);have E:=zA ((H gd (.inr (.inr rfl)) b4.out).trans a9.out);have U:=zA (Kd.mi b3.out (fun k hk b6=>H k (.inl hk) b6));clear be H hy;gi_wp2;gi_roundg (L.length- (v+1))
      case measure=>rw[HK.out];omega
      case rel=>exact⟨v+1,xs++[(cQ bl c,.slice (some ⟨g0,0,none⟩) c.length c0)],by go_num,by omega,S,⟨by rw[aP.out,List.map_append,O.out];rfl⟩,T,E,U,⟨rfl⟩⟩
     ·have b_:=zA bf
      clear bf hy;gi_wp2;refine bodyPost_ret (results_none rfl _ _ _) rfl ?_;exact⟨⟨_,rfl⟩,.inr ⟨(),_,trivial,b_.out⟩⟩
  ·obtain rfl:v=L.length:=by omega
   gi_wp2;go_end0;exact⟨⟨_,rfl⟩,.inl ⟨(),xs,by rw[O.out,List.take_length],z.out⟩⟩
end
def dr.l0:Nat->List Int->List Int->List Int->Int->Int->Option (Int)
 |0,_,_,_,_,_=>none
 |k+1,e,x1,b,g,a=>if a<g then(if 0<=a then(if a<(b.length:Int) then(if a>=(x1.length:Int) then(some 1) else(if a<(x1.length:Int) then((gW.f (rd b a) (rd x1 a)).bind fun h=>(if h=0 then(dr.l0 k e x1 b g (wrap64 (a+1))) else(some h))) else(none))) else(none)) else(none)) else(if(e.length:Int)<(x1.length:Int) then(some (-1)) else(some 0))
def dr.f (k:Nat) (l0:List Int) (l1:List Int):Option (Int):=dr.l0 k l0 l1 l0 (l0.length:Int) 0
theorem dr.cm:∀k,(∀a b e g i,aj (dr.l0 k a b e g i) (dr.l0 (k+1) a b e g i))
 |0=>fun _ _ _ _ _ r h=>by simp[dr.l0] at h
 |k+1=>by
  have j:=dr.cm k
  ·intro a b e g i
   unfold dr.l0;with_reducible repeat' first|exact j _ _ _ _ _|exact aj.refl _|exact aj.none _|refine aj.ite ?_ ?_|refine aj.bind ?_ (fun _=>?_)
theorem dr.mono:∀a0 a k,aj (dr.f k a0 a) (dr.f (k+1) a0 a):=by
 intro a0 a k;have b:=dr.cm k;unfold dr.f;with_reducible repeat' first|exact b _ _ _ _ _|exact aj.refl _|exact aj.none _|refine aj.ite ?_ ?_|refine aj.bind ?_ (fun _=>?_)
theorem dr.calls (k:Nat) (A0:Option Addr) (c0:Nat) (l0:List Int) (z:Option Addr) (c1:Nat) (l1:List Int) (r:Int) (w:World) (B:Kd.C (Kd.int .i64) w A0 l0.length l0) (D:l0.length<=c0) (E:Kd.C (Kd.int .i64) w z l1.length l1) (F:l1.length<=c1) (h:dr.f k l0 l1=some r):
  Calls Tryz.prog 51 #[.slice A0 l0.length c0,.slice z l1.length c1] w fun e w'=>e= .returned (.int .i64 r)/\aA w w':=by
 have u:=zA B;have X:=zA D;clear B D;have G:=zA E;have Y:=zA F;clear E F;have H:(dr.l0 k l0 l1 l0 (l0.length:Int) 0)=some r:=h;clear h;have p:=zA H;clear H;go_enter Tryz.func51,Tryz.ntmps51
 go_wp2;go_loopg [11] k (fun I v11 w'=>∃(a:Int),v11= .int .i64 a/\Aside0 (dr.l0 I l0 l1 l0 (l0.length:Int) a=some r)/\Aside0 (I<=k)/\aA w w')
 case atStart=>exact⟨(0),zT,p,⟨aI _⟩,by repeat(first|exact aA.refl _|apply aA.step)⟩
 case round=>
  clear p;obtain⟨a,rfl,v,J,⟨m1,rfl⟩⟩:=hrel;cases gk with
  |zero=>exact absurd v.out (by simp[dr.l0])
  |succ N=>
   have H:=v.out;clear v;simp only[dr.l0] at H;by_cases c3:a<(l0.length:Int)
   ·rw[if_pos c3] at H
    have O:=az c3;clear c3;by_cases c4:0<=a
    ·rw[if_pos c4] at H
     have Z:=az c4;clear c4;by_cases q:a<(l0.length:Int)
     ·rw[if_pos q] at H
      have aa:=az q;clear q;by_cases m:a>=(l1.length:Int)
      ·rw[if_pos m] at H
       have P:=az m;clear m;obtain rfl:=aH H;have b:0<=(a:Int):=aw ‹_›;have g:a<(l0.length:Int):=aw ‹_›;obtain⟨K,n,L⟩:=Kd.bL u.out a b g;cases n;replace b:=eq_true b;replace g:=eq_true g;go_wp2;go_ret;exact⟨zT,by repeat(first|exact aA.refl _|apply aA.step)⟩
      ·rw[if_neg m] at H
       have P:=aZ m;clear m;by_cases s:a<(l1.length:Int)
       ·rw[if_pos s] at H
        have ab:=az s;clear s;obtain⟨x,M,H⟩:=zo H;by_cases o:x=0
        ·rw[if_pos o] at H
         obtain⟨Q,R⟩:=bF o;clear o;have p:=zA H;clear H;have b:0<=(a:Int):=aw ‹_›;have g:a<(l0.length:Int):=aw ‹_›;obtain⟨K,n,L⟩:=Kd.bL u.out a b g;cases n;replace b:=eq_true b;replace g:=eq_true g;have j:0<=(a:Int):=aw ‹_›;have l:a<(l1.length:Int):=aw ‹_›;obtain⟨S,y,T⟩:=Kd.bL G.out a j l;cases y;replace j:=eq_true j;replace l:=eq_true l;go_wp2_with (first|((with_reducible refine aC (f:=107) rfl ?_);refine zL (some 26) Tryz.func107 #[.int .i64 (rd l0 a),.int .i64 (rd l1 a)] ?_;(with_reducible refine(gW.calls (rd l0 a) (rd l1 a) x _ M.out).mono ?_);rintro e w' ⟨rfl,⟨U,rfl⟩⟩;refine⟨_,rfl,?_⟩))
         go_roundg N
         case measure=>have:=J.out;omega
         case rel=>exact⟨(wrap64 (a+1)),zT,p,⟨by have:=J.out;omega⟩,by repeat(first|exact aA.refl _|apply aA.step)⟩
        ·rw[if_neg o] at H
         obtain⟨Q,R⟩:=bI o;obtain rfl:=aH H;have b:0<=(a:Int):=aw ‹_›;have g:a<(l0.length:Int):=aw ‹_›;obtain⟨K,n,L⟩:=Kd.bL u.out a b g;cases n;replace b:=eq_true b;replace g:=eq_true g;have j:0<=(a:Int):=aw ‹_›;have l:a<(l1.length:Int):=aw ‹_›;obtain⟨S,y,T⟩:=Kd.bL G.out a j l;cases y;replace j:=eq_true j;replace l:=eq_true l;go_wp2_with (first|((with_reducible refine aC (f:=107) rfl ?_);refine zL (some 26) Tryz.func107 #[.int .i64 (rd l0 a),.int .i64 (rd l1 a)] ?_;(with_reducible refine(gW.calls (rd l0 a) (rd l1 a) x _ M.out).mono ?_);rintro e w' ⟨rfl,⟨U,rfl⟩⟩;refine⟨_,rfl,?_⟩))
         go_ret;exact⟨zT,by repeat(first|exact aA.refl _|apply aA.step)⟩
       ·rw[if_neg s] at H
        exact absurd H (by simp)
     ·rw[if_neg q] at H
      exact absurd H (by simp)
    ·rw[if_neg c4] at H
     exact absurd H (by simp)
   ·rw[if_neg c3] at H
    have O:=aZ c3;clear c3;by_cases i:(l0.length:Int)<(l1.length:Int)
    ·rw[if_pos i] at H
     have V:=az i;have W:decide (l0.length<l1.length)=true:=az (Int.ofNat_lt.mp i);clear i;obtain rfl:=aH H;go_wp2;go_ret;exact⟨zT,by repeat(first|exact aA.refl _|apply aA.step)⟩
    ·rw[if_neg i] at H
     have V:=aZ i;have W:decide (l0.length<l1.length)=false:=aZ (fun h=>i (Int.ofNat_lt.mpr h));clear i;obtain rfl:=aH H;go_wp2;go_ret;exact⟨zT,by repeat(first|exact aA.refl _|apply aA.step)⟩
end Go.Proofs.YtffdiakgjakngaaGreat.P
namespace Go.Proofs.YtffdiakgjakngaaGreat.P
open Go.RowKit Go.Proofs.YtffdiakgjakngaaGreatW.PrintWords Go.Proofs.YtffdiakgjakngaaGreatW.PrintLast Go.Proofs.YtffdiakgjakngaaGreatW.PrintMore
open Go.Sort Go.Shelf
set_option linter.unusedVariables false
set_option linter.unusedSimpArgs false
set_option maxHeartbeats 8000000
set_option maxRecDepth 100000
section
def Ff:Go.Shelf.Ren:=⟨fun|6=>49|15=>106|14=>105|28=>162|29=>163|20=>154|21=>155|22=>156|23=>157|24=>158|25=>159|26=>160|27=>161|46=>188|47=>189|48=>190|49=>191|50=>192|57=>205|n=>n,fun|22=>33|24=>26|25=>79|3=>3|39=>133|0=>0|53=>184|55=>186|4=>4|46=>178|45=>177|50=>173|5=>5|9=>9|66=>209|70=>213|76=>222|77=>55|n=>n,fun|n=>n⟩
theorem Fg:SlLaysF.n6 Tryz.prog Ff:={
 mixed:=by kernel_rfl,
 f6:=⟨Tryz.f49.name,by decide,Tryz.func49.trans (congrArg some (by kernel_rfl))⟩,
 f14:=⟨Tryz.f105.name,by decide,Tryz.func105.trans (congrArg some (by kernel_rfl))⟩,
 f15:=Tryz.func106.trans (congrArg some (by kernel_rfl)),
 f20:=⟨Tryz.f154.name,by decide,Tryz.func154.trans (congrArg some (by kernel_rfl))⟩,
 f21:=⟨Tryz.f155.name,by decide,Tryz.func155.trans (congrArg some (by kernel_rfl))⟩,
 f22:=⟨Tryz.f156.name,by decide,Tryz.func156.trans (congrArg some (by kernel_rfl))⟩,
 f23:=⟨Tryz.f157.name,by decide,Tryz.func157.trans (congrArg some (by kernel_rfl))⟩,
 f24:=⟨Tryz.f158.name,by decide,Tryz.func158.trans (congrArg some (by kernel_rfl))⟩,
 f25:=⟨Tryz.f159.name,by decide,Tryz.func159.trans (congrArg some (by kernel_rfl))⟩,
 f26:=⟨Tryz.f160.name,by decide,Tryz.func160.trans (congrArg some (by kernel_rfl))⟩,
 f27:=⟨Tryz.f161.name,by decide,Tryz.func161.trans (congrArg some (by kernel_rfl))⟩,
 f28:=Tryz.func162.trans (congrArg some (by kernel_rfl)),
 f29:=Tryz.func163.trans (congrArg some (by kernel_rfl)),
 f46:=⟨Tryz.f188.name,by decide,Tryz.func188.trans (congrArg some (by kernel_rfl))⟩,
 f47:=Tryz.func189.trans (congrArg some (by kernel_rfl)),
 f48:=Tryz.func190.trans (congrArg some (by kernel_rfl)),
 f49:=⟨Tryz.f191.name,by decide,Tryz.func191.trans (congrArg some (by kernel_rfl))⟩,
 f50:=⟨Tryz.f192.name,by decide,Tryz.func192.trans (congrArg some (by kernel_rfl))⟩,
 f57:=⟨Tryz.f205.name,by decide,Tryz.func205.trans (congrArg some (by kernel_rfl))⟩,
 t0:=Tryz.underlying0,
 a0:=Tryz.isAgg0,
 z0:=Tryz.sizeOf0,
 v0:=Tryz.zeroValue0,
 t3:=Tryz.underlying3,
 a3:=Tryz.isAgg3,
 z3:=Tryz.sizeOf3,
 v3:=Tryz.zeroValue3,
 t4:=Tryz.underlying4,
 a4:=Tryz.isAgg4,
 z4:=Tryz.sizeOf4,
 v4:=Tryz.zeroValue4,
 t5:=Tryz.underlying5,
 a5:=Tryz.isAgg5,
 z5:=Tryz.sizeOf5,
 v5:=Tryz.zeroValue5,
 t9:=Tryz.underlying9,
 a9:=Tryz.isAgg9,
 z9:=Tryz.sizeOf9,
 v9:=Tryz.zeroValue9,
 t22:=Tryz.underlying33,
 a22:=Tryz.isAgg33,
 z22:=Tryz.sizeOf33,
 v22:=Tryz.zeroValue33,
 a24:=Tryz.isAgg26,
 z24:=Tryz.sizeOf26,
 t25:=Tryz.underlying79,
 a25:=Tryz.isAgg79,
 z25:=Tryz.sizeOf79,
 v25:=Tryz.zeroValue79,
 t39:=Tryz.underlying133,
 a39:=Tryz.isAgg133,
 z39:=Tryz.sizeOf133,
 v39:=Tryz.zeroValue133,
 t45:=Tryz.underlying177,
 a45:=Tryz.isAgg177,
 z45:=Tryz.sizeOf177,
 v45:=Tryz.zeroValue177,
 t46:=Tryz.underlying178,
 a46:=Tryz.isAgg178,
 z46:=Tryz.sizeOf178,
 v46:=Tryz.zeroValue178,
 t50:=Tryz.underlying173,
 a50:=Tryz.isAgg173,
 z50:=Tryz.sizeOf173,
 v50:=Tryz.zeroValue173,
 t53:=Tryz.underlying184,
 a53:=Tryz.isAgg184,
 z53:=Tryz.sizeOf184,
 v53:=Tryz.zeroValue184,
 t55:=Tryz.underlying186,
 a55:=Tryz.isAgg186,
 z55:=Tryz.sizeOf186,
 v55:=Tryz.zeroValue186,
 t66:=Tryz.underlying209,
 a66:=Tryz.isAgg209,
 z66:=Tryz.sizeOf209,
 v66:=Tryz.zeroValue209,
 t70:=Tryz.underlying213,
 a70:=Tryz.isAgg213,
 z70:=Tryz.sizeOf213,
 v70:=Tryz.zeroValue213,
 t76:=Tryz.underlying222,
 a76:=Tryz.isAgg222,
 z76:=Tryz.sizeOf222,
 v76:=Tryz.zeroValue222,
 t77:=Tryz.underlying55,
 a77:=Tryz.isAgg55,
 z77:=Tryz.sizeOf55,
 v77:=Tryz.zeroValue55}
def wQ (G:Nat):Prop:=∀(k:Nat) (A B:Option Addr) (c d:Nat) (a lb:List Int) (r:Int) (W:World),(Kd.int .i64).C W A a.length a->a.length<=c->(Kd.int .i64).C W B lb.length lb->lb.length<=d->dr.f k a lb=some r->
  Calls Tryz.prog G #[.slice A a.length c,.slice B lb.length d] W fun e w'=>e= .returned (.int .i64 r)/\aA W w'
theorem Fh:wQ 183:=fun k A B c d b lb r W a g hb i h=>by
 have H:=zA (dr.calls k A c b B d lb r W a g hb i h);clear h a hb;go_enter Tryz.func183,Tryz.ntmps183
 go_wp2_with (go_at_call 51;refine H.out.mono ?_;rintro e w' ⟨rfl,hd⟩;have j:=zA hd;clear hd)
 go_ret;exact⟨rfl,j.out⟩
section
variable {α:Type} [Inhabited α] {enc:α->Value}
theorem Fi {w:World} {g n:Nat} {os:Array Obj} {cur:Array Value} {e:TypeId} {fr:Nat×Nat} (d:Array α) (hb:w.heap[g]? =some (.cells cur e fr)):
  (Go.Sort.grow (putRow enc (Sort.ahead w n) g 0 d) os).heap[g]? =some (.cells (putCells enc 0 d cur) e fr):=by
 have a:g<w.heap.size:=(Array.getElem?_eq_some_iff.1 hb).1;rw[heap_grow_old _ _ (by simpa using a)];simp[putRow,mapBlock,Sort.ahead,Array.getElem?_modify,hb,onCells]
theorem wR {w:World} {g n:Nat} {os:Array Obj} (d:Array α):w.grownBy (Go.Sort.grow (putRow enc (Sort.ahead w n) g 0 d) os) (some g):=by
 refine⟨rfl,rfl,rfl,by simp,fun k hk a=>?_⟩;rw[heap_grow_old _ _ (by simpa using hk)];have:g≠k:=fun e=>a (by rw[e])
 simp[putRow,mapBlock,Sort.ahead,Array.getElem?_modify,this]
theorem Fj (cur:Array Value) (a:List α) (h:a.length<=cur.size):(putCells enc 0 a.toArray cur).toList.take a.length=a.map enc:=by
 apply List.ext_getElem?
 intro j;by_cases b:j<a.length
 ·rw[List.getElem?_take_of_lt b,Array.getElem?_toList]
  simp[putCells,b,show j<cur.size by omega]
 ·rw[List.getElem?_take_eq_none (by omega),List.getElem?_eq_none (by simp;omega)]
end
theorem Fk {G:Nat} (HG:wQ G) (eg:∀args w,(callFunc G args).run Tryz.prog w= .ok (.enter G args) w) {k m g cap base:Nat} {ok:Nat->Prop} {L:List (List Int)} (a:Fin (m+1)->Fin (m+1)->Int) {W:World} (R:L.length=m+1) (hm:m<4000000)
  (hR:Kd.N (Kd.slice 3 (Kd.int .i64)) 26 W base ok (.slice (some ⟨g,0,none⟩) L.length cap) L) (am:∀i j:Fin (m+1),dr.f k (L.getD i.1 []) (L.getD j.1 [])=some (a i j)) (hO:SWO (Go.Proofs.ltOf a)):
  Calls Tryz.prog 49 #[.slice (some ⟨g,0,none⟩) L.length cap,.func (.func G) #[] #[]] W fun e w'=>e= .returned (.tuple #[])/\∃idx:List (Fin (m+1)),idx.Perm (List.finRange (m+1))/\idx.Pairwise (fun i j=>Go.Proofs.ltOf a j i=false)/\Kd.N (Kd.slice 3 (Kd.int .i64)) 26 w' base ok (.slice (some ⟨g,0,none⟩) L.length cap) (idx.map fun i=>L.getD i.1 [])/\W.grownBy w' (some g):=by
 obtain⟨S,rows,a5,⟨h1,inner,F,H⟩,hf⟩:=hR;have an:=F;obtain⟨T,F⟩:=an;rcases F with⟨I,_⟩|⟨g2,a9,cur,I,ap,z,hn,ar,J,K⟩
 ·cases I
 injection I with r be av
 injection r with r
 injection r with r
 subst r av;have aY:(Kd.raw (Kd.slice 3 (Kd.int .i64)).sz).sz=1:=rfl;rw[aY] at T J K H;rw[Nat.mul_one] at T J K;have U:∀i,i<m+1->rows[i]? =some [inner.getD i undef]:=fun i hi=>by
  have V:rows[i]? =some rows[i]:=bX (by omega);have C:=(H.2 i _ V).1;rw[V,<-C,Nat.mul_one,List.take_one,List.head?_drop,bh,bX (show i<inner.length by omega)];rfl
 have X:∀i,i<m+1->(inner.getD i undef).oneCell'=true:=fun i hi=>by
  have h:=H.2 i _ (U i hi);exact h.2.2 _ (by rw[h.1];simp)
 obtain⟨enc,D⟩:∃enc:Fin (m+1)->Value,enc=fun i=>inner.getD i.1 undef:=⟨_,rfl⟩
 have M:∀i:Fin (m+1),Kd.FK (Kd.slice 3 (Kd.int .i64)) W (fun k=>ok k/\some k≠(Value.slice (some ⟨g,0,none⟩) L.length cap).ownBlock) (L.getD i.1 []) [enc i]:=fun i=>by
  have E:L[i.1]? =some (L.getD i.1 []):=by rw[bh,bX (show i.1<L.length by omega)];rfl
  rw[D];exact hf i.1 _ _ E (U i.1 i.2)
 have hlen:(List.finRange (m+1)).toArray.size=m+1:=by simp
 have Y:∀(l:Nat) (os:Array Obj) (o:Array (Fin (m+1))) (b:Nat),b≠g->b<W.heap.size->(sortWorld enc W g 0 l o os).heap[b]? =W.heap[b]? :=fun l os o b hb s=>by
  unfold sortWorld;exact(wR (enc:=enc) (w:=W) (g:=g) (n:=l) (os:=os) o).block b s (fun e=>hb (aH e))
 have aB:CmpReads Tryz.prog G #[] enc a g 0 (List.finRange (m+1)).toArray.size W:=fun l os o bf x y=>by
  obtain⟨A,c,ex,aF,aL⟩:=Kd.kC (M x);obtain⟨B,d,O,aO,aP⟩:=Kd.kC (M y);injection ex with ex
  injection O with O
  rw[ex,O];have Z:∀b,(ok b/\some b≠(Value.slice (some ⟨g,0,none⟩) L.length cap).ownBlock)->b<W.heap.size->(sortWorld enc W g 0 l o os).heap[b]? =W.heap[b]? :=fun b hb s=>Y l os o b (fun e=>hb.2 (by rw[e];rfl)) s
  refine(HG k A B c d _ _ (a x y) _ (Kd.jX (Kd.pC aL Z)) aF (Kd.jX (Kd.pC aP Z)) aO (am x y)).mono ?_;rintro e w' ⟨rfl,hd⟩;exact⟨rfl,hd.out⟩
 have aR:Holds enc W g 0 (List.finRange (m+1)).toArray:=fun j q=>by
  rw[hlen] at q;refine⟨?_,by simp[World.frozen?,z]⟩;have C:(cur.toList.take rows.length)[j]? =inner[j]? :=by rw[K]
  rw[List.getElem?_take_of_lt (by omega),Array.getElem?_toList] at C;simp only[World.cell?,z,Nat.zero_add,Option.isSome_none,Bool.false_eq_true,if_false];rw[C,bX (by omega),D];simp[show j<m+1 from q,show j<inner.length by omega]
 have aa:=Any.slices_SortFunc Fg enc (fun i=>by rw[D];exact X i.1 i.2) a hO G #[] g 0 cap (List.finRange (m+1)).toArray W eg aB.lays aR ((Array.getElem?_eq_some_iff.1 z).1) (by rw[hlen];omega);rw[hlen] at aa;rw[R];have aS:Calls Tryz.prog 49 _ _ _:=aa;refine aS.mono ?_;rintro e w' ⟨rfl,d',n,os,hp,hs,rfl⟩;obtain⟨P,_,ab⟩:=hp;rw[hlen] at P;have Q:d'.toList.length=m+1:=by simpa using P
 refine⟨rfl,d'.toList,?_,?_,?_,wR (enc:=enc) (n:=n) (os:=os) d'⟩
 ·have e1:d'.extract 0 (m+1)=d':=Array.extract_eq_self_of_le (by omega)
  rw[e1,Array.extract_eq_self_of_le (by simp)] at ab;exact ab
 ·refine List.pairwise_iff_getElem.2 fun i j hi q a2=>?_
  have h:=hs i j (Nat.zero_le _) a2 (by omega);rw[getElem!_pos d' i (by omega),getElem!_pos d' j (by omega)] at h;simpa using h
 ·have a3:(Go.Sort.grow (putRow enc (Sort.ahead W n) g 0 d') os).heap[g]? =some (.cells (putCells enc 0 d' cur) 26 (0,0)):=Fi d' z
  have a4:(putCells enc 0 d' cur).toList.take (m+1)=d'.toList.map enc:=by
   have h:=Fj (enc:=enc) cur d'.toList (by rw[Q];omega);rw[Q] at h;exact h
  refine⟨by rw[R] at S;exact S,d'.toList.map fun i=>[enc i],by simp,⟨fun k hk=>hk.symm,d'.toList.map enc,⟨by rw[aY];simp,.inr ⟨g,cap,_,?_,ap,a3,?_,ar,?_,?_⟩⟩,?_⟩,?_⟩
  ·simp[P]
  ·simp;omega
  ·rw[aY];simp[putCells,J]
  ·rw[aY];simp only[List.length_map,Nat.mul_one,Q];exact a4
  ·refine⟨by rw[aY];simp,fun j p q=>?_⟩
   rw[List.getElem?_map] at q;obtain⟨i,hi,rfl⟩:=Option.map_eq_some_iff.1 q;have bg:=(List.getElem?_eq_some_iff.1 hi).1;have e2:((d'.toList.map enc).drop (j*(Kd.raw (Kd.slice 3 (Kd.int .i64)).sz).sz)).take (Kd.raw (Kd.slice 3 (Kd.int .i64)).sz).sz=[enc i]:=by
    rw[aY,Nat.mul_one,List.take_one,List.head?_drop,List.getElem?_map,hi];rfl
   rw[e2];refine⟨rfl,rfl,fun u hu=>?_⟩;rw[List.mem_singleton.1 hu,D];exact X i.1 i.2
  ·intro j x c E v
   rw[List.getElem?_map] at E v;obtain⟨i,hi,rfl⟩:=Option.map_eq_some_iff.1 E;rw[hi] at v;injection v with v
   subst v;refine Kd.lD (Kd.kB (M i) (fun k hk=>⟨hk.1,hk.2⟩)) (fun b hb s=>Y n os d' b (fun e=>hb.2 (by rw[e];rfl)) s)
end
end Go.Proofs.YtffdiakgjakngaaGreat.P
namespace Go.Proofs.YtffdiakgjakngaaGreat.P
open Go.RowKit Go.Proofs.YtffdiakgjakngaaGreatW.PrintWords Go.Proofs.YtffdiakgjakngaaGreatW.PrintLast Go.Proofs.YtffdiakgjakngaaGreatW.PrintMore
set_option linter.unusedVariables false
set_option linter.unusedSimpArgs false
set_option maxHeartbeats 8000000
set_option maxRecDepth 100000
def dQ.l0:Nat->List (List Int)->Int->Int->Int->List (S83)->Option (Int)
 |0,_,_,_,_,_=>none
 |k+1,b,e,a,g,i=>if a<e then(if 0<=a then(if a<(b.length:Int) then((bt.f k (a6 b a) g).bind fun h=>(if h=0 then(dQ.l0 k b e (wrap64 (a+1)) g i) else(some h))) else(none)) else(none)) else(some 0)
def dQ.f (k:Nat) (b:Int) (e:List (S83)) (l1:List (List Int)):Option (Int):=(cu.f k b e).bind fun a=>(if a.2=0 then(if a.1=true then(dQ.l0 k l1 (l1.length:Int) 0 b e) else(some 13)) else(some a.2))
theorem dQ.cm:∀k,(∀a b e g i,aj (dQ.l0 k a b e g i) (dQ.l0 (k+1) a b e g i))
 |0=>fun _ _ _ _ _ r h=>by simp[dQ.l0] at h
 |k+1=>by
  have j:=dQ.cm k
  ·intro a b e g i
   unfold dQ.l0;with_reducible repeat' first|exact j _ _ _ _ _|exact bt.mono _ _ _|exact cu.mono _ _ _|exact aj.refl _|exact aj.none _|refine aj.ite ?_ ?_|refine aj.bind ?_ (fun _=>?_)
theorem dQ.mono:∀a0 a a2 k,aj (dQ.f k a0 a a2) (dQ.f (k+1) a0 a a2):=by
 intro a0 a a2 k;have b:=dQ.cm k;unfold dQ.f;with_reducible repeat' first|exact b _ _ _ _ _|exact bt.mono _ _ _|exact cu.mono _ _ _|exact aj.refl _|exact aj.none _|refine aj.ite ?_ ?_|refine aj.bind ?_ (fun _=>?_)
theorem dQ.calls (k:Nat) (b:Int) (m:Option Addr) (n:Nat) (i:List (S83)) (U:Option Addr) (c1:Nat) (l1:List (List Int)) (r:Int) (w:World) (V:Kd.C aT w m i.length i) (W:i.length<=n) (X:Kd.C (Kd.slice 3 (Kd.int .i64)) w U l1.length l1) (Y:l1.length<=c1) (h:dQ.f k b i l1=some r):
  Calls Tryz.prog 75 #[.agg #[.int .i64 b,.slice m i.length n],.slice U l1.length c1] w fun e w'=>e= .returned (.int .i64 r)/\Below w.heap.size w w':=by
 have a0:=Tryz.underlying24;have G:=zA V;have I:=zA W;clear V W;have Z:=zA X;have a1:=zA Y;clear X Y;have a:=zA (ao w.heap.size w);unfold dQ.f at h;have H:=h;clear h;obtain⟨⟨aa,z⟩,J,H⟩:=zo H;dsimp only at H;by_cases c4:z=0
 ·rw[if_pos c4] at H
  obtain⟨ab,ad⟩:=bF c4;clear c4;by_cases B:aa=true
  ·subst B
   replace H:=zi H;have D:=zA H;clear H;go_enter Tryz.func75,Tryz.ntmps75
   go_wp2_with (first|((with_reducible refine aJ (N:=2) rfl ?_);refine zX 2 #[.int .i64 b,.slice m i.length n] 24 ?_;intro K l w6 o hb;have j:=zA (o);have ag:=zG a l;have ak:=zG a l;replace a:=zS a hb;clear hb o l;obtain⟨ar,av,aB,aF⟩:=ax j)|((with_reducible refine aC (f:=113) rfl ?_);refine zL (some 12) Tryz.func113 #[.agg #[.int .i64 b,.slice m i.length n]] ?_;(with_reducible refine(cu.calls k b _ _ i true z _ ?af ?ah J.out).mono ?_);(case af=>exact Kd.au G.out zB);(case ah=>exact I.out);rintro e w8 ⟨rfl,hb⟩;refine⟨_,rfl,?_⟩;replace j:=zb j hb;replace a:=zS a hb;(try clear hb)))
   go_loopg [22] k (fun kq v22 w'=>∃(g:Int),v22= .int .i64 g/\Aside0 (dQ.l0 kq l1 (l1.length:Int) g b i=some r)/\Aside0 (kq<=k)/\Aside0 (w'.heap[K]? =some (.cells #[.int .i64 b,(.slice m i.length n)] 24 (0,0)))/\Aside0 (Below w.heap.size w w'))
   case atStart=>exact⟨(0),zT,D,⟨aI _⟩,⟨zK j⟩,⟨zB⟩⟩
   case round=>
    clear D;clear ab ad ar av aB aF;obtain⟨g,rfl,L,an,j,a⟩:=hrel;cases gk with
    |zero=>exact absurd L.out (by simp[dQ.l0])
    |succ M=>
     have H:=L.out;clear L;simp only[dQ.l0] at H;by_cases u:g<(l1.length:Int)
     ·rw[if_pos u] at H
      have aL:=az u;clear u;by_cases E:0<=g
      ·rw[if_pos E] at H
       have a4:=az E;clear E;by_cases F:g<(l1.length:Int)
       ·rw[if_pos F] at H
        have a5:=az F;clear F;obtain⟨O,ap,H⟩:=zo H;by_cases v:O=0
        ·rw[if_pos v] at H
         obtain⟨aO,aP⟩:=bF v;clear v;have D:=zA H;clear H;have p:0<=(g:Int):=aw ‹_›;have q:g<(l1.length:Int):=aw ‹_›;obtain⟨aR,P,Q,R,s,x,y⟩:=fX Z.out g p q;cases R;replace s:=(a.out.cell (bs w _ s)).trans s;have S:=zA y;have T:=zA x;clear y x;replace p:=eq_true p;replace q:=eq_true q;obtain⟨a9,be,bf,bg⟩:=ax j;go_wp2_with (first|((with_reducible refine aC (f:=87) rfl ?_);refine zL (some 29) Tryz.func87 #[.slice P (a6 l1 g).length Q,.int .i64 b] ?_;(with_reducible refine(bt.calls M _ _ (a6 l1 g) b O _ ?af ?ah ap.out).mono ?_);(case af=>exact Kd.au S.out zB);(case ah=>exact T.out);rintro e w' ⟨rfl,⟨nd,rfl⟩⟩;refine⟨_,rfl,?_⟩))
         go_roundg M
         case measure=>have:=an.out;omega
         case rel=>exact⟨(wrap64 (g+1)),zT,D,⟨by have:=an.out;omega⟩,⟨zK j⟩,⟨zB⟩⟩
        ·rw[if_neg v] at H
         obtain⟨aO,aP⟩:=bI v;obtain rfl:=aH H;have p:0<=(g:Int):=aw ‹_›;have q:g<(l1.length:Int):=aw ‹_›;obtain⟨aR,P,Q,R,s,x,y⟩:=fX Z.out g p q;cases R;replace s:=(a.out.cell (bs w _ s)).trans s;have S:=zA y;have T:=zA x;clear y x;replace p:=eq_true p;replace q:=eq_true q;obtain⟨bi,bk,bn,bo⟩:=ax j;go_wp2_with (first|((with_reducible refine aC (f:=87) rfl ?_);refine zL (some 29) Tryz.func87 #[.slice P (a6 l1 g).length Q,.int .i64 b] ?_;(with_reducible refine(bt.calls M _ _ (a6 l1 g) b O _ ?af ?ah ap.out).mono ?_);(case af=>exact Kd.au S.out zB);(case ah=>exact T.out);rintro e w' ⟨rfl,⟨nd,rfl⟩⟩;refine⟨_,rfl,?_⟩))
         go_ret;exact⟨zE,zB⟩
       ·rw[if_neg F] at H
        exact absurd H (by simp)
      ·rw[if_neg E] at H
       exact absurd H (by simp)
     ·rw[if_neg u] at H
      have aL:=aZ u;clear u;obtain rfl:=aH H;go_wp2;go_ret;exact⟨zE,zB⟩
  ·replace B:=Bool.eq_false_iff.mpr B
   subst B;replace H:=zj H;obtain rfl:=aH H;go_enter Tryz.func75,Tryz.ntmps75
   go_wp2_with (first|((with_reducible refine aJ (N:=2) rfl ?_);refine zX 2 #[.int .i64 b,.slice m i.length n] 24 ?_;intro K l bv o hb;have j:=zA (o);have ag:=zG a l;have ak:=zG a l;replace a:=zS a hb;clear hb o l;obtain⟨bw,bx,b0,b1⟩:=ax j)|((with_reducible refine aC (f:=113) rfl ?_);refine zL (some 12) Tryz.func113 #[.agg #[.int .i64 b,.slice m i.length n]] ?_;(with_reducible refine(cu.calls k b _ _ i false z _ ?af ?ah J.out).mono ?_);(case af=>exact Kd.au G.out zB);(case ah=>exact I.out);rintro e b2 ⟨rfl,hb⟩;refine⟨_,rfl,?_⟩;replace j:=zb j hb;replace a:=zS a hb;(try clear hb)))
   go_ret;exact⟨zE,zB⟩
 ·rw[if_neg c4] at H
  obtain⟨ab,ad⟩:=bI c4;obtain rfl:=aH H;go_enter Tryz.func75,Tryz.ntmps75
  go_wp2_with (first|((with_reducible refine aJ (N:=2) rfl ?_);refine zX 2 #[.int .i64 b,.slice m i.length n] 24 ?_;intro K l b3 o hb;have j:=zA (o);have ag:=zG a l;have ak:=zG a l;replace a:=zS a hb;clear hb o l;obtain⟨b4,b5,b6,b_⟩:=ax j)|((with_reducible refine aC (f:=113) rfl ?_);refine zL (some 12) Tryz.func113 #[.agg #[.int .i64 b,.slice m i.length n]] ?_;(with_reducible refine(cu.calls k b _ _ i aa z _ ?af ?ah J.out).mono ?_);(case af=>exact Kd.au G.out zB);(case ah=>exact I.out);rintro e b' ⟨rfl,hb⟩;refine⟨_,rfl,?_⟩;replace j:=zb j hb;replace a:=zS a hb;(try clear hb)))
  go_ret;exact⟨zE,zB⟩
section
attribute [local go_sem] Oper.semAt_some
theorem wS {α:Type} {d:Kd α} {W:World} {e base:Nat} {ok:Nat->Prop} {v:Value} {xs:List α} (h:d.R e W base ok v xs) (hp:0<xs.length):∃g c,v= .slice (some ⟨g,0,none⟩) xs.length c:=by
 obtain⟨A,c,rfl⟩:=Kd.bb h;obtain⟨ad,he,_⟩:=(Kd.aD h).2.2.2.2 hp;subst he;obtain⟨g,rfl⟩:=Kd.lA h;exact⟨g,c,rfl⟩
theorem Fl {W W1:World} {q:Nat} {r:Option Nat} (h:(W.drewN q).grownBy W1 r):W.grownBy W1 r:=⟨h.os,h.tape,h.output,h.size,h.block⟩
theorem Fm (k n m:Nat) (A0:Option Addr) (c0:Nat) (E:List S83) (bl:Int) (C:List (List Int)) (cf:Fin (m+1)->Fin (m+1)->Int) (w:World) (bv:Kd.C aT w A0 E.length E) (bw:E.length<=c0) (hn:2<=n) (d8:n<=12) (gm: -1048576<=bl) (gn:bl<=1048576)
  (b_:dQ.f k n E []=some 0) (b':fa.f k n E 0=some (C,0)) (ca:∀c∈C,c.length=n) (cb:C.length=m+1) (d9:C.length<=16384) (cc:∀c∈C,bt.f k (cQ bl c) n=some 0)
  (cd:∀i j:Fin (m+1),dr.f k ((C.map (cQ bl)).getD i.1 []) ((C.map (cQ bl)).getD j.1 [])=some (cf i j)) (hO:Go.Sort.SWO (ltOf cf)):
  Calls Tryz.prog 136 #[.agg #[.int .i64 n,.slice A0 E.length c0],.int .i64 bl] w fun e w'=>∃v,∃idx:List (Fin (m+1)),e= .returned (.tuple #[v,.int .i64 0])/\idx.Perm (List.finRange (m+1))/\idx.Pairwise (fun i j=>ltOf cf j i=false)/\Kd.N (Kd.slice 3 (Kd.int .i64)) 26 w' w.heap.size (fun k_=>w.heap.size<=k_) v (idx.map fun i=>(C.map (cQ bl)).getD i.1 [])/\Below w.heap.size w w':=by
 have hu:=Tryz.underlying24;have Hg:=zA b_;have Ha:=zA b';have ed:=zA ca;have eg:=zA cc;have ek:=zA cd;have el:=zA hO;have go:¬bl< -1048576:=by omega
 have gp:¬1048576<bl:=by omega
 have H:=zA (mV w (.cells #[.int .i64 n,.slice A0 E.length c0] 24) (.cells #[.slice none 0 0] 33) (.cells #[.int .i64 0] 30));have em:(((w.alloc (.cells #[.int .i64 n,.slice A0 E.length c0] 24)).alloc (.cells #[.slice none 0 0] 33)).alloc (.cells #[.int .i64 0] 30)).cell? ⟨w.heap.size,0,none⟩=some (.int .i64 n):=(al H.out.1 0).trans rfl;have er:(((w.alloc (.cells #[.int .i64 n,.slice A0 E.length c0] 24)).alloc (.cells #[.slice none 0 0] 33)).alloc (.cells #[.int .i64 0] 30)).cell? ⟨w.heap.size,1,none⟩=some (.slice A0 E.length c0):=(al H.out.1 1).trans rfl;have ce:=zA cb;clear b_ b' ca cc cd hO cb;refine(callsIn_wide (n:=10)).1 ?_;refine callsIn_of_wp_marks Tryz.func136 rfl trivial ?_ rfl;simp only[Tryz.ntmps136,List.size_toArray,List.length_cons,List.length_nil,Nat.reduceAdd,Nat.reduceSub,Array.replicate_succ,Array.replicate_zero,List.push_toArray,List.append_toArray,List.nil_append,List.cons_append];gi_wp2_with (first|(refine⟨trivial,?_⟩;gi_at_call 75;refine(callsIn_wide.2 (dQ.calls k n A0 c0 E none 0 [] 0 _ (Kd.bE (Kd.bE (Kd.bE bv _) _) _) bw (Kd.nm _ _) (Nat.zero_le _) Hg.out)).mono ?_;rintro e w1 ⟨rfl,hb⟩;have HB:=zA ((aq (aq (aq (ao w.heap.size w) _) _) _).trans (hb.mono (by simp;omega)));have X0:=zA (aM H.out.1 hb);have z:=zA (aM H.out.2.1 hb);have X2:=zA (aM H.out.2.2 hb);have y0:w1.cell? ⟨w.heap.size,0,none⟩=some (.int .i64 n):=(al X0.out 0).trans rfl;have y1:w1.cell? ⟨w.heap.size,1,none⟩=some (.slice A0 E.length c0):=(al X0.out 1).trans rfl;clear hb)|(refine⟨trivial,?_⟩;gi_at_call 114;refine(callsIn_wide.2 (fa.calls k n A0 c0 E 0 C 0 _ (Kd.au bv HB.out) bw Ha.out)).mono ?_;rintro e w2 ⟨v,rfl,I,J⟩;obtain⟨V,cl,rfl, -⟩:=Kd.yS I;have HN:=zA (Kd.pF I);have ci:=zA (a8 HB.out J);have Z0:=zA (aM X0.out J);have Z1:=zA (aM z.out J);have Z2:=zA (aM X2.out J);have ew:=zA J.size;clear I J)|(refine⟨trivial,?_⟩;gi_at_call 182;refine(callsIn_wide.2 (E6 _ _ _ _ _)).mono ?_;rintro e w3 ⟨rfl,rfl⟩))
 have ex:w.heap.size+1+1<w2.heap.size:=aE Z2.out;have co:w1.heap.size<=w2.heap.size:=ew.out;have ey:=HB.out.size;obtain⟨L,cq⟩:∃o:Obj,o= .cells #[.slice V C.length cl] 33:=⟨_,rfl⟩;obtain⟨M,cs⟩:∃o:Obj,o= .cells #[.int .i64 bl] 3:=⟨_,rfl⟩;obtain⟨O,c2⟩:∃o:Obj,o= .cells #[.slice none 0 0] 33:=⟨_,rfl⟩;obtain⟨V0,V1,V2⟩:=mV w2 O L M;have am:=zA (V0.trans (by rw[c2]:_=some (.cells #[.slice none 0 0] 33 (0,0))));have aP:=zA (V1.trans (by rw[cq]:_=some (.cells #[.slice V C.length cl] 33 (0,0))));have aR:=zA (V2.trans (by rw[cs]:_=some (.cells #[.int .i64 bl] 3 (0,0))));have aS:=zA (aq (aq (aq ci.out O) L) M);have c6:=zA (ay (ay (ay Z0.out O) L) M);have c7:=zA (ay (ay (ay Z1.out O) L) M);have c8:=zA (ay (ay (ay Z2.out O) L) M);have an:=zA (Kd.eP (Kd.eP (Kd.eP (Kd.eI HN.out (ok':=fun k=>w1.heap.size<=k/\k<w2.heap.size) (fun k hk=>hk)) O) L) M);clear V0 V1 V2;subst cq cs c2;clear y0 y1 em er X0 z X2 Z0 Z1 Z2 HB ci H HN;have a0:(((w2.alloc (.cells #[.slice none 0 0] 33)).alloc (.cells #[.slice V C.length cl] 33)).alloc (.cells #[.int .i64 bl] 3)).heap.size=w2.heap.size+3:=by simp
 generalize ((w2.alloc (.cells #[.slice none 0 0] 33)).alloc (.cells #[.slice V C.length cl] 33)).alloc (.cells #[.int .i64 bl] 3)=b at am aP aR aS c6 c7 c8 an a0⊢;have e0:=zA a0;have e1:w2.heap.size<b.heap.size:=by omega
 have e4:w2.heap.size+1<b.heap.size:=by omega
 have e5:w2.heap.size+1+1<b.heap.size:=by omega
 clear a0;generalize e6:w2.heap.size+1+1=qx at aR e5⊢;generalize e_:w2.heap.size+1=gx at aP e4 e6⊢;generalize w2.heap.size=bo at am e0 ex co e1 e_ an⊢;generalize w1.heap.size=b0 at an co ey⊢;have gq:=aS.out.size;refine iC (σ:=Unit) (α:=List Int×Value) (F:=Fence.wide) (n:=10) rfl (by decide) (gf:=202) (lb:=#[.pointer (some ⟨gx,0,none⟩),.pointer (some ⟨qx,0,none⟩)]) rfl trivial (enters_of Tryz.func202 (by kernel_rfl) rfl)
  (fun o=>Fe gx qx b0 bo n V cl _ C bl _ (by omega) (by omega) hn d8 ed.out d9 (Kd.eP (Kd.eP an.out _) _) (ay (ay aP.out _) _) (ay (ay aR.out _) _)) (fun _=>rfl)
  (fun _=>True) ?eF ?st ?ar
  (fun _ pre W=>b.heap.size+2<=W.heap.size/\(∃v,W.heap[bo]? =some (.cells #[v] 33 (0,0))/\(Kd.slice 3 (Kd.int .i64)).R 26 W w.heap.size (fun k=>b.heap.size+2<=k) v (pre.map Prod.fst))/\W.heap[w.heap.size+1]? =some (.cells #[.slice none 0 0] 33 (0,0))/\W.heap[w.heap.size+1+1]? =some (.cells #[.int .i64 0] 30 (0,0))/\W.heap[w.heap.size]? =some (.cells #[.int .i64 n,.slice A0 E.length c0] 24 (0,0))/\Below w.heap.size w W) (fun _ _ _ _=>False)
  ?is (fun _ _ _ _ _ _ h _=>h) ?ib (fun _ _ _ _ _ h _=>h) ?kt ?h0 ?a1 ?assign ?body ?done (fun _ _ _ _ _ _ _ h=>h.elim)
 case assign=>
  intro l x W K hK;gi_wp2;exact hK
 case eF=>
  intro o s W1 h;exact⟨trivial,by rw[h];exact cn.refl _ _⟩
 case st=>intro s A B _ h;exact cZ h
 case ar=>intro s x A B _ h;exact cZ h.2.2
 case is=>
  rintro s pre A B _ ⟨X,⟨v,h1,h4⟩,h2,h3,h6,h5⟩ G;exact⟨Nat.le_trans X G.size,⟨v,aM h1 G,Kd.cU h4 G⟩,aM h2 G,aM h3 G,aM h6 G,a8 h5 G⟩
 case ib=>
  rintro s pre A B ⟨X,⟨v,h1,h4⟩,h2,h3,h6,h5⟩ hb;exact⟨by rw[hb.size];exact X,⟨v,hb.cells h1,du h4 hb⟩,hb.cells h2,hb.cells h3,hb.cells h6,h5.trans (hb.below w.heap.size (by omega))⟩
 case kt=>
  intro s A B C' D c9 fd fn k hk ap;have c':k≠b.heap.size+1:=by rcases hk with hk|rfl|rfl<;>omega
  exact(fn.heap k c').trans ((fd k hk (by rw[c9.size];exact ap)).trans (c9.heap k c'))
 case h0=>
  rintro o s W1 rfl;exact⟨by simp,⟨_,ay (ay am.out _) _,Kd.cW _ _ _ _ _⟩,ay (ay c7.out _) _,ay (ay c8.out _) _,ay (ay c6.out _) _,aq (aq aS.out _) _⟩
 case body=>
  rintro l s pre ⟨xl,xv⟩ Y W1 W _ ⟨X,⟨v,i1,i4⟩,i2,i3,i6,i5⟩ ⟨⟨c,dd,bf⟩,P,y⟩ av a;simp only at P bf;obtain⟨Ax,cx,rfl⟩:=Kd.bb P;have g0:Y.heap.size<=W.heap.size:=by have:=a.size;have:=y.size;omega
  have g:=zA (a.cells (aM i1 y));have Q:=zA (a.cells (aM i2 y));have b3:=zA (a.cells (aM i3 y));have b6:=zA (a.cells (aM i6 y));have b4:=zA (du (Kd.cU i4 y) a);have Z:=zA ((a8 i5 y).trans (a.below w.heap.size (by omega)));have bx:=zA ((Kd.ba (Kd.a_ (ok':=fun k=>Y.heap.size<=k) (Kd.eH (du P a)) (fun k hk=>hk.2.1)) i5.size));have ds:∀k,v.ownBlock=some k->k<Y.heap.size:=fun k hk=>Kd.a7 i4 k hk
  have dv:=zA ds;have fq:=zA (Kd.fT i4);have fr:=zA (fun W2 hC=>bt.calls k Ax cx xl n 0 W2 hC (Kd.aD P).2.1 (by rw[bf];exact eg.out c dd));have ft:=zA (Kd.aD (du P a)).2.2;have g1:pre.length<16384:=by have:pre.length<C.length:=av;omega
  clear i1 i2 i3 i4 i5 i6 y P a ds av bf dd;obtain⟨Ar,cr,rfl⟩:=Kd.bb b4.out;have d0:(pre.map Prod.fst).length=pre.length:=by simp
  rw[d0] at g b4 dv fq;have g2:W.cell? ⟨w.heap.size,0,none⟩=some (.int .i64 n):=(al b6.out 0).trans rfl;have LN:Aside0 (((pre.map Prod.fst).length+1)*24<=140737488355328):=⟨by rw[d0];omega⟩;have f0:Aside0 (∀k,Y.heap.size<=k->(b.heap.size+2<=k)/\some k≠(Value.slice Ar pre.length cr).ownBlock):=⟨fun k hk=>⟨by omega,fun e=>by have:=dv.out k e.symm;omega⟩⟩;have f1:Aside0 (∀k,W.heap.size<=k->b.heap.size+2<=k):=⟨fun k hk=>by omega⟩;gi_wp2_with (first|(refine⟨trivial,?_⟩;gi_at_call 87;refine(callsIn_wide.2 (fr.out _ ft.out)).mono ?_;rintro e w4 ⟨rfl,⟨q,rfl⟩⟩;have g4:(W.drewN q).cell? ⟨bo,0,none⟩=some (.slice Ar pre.length cr):=dK (ir g.out q);have g5:(W.drewN q).frozen? ⟨bo,0,none⟩=false:=bD (ir g.out q) 0)|(gi_at_builtin;go_loud (refine oA (Kd.slice 3 (Kd.int .i64)) (w0:=w) w.heap.size rfl (.tmp 39) (.tmp 41) 33 26 (.slice none 0 0) 24 rfl Tryz.underlying33 pO rfl (by decide) (by omega) (.slice Ar pre.length cr) (pre.map Prod.fst) xl [.slice Ax xl.length cx] (fun k=>b.heap.size+2<=k) (fun k=>Y.heap.size<=k) rfl rfl (Kd.l8 (Kd.bq bx.out _)) f0.out f1.out (Kd.bq b4.out _) (bY Z.out _) Z.out.size LN.out ?_;intro v1 g6 bi hb S f2;obtain⟨A1,c1,rfl⟩:=Kd.bb bi;have f3:=zA bi;have f4:=zA hb;have T:=zA S;have z:=zA ((S.block bo (aE g.out) (Kd.db b4.out g.out (by decide))).trans g.out);have g7:=dK z.out;have g8:=bD z.out 0;clear bi hb S f2)))
  have X2:=zA ((T.out.block _ (aE Q.out) (Kd.db b4.out Q.out (by decide))).trans Q.out);have X3:=zA ((T.out.block _ (aE b3.out) (Kd.db b4.out b3.out (by decide))).trans b3.out);have X6:=zA ((T.out.block _ (aE b6.out) (Kd.db b4.out b6.out (by decide))).trans b6.out);have f7:=zA (Fl T.out);refine⟨(oB b4.out f7.out).trans (fp _ _ (aE am.out)),fun k hk ap=>?_,by have:=T.out.size;simp at this⊢;omega,⟨.slice A1 (pre.length+1) c1,by simpa using bR z.out 0 (.slice A1 (pre.length+1) c1),?_⟩,aG X2.out (by show w.heap.size+1≠bo;omega) _,aG X3.out (by show w.heap.size+1+1≠bo;omega) _,aG X6.out (by show w.heap.size≠bo;omega) _,dx f4.out (by show w.heap.size<=bo;omega)⟩
  ·have f8:k≠bo:=by rcases hk with hk|rfl|rfl<;>omega
   rw[Below.heap_setCell _ _ _ _ f8];exact T.out.block k ap (fun e=>by have h:=b4.out.1 k e.symm;rcases hk with hk|rfl|rfl<;>omega)
  ·have h:=Kd.eU f3.out z.out (by decide) 0 (.slice A1 (pre.length+1) c1)
   simpa using h
 case done=>
  rintro s xs W W' _ d1 ⟨X,⟨v,i1,i4⟩,i2,i3,i6,i5⟩ a d2;have d3:xs.map Prod.fst=C.map (cQ bl):=d1;rw[d3] at i4;have aF:(C.map (cQ bl)).length=m+1:=by rw[List.length_map];exact ce.out
  have b4:=du i4 a;obtain⟨gs,r,rfl⟩:=wS b4 (by omega);have g9:b.heap.size+2<=gs:=b4.1 gs rfl;have g':=Kd.a7 b4 gs rfl;have g:=zA (a.cells i1);have Q:=zA (a.cells i2);have b3:=zA (a.cells i3);have Z:=zA (i5.trans (a.below w.heap.size (by omega)));have d4:=zA d2;have d5:=zA (Fk Fh (enters_of Tryz.func183 (by kernel_rfl) rfl) cf aF (by have:=ce.out;omega) (Kd.nG b4) ek.out el.out);clear i1 i2 i3 i4 i5 i6 d2 d1 d3 a b4;rw[aF] at g d5;have ha:=zA aF;clear aF;have hc:=dK g.out;gi_wp2_with (refine⟨trivial,?_⟩;gi_at_call 49;(with_reducible refine(callsIn_wide.2 d5.out).mono ?_);rintro e U ⟨rfl,idx,hp,d6,I,S⟩;have HP:=zA hp;have f':=zA d6;have gb:=zA I;have aa:=zA S;clear hp d6 I S;have c1:=dK ((aa.out.block bo (aE g.out) (fun e=>by injection e;omega)).trans g.out);have e2:=zA ((aa.out.block _ (aE Q.out) (fun e=>by injection e;omega)).trans Q.out);have e3:=zA ((aa.out.block _ (aE b3.out) (fun e=>by injection e;omega)).trans b3.out);have q1:U.cell? ⟨w.heap.size+1,0,none⟩=some (.slice none 0 0):=(al e2.out 0).trans rfl;have q2:U.frozen? ⟨w.heap.size+1,0,none⟩=false:=bD e2.out 0;have Y3:=zA (aG (p:=⟨w.heap.size+1,0,none⟩) e3.out (by show w.heap.size+1+1≠w.heap.size+1;omega) (.slice (some ⟨gs,0,none⟩) (m+1) r));have q3:(U.setCell ⟨w.heap.size+1,0,none⟩ (.slice (some ⟨gs,0,none⟩) (m+1) r)).cell? ⟨w.heap.size+1+1,0,none⟩=some (.int .i64 0):=(al Y3.out 0).trans rfl;have q4:=bD Y3.out 0)
  have Y1:=zA (aG (p:=⟨w.heap.size+1+1,0,none⟩) (bR e2.out 0 (.slice (some ⟨gs,0,none⟩) (m+1) r)) (by show w.heap.size+1≠w.heap.size+1+1;omega) (.int .i64 0));have Y2:=zA (bR Y3.out 0 (.int .i64 0));have av:w.heap.size+1≠b.heap.size:=by omega
  have gg:w.heap.size+1+1≠b.heap.size:=by omega
  have Y4:=zA (show ((U.setCell ⟨w.heap.size+1,0,none⟩ (.slice (some ⟨gs,0,none⟩) (m+1) r)).setCell ⟨w.heap.size+1+1,0,none⟩ (.int .i64 0)).heap[b.heap.size]? =some (.deferred (some [])) from by rw[Below.heap_setCell _ _ _ _ (fun e=>gg e.symm),Below.heap_setCell _ _ _ _ (fun e=>av e.symm)];exact(aa.out.block _ (aE d4.out) (fun e=>by injection e;omega)).trans d4.out);have Y5:=zA (Kd.sG (p:=⟨w.heap.size+1+1,0,none⟩) (Kd.sG (p:=⟨w.heap.size+1,0,none⟩) gb.out (fun k hk=>by show k≠w.heap.size+1;omega) (.slice (some ⟨gs,0,none⟩) (m+1) r)) (fun k hk=>by show k≠w.heap.size+1+1;omega) (.int .i64 0));have Y6:=zA (((jU Z.out _ Z.out.size aa.out (fun k e=>by injection e;omega)).setCell (p:=⟨w.heap.size+1,0,none⟩) (by show w.heap.size<=w.heap.size+1;omega) (.slice (some ⟨gs,0,none⟩) (m+1) r)).setCell (p:=⟨w.heap.size+1+1,0,none⟩) (by show w.heap.size<=w.heap.size+1+1;omega) (.int .i64 0));have aL:Bk b.heap.size ((U.setCell ⟨w.heap.size+1,0,none⟩ (.slice (some ⟨gs,0,none⟩) (m+1) r)).setCell ⟨w.heap.size+1+1,0,none⟩ (.int .i64 0)) (((U.setCell ⟨w.heap.size+1,0,none⟩ (.slice (some ⟨gs,0,none⟩) (m+1) r)).setCell ⟨w.heap.size+1+1,0,none⟩ (.int .i64 0)).putObj b.heap.size (.deferred none)):=⟨_,_,Y4.out,rfl,rfl⟩;refine jc (D:=b.heap.size) rfl Y4.out (qV (p:=4) (u:=5) rfl _ _ ⟨w.heap.size+1,0,none⟩ ⟨w.heap.size+1+1,0,none⟩ (.slice (some ⟨gs,0,none⟩) (m+1) r) (.int .i64 0) rfl rfl Tryz.underlying33 Tryz.underlying30 rfl rfl ((al (aL.cells Y1.out) 0).trans (by simp)) ((al (aL.cells Y2.out) 0).trans (by simp))) ⟨_,idx,rfl,HP.out,f'.out,?_,Y6.out.trans (aL.below w.heap.size (by omega))⟩;exact Kd.eI (Kd.mi Y5.out (fun k hk ap=>aL.heap k (by omega))) (fun k hk=>by omega)
end
section
attribute [local go_sem] Oper.semAt_some
def kn (pre:List (Int×Int)):Int:=pre.foldl (fun s x=>wrap64 (s+x.2)) 0
theorem Fo (pre:List (Int×Int)) (x:Int×Int):kn (pre++[x])=wrap64 (kn pre+x.2):=by simp[kn,List.foldl_append]
theorem Fp (k n d:Nat) (A0:Option Addr) (c0:Nat) (E:List S83) (L:List Int) (w:World) (S:Kd.C aT w A0 E.length E) (T:E.length<=c0) (aO:1<=n) (hn:n<=1000) (I:∀u:Nat,u<n->∃e,cA.f k n E (u:Nat)=some (rd L u,e)) (hd:kn (gv L n)=d) (aP:d<=100000):
  Calls Tryz.prog 135 #[.agg #[.int .i64 n,.slice A0 E.length c0]] w fun e w'=>e= .returned (.int .i64 (((d/2:Nat):Int)-n+1))/\Below w.heap.size w w':=by
 have hu:=Tryz.underlying24;have U:=zA I;have V:=zA hd;have aR:(0:Int)<=(n:Int):=by omega
 clear I hd;refine(callsIn_wide (n:=10)).1 ?_;refine callsIn_of_wp_marks Tryz.func135 rfl trivial ?_ rfl;simp only[Tryz.ntmps135,List.size_toArray,List.length_cons,List.length_nil,Nat.reduceAdd,Nat.reduceSub,Array.replicate_succ,Array.replicate_zero,List.push_toArray,List.append_toArray,List.nil_append,List.cons_append];gi_wp2_with (first|(refine⟨trivial,?_⟩;gi_at_call 143;refine(callsIn_wide.2 (vD n _ _)).mono ?_;rintro e w3 ⟨rfl,rfl⟩))
 have q:=zA (bm ((w.alloc (.cells #[.int .i64 n,.slice A0 E.length c0] 24)).alloc (.cells #[.int .i64 0] 3)) (.cells #[.int .i64 n,.slice A0 E.length c0] 24));have r:=zA (ay (bm (w.alloc (.cells #[.int .i64 n,.slice A0 E.length c0] 24)) (.cells #[.int .i64 0] 3)) (.cells #[.int .i64 n,.slice A0 E.length c0] 24));have J:=zA (ay (ay (bm w (.cells #[.int .i64 n,.slice A0 E.length c0] 24)) (.cells #[.int .i64 0] 3)) (.cells #[.int .i64 n,.slice A0 E.length c0] 24));have y:=zA (aq (aq (aq (ao w.heap.size w) (.cells #[.int .i64 n,.slice A0 E.length c0] 24)) (.cells #[.int .i64 0] 3)) (.cells #[.int .i64 n,.slice A0 E.length c0] 24));simp only[World.size_alloc] at q r;have X:=Nat.le_of_eq (show (((w.alloc (.cells #[.int .i64 n,.slice A0 E.length c0] 24)).alloc (.cells #[.int .i64 0] 3)).alloc (.cells #[.int .i64 n,.slice A0 E.length c0] 24)).heap.size=w.heap.size+3 by simp);have Y:=Nat.le_of_eq (show w.heap.size+3=(((w.alloc (.cells #[.int .i64 n,.slice A0 E.length c0] 24)).alloc (.cells #[.int .i64 0] 3)).alloc (.cells #[.int .i64 n,.slice A0 E.length c0] 24)).heap.size by simp);generalize ((w.alloc (.cells #[.int .i64 n,.slice A0 E.length c0] 24)).alloc (.cells #[.int .i64 0] 3)).alloc (.cells #[.int .i64 n,.slice A0 E.length c0] 24)=b at q r J y X Y⊢;refine iC (σ:=Unit) (α:=Int×Int) (F:=Fence.wide) (n:=10) rfl (by decide) (gf:=185) (lb:=#[.pointer (some ⟨w.heap.size+1+1,0,none⟩)]) rfl trivial (enters_of Tryz.func185 (by kernel_rfl) rfl)
  (fun o=>vH (w.heap.size+1+1) k n A0 c0 E L w _ S T hn U.out (aq (aq y.out _) _) (ay (ay q.out _) _)) (fun _=>rfl)
  (fun _=>True) ?eF ?st ?ar
  (fun _ pre W=>b.heap.size<=W.heap.size/\W.heap[w.heap.size+1]? =some (.cells #[.int .i64 (kn pre)] 3 (0,0))/\W.heap[w.heap.size]? =some (.cells #[.int .i64 n,.slice A0 E.length c0] 24 (0,0))/\Below w.heap.size w W) (fun _ _ _ _=>False)
  ?is (fun _ _ _ _ _ _ h _=>h) ?ib (fun _ _ _ _ _ h _=>h) ?kt ?h0 ?a1 ?assign ?body ?done (fun _ _ _ _ _ _ _ h=>h.elim)
 case assign=>
  intro l x W K Z;gi_wp2;exact Z
 case eF=>
  intro o s W1 h;exact⟨trivial,by rw[h];exact cn.refl _ _⟩
 case st=>intro s A B _ h;exact cZ h
 case ar=>intro s x A B _ h;exact cZ h.2
 case is=>
  rintro s pre A B _ ⟨g,h1,z,G⟩ j;exact⟨Nat.le_trans g j.size,aM h1 j,aM z j,a8 G j⟩
 case ib=>
  rintro s pre A B ⟨g,h1,z,G⟩ hb;exact⟨by rw[hb.size];exact g,hb.cells h1,hb.cells z,G.trans (hb.below w.heap.size (by omega))⟩
 case kt=>
  intro s A B C D m M N;refine⟨fun aY=>((m.below w.heap.size (by omega)).trans (M.1 (by rw[m.size];exact aY))).trans (N.below w.heap.size (by omega)),fun aa=>?_⟩;have O:w.heap.size+1+1≠b.heap.size+1:=by omega
  exact(N.heap _ O).trans ((M.2 (by rw[m.size];exact aa)).trans (m.heap _ O))
 case h0=>
  rintro o s W1 rfl;exact⟨by simp;omega,ay (ay r.out _) _,ay (ay J.out _) _,aq (aq y.out _) _⟩
 case body=>
  rintro l s' pre ⟨xv,xy⟩ Wb Wc W _ ⟨g,i1,i2,i3⟩ ⟨⟨v,a3,hx⟩,i⟩ ag a;injection hx with ak am
  subst ak;have H:=zA (a.cells (aM i1 i));have I2:=zA (a.cells (aM i2 i));have I3:=zA ((a8 i3 i).trans (a.below w.heap.size (by omega)));have av:b.heap.size<=W.heap.size:=by have:=a.size;have:=i.size;omega
  have aB:=zA (Fo pre ((v:Int),xy));clear i1 i2 i3 i a ag g am;have z1:=dK H.out;have z2:=bD H.out 0;gi_wp2;refine⟨fp _ _ (by omega),⟨fun _=>Below.setCell (p:=⟨w.heap.size+1,0,none⟩) (ao _ _) (by show w.heap.size<=w.heap.size+1;omega) _,fun _=>Below.heap_setCell _ _ _ _ (by show w.heap.size+1+1≠w.heap.size+1;omega)⟩,by simpa using av,?_,aG I2.out (by show w.heap.size≠w.heap.size+1;omega) _,Below.setCell (p:=⟨w.heap.size+1,0,none⟩) I3.out (by show w.heap.size<=w.heap.size+1;omega) _⟩;rw[aB.out];exact bC (cs:=#[.int .i64 (kn pre)]) H.out 0 _ rfl
 case done=>
  rintro s' xs W W' _ rfl ⟨g,i1,i2,i3⟩ a P;have Q:=zA (a.cells i1);have b2:=zA (a.cells i2);have b3:=zA (i3.trans (a.below w.heap.size (by omega)));have R:=zA P;clear i1 i2 i3 P;rw[V.out] at Q;have y1:=(al Q.out 0).trans rfl;have y2:=(al b2.out 0).trans rfl;have a9:(0:Int)<=(d:Int):=by omega
  gi_wp2;have aL:Bk b.heap.size W' (W'.putObj b.heap.size (.deferred none)):=⟨_,_,R.out,rfl,rfl⟩;exact jc (D:=b.heap.size) rfl R.out (results_tmp rfl _ _ _) ⟨by simp,b3.out.trans (aL.below w.heap.size (by omega))⟩
end
section
attribute [local go_sem] Oper.semAt_some jr js jt ju
theorem Fq (k n gb:Nat) (A0:Option Addr) (c0:Nat) (E:List S83) (a:Option Addr) (c1:Nat) (d:List Int) (r:Int) (w:World) (b:Kd.C aT w A0 E.length E) (i:E.length<=c0) (g:Kd.C (Kd.int .i64) w a d.length d) (j:d.length<=c1) (hb:w.heap[gb]? =some (.cells #[.int .i64 n,.slice A0 E.length c0] 24 (0,0))) (h:eC.f k n E d=some (r,0)):
  Calls Tryz.prog 138 #[.slice a d.length c1,.pointer (some ⟨gb,0,none⟩)] w fun e w'=>e= .returned (.tuple #[.int .i64 r,.int .i64 0])/\Below w.heap.size w w':=by
 have hu:=Tryz.underlying24;have H:=zA (eC.calls k n A0 c0 E a c1 d r 0 w b i g j h);have l:w.cell? ⟨gb,0,none⟩=some (.int .i64 n):=(al hb 0).trans rfl;have m:w.cell? ⟨gb,1,none⟩=some (.slice A0 E.length c0):=(al hb 1).trans rfl;clear h b g hb;go_enter Tryz.func138,Tryz.ntmps138
 go_wp2_with (go_at_call 41;refine H.out.mono ?_;rintro e w1 ⟨rfl,hb⟩;have o:=zA hb;clear hb l m)
 go_ret2;exact⟨rfl,o.out⟩
def iQ (a:List Int->Int) (L:List (List Int)):Int:=L.foldl (fun b d=>max b (a d)) (-1)
theorem Fs (a:List Int->Int) (L:List (List Int)) (d:List Int):iQ a (L++[d])=max (iQ a L) (a d):=by simp[iQ,List.foldl_append]
theorem Ft (k n gb g cap base:Nat) (ok:Nat->Prop) (A0:Option Addr) (c0:Nat) (E:List S83) (L:List (List Int)) (a:List Int->Int) (w:World) (p:Kd.C aT w A0 E.length E) (x:E.length<=c0) (hb:w.heap[gb]? =some (.cells #[.int .i64 n,.slice A0 E.length c0] 24 (0,0))) (K:L.length<=16384)
  (q:Kd.N (Kd.slice 3 (Kd.int .i64)) 26 w base ok (.slice (some ⟨g,0,none⟩) L.length cap) L) (h:∀d∈L,eC.f k n E d=some (a d,0)):
  Calls Tryz.prog 137 #[.slice (some ⟨g,0,none⟩) L.length cap,.func (.func 138) #[] #[.pointer (some ⟨gb,0,none⟩)]] w fun e w'=>e= .returned (.tuple #[.int .i64 (iQ a L),.int .i64 0])/\Below w.heap.size w w':=by
 have y:=zA hb;have z:=zA q;have B:=zA h;have D:=zA p;clear hb q h p;go_enter Tryz.func137,Tryz.ntmps137
 go_wp2;go_loopg [6,13] (L.length) (fun F b i wr=>∃v:Nat,v<=L.length/\i= .int .i64 v/\b= .int .i64 (iQ a (L.take v))/\Aside0 (Below w.heap.size w wr)/\Aside0 (F=L.length-v))
 case atStart=>exact⟨0,Nat.zero_le _,rfl,rfl,⟨ao _ _⟩,⟨rfl⟩⟩
 case round=>
  obtain⟨v,M,rfl,rfl,j,G⟩:=hrel;by_cases l:v<L.length
  ·have O:(0:Int)<=(v:Int):=by omega
   have P:(v:Int)<(L.length:Int):=by omega
   obtain⟨g2,H,cc,he,r,m,o⟩:=wP (Kd.gD z.out j.out) v l;injection he with he
   injection he with he
   subst he;have s:=zA (show iQ a (L.take (v+1))=max (iQ a (L.take v)) (a (L.getD v [])) by rw[List.take_succ_eq_append_getElem l,Fs,bh,bX l];rfl);have u:=zA (B.out (L.getD v []) (by rw[bh,bX l];exact List.getElem_mem l));generalize L.getD v []=d at r m o s u;have I:=zA (Fq k n gb A0 c0 E H cc d (a d) wr (Kd.au D.out j.out) x (Kd.jX o) m (aM y.out j.out) u.out);clear o m;go_wp2_with (go_at_call 138;refine I.out.mono ?_;rintro e w1 ⟨rfl,hb⟩;have J:=zA (a8 j.out hb);clear hb r)
   all_goals
    go_roundg (L.length- (v+1))
    case measure=>rw[G.out];omega
    case rel=>exact⟨v+1,by omega,by go_num,by rw[s.out];exact congrArg _ (by omega),J,⟨rfl⟩⟩
  ·obtain rfl:v=L.length:=by omega
   go_wp2;go_ret2;exact⟨by rw[List.take_length];rfl,j.out⟩
theorem Fu {α:Type} {d:Kd α} {W:World} {e base:Nat} {ok:Nat->Prop} {v:Value} {xs:List α} (h:Kd.N d e W base ok v xs) (hp:0<xs.length):∃g c,v= .slice (some ⟨g,0,none⟩) xs.length c:=by
 obtain⟨_,rows,a,b,_⟩:=h;rw[<-a] at hp⊢;exact wS b hp
theorem wT {m:Nat} {idx:List (Fin (m+1))} {f:List Int->List Int} {C:List (List Int)} (hp:idx.Perm (List.finRange (m+1))) (hC:C.length=m+1):(idx.map fun i=>(C.map f).getD i.1 []).Perm (C.map f):=by
 refine(hp.map _).trans (List.Perm.of_eq ?_);refine List.ext_getElem (by simp[hC]) fun i h1 a=>?_
 simp only[List.length_map] at a;simp[bX a]
theorem Fv {m k:Nat} {n:Int} {E:List S83} {a:List Int->Int} {idx:List (Fin (m+1))} {f:List Int->List Int} {C:List (List Int)} (hp:idx.Perm (List.finRange (m+1))) (hC:C.length=m+1) (h:∀c∈C,eC.f k n E (f c)=some (a (f c),0)):∀d∈idx.map fun i=>(C.map f).getD i.1 [],eC.f k n E d=some (a d,0):=fun d hd=>by
 obtain⟨c,b,rfl⟩:=List.mem_map.1 ((wT hp hC).mem_iff.1 hd);exact h c b
theorem Fw (k n m d:Nat) (A0:Option Addr) (c0:Nat) (E:List S83) (bl:Int) (q:List Int) (C:List (List Int)) (r:List Int->Int) (s:Fin (m+1)->Fin (m+1)->Int) (w:World) (G:Kd.C aT w A0 E.length E) (a:E.length<=c0) (hn:2<=n) (Y:n<=12) (a0:0<=bl) (Z:bl<=1048576)
  (H:dB.f k n E=some 0) (I:∀u:Nat,u<n->∃e,cA.f k n E (u:Nat)=some (rd q u,e)) (hd:kn (gv q n)=d) (J:d<=100000) (aa:bl<=2*(((d/2:Nat):Int)-n+1)-2)
  (K:dQ.f k n E []=some 0) (M:fa.f k n E 0=some (C,0)) (N:∀c∈C,c.length=n) (x:C.length=m+1) (y:C.length<=16384) (O:∀c∈C,bt.f k (cQ bl c) n=some 0)
  (P:∀i j:Fin (m+1),dr.f k ((C.map (cQ bl)).getD i.1 []) ((C.map (cQ bl)).getD j.1 [])=some (s i j)) (hO:Go.Sort.SWO (ltOf s)) (Q:∀c∈C,eC.f k n E (cQ bl c)=some (r (cQ bl c),0)):
  Calls Tryz.prog 82 #[.agg #[.int .i64 n,.slice A0 E.length c0],.int .i64 bl] w fun e w'=>∃L:List (List Int),L.Perm (C.map (cQ bl))/\e= .returned (.tuple #[.int .i64 (iQ r L),.int .i64 0])/\Below w.heap.size w w':=by
 have hu:=Tryz.underlying24;have z:=zA (bm w (.cells #[.int .i64 n,.slice A0 E.length c0] 24));have H1:=zA (fun W h=>dB.calls k n A0 c0 E 0 W h a H);have R:=zA (fun W h=>Fp k n d A0 c0 E q W h a (by omega) (by omega) I hd J);have H3:=zA (fun W h=>Fm k n m A0 c0 E bl C s W h a hn Y (by omega) Z K M N x y O P hO);have H4:=zA (fun gb g cap base ok L W h1 h2 h3 h4 S=>Ft k n gb g cap base ok A0 c0 E L r W h1 a h2 h3 h4 S);have an:=zA Q;have b:=zA x;have ap:=zA y;have S:¬bl< -1048576:=by omega
 have h6:¬1048576<bl:=by omega
 have h7:¬bl<0:=by omega
 have ar:((d/2:Nat):Int)-n+1<=100000:=by omega
 generalize ((d/2:Nat):Int)-n+1=T at R aa ar;have a3:1<=T:=by omega
 have h8:¬2*T-2<bl:=by omega
 have b0:(w.alloc (.cells #[.int .i64 n,.slice A0 E.length c0] 24)).cell? ⟨w.heap.size,0,none⟩=some (.int .i64 n):=(al z.out 0).trans rfl;have b1:(w.alloc (.cells #[.int .i64 n,.slice A0 E.length c0] 24)).cell? ⟨w.heap.size,1,none⟩=some (.slice A0 E.length c0):=(al z.out 1).trans rfl;have l:=zA G;clear H I hd J K M N x y O P hO Q G;go_enter Tryz.func82,Tryz.ntmps82
 go_wp2_with (first|(go_at_call 55;refine(H1.out _ (Kd.bE l.out _)).mono ?_;rintro e w1 ⟨rfl,hb⟩;have U:=zA (a8 (aq (ao w.heap.size w) _) hb);have B:=zA (aM z.out hb);clear hb;have y0:w1.cell? ⟨w.heap.size,0,none⟩=some (.int .i64 n):=(al B.out 0).trans rfl;have y1:w1.cell? ⟨w.heap.size,1,none⟩=some (.slice A0 E.length c0):=(al B.out 1).trans rfl)|(go_at_call 135;refine(R.out _ (Kd.au l.out U.out)).mono ?_;rintro e w2 ⟨rfl,hb⟩;have V:=zA (a8 U.out hb);have D:=zA (aM B.out hb);clear hb;have z0:w2.cell? ⟨w.heap.size,0,none⟩=some (.int .i64 n):=(al D.out 0).trans rfl;have z1:w2.cell? ⟨w.heap.size,1,none⟩=some (.slice A0 E.length c0):=(al D.out 1).trans rfl)|(go_at_call 136;refine(H3.out _ (Kd.au l.out V.out)).mono ?_;rintro e w3 ⟨v,idx,rfl,hp,av,o,hb⟩;have X:=zA (a8 V.out hb);have X3:=zA (aM D.out hb);have p:=wT (f:=cQ bl) hp b.out;have F:=Fv hp b.out an.out;generalize (idx.map fun i=>(C.map (cQ bl)).getD i.1 [])=L2 at o p F;have hlen:=p.length_eq;rw[List.length_map,b.out] at hlen;have aL:=zA (show L2.length<=16384 by have:=ap.out;have:=b.out;omega);obtain⟨gs,cs,rfl⟩:=Fu o (by omega);have HN:=zA o;have HP:=zA p;have aR:=zA F;clear hb o hp av p F hlen)|(go_at_call 137;(with_reducible refine(H4.out _ _ _ _ _ _ _ (Kd.au l.out X.out) X3.out aL.out HN.out aR.out).mono ?_);rintro e w4 ⟨rfl,hb⟩;have aS:=zA (a8 X.out hb);clear hb))
 go_ret2;exact⟨_,HP.out,rfl,aS.out⟩
end
def cC:List S83:=[⟨0,1,1⟩,⟨0,2,1⟩,⟨1,2,1⟩]
def jk:List (List Int):=[[0,0,0],[0,0,1],[0,1,0]]
theorem Fx:dB.f 60 3 cC=some 0:=by decide+kernel
theorem Fy:∀u:Nat,u<3->∃e,cA.f 60 3 cC (u:Nat)=some (rd [2,2,2] u,e)
 |0,_=>⟨0,by decide+kernel⟩
 |1,_=>⟨0,by decide+kernel⟩
 |2,_=>⟨0,by decide+kernel⟩
theorem Fz:kn (gv [2,2,2] 3)=((6:Nat):Int):=by decide+kernel
theorem FA:dQ.f 60 3 cC []=some 0:=by decide+kernel
theorem FB:fa.f 60 3 cC 0=some (jk,0):=by decide+kernel
theorem FC:∀c∈jk,bt.f 60 (cQ 0 c) 3=some 0:=by decide+kernel
def rC (i j:Fin 3):Int:=(dr.f 60 ((jk.map (cQ 0)).getD i.1 []) ((jk.map (cQ 0)).getD j.1 [])).getD 0
theorem FD:∀i j:Fin 3,dr.f 60 ((jk.map (cQ 0)).getD i.1 []) ((jk.map (cQ 0)).getD j.1 [])=some (rC i j):=by decide+kernel
theorem FE:Go.Sort.SWO (ltOf rC):=⟨by decide+kernel,by decide+kernel,by decide+kernel⟩
theorem rD {d:List Int} (h:gM 3 cC 0 d=true):dN 3 0 cC d:=by
 obtain⟨n,q,hn,a,h1⟩:=oM h;obtain rfl:n=3:=by omega
 obtain rfl:q=0:=by omega
 exact h1
theorem FF:cT ((3:Nat):Int) cC=0:=by decide+kernel
theorem FG:T.eZ 3 (ai cC) 1:=show T.sN (T.can 3 (ai cC)) 3=2*1-2 from by decide+kernel
theorem FH:Ev (fun k=>fH.f k 3 cC) ((3:Int),cC,(0:Int)):=Ev.at_ (fH.mono _ _) (k:=60) (by kernel_rfl)
theorem FJ:Ev (fun k=>fG.f k 3 cC) ((1:Int),(0:Int)):=Ev.at_ (fG.mono _ _) (k:=60) (by decide+kernel)
theorem wU:dN 3 0 cC [0,0,0]:=rD (by decide+kernel)
theorem FL:dN 3 0 cC [-1,0,1]:=rD (by decide+kernel)
theorem FM:dN 3 0 cC [-1,1,0]:=rD (by decide+kernel)
theorem o5:T.Wt 3 (ai cC):=wU.right.wt
theorem FN {c:Nat->Int} (h:(c 1=0/\c 2=1)\/(c 1=1/\c 2=0)):T.j4 3 (ai cC) 0 c:=fun S hS e=>by
 have t10:ai cC 1 0=1:=by decide+kernel
 have t12:ai cC 1 2=1:=by decide+kernel
 have t20:ai cC 2 0=1:=by decide+kernel
 have t21:ai cC 2 1=1:=by decide+kernel
 cases h1:S 1 with
 |true=>
  cases a:S 2 with
  |true=>
   rcases h with h|h
   ·exact⟨1,by omega,h1,by simp[T.sN,e,h1,a,t10,h.1]⟩
   ·exact⟨2,by omega,a,by simp[T.sN,e,h1,a,t20,h.2]⟩
  |false=>exact⟨1,by omega,h1,by simp[T.sN,e,h1,a,t10,t12];omega⟩
 |false=>
  cases a:S 2 with
  |true=>exact⟨2,by omega,a,by simp[T.sN,e,h1,a,t20,t21];omega⟩
  |false=>
   obtain⟨v,g,b⟩:=hS;match v,g with
   |0,_=>rw[e] at b;cases b
   |1,_=>rw[h1] at b;cases b
   |2,_=>rw[a] at b;cases b
theorem FO:T.b8 3 (ai cC) (fun _=>0) 0:=by
 obtain⟨r,a⟩:=T.jA o5 (by decide) (fun _=>(0:Int));have h1:r≠ -1:=fun e=>by
  subst e;exact(T.b8.lJ (by decide) a).1 rfl (T.bZ.pQ fun _ _=>Int.le_refl _)
 have g:=a.1;have b:=a.pY o5 (by decide) (by omega);rw[T.jw] at b;obtain rfl:r=0:=by omega
 exact a
theorem FP:Rk 3 (ai cC) [0,0,0] 0:=qO (fun v a=>by
  match v,a with
  |0,_=>rfl
  |1,_=>rfl
  |2,_=>rfl) FO
theorem wV {d:List Int} (h:(rd d 1=0/\rd d 2=1)\/(rd d 1=1/\rd d 2=0)) (g:rd d 0= -1):Rk 3 (ai cC) d (-1):=by
 obtain⟨r,a⟩:=T.jA o5 (by decide) (fun v=>rd d (v:Nat));have hw:¬T.bZ 3 (ai cC) (fun v=>rd d (v:Nat)):=fun hw=>by
  have a:=(T.mD o5 (q:=0) (by decide) ⟨fun v b e=>by
   match v,b with
   |0,_=>exact absurd rfl e
   |1,_=>rcases h with h|h<;>(show 0<=rd d 1;omega)
   |2,_=>rcases h with h|h<;>(show 0<=rd d 2;omega),FN h⟩).1 hw
  have:(0:Int)<=rd d 0:=a;omega
 obtain rfl:=(T.b8.lJ (by decide) a).2 hw;exact a
theorem rE {d:List Int} (h:dN 3 0 cC d) {r:Int} (a:Rk 3 (ai cC) d r):Ev (fun k=>eC.f k 3 cC d) (r,(0:Int)):=
 wk (n:=3) h FF FH FJ FG a
def ko (d:List Int):Int:=if d=[0,0,0] then 0 else -1
theorem FQ:∃K,60<=K/\∀c∈jk,eC.f K 3 cC (cQ 0 c)=some (ko (cQ 0 c),0):=by
 obtain⟨b,g⟩:=rE wU FP;obtain⟨B1,h1⟩:=rE FL (wV (.inl ⟨rfl,rfl⟩) rfl);obtain⟨e,h⟩:=rE FM (wV (.inr ⟨rfl,rfl⟩) rfl);refine⟨60+b+B1+e,by omega,fun c a=>?_⟩;rcases List.mem_cons.1 a with rfl|a
 ·rw[show cQ 0 [0,0,0]=[0,0,0] by decide+kernel,show ko [0,0,0]=0 by decide+kernel]
  exact g (60+b+B1+e) (by omega)
 rcases List.mem_cons.1 a with rfl|a
 ·rw[show cQ 0 [0,0,1]=[-1,0,1] by decide+kernel,show ko [-1,0,1]= -1 by decide+kernel]
  exact h1 (60+b+B1+e) (by omega)
 rcases List.mem_cons.1 a with rfl|a
 ·rw[show cQ 0 [0,1,0]=[-1,1,0] by decide+kernel,show ko [-1,1,0]= -1 by decide+kernel]
  exact h (60+b+B1+e) (by omega)
 ·cases a
open Classical in
noncomputable def fI.f (k:Nat) (a:Int) (b:List (S83)) (e:Int):Option (Int×Int):=if a=3/\b=cC/\e=0 then some (0,0) else none
theorem fI.mono:∀a b e k,aj (fI.f k a b e) (fI.f (k+1) a b e):=fun _ _ _ _=>aj.refl _
theorem FT (A0:Option Addr) (c0:Nat) (w:World) (b:Kd.C aT w A0 cC.length cC) (g:cC.length<=c0):
  Calls Tryz.prog 82 #[.agg #[.int .i64 3,.slice A0 cC.length c0],.int .i64 0] w fun e w'=>e= .returned (.tuple #[.int .i64 0,.int .i64 0])/\Below w.heap.size w w':=by
 obtain⟨K,a,h⟩:=FQ;refine(Fw K 3 2 6 A0 c0 cC 0 [2,2,2] jk ko rC w b g (by decide) (by decide) (by decide) (by decide)
  (lh (dB.mono _ _) a Fx) (fun u hu=>by obtain⟨e,he⟩:=Fy u hu;exact⟨e,lh (cA.mono _ _ _) a he⟩) Fz (by decide) (by decide)
  (lh (dQ.mono _ _ _) a FA) (lh (fa.mono _ _ _) a FB) (by decide+kernel) rfl (by decide) (fun c k=>lh (bt.mono _ _) a (FC c k)) (fun i j=>lh (dr.mono _ _) a (FD i j)) FE h).mono ?_
 rintro e w' ⟨L,hp,rfl,hb⟩;have h1:iQ ko L=iQ ko (jk.map (cQ 0)):=hp.foldl_eq' (fun x _ y _ z=>by omega) _;have l:iQ ko (jk.map (cQ 0))=0:=by decide+kernel
 rw[h1,l];exact⟨rfl,hb⟩
theorem fI.calls (k:Nat) (b:Int) (g:Option Addr) (i:Nat) (a:List (S83)) (j:Int) (m:Int) (n:Int) (w:World) (o:Kd.C aT w g a.length a) (p:a.length<=i) (h:fI.f k b a j=some (m,n)):
  Calls Tryz.prog 82 #[.agg #[.int .i64 b,.slice g a.length i],.int .i64 j] w fun e w'=>e= .returned (.tuple #[.int .i64 m,.int .i64 n])/\Below w.heap.size w w':=by
 unfold fI.f at h;by_cases l:b=3/\a=cC/\j=0
 ·rw[if_pos l] at h
  obtain⟨rfl,rfl,rfl⟩:=l;injection h with h
  injection h with h1 q
  subst h1 q;exact FT g i w o p
 ·rw[if_neg l] at h;cases h
theorem FU:Ev (fun k=>fI.f k 3 cC 0) ((0:Int),(0:Int)):=Ev.at_ (fI.mono _ _ _) (k:=0) (by unfold fI.f;rw[if_pos ⟨rfl,rfl,rfl⟩])
end Go.Proofs.YtffdiakgjakngaaGreat.P


namespace Go.Proofs.YtffdiakgjakngaaGreat.P
open Go.RowKit Go.Proofs.YtffdiakgjakngaaGreatW.PrintWords Go.Proofs.YtffdiakgjakngaaGreatW.PrintLast Go.Proofs.YtffdiakgjakngaaGreatW.PrintMore
set_option linter.unusedVariables false
set_option linter.unusedSimpArgs false
set_option maxHeartbeats 8000000
set_option maxRecDepth 100000
section
attribute [local go_sem] jr js jt ju mo mq mr mu
noncomputable def bJ.j0:Nat->List (List Int)->Bool->Option (Bool)
 |0,_,_=>none
 |k+1,a,b=>if b=true then(some false) else(if 0<(a.length:Int) then((bu.f k (a6 a 0) (([(-1),0,1]:List Int))).bind fun t259=>(if t259=true then(if 1<(a.length:Int) then((bu.f k (a6 a 1) (([(-1),1,0]:List Int))).bind fun t264=>(some t264)) else(none)) else(some false))) else(none))
noncomputable def bJ.f (k:Nat):Option (Bool):=(some (([(⟨0,1,1⟩:S83),(⟨0,2,1⟩:S83),(⟨0,3,1⟩:S83),(⟨1,2,1⟩:S83),(⟨1,3,1⟩:S83),(⟨2,3,1⟩:S83)]:List (S83)):List (S83))).bind fun b=>((some (([(⟨0,1,1⟩:S83),(⟨0,2,1⟩:S83),(⟨1,2,1⟩:S83)]:List (S83)):List (S83))).bind fun e=>((dq.f k 4 b).bind fun g=>((cX.f k 4 b (([1,1,1,0]:List Int))).bind fun h=>((ij.f k 4 b (([1,1,1,0]:List Int))).bind fun i=>((cp.f k 3 e 0).bind fun a=>((fI.f k 3 e 0).bind fun j=>(if(wrap64 ((wrap64 ((wrap64 ((wrap64 (g.2+h.2))+i.2))+a.2))+j.2))=0 then((bu.f k g.1 (([1,1,1,1]:List Int))).bind fun t250=>(if t250=true then((bu.f k h.1 (([0,0,0,1]:List Int))).bind fun t254=>(if t254=true then(if i.1=1 then(if j.1=0 then(bJ.j0 k a.1 ((a.1.length:Int) != 2)) else(bJ.j0 k a.1 true)) else(bJ.j0 k a.1 true)) else(bJ.j0 k a.1 true))) else(bJ.j0 k a.1 true))) else(bJ.j0 k a.1 true))))))))
theorem bJ.cm:∀k,(∀a b,aj (bJ.j0 k a b) (bJ.j0 (k+1) a b))
 |0=>fun _ _ r h=>by simp[bJ.j0] at h
 |k+1=>by
  have e:=bJ.cm k
  ·intro a b
   unfold bJ.j0;with_reducible repeat' first|exact e _ _|exact bu.mono _ _ _|exact ij.mono _ _ _ _|exact fI.mono _ _ _ _|exact dq.mono _ _ _|exact cX.mono _ _ _ _|exact cp.mono _ _ _ _|exact aj.refl _|exact aj.none _|refine aj.ite ?_ ?_|refine aj.bind ?_ (fun _=>?_)
theorem bJ.calls (k:Nat)  (r:Bool) (hr:Aside0 (r=true)) (w:World) (h:bJ.f k=some r):
  Calls Tryz.prog 26 #[] w fun e w'=>e= .returned (.bool r)/\Below w.heap.size w w':=by
 have hH:=Tryz.underlying83;have hI:=Tryz.underlying24;have l:=zA (ao w.heap.size w);unfold bJ.f at h;have H:=h;clear h;obtain⟨B,co⟩:∃F:List (S83),F=(([(⟨0,1,1⟩:S83),(⟨0,2,1⟩:S83),(⟨0,3,1⟩:S83),(⟨1,2,1⟩:S83),(⟨1,3,1⟩:S83),(⟨2,3,1⟩:S83)]:List (S83))):=⟨_,rfl⟩;replace H:((some (([(⟨0,1,1⟩:S83),(⟨0,2,1⟩:S83),(⟨1,2,1⟩:S83)]:List (S83)):List (S83))).bind fun E=>((dq.f k 4 B).bind fun a3=>((cX.f k 4 B (([1,1,1,0]:List Int))).bind fun aB=>((ij.f k 4 B (([1,1,1,0]:List Int))).bind fun Q=>((cp.f k 3 E 0).bind fun v=>((fI.f k 3 E 0).bind fun S=>(if(wrap64 ((wrap64 ((wrap64 ((wrap64 (a3.2+aB.2))+Q.2))+v.2))+S.2))=0 then((bu.f k a3.1 (([1,1,1,1]:List Int))).bind fun t250=>(if t250=true then((bu.f k aB.1 (([0,0,0,1]:List Int))).bind fun t254=>(if t254=true then(if Q.1=1 then(if S.1=0 then(bJ.j0 k v.1 ((v.1.length:Int) != 2)) else(bJ.j0 k v.1 true)) else(bJ.j0 k v.1 true)) else(bJ.j0 k v.1 true))) else(bJ.j0 k v.1 true))) else(bJ.j0 k v.1 true))))))))=some r:=zh co H;have d1:=zA co;clear co;obtain⟨E,cq⟩:∃F:List (S83),F=(([(⟨0,1,1⟩:S83),(⟨0,2,1⟩:S83),(⟨1,2,1⟩:S83)]:List (S83))):=⟨_,rfl⟩;replace H:((dq.f k 4 B).bind fun a3=>((cX.f k 4 B (([1,1,1,0]:List Int))).bind fun aB=>((ij.f k 4 B (([1,1,1,0]:List Int))).bind fun Q=>((cp.f k 3 E 0).bind fun v=>((fI.f k 3 E 0).bind fun S=>(if(wrap64 ((wrap64 ((wrap64 ((wrap64 (a3.2+aB.2))+Q.2))+v.2))+S.2))=0 then((bu.f k a3.1 (([1,1,1,1]:List Int))).bind fun t250=>(if t250=true then((bu.f k aB.1 (([0,0,0,1]:List Int))).bind fun t254=>(if t254=true then(if Q.1=1 then(if S.1=0 then(bJ.j0 k v.1 ((v.1.length:Int) != 2)) else(bJ.j0 k v.1 true)) else(bJ.j0 k v.1 true)) else(bJ.j0 k v.1 true))) else(bJ.j0 k v.1 true))) else(bJ.j0 k v.1 true)))))))=some r:=zh cq H;have d2:=zA cq;clear cq;obtain⟨⟨t225,t228⟩,A1,H⟩:=zo H;dsimp only at H;obtain⟨bx,cr⟩:∃F:List Int,F=(([1,1,1,0]:List Int)):=⟨_,rfl⟩;replace H:((cX.f k 4 B bx).bind fun aB=>((ij.f k 4 B (([1,1,1,0]:List Int))).bind fun Q=>((cp.f k 3 E 0).bind fun v=>((fI.f k 3 E 0).bind fun S=>(if(wrap64 ((wrap64 ((wrap64 ((wrap64 (t228+aB.2))+Q.2))+v.2))+S.2))=0 then((bu.f k t225 (([1,1,1,1]:List Int))).bind fun t250=>(if t250=true then((bu.f k aB.1 (([0,0,0,1]:List Int))).bind fun t254=>(if t254=true then(if Q.1=1 then(if S.1=0 then(bJ.j0 k v.1 ((v.1.length:Int) != 2)) else(bJ.j0 k v.1 true)) else(bJ.j0 k v.1 true)) else(bJ.j0 k v.1 true))) else(bJ.j0 k v.1 true))) else(bJ.j0 k v.1 true))))))=some r:=zh cr H;have d3:=zA cr;clear cr;obtain⟨⟨t232,t235⟩,A2,H⟩:=zo H;dsimp only at H;obtain⟨b0,cv⟩:∃F:List Int,F=(([1,1,1,0]:List Int)):=⟨_,rfl⟩;replace H:((ij.f k 4 B b0).bind fun Q=>((cp.f k 3 E 0).bind fun v=>((fI.f k 3 E 0).bind fun S=>(if(wrap64 ((wrap64 ((wrap64 ((wrap64 (t228+t235))+Q.2))+v.2))+S.2))=0 then((bu.f k t225 (([1,1,1,1]:List Int))).bind fun t250=>(if t250=true then((bu.f k t232 (([0,0,0,1]:List Int))).bind fun t254=>(if t254=true then(if Q.1=1 then(if S.1=0 then(bJ.j0 k v.1 ((v.1.length:Int) != 2)) else(bJ.j0 k v.1 true)) else(bJ.j0 k v.1 true)) else(bJ.j0 k v.1 true))) else(bJ.j0 k v.1 true))) else(bJ.j0 k v.1 true)))))=some r:=zh cv H
 have d4:=zA cv;clear cv;obtain⟨⟨t239,t240⟩,A3,H⟩:=zo H;dsimp only at H;obtain⟨⟨t241,t244⟩,A4,H⟩:=zo H;dsimp only at H;obtain⟨⟨t245,t246⟩,A5,H⟩:=zo H;dsimp only at H;have cx:=zA H;clear H;go_enter Tryz.func26,Tryz.ntmps26
 go_upto_region 8 with (first|((with_reducible refine aJ (N:=19) rfl ?_);(try(refine dR (by rfl) ?_;dsimp only));refine Kd.eO aT _ 83 ?hg (N:=19) ?hd (xs:=([(⟨0,1,1⟩:S83),(⟨0,2,1⟩:S83),(⟨0,3,1⟩:S83),(⟨1,2,1⟩:S83),(⟨1,3,1⟩:S83),(⟨2,3,1⟩:S83)]:List (S83))) (inner:=[.int .i64 0,.int .i64 1,.int .i64 1,.int .i64 0,.int .i64 2,.int .i64 1,.int .i64 0,.int .i64 3,.int .i64 1,.int .i64 1,.int .i64 2,.int .i64 1,.int .i64 1,.int .i64 3,.int .i64 1,.int .i64 2,.int .i64 3,.int .i64 1]) (ok:=fun _=>True) (okp:=fun _=>True) ?hr ?hp (fun _ hk=>hk) trivial (ao _ _) (aI _) (by simp) ?_;(case hd=>rfl);(case hg=>rfl);(case hr=>first|(go_simp;done)|(go_simp;rfl));(case hp=>exact(aU.c3 (show Kd.M aT _ _ _ (⟨0,1,1⟩:S83) [.int .i64 0,.int .i64 1,.int .i64 1] from(iY _ _ _ (⟨0,1,1⟩:S83))) (aU.c3 (show Kd.M aT _ _ _ (⟨0,2,1⟩:S83) [.int .i64 0,.int .i64 2,.int .i64 1] from(iY _ _ _ (⟨0,2,1⟩:S83))) (aU.c3 (show Kd.M aT _ _ _ (⟨0,3,1⟩:S83) [.int .i64 0,.int .i64 3,.int .i64 1] from(iY _ _ _ (⟨0,3,1⟩:S83))) (aU.c3 (show Kd.M aT _ _ _ (⟨1,2,1⟩:S83) [.int .i64 1,.int .i64 2,.int .i64 1] from(iY _ _ _ (⟨1,2,1⟩:S83))) (aU.c3 (show Kd.M aT _ _ _ (⟨1,3,1⟩:S83) [.int .i64 1,.int .i64 3,.int .i64 1] from(iY _ _ _ (⟨1,3,1⟩:S83))) (aU.c3 (show Kd.M aT _ _ _ (⟨2,3,1⟩:S83) [.int .i64 2,.int .i64 3,.int .i64 1] from(iY _ _ _ (⟨2,3,1⟩:S83))) (aU.none _ _))))))));intro v218 w7 a4 hb y z;clear y z;(first|rw[<-d1.out] at a4|(simp only[Int.reduceToNat] at a4;rw[<-d1.out] at a4));have i:=zA (Kd.ba a4 (bp zB));replace l:=zS l hb;clear hb a4;obtain⟨J,G,e1⟩:=Kd.bb i.out;subst e1)|((with_reducible refine aJ (N:=1) rfl ?_);(try(refine dR (by rfl) ?_;dsimp only));refine zX 1 #[.int .i64 0,.slice none 0 0] 24 ?_;intro K hg hK a5 hb;replace i:=br i hb;have b:=zA (a5);have hL:=zG l hg;have hM:=zG l hg;replace l:=zS l hb;clear hb a5 hg;obtain⟨e2,e3,e4,e5⟩:=ax b)|((with_reducible refine aJ (N:=24) rfl ?_);(try(refine dR (by rfl) ?_;dsimp only));refine Kd.eO aT _ 83 ?hg (N:=24) ?hd (xs:=([(⟨0,1,1⟩:S83),(⟨0,2,1⟩:S83),(⟨1,2,1⟩:S83)]:List (S83))) (inner:=[.int .i64 0,.int .i64 1,.int .i64 1,.int .i64 0,.int .i64 2,.int .i64 1,.int .i64 1,.int .i64 2,.int .i64 1]) (ok:=fun _=>True) (okp:=fun _=>True) ?hr ?hp (fun _ hk=>hk) trivial (ao _ _) (aI _) (by simp) ?_;(case hd=>rfl);(case hg=>rfl);(case hr=>first|(go_simp;done)|(go_simp;rfl));(case hp=>exact(aU.c3 (show Kd.M aT _ _ _ (⟨0,1,1⟩:S83) [.int .i64 0,.int .i64 1,.int .i64 1] from(iY _ _ _ (⟨0,1,1⟩:S83))) (aU.c3 (show Kd.M aT _ _ _ (⟨0,2,1⟩:S83) [.int .i64 0,.int .i64 2,.int .i64 1] from(iY _ _ _ (⟨0,2,1⟩:S83))) (aU.c3 (show Kd.M aT _ _ _ (⟨1,2,1⟩:S83) [.int .i64 1,.int .i64 2,.int .i64 1] from(iY _ _ _ (⟨1,2,1⟩:S83))) (aU.none _ _)))));intro v222 hN aS hb y z;clear y z;(first|rw[<-d2.out] at aS|(simp only[Int.reduceToNat] at aS;rw[<-d2.out] at aS));have q:=zA (Kd.ba (Kd.bB aS (Kd.a7 (by(with_reducible repeat(first|apply Kd.aK|apply Kd.bq|apply Kd.bd));exact(Kd.a_ (Kd.dC (p:=⟨K,1,none⟩) (Kd.dC (p:=⟨K,0,none⟩) (Kd.fS i.out b.out (by decide)) (fun _ hk=>hk.2) (.int .i64 4)) (fun _ hk=>hk.2) (.slice J B.length G)) (fun _ h_=>h_.1))))) (bp zB));replace i:=zA (Kd.r_ (by(with_reducible repeat(first|apply Kd.aK|apply Kd.bq|apply Kd.bd));exact(Kd.a_ (Kd.dC (p:=⟨K,1,none⟩) (Kd.dC (p:=⟨K,0,none⟩) (Kd.fS i.out b.out (by decide)) (fun _ hk=>hk.2) (.int .i64 4)) (fun _ hk=>hk.2) (.slice J B.length G)) (fun _ h_=>h_.1))) (Kd.dD aS) hb);replace b:=zA (aM (g:=K) (o:=.cells #[.int .i64 4,.slice J B.length G] 24 (0,0)) (by refine zk ?_;refine bC (cs:=#[.int .i64 4,.slice none 0 0]) ?_ 1 _ rfl;refine zk ?_;refine bC (cs:=#[.int .i64 0,.slice none 0 0]) ?_ 0 _ rfl;exact zK b) hb);replace l:=zS l hb;clear hb aS;obtain⟨L,O,e6⟩:=Kd.bb q.out;subst e6)|((with_reducible refine aJ (N:=2) rfl ?_);(try(refine dR (by rfl) ?_;dsimp only));refine zX 2 #[.int .i64 0,.slice none 0 0] 24 ?_;intro P hg hO a5 hb;replace i:=br i hb;replace q:=br q hb;have j:=zA (a5);have hP:=zG l hg;have hQ:=zG l hg;replace l:=zS l hb;have c0:=zA ((by rw[hg];exact Nat.ne_of_lt (aE (g:=K) (o:=.cells #[.int .i64 4,.slice J B.length G] 24 (0,0)) (zK b)):K≠P));have e':=zA ((by rw[hg];exact Nat.ne_of_gt (aE (g:=K) (o:=.cells #[.int .i64 4,.slice J B.length G] 24 (0,0)) (zK b)):P≠K));replace b:=zb b hb;clear hb a5 hg;have hR:=e'.out;have hT:=c0.out;obtain⟨fb,fd,fn,fo⟩:=ax j;obtain⟨fq,fr,ft,fv⟩:=ax b)|((with_reducible refine aC (f:=35) rfl ?_);refine zL (some 28) Tryz.func35 #[.agg #[.int .i64 4,.slice J B.length G]] ?_;(with_reducible refine(dq.calls k 4 _ _ B t225 t228 _ ?af ?ah A1.out).mono ?_);(case af=>refine(Kd.aD (e:=83) (base:=w.heap.size) (ok:=fun C=>(True/\some C≠(.slice L E.length O:Value).ownBlock)) (n:=B.length) (c:=G) ?_).2.2;exact(by(with_reducible repeat(first|apply Kd.aK|apply Kd.bq|apply Kd.bd));exact(Kd.a_ (Kd.dC (p:=⟨P,1,none⟩) (Kd.dC (p:=⟨P,0,none⟩) (Kd.fS i.out j.out (by decide)) (fun _ hk=>hk.2) (.int .i64 3)) (fun _ hk=>hk.2) (.slice L E.length O)) (fun _ h_=>h_.1))));(case ah=>exact(Kd.aD i.out).2.1);rintro e hV ⟨v226,rfl,aa,hb⟩;refine⟨_,rfl,?_⟩;replace i:=zA (Kd.cU (by(with_reducible repeat(first|apply Kd.aK|apply Kd.bq|apply Kd.bd));exact(Kd.a_ (Kd.dC (p:=⟨P,1,none⟩) (Kd.dC (p:=⟨P,0,none⟩) (Kd.fS i.out j.out (by decide)) (fun _ hk=>hk.2) (.int .i64 3)) (fun _ hk=>hk.2) (.slice L E.length O)) (fun _ h_=>h_.1))) hb);replace q:=zA (Kd.cU (by(with_reducible repeat(first|apply Kd.aK|apply Kd.bq|apply Kd.bd));exact(Kd.a_ (Kd.dC (p:=⟨P,1,none⟩) (Kd.dC (p:=⟨P,0,none⟩) (Kd.fS q.out j.out (by decide)) (fun _ hk=>hk.2) (.int .i64 3)) (fun _ hk=>hk.2) (.slice L E.length O)) (fun _ h_=>h_.1))) hb);have a:=zA (Kd.ba aa (bp zB));replace b:=zA (aM (g:=K) (o:=.cells #[.int .i64 4,.slice J B.length G] 24 (0,0)) (by refine zk ?_;refine aG ?_ c0.out _;refine zk ?_;refine aG ?_ c0.out _;exact zK b) hb);replace j:=zA (aM (g:=P) (o:=.cells #[.int .i64 3,.slice L E.length O] 24 (0,0)) (by refine zk ?_;refine bC (cs:=#[.int .i64 3,.slice none 0 0]) ?_ 1 _ rfl;refine zk ?_;refine bC (cs:=#[.int .i64 0,.slice none 0 0]) ?_ 0 _ rfl;exact zK j) hb);replace l:=zS l hb;(try clear hb);(try clear aa);obtain⟨f0,f1,f2,f3⟩:=ax b)|((with_reducible refine aJ (N:=33) rfl ?_);(try(refine dR (by rfl) ?_;dsimp only));refine Kd.eO (Kd.int .i64) _ 3 ?hg (N:=33) ?hd (xs:=([1,1,1,0]:List Int)) (inner:=[.int .i64 1,.int .i64 1,.int .i64 1,.int .i64 0]) (ok:=fun _=>True) (okp:=fun _=>True) ?hr ?hp (fun _ hk=>hk) trivial (ao _ _) (aI _) (by simp) ?_;(case hd=>rfl);(case hg=>rfl);(case hr=>first|(go_simp;done)|(go_simp;rfl));(case hp=>exact(aU.one (show Kd.M (Kd.int .i64) _ _ _ 1 [.int .i64 1] from rfl) (aU.one (show Kd.M (Kd.int .i64) _ _ _ 1 [.int .i64 1] from rfl) (aU.one (show Kd.M (Kd.int .i64) _ _ _ 1 [.int .i64 1] from rfl) (aU.one (show Kd.M (Kd.int .i64) _ _ _ 0 [.int .i64 0] from rfl) (aU.none _ _))))));intro hW hX a0 hb y z;clear y z;(first|rw[<-d3.out] at a0|(simp only[Int.reduceToNat] at a0;rw[<-d3.out] at a0));replace i:=br i hb;replace q:=br q hb;have s:=zA (Kd.ba (Kd.bB a0 (Kd.a7 (zR a))) (bp zB));replace a:=bH a a0 hb;replace b:=zb b hb;replace j:=zb j hb;replace l:=zS l hb;clear hb a0;obtain⟨d5,d6,f4⟩:=Kd.bb s.out;subst f4)|((with_reducible refine aC (f:=32) rfl ?_);refine zL (some 34) Tryz.func32 #[.agg #[.int .i64 4,.slice J B.length G],.slice d5 bx.length d6] ?_;(with_reducible refine(cX.calls k 4 _ _ B _ _ bx t232 t235 _ ?af ?ah ?aX ?aW A2.out).mono ?_);(case af=>exact zC (Kd.aD i.out).2.2);(case ah=>exact(Kd.aD i.out).2.1);(case aX=>exact zC (Kd.aD s.out).2.2);(case aW=>exact(Kd.aD s.out).2.1);rintro e hY ⟨v233,rfl,aa,hb⟩;refine⟨_,rfl,?_⟩;replace i:=br i hb;replace q:=br q hb;have m:=zA (Kd.ba (Kd.bB (Kd.bB aa (Kd.a7 (zR a))) (Kd.a7 (zR s))) (bp zB));replace a:=bH a aa hb;replace s:=bH s aa hb;replace b:=zb b hb;replace j:=zb j hb;replace l:=zS l hb;(try clear hb);(try clear aa);obtain⟨f5,f6,f7,f8⟩:=ax b)|((with_reducible refine aJ (N:=39) rfl ?_);(try(refine dR (by rfl) ?_;dsimp only));refine Kd.eO (Kd.int .i64) _ 3 ?hg (N:=39) ?hd (xs:=([1,1,1,0]:List Int)) (inner:=[.int .i64 1,.int .i64 1,.int .i64 1,.int .i64 0]) (ok:=fun _=>True) (okp:=fun _=>True) ?hr ?hp (fun _ hk=>hk) trivial (ao _ _) (aI _) (by simp) ?_;(case hd=>rfl);(case hg=>rfl);(case hr=>first|(go_simp;done)|(go_simp;rfl));(case hp=>exact(aU.one (show Kd.M (Kd.int .i64) _ _ _ 1 [.int .i64 1] from rfl) (aU.one (show Kd.M (Kd.int .i64) _ _ _ 1 [.int .i64 1] from rfl) (aU.one (show Kd.M (Kd.int .i64) _ _ _ 1 [.int .i64 1] from rfl) (aU.one (show Kd.M (Kd.int .i64) _ _ _ 0 [.int .i64 0] from rfl) (aU.none _ _))))));intro h0 h1 aF hb y z;clear y z;(first|rw[<-d4.out] at aF|(simp only[Int.reduceToNat] at aF;rw[<-d4.out] at aF));replace i:=br i hb;replace q:=br q hb;have u:=zA (Kd.ba (Kd.bB (Kd.bB (Kd.bB aF (Kd.a7 (zR a))) (Kd.a7 (zR s))) (Kd.a7 (zR m))) (bp zB));replace a:=bH a aF hb;replace s:=bH s aF hb;replace m:=bH m aF hb;replace b:=zb b hb;replace j:=zb j hb;replace l:=zS l hb;clear hb aF;obtain⟨d7,d8,f9⟩:=Kd.bb u.out;subst f9)|((with_reducible refine aC (f:=27) rfl ?_);refine zL (some 40) Tryz.func27 #[.agg #[.int .i64 4,.slice J B.length G],.slice d7 b0.length d8] ?_;(with_reducible refine(ij.calls k 4 _ _ B _ _ b0 t239 t240 _ ?af ?ah ?aX ?aW A3.out).mono ?_);(case af=>exact zC (Kd.aD i.out).2.2);(case ah=>exact(Kd.aD i.out).2.1);(case aX=>exact zC (Kd.aD u.out).2.2);(case aW=>exact(Kd.aD u.out).2.1);rintro e h2 ⟨rfl,hb⟩;refine⟨_,rfl,?_⟩;replace i:=br i hb;replace q:=br q hb;replace a:=br a hb;replace s:=br s hb;replace m:=br m hb;replace u:=br u hb;replace b:=zb b hb;replace j:=zb j hb;replace l:=zS l hb;(try clear hb);obtain⟨f',gb,gc,gd⟩:=ax j)|((with_reducible refine aC (f:=15) rfl ?_);refine zL (some 45) Tryz.func15 #[.agg #[.int .i64 3,.slice L E.length O],.int .i64 0] ?_;(with_reducible refine(cp.calls k 3 _ _ E 0 t241 t244 _ ?af ?ah A4.out).mono ?_);(case af=>exact zC (Kd.aD q.out).2.2);(case ah=>exact(Kd.aD q.out).2.1);rintro e h3 ⟨ge,rfl,aa,hb⟩;refine⟨_,rfl,?_⟩;have D:=zA (Kd.mh (Kd.eI (ok':=fun C=>some C≠(.slice J B.length G:Value).ownBlock/\some C≠(.slice L E.length O:Value).ownBlock/\some C≠(v226:Value).ownBlock/\some C≠(.slice d5 bx.length d6:Value).ownBlock/\some C≠(v233:Value).ownBlock/\some C≠(.slice d7 b0.length d8:Value).ownBlock/\C≠K/\C≠P) aa (fun C aL=>⟨(Kd.ku (Kd.a7 (zR i)) C aL),(Kd.ku (Kd.a7 (zR q)) C aL),(Kd.ku (Kd.a7 (zR a)) C aL),(Kd.ku (Kd.a7 (zR s)) C aL),(Kd.ku (Kd.a7 (zR m)) C aL),(Kd.ku (Kd.a7 (zR u)) C aL),(Kd.lu (zK b) C aL),(Kd.lu (zK j) C aL)⟩)) (bp zB));replace i:=br i hb;replace q:=br q hb;replace a:=br a hb;replace s:=br s hb;replace m:=br m hb;replace u:=br u hb;replace b:=zb b hb;replace j:=zb j hb;replace l:=zS l hb;(try clear hb);(try clear aa);obtain⟨gf,gg,gi,gl⟩:=ax j)|((with_reducible refine aC (f:=82) rfl ?_);refine zL (some 50) Tryz.func82 #[.agg #[.int .i64 3,.slice L E.length O],.int .i64 0] ?_;(with_reducible refine(fI.calls k 3 _ _ E 0 t245 t246 _ ?af ?ah A5.out).mono ?_);(case af=>exact zC (Kd.aD q.out).2.2);(case ah=>exact(Kd.aD q.out).2.1);rintro e h4 ⟨rfl,hb⟩;refine⟨_,rfl,?_⟩;replace i:=br i hb;replace q:=br q hb;replace a:=br a hb;replace s:=br s hb;replace m:=br m hb;replace u:=br u hb;replace D:=zr D hb;replace b:=zb b hb;replace j:=zb j hb;replace l:=zS l hb;(try clear hb)))
 (try simp only[Act.put,List.setIfInBounds_toArray,List.set_cons_zero,List.set_cons_succ])
 go_cut [87] (fun v87 wc=>∃(kq:Nat) (b2:Bool),v87= .bool b2/\Aside0 (bJ.j0 kq t241 b2=some r)/\Aside0 (kq<=k)/\Aside0 (Kd.N (Kd.slice 3 (Kd.int .i64)) 26 wc w.heap.size (fun C=>some C≠((.slice J B.length G):Value).ownBlock/\some C≠((.slice L E.length O):Value).ownBlock/\C≠K/\C≠P) ge t241)/\Aside0 (Kd.R aT 83 wc w.heap.size (fun C=>some C≠((.slice L E.length O):Value).ownBlock) (.slice J B.length G) B)/\Aside0 (Kd.R aT 83 wc w.heap.size (fun C=>some C≠((.slice J B.length G):Value).ownBlock) (.slice L E.length O) E)/\Aside0 (wc.heap[K]? =some (.cells #[.int .i64 4,(.slice J B.length G)] 24 (0,0)))/\Aside0 (wc.heap[P]? =some (.cells #[.int .i64 3,(.slice L E.length O)] 24 (0,0)))/\Aside0 (Below w.heap.size w wc))
 case first=>
  have H:=cx.out;clear cx;by_cases a9:(wrap64 ((wrap64 ((wrap64 ((wrap64 (t228+t235))+t240))+t244))+t246))=0
  ·rw[if_pos a9] at H
   obtain⟨be,gm⟩:=bF a9;clear a9
   (first|rw[be]|(simp only[bT,bW];rw[be])|skip)
   obtain⟨a1,c1⟩:∃F:List Int,F=(([1,1,1,1]:List Int)):=⟨_,rfl⟩;replace H:((bu.f k t225 a1).bind fun t250=>(if t250=true then((bu.f k t232 (([0,0,0,1]:List Int))).bind fun t254=>(if t254=true then(if t239=1 then(if t245=0 then(bJ.j0 k t241 ((t241.length:Int) != 2)) else(bJ.j0 k t241 true)) else(bJ.j0 k t241 true)) else(bJ.j0 k t241 true))) else(bJ.j0 k t241 true)))=some r:=zh c1 H;have ab:=zA c1;clear c1;obtain⟨t250,bf,H⟩:=zo H;by_cases b3:t250=true
   ·subst b3
    replace H:=zi H;obtain⟨bg,c2⟩:∃F:List Int,F=(([0,0,0,1]:List Int)):=⟨_,rfl⟩;replace H:((bu.f k t232 bg).bind fun t254=>(if t254=true then(if t239=1 then(if t245=0 then(bJ.j0 k t241 ((t241.length:Int) != 2)) else(bJ.j0 k t241 true)) else(bJ.j0 k t241 true)) else(bJ.j0 k t241 true)))=some r:=zh c2 H;have aO:=zA c2;clear c2;obtain⟨t254,b4,H⟩:=zo H;by_cases b5:t254=true
    ·subst b5
     replace H:=zi H;by_cases bi:t239=1
     ·rw[if_pos bi] at H
      obtain⟨gn,go⟩:=bF bi;clear bi;by_cases bk:t245=0
      ·rw[if_pos bk] at H
       obtain⟨gp,gq⟩:=bF bk;clear bk;have T:=zA H;clear H;go_wp2_with (first|((with_reducible refine aJ (N:=65) rfl ?_);(try(refine dR (by rfl) ?_;dsimp only));refine Kd.eO (Kd.int .i64) _ 3 ?hg (N:=65) ?hd (xs:=([1,1,1,1]:List Int)) (inner:=[.int .i64 1,.int .i64 1,.int .i64 1,.int .i64 1]) (ok:=fun _=>True) (okp:=fun _=>True) ?hr ?hp (fun _ hk=>hk) trivial (ao _ _) (aI _) (by simp) ?_;(case hd=>rfl);(case hg=>rfl);(case hr=>first|(go_simp;done)|(go_simp;rfl));(case hp=>exact(aU.one (show Kd.M (Kd.int .i64) _ _ _ 1 [.int .i64 1] from rfl) (aU.one (show Kd.M (Kd.int .i64) _ _ _ 1 [.int .i64 1] from rfl) (aU.one (show Kd.M (Kd.int .i64) _ _ _ 1 [.int .i64 1] from rfl) (aU.one (show Kd.M (Kd.int .i64) _ _ _ 1 [.int .i64 1] from rfl) (aU.none _ _))))));intro b6 h5 ad hb y z;clear y z;(first|rw[<-ab.out] at ad|(simp only[Int.reduceToNat] at ad;rw[<-ab.out] at ad));replace i:=br i hb;replace q:=br q hb;replace D:=gE D ad hb;have x:=zA (Kd.ba (Kd.bB (Kd.bB (Kd.bB (Kd.bB ad (Kd.a7 (zR a))) (Kd.a7 (zR s))) (Kd.a7 (zR m))) (Kd.a7 (zR u))) (bp zB));replace a:=bH a ad hb;replace s:=bH s ad hb;replace m:=bH m ad hb;replace u:=bH u ad hb;replace b:=zb b hb;replace j:=zb j hb;replace l:=zS l hb;clear hb ad;obtain⟨h6,h7,gr⟩:=Kd.bb a.out;subst gr;obtain⟨h8,h9,gs⟩:=Kd.bb x.out;subst gs)|(go_at_call 33;(with_reducible refine(bu.calls k _ _ t225 _ _ a1 true _ ?af ?ah ?aX ?aW bf.out).mono ?_);(case af=>exact zC (Kd.aD a.out).2.2);(case ah=>exact(Kd.aD a.out).2.1);(case aX=>exact zC (Kd.aD x.out).2.2);(case aW=>exact(Kd.aD x.out).2.1);rintro e w' ⟨rfl,⟨nd,rfl⟩⟩)|((with_reducible refine aJ (N:=71) rfl ?_);(try(refine dR (by rfl) ?_;dsimp only));refine Kd.eO (Kd.int .i64) _ 3 ?hg (N:=71) ?hd (xs:=([0,0,0,1]:List Int)) (inner:=[.int .i64 0,.int .i64 0,.int .i64 0,.int .i64 1]) (ok:=fun _=>True) (okp:=fun _=>True) ?hr ?hp (fun _ hk=>hk) trivial (ao _ _) (aI _) (by simp) ?_;(case hd=>rfl);(case hg=>rfl);(case hr=>first|(go_simp;done)|(go_simp;rfl));(case hp=>exact(aU.one (show Kd.M (Kd.int .i64) _ _ _ 0 [.int .i64 0] from rfl) (aU.one (show Kd.M (Kd.int .i64) _ _ _ 0 [.int .i64 0] from rfl) (aU.one (show Kd.M (Kd.int .i64) _ _ _ 0 [.int .i64 0] from rfl) (aU.one (show Kd.M (Kd.int .i64) _ _ _ 1 [.int .i64 1] from rfl) (aU.none _ _))))));intro c4 h' U hb y z;clear y z;(first|rw[<-aO.out] at U|(simp only[Int.reduceToNat] at U;rw[<-aO.out] at U));replace i:=br i hb;replace q:=br q hb;replace D:=gE D U hb;have I:=zA (Kd.ba (Kd.bB (Kd.bB (Kd.bB (Kd.bB (Kd.bB U (Kd.a7 (zR a))) (Kd.a7 (zR s))) (Kd.a7 (zR m))) (Kd.a7 (zR u))) (Kd.a7 (zR x))) (bp zB));replace a:=bH a U hb;replace s:=bH s U hb;replace m:=bH m U hb;replace u:=bH u U hb;replace x:=bH x U hb;replace b:=zb b hb;replace j:=zb j hb;replace l:=zS l hb;clear hb U;obtain⟨ib,id,gt⟩:=Kd.bb m.out;subst gt;obtain⟨ih,ii,gx⟩:=Kd.bb I.out;subst gx)|(go_at_call 33;(with_reducible refine(bu.calls k _ _ t232 _ _ bg true _ ?af ?ah ?aX ?aW b4.out).mono ?_);(case af=>exact zC (Kd.aD m.out).2.2);(case ah=>exact(Kd.aD m.out).2.1);(case aX=>exact zC (Kd.aD I.out).2.2);(case aW=>exact(Kd.aD I.out).2.1);rintro e w' ⟨rfl,⟨nd,rfl⟩⟩;obtain⟨im,io,g0⟩:=Kd.mj D.out;subst g0))
       go_meet
       case rel=>exact⟨_,(((t241.length:Int) != 2)),zT,T,⟨by first|omega|exact aI _⟩,⟨by(with_reducible repeat(first|apply Kd.eP|apply Kd.fV|apply Kd.fU));exact Kd.eI D.out (fun _ hk=>⟨hk.1.1.1,⟨hk.1.1.2.1,⟨hk.1.1.2.2.2.2.2.2.1,hk.1.1.2.2.2.2.2.2.2⟩⟩⟩)⟩,⟨by(with_reducible repeat(first|apply Kd.aK|apply Kd.bq|apply Kd.bd));exact Kd.a_ i.out (fun _ hk=>hk.2)⟩,⟨by(with_reducible repeat(first|apply Kd.aK|apply Kd.bq|apply Kd.bd));exact Kd.a_ q.out (fun _ hk=>hk.2)⟩,⟨zK b⟩,⟨zK j⟩,⟨zB⟩⟩
      ·rw[if_neg bk] at H
       obtain⟨gp,gq⟩:=bI bk;have T:=zA H;clear H;go_wp2_with (first|((with_reducible refine aJ (N:=65) rfl ?_);(try(refine dR (by rfl) ?_;dsimp only));refine Kd.eO (Kd.int .i64) _ 3 ?hg (N:=65) ?hd (xs:=([1,1,1,1]:List Int)) (inner:=[.int .i64 1,.int .i64 1,.int .i64 1,.int .i64 1]) (ok:=fun _=>True) (okp:=fun _=>True) ?hr ?hp (fun _ hk=>hk) trivial (ao _ _) (aI _) (by simp) ?_;(case hd=>rfl);(case hg=>rfl);(case hr=>first|(go_simp;done)|(go_simp;rfl));(case hp=>exact(aU.one (show Kd.M (Kd.int .i64) _ _ _ 1 [.int .i64 1] from rfl) (aU.one (show Kd.M (Kd.int .i64) _ _ _ 1 [.int .i64 1] from rfl) (aU.one (show Kd.M (Kd.int .i64) _ _ _ 1 [.int .i64 1] from rfl) (aU.one (show Kd.M (Kd.int .i64) _ _ _ 1 [.int .i64 1] from rfl) (aU.none _ _))))));intro b6 ip ak hb y z;clear y z;(first|rw[<-ab.out] at ak|(simp only[Int.reduceToNat] at ak;rw[<-ab.out] at ak));replace i:=br i hb;replace q:=br q hb;replace D:=gE D ak hb;have x:=zA (Kd.ba (Kd.bB (Kd.bB (Kd.bB (Kd.bB ak (Kd.a7 (zR a))) (Kd.a7 (zR s))) (Kd.a7 (zR m))) (Kd.a7 (zR u))) (bp zB));replace a:=bH a ak hb;replace s:=bH s ak hb;replace m:=bH m ak hb;replace u:=bH u ak hb;replace b:=zb b hb;replace j:=zb j hb;replace l:=zS l hb;clear hb ak;obtain⟨it,iv,g1⟩:=Kd.bb a.out;subst g1;obtain⟨i0,i1,g2⟩:=Kd.bb x.out;subst g2)|(go_at_call 33;(with_reducible refine(bu.calls k _ _ t225 _ _ a1 true _ ?af ?ah ?aX ?aW bf.out).mono ?_);(case af=>exact zC (Kd.aD a.out).2.2);(case ah=>exact(Kd.aD a.out).2.1);(case aX=>exact zC (Kd.aD x.out).2.2);(case aW=>exact(Kd.aD x.out).2.1);rintro e w' ⟨rfl,⟨nd,rfl⟩⟩)|((with_reducible refine aJ (N:=71) rfl ?_);(try(refine dR (by rfl) ?_;dsimp only));refine Kd.eO (Kd.int .i64) _ 3 ?hg (N:=71) ?hd (xs:=([0,0,0,1]:List Int)) (inner:=[.int .i64 0,.int .i64 0,.int .i64 0,.int .i64 1]) (ok:=fun _=>True) (okp:=fun _=>True) ?hr ?hp (fun _ hk=>hk) trivial (ao _ _) (aI _) (by simp) ?_;(case hd=>rfl);(case hg=>rfl);(case hr=>first|(go_simp;done)|(go_simp;rfl));(case hp=>exact(aU.one (show Kd.M (Kd.int .i64) _ _ _ 0 [.int .i64 0] from rfl) (aU.one (show Kd.M (Kd.int .i64) _ _ _ 0 [.int .i64 0] from rfl) (aU.one (show Kd.M (Kd.int .i64) _ _ _ 0 [.int .i64 0] from rfl) (aU.one (show Kd.M (Kd.int .i64) _ _ _ 1 [.int .i64 1] from rfl) (aU.none _ _))))));intro c4 i2 W hb y z;clear y z;(first|rw[<-aO.out] at W|(simp only[Int.reduceToNat] at W;rw[<-aO.out] at W));replace i:=br i hb;replace q:=br q hb;replace D:=gE D W hb;have I:=zA (Kd.ba (Kd.bB (Kd.bB (Kd.bB (Kd.bB (Kd.bB W (Kd.a7 (zR a))) (Kd.a7 (zR s))) (Kd.a7 (zR m))) (Kd.a7 (zR u))) (Kd.a7 (zR x))) (bp zB));replace a:=bH a W hb;replace s:=bH s W hb;replace m:=bH m W hb;replace u:=bH u W hb;replace x:=bH x W hb;replace b:=zb b hb;replace j:=zb j hb;replace l:=zS l hb;clear hb W;obtain⟨i3,i4,g3⟩:=Kd.bb m.out;subst g3;obtain⟨i5,i6,g4⟩:=Kd.bb I.out;subst g4)|(go_at_call 33;(with_reducible refine(bu.calls k _ _ t232 _ _ bg true _ ?af ?ah ?aX ?aW b4.out).mono ?_);(case af=>exact zC (Kd.aD m.out).2.2);(case ah=>exact(Kd.aD m.out).2.1);(case aX=>exact zC (Kd.aD I.out).2.2);(case aW=>exact(Kd.aD I.out).2.1);rintro e w' ⟨rfl,⟨nd,rfl⟩⟩))
       go_meet
       case rel=>exact⟨_,(true),zT,T,⟨by first|omega|exact aI _⟩,⟨by(with_reducible repeat(first|apply Kd.eP|apply Kd.fV|apply Kd.fU));exact Kd.eI D.out (fun _ hk=>⟨hk.1.1.1,⟨hk.1.1.2.1,⟨hk.1.1.2.2.2.2.2.2.1,hk.1.1.2.2.2.2.2.2.2⟩⟩⟩)⟩,⟨by(with_reducible repeat(first|apply Kd.aK|apply Kd.bq|apply Kd.bd));exact Kd.a_ i.out (fun _ hk=>hk.2)⟩,⟨by(with_reducible repeat(first|apply Kd.aK|apply Kd.bq|apply Kd.bd));exact Kd.a_ q.out (fun _ hk=>hk.2)⟩,⟨zK b⟩,⟨zK j⟩,⟨zB⟩⟩
     ·rw[if_neg bi] at H
      obtain⟨gn,go⟩:=bI bi;have T:=zA H;clear H;go_wp2_with (first|((with_reducible refine aJ (N:=65) rfl ?_);(try(refine dR (by rfl) ?_;dsimp only));refine Kd.eO (Kd.int .i64) _ 3 ?hg (N:=65) ?hd (xs:=([1,1,1,1]:List Int)) (inner:=[.int .i64 1,.int .i64 1,.int .i64 1,.int .i64 1]) (ok:=fun _=>True) (okp:=fun _=>True) ?hr ?hp (fun _ hk=>hk) trivial (ao _ _) (aI _) (by simp) ?_;(case hd=>rfl);(case hg=>rfl);(case hr=>first|(go_simp;done)|(go_simp;rfl));(case hp=>exact(aU.one (show Kd.M (Kd.int .i64) _ _ _ 1 [.int .i64 1] from rfl) (aU.one (show Kd.M (Kd.int .i64) _ _ _ 1 [.int .i64 1] from rfl) (aU.one (show Kd.M (Kd.int .i64) _ _ _ 1 [.int .i64 1] from rfl) (aU.one (show Kd.M (Kd.int .i64) _ _ _ 1 [.int .i64 1] from rfl) (aU.none _ _))))));intro b6 i7 am hb y z;clear y z;(first|rw[<-ab.out] at am|(simp only[Int.reduceToNat] at am;rw[<-ab.out] at am));replace i:=br i hb;replace q:=br q hb;replace D:=gE D am hb;have x:=zA (Kd.ba (Kd.bB (Kd.bB (Kd.bB (Kd.bB am (Kd.a7 (zR a))) (Kd.a7 (zR s))) (Kd.a7 (zR m))) (Kd.a7 (zR u))) (bp zB));replace a:=bH a am hb;replace s:=bH s am hb;replace m:=bH m am hb;replace u:=bH u am hb;replace b:=zb b hb;replace j:=zb j hb;replace l:=zS l hb;clear hb am;obtain⟨i8,i9,g5⟩:=Kd.bb a.out;subst g5;obtain⟨i_,jj,g6⟩:=Kd.bb x.out;subst g6)|(go_at_call 33;(with_reducible refine(bu.calls k _ _ t225 _ _ a1 true _ ?af ?ah ?aX ?aW bf.out).mono ?_);(case af=>exact zC (Kd.aD a.out).2.2);(case ah=>exact(Kd.aD a.out).2.1);(case aX=>exact zC (Kd.aD x.out).2.2);(case aW=>exact(Kd.aD x.out).2.1);rintro e w' ⟨rfl,⟨nd,rfl⟩⟩)|((with_reducible refine aJ (N:=71) rfl ?_);(try(refine dR (by rfl) ?_;dsimp only));refine Kd.eO (Kd.int .i64) _ 3 ?hg (N:=71) ?hd (xs:=([0,0,0,1]:List Int)) (inner:=[.int .i64 0,.int .i64 0,.int .i64 0,.int .i64 1]) (ok:=fun _=>True) (okp:=fun _=>True) ?hr ?hp (fun _ hk=>hk) trivial (ao _ _) (aI _) (by simp) ?_;(case hd=>rfl);(case hg=>rfl);(case hr=>first|(go_simp;done)|(go_simp;rfl));(case hp=>exact(aU.one (show Kd.M (Kd.int .i64) _ _ _ 0 [.int .i64 0] from rfl) (aU.one (show Kd.M (Kd.int .i64) _ _ _ 0 [.int .i64 0] from rfl) (aU.one (show Kd.M (Kd.int .i64) _ _ _ 0 [.int .i64 0] from rfl) (aU.one (show Kd.M (Kd.int .i64) _ _ _ 1 [.int .i64 1] from rfl) (aU.none _ _))))));intro c4 jp X hb y z;clear y z;(first|rw[<-aO.out] at X|(simp only[Int.reduceToNat] at X;rw[<-aO.out] at X));replace i:=br i hb;replace q:=br q hb;replace D:=gE D X hb;have I:=zA (Kd.ba (Kd.bB (Kd.bB (Kd.bB (Kd.bB (Kd.bB X (Kd.a7 (zR a))) (Kd.a7 (zR s))) (Kd.a7 (zR m))) (Kd.a7 (zR u))) (Kd.a7 (zR x))) (bp zB));replace a:=bH a X hb;replace s:=bH s X hb;replace m:=bH m X hb;replace u:=bH u X hb;replace x:=bH x X hb;replace b:=zb b hb;replace j:=zb j hb;replace l:=zS l hb;clear hb X;obtain⟨j1,j2,g7⟩:=Kd.bb m.out;subst g7;obtain⟨j3,j_,g8⟩:=Kd.bb I.out;subst g8)|(go_at_call 33;(with_reducible refine(bu.calls k _ _ t232 _ _ bg true _ ?af ?ah ?aX ?aW b4.out).mono ?_);(case af=>exact zC (Kd.aD m.out).2.2);(case ah=>exact(Kd.aD m.out).2.1);(case aX=>exact zC (Kd.aD I.out).2.2);(case aW=>exact(Kd.aD I.out).2.1);rintro e w' ⟨rfl,⟨nd,rfl⟩⟩))
      go_meet
      case rel=>exact⟨_,(true),zT,T,⟨by first|omega|exact aI _⟩,⟨by(with_reducible repeat(first|apply Kd.eP|apply Kd.fV|apply Kd.fU));exact Kd.eI D.out (fun _ hk=>⟨hk.1.1.1,⟨hk.1.1.2.1,⟨hk.1.1.2.2.2.2.2.2.1,hk.1.1.2.2.2.2.2.2.2⟩⟩⟩)⟩,⟨by(with_reducible repeat(first|apply Kd.aK|apply Kd.bq|apply Kd.bd));exact Kd.a_ i.out (fun _ hk=>hk.2)⟩,⟨by(with_reducible repeat(first|apply Kd.aK|apply Kd.bq|apply Kd.bd));exact Kd.a_ q.out (fun _ hk=>hk.2)⟩,⟨zK b⟩,⟨zK j⟩,⟨zB⟩⟩
    ·replace b5:=Bool.eq_false_iff.mpr b5
     subst b5;replace H:=zj H;have T:=zA H;clear H;go_wp2_with (first|((with_reducible refine aJ (N:=65) rfl ?_);(try(refine dR (by rfl) ?_;dsimp only));refine Kd.eO (Kd.int .i64) _ 3 ?hg (N:=65) ?hd (xs:=([1,1,1,1]:List Int)) (inner:=[.int .i64 1,.int .i64 1,.int .i64 1,.int .i64 1]) (ok:=fun _=>True) (okp:=fun _=>True) ?hr ?hp (fun _ hk=>hk) trivial (ao _ _) (aI _) (by simp) ?_;(case hd=>rfl);(case hg=>rfl);(case hr=>first|(go_simp;done)|(go_simp;rfl));(case hp=>exact(aU.one (show Kd.M (Kd.int .i64) _ _ _ 1 [.int .i64 1] from rfl) (aU.one (show Kd.M (Kd.int .i64) _ _ _ 1 [.int .i64 1] from rfl) (aU.one (show Kd.M (Kd.int .i64) _ _ _ 1 [.int .i64 1] from rfl) (aU.one (show Kd.M (Kd.int .i64) _ _ _ 1 [.int .i64 1] from rfl) (aU.none _ _))))));intro b6 j' an hb y z;clear y z;(first|rw[<-ab.out] at an|(simp only[Int.reduceToNat] at an;rw[<-ab.out] at an));replace i:=br i hb;replace q:=br q hb;replace D:=gE D an hb;have x:=zA (Kd.ba (Kd.bB (Kd.bB (Kd.bB (Kd.bB an (Kd.a7 (zR a))) (Kd.a7 (zR s))) (Kd.a7 (zR m))) (Kd.a7 (zR u))) (bp zB));replace a:=bH a an hb;replace s:=bH s an hb;replace m:=bH m an hb;replace u:=bH u an hb;replace b:=zb b hb;replace j:=zb j hb;replace l:=zS l hb;clear hb an;obtain⟨kd,kk,g9⟩:=Kd.bb a.out;subst g9;obtain⟨km,ks,g'⟩:=Kd.bb x.out;subst g')|(go_at_call 33;(with_reducible refine(bu.calls k _ _ t225 _ _ a1 true _ ?af ?ah ?aX ?aW bf.out).mono ?_);(case af=>exact zC (Kd.aD a.out).2.2);(case ah=>exact(Kd.aD a.out).2.1);(case aX=>exact zC (Kd.aD x.out).2.2);(case aW=>exact(Kd.aD x.out).2.1);rintro e w' ⟨rfl,⟨nd,rfl⟩⟩)|((with_reducible refine aJ (N:=71) rfl ?_);(try(refine dR (by rfl) ?_;dsimp only));refine Kd.eO (Kd.int .i64) _ 3 ?hg (N:=71) ?hd (xs:=([0,0,0,1]:List Int)) (inner:=[.int .i64 0,.int .i64 0,.int .i64 0,.int .i64 1]) (ok:=fun _=>True) (okp:=fun _=>True) ?hr ?hp (fun _ hk=>hk) trivial (ao _ _) (aI _) (by simp) ?_;(case hd=>rfl);(case hg=>rfl);(case hr=>first|(go_simp;done)|(go_simp;rfl));(case hp=>exact(aU.one (show Kd.M (Kd.int .i64) _ _ _ 0 [.int .i64 0] from rfl) (aU.one (show Kd.M (Kd.int .i64) _ _ _ 0 [.int .i64 0] from rfl) (aU.one (show Kd.M (Kd.int .i64) _ _ _ 0 [.int .i64 0] from rfl) (aU.one (show Kd.M (Kd.int .i64) _ _ _ 1 [.int .i64 1] from rfl) (aU.none _ _))))));intro c4 kt Y hb y z;clear y z;(first|rw[<-aO.out] at Y|(simp only[Int.reduceToNat] at Y;rw[<-aO.out] at Y));replace i:=br i hb;replace q:=br q hb;replace D:=gE D Y hb;have I:=zA (Kd.ba (Kd.bB (Kd.bB (Kd.bB (Kd.bB (Kd.bB Y (Kd.a7 (zR a))) (Kd.a7 (zR s))) (Kd.a7 (zR m))) (Kd.a7 (zR u))) (Kd.a7 (zR x))) (bp zB));replace a:=bH a Y hb;replace s:=bH s Y hb;replace m:=bH m Y hb;replace u:=bH u Y hb;replace x:=bH x Y hb;replace b:=zb b hb;replace j:=zb j hb;replace l:=zS l hb;clear hb Y;obtain⟨kv,kw,ha⟩:=Kd.bb m.out;subst ha;obtain⟨kW,k0,hc⟩:=Kd.bb I.out;subst hc)|(go_at_call 33;(with_reducible refine(bu.calls k _ _ t232 _ _ bg false _ ?af ?ah ?aX ?aW b4.out).mono ?_);(case af=>exact zC (Kd.aD m.out).2.2);(case ah=>exact(Kd.aD m.out).2.1);(case aX=>exact zC (Kd.aD I.out).2.2);(case aW=>exact(Kd.aD I.out).2.1);rintro e w' ⟨rfl,⟨nd,rfl⟩⟩))
     go_meet
     case rel=>exact⟨_,(true),zT,T,⟨by first|omega|exact aI _⟩,⟨by(with_reducible repeat(first|apply Kd.eP|apply Kd.fV|apply Kd.fU));exact Kd.eI D.out (fun _ hk=>⟨hk.1.1.1,⟨hk.1.1.2.1,⟨hk.1.1.2.2.2.2.2.2.1,hk.1.1.2.2.2.2.2.2.2⟩⟩⟩)⟩,⟨by(with_reducible repeat(first|apply Kd.aK|apply Kd.bq|apply Kd.bd));exact Kd.a_ i.out (fun _ hk=>hk.2)⟩,⟨by(with_reducible repeat(first|apply Kd.aK|apply Kd.bq|apply Kd.bd));exact Kd.a_ q.out (fun _ hk=>hk.2)⟩,⟨zK b⟩,⟨zK j⟩,⟨zB⟩⟩
   ·replace b3:=Bool.eq_false_iff.mpr b3
    subst b3;replace H:=zj H;have T:=zA H;clear H;go_wp2_with (first|((with_reducible refine aJ (N:=65) rfl ?_);(try(refine dR (by rfl) ?_;dsimp only));refine Kd.eO (Kd.int .i64) _ 3 ?hg (N:=65) ?hd (xs:=([1,1,1,1]:List Int)) (inner:=[.int .i64 1,.int .i64 1,.int .i64 1,.int .i64 1]) (ok:=fun _=>True) (okp:=fun _=>True) ?hr ?hp (fun _ hk=>hk) trivial (ao _ _) (aI _) (by simp) ?_;(case hd=>rfl);(case hg=>rfl);(case hr=>first|(go_simp;done)|(go_simp;rfl));(case hp=>exact(aU.one (show Kd.M (Kd.int .i64) _ _ _ 1 [.int .i64 1] from rfl) (aU.one (show Kd.M (Kd.int .i64) _ _ _ 1 [.int .i64 1] from rfl) (aU.one (show Kd.M (Kd.int .i64) _ _ _ 1 [.int .i64 1] from rfl) (aU.one (show Kd.M (Kd.int .i64) _ _ _ 1 [.int .i64 1] from rfl) (aU.none _ _))))));intro b6 k1 ap hb y z;clear y z;(first|rw[<-ab.out] at ap|(simp only[Int.reduceToNat] at ap;rw[<-ab.out] at ap));replace i:=br i hb;replace q:=br q hb;replace D:=gE D ap hb;have x:=zA (Kd.ba (Kd.bB (Kd.bB (Kd.bB (Kd.bB ap (Kd.a7 (zR a))) (Kd.a7 (zR s))) (Kd.a7 (zR m))) (Kd.a7 (zR u))) (bp zB));replace a:=bH a ap hb;replace s:=bH s ap hb;replace m:=bH m ap hb;replace u:=bH u ap hb;replace b:=zb b hb;replace j:=zb j hb;replace l:=zS l hb;clear hb ap;obtain⟨k2,k3,he⟩:=Kd.bb a.out;subst he;obtain⟨k4,k5,hf⟩:=Kd.bb x.out;subst hf)|(go_at_call 33;(with_reducible refine(bu.calls k _ _ t225 _ _ a1 false _ ?af ?ah ?aX ?aW bf.out).mono ?_);(case af=>exact zC (Kd.aD a.out).2.2);(case ah=>exact(Kd.aD a.out).2.1);(case aX=>exact zC (Kd.aD x.out).2.2);(case aW=>exact(Kd.aD x.out).2.1);rintro e w' ⟨rfl,⟨nd,rfl⟩⟩))
    go_meet
    case rel=>exact⟨_,(true),zT,T,⟨by first|omega|exact aI _⟩,⟨by(with_reducible repeat(first|apply Kd.eP|apply Kd.fV|apply Kd.fU));exact Kd.eI D.out (fun _ hk=>⟨hk.1.1,⟨hk.1.2.1,⟨hk.1.2.2.2.2.2.2.1,hk.1.2.2.2.2.2.2.2⟩⟩⟩)⟩,⟨by(with_reducible repeat(first|apply Kd.aK|apply Kd.bq|apply Kd.bd));exact Kd.a_ i.out (fun _ hk=>hk.2)⟩,⟨by(with_reducible repeat(first|apply Kd.aK|apply Kd.bq|apply Kd.bd));exact Kd.a_ q.out (fun _ hk=>hk.2)⟩,⟨zK b⟩,⟨zK j⟩,⟨zB⟩⟩
  ·rw[if_neg a9] at H
   obtain⟨be,gm⟩:=bI a9
   (first|rw[be]|(simp only[bT,bW];rw[be])|skip)
   have T:=zA H;clear H;go_wp2;go_meet
   case rel=>exact⟨_,(true),zT,T,⟨by first|omega|exact aI _⟩,⟨by(with_reducible repeat(first|apply Kd.eP|apply Kd.fV|apply Kd.fU));exact Kd.eI D.out (fun _ hk=>⟨hk.1,⟨hk.2.1,⟨hk.2.2.2.2.2.2.1,hk.2.2.2.2.2.2.2⟩⟩⟩)⟩,⟨by(with_reducible repeat(first|apply Kd.aK|apply Kd.bq|apply Kd.bd));exact Kd.a_ i.out (fun _ hk=>hk.2)⟩,⟨by(with_reducible repeat(first|apply Kd.aK|apply Kd.bq|apply Kd.bd));exact Kd.a_ q.out (fun _ hk=>hk.2)⟩,⟨zK b⟩,⟨zK j⟩,⟨zB⟩⟩
 case rest=>
  clear cx;clear e2 e3 fb fd fq fr f0 f1 f5 f6 f' gb gf gg e4 e5 fn fo ft fv f2 f3 f7 f8 gc gd gi gl;obtain⟨kq,b2,rfl,HA,k6,Z,b_,b',b,j,l⟩:=hcut;cases kq with
  |zero=>exact absurd HA.out (by simp[bJ.j0])
  |succ bn=>
   have H:=HA.out;clear HA;simp only[bJ.j0] at H;by_cases ca:b2=true
   ·subst ca
    replace H:=zi H;exact absurd ((aH H).trans hr.out) (by decide)
   ·replace ca:=Bool.eq_false_iff.mpr ca
    subst ca;replace H:=zj H;by_cases cb:0<(t241.length:Int)
    ·rw[if_pos cb] at H
     have k7:=az cb;have k8:decide (0<t241.length)=true:=az (by omega);clear cb;obtain⟨c6,c7⟩:∃F:List Int,F=(([(-1),0,1]:List Int)):=⟨_,rfl⟩;replace H:((bu.f bn (a6 t241 0) c6).bind fun t259=>(if t259=true then(if 1<(t241.length:Int) then((bu.f bn (a6 t241 1) (([(-1),1,0]:List Int))).bind fun t264=>(some t264)) else(none)) else(some false)))=some r:=zh c7 H;have d9:=zA c7;clear c7;obtain⟨t259,hh,H⟩:=zo H;by_cases cc:t259=true
     ·subst cc
      replace H:=zi H;by_cases cd:1<(t241.length:Int)
      ·rw[if_pos cd] at H
       have k9:=az cd;have la:decide (1<t241.length)=true:=az (by omega);clear cd;obtain⟨ea,c8⟩:∃F:List Int,F=(([(-1),1,0]:List Int)):=⟨_,rfl⟩;replace H:((bu.f bn (a6 t241 1) ea).bind fun t264=>(some t264))=some r:=zh c8 H;have eb:=zA c8;clear c8;obtain⟨t264,hj,H⟩:=zo H;obtain rfl:=aH H;obtain⟨lb,lc,hl⟩:=Kd.mj Z.out;subst hl;have ce:0<=(0:Int):=(by omega);have cf:0<(t241.length:Int):=aw ‹_›;obtain⟨hm,hn,ho,hq,c9,ed,eg⟩:=fX (Kd.iV Z.out).2.2 0 ce cf;cases hq;obtain⟨ld,hs,ht,ek⟩:=Kd.nI Z.out [] 0 ce (by first|exact cf|exact aw ‹_› |(have e_:=(Kd.iV Z.out).1;omega));obtain⟨le,lg,rfl,c',dd⟩:=Kd.kC ht;have ch:=ek 0 _ rfl;rw[Nat.add_zero,show ((Kd.slice 3 (Kd.int .i64))).sz=1 from rfl,Nat.mul_one] at ch;replace ch:=aH (ch.symm.trans c9);injection ch with bo dk bv
       rw[bo] at dd;rw[bv] at c';have ci:=zA (show Kd.V (Kd.int .i64) 3 _ w.heap.size _ _ (a6 t241 0) from Kd.pH c' dd);clear bo dk bv dd c';clear ek hs;have li:(0<t241.length)=True:=eq_true (by omega)
       (try rw[show ((0:Int)).toNat=0 from rfl] at c9)
       (try rw[Addr.add_zero'] at c9)
       have aP:=zA eg;have hw:=zA ed;clear eg ed;replace ce:=eq_true ce;replace cf:=eq_true cf;go_wp2_with (first|((with_reducible refine aJ (N:=91) rfl ?_);(try(refine dR (by rfl) ?_;dsimp only));refine Kd.eO (Kd.int .i64) _ 3 ?hg (N:=91) ?hd (xs:=([(-1),0,1]:List Int)) (inner:=[.int .i64 (-1),.int .i64 0,.int .i64 1]) (ok:=fun _=>True) (okp:=fun _=>True) ?hr ?hp (fun _ hk=>hk) trivial (ao _ _) (aI _) (by simp) ?_;(case hd=>rfl);(case hg=>rfl);(case hr=>first|(go_simp;done)|(go_simp;rfl));(case hp=>exact(aU.one (show Kd.M (Kd.int .i64) _ _ _ (-1) [.int .i64 (-1)] from rfl) (aU.one (show Kd.M (Kd.int .i64) _ _ _ 0 [.int .i64 0] from rfl) (aU.one (show Kd.M (Kd.int .i64) _ _ _ 1 [.int .i64 1] from rfl) (aU.none _ _)))));intro lj lk aR hb y z;clear y z;(first|rw[<-d9.out] at aR|(simp only[Int.reduceToNat] at aR;rw[<-d9.out] at aR));replace Z:=gE Z aR hb;replace b_:=br b_ hb;replace b':=br b' hb;replace ci:=zA (Kd.nL (by(with_reducible repeat(first|apply Kd.V_alloc|apply Kd.lE|apply Kd.V_drew));exact ci.out) (Kd.dD aR) hb);have a2:=zA (Kd.ba aR (bp zB));replace b:=zb b hb;replace j:=zb j hb;replace aP:=zA (Kd.au (by repeat(first|(with_reducible exact aP.out)|(with_reducible refine Kd.bE ?_ _)|(with_reducible refine Kd.fJ ?_ _)|(with_reducible refine Kd.fg ?_)|exact aP.out)) hb);replace l:=zS l hb;clear hb aR;obtain⟨hx,hy,hz⟩:=Kd.bb a2.out;subst hz)|((with_reducible refine aC (f:=33) rfl ?_);refine zL (some 92) Tryz.func33 #[.slice hn (a6 t241 0).length ho,.slice hx c6.length hy] ?_;(with_reducible refine(bu.calls bn _ _ (a6 t241 0) _ _ c6 true _ ?af ?ah ?aX ?aW hh.out).mono ?_);(case af=>repeat(first|exact(by repeat(first|(with_reducible exact aP.out)|(with_reducible refine Kd.bE ?_ _)|(with_reducible refine Kd.fJ ?_ _)|(with_reducible refine Kd.fg ?_)|exact aP.out))|(with_reducible refine Kd.bE ?_ _)|(with_reducible refine Kd.fJ ?_ _)|(with_reducible refine Kd.fg ?_)));(case ah=>exact hw.out);(case aX=>exact zC (Kd.aD a2.out).2.2);(case aW=>exact(Kd.aD a2.out).2.1);rintro e w' ⟨rfl,⟨nd,rfl⟩⟩;refine⟨_,rfl,?_⟩;have cj:0<=(1:Int):=(by omega);have ck:1<(t241.length:Int):=aw ‹_›;obtain⟨hA,lm,lo,hB,dl,el,em⟩:=fX (Kd.iV Z.out).2.2 1 cj ck;obtain rfl:hm=hA:=(by injection hB);obtain⟨lp,hC,hD,er⟩:=Kd.nI Z.out [] 1 cj (by first|exact ck|exact aw ‹_› |(have e_:=(Kd.iV Z.out).1;omega));obtain⟨ls,lt,rfl,ds,dv⟩:=Kd.kC hD;have cl:=er 0 _ rfl;rw[Nat.add_zero,show ((Kd.slice 3 (Kd.int .i64))).sz=1 from rfl,Nat.mul_one] at cl;replace cl:=aH (cl.symm.trans dl);injection cl with bo dk bv;rw[bo] at dv;rw[bv] at ds;have es:=zA (show Kd.V (Kd.int .i64) 3 _ w.heap.size _ _ (a6 t241 1) from Kd.pH ds dv);clear bo dk bv dv ds;clear er hC;(try simp only[show (1:Int).toNat=1 from rfl,Nat.reduceMul,Nat.reduceEqDiff,Go.Addr.add,↓reduceIte] at dl);have lv:(1<t241.length)=True:=eq_true (by omega);(try rw[show ((1:Int)).toNat=1 from rfl] at dl);have bw:=zA em;have hE:=zA el;clear em el;replace cj:=eq_true cj;replace ck:=eq_true ck)|((with_reducible refine aJ (N:=97) rfl ?_);(try(refine dR (by rfl) ?_;dsimp only));refine Kd.eO (Kd.int .i64) _ 3 ?hg (N:=97) ?hd (xs:=([(-1),1,0]:List Int)) (inner:=[.int .i64 (-1),.int .i64 1,.int .i64 0]) (ok:=fun _=>True) (okp:=fun _=>True) ?hr ?hp (fun _ hk=>hk) trivial (ao _ _) (aI _) (by simp) ?_;(case hd=>rfl);(case hg=>rfl);(case hr=>first|(go_simp;done)|(go_simp;rfl));(case hp=>exact(aU.one (show Kd.M (Kd.int .i64) _ _ _ (-1) [.int .i64 (-1)] from rfl) (aU.one (show Kd.M (Kd.int .i64) _ _ _ 1 [.int .i64 1] from rfl) (aU.one (show Kd.M (Kd.int .i64) _ _ _ 0 [.int .i64 0] from rfl) (aU.none _ _)))));intro lw l0 av hb y z;clear y z;(first|rw[<-eb.out] at av|(simp only[Int.reduceToNat] at av;rw[<-eb.out] at av));replace Z:=gE Z av hb;replace b_:=br b_ hb;replace b':=br b' hb;replace ci:=zA (Kd.nL (by(with_reducible repeat(first|apply Kd.V_alloc|apply Kd.lE|apply Kd.V_drew));exact ci.out) (Kd.dD av) hb);replace es:=zA (Kd.nL (by(with_reducible repeat(first|apply Kd.V_alloc|apply Kd.lE|apply Kd.V_drew));exact es.out) (Kd.dD av) hb);have d0:=zA (Kd.ba (Kd.bB av (Kd.a7 (zR a2))) (bp zB));replace a2:=bH a2 av hb;replace b:=zb b hb;replace j:=zb j hb;replace aP:=zA (Kd.au (by repeat(first|(with_reducible exact aP.out)|(with_reducible refine Kd.bE ?_ _)|(with_reducible refine Kd.fJ ?_ _)|(with_reducible refine Kd.fg ?_)|exact aP.out)) hb);replace bw:=zA (Kd.au (by repeat(first|(with_reducible exact bw.out)|(with_reducible refine Kd.bE ?_ _)|(with_reducible refine Kd.fJ ?_ _)|(with_reducible refine Kd.fg ?_)|exact bw.out)) hb);replace l:=zS l hb;clear hb av;obtain⟨l1,l2,hG⟩:=Kd.bb d0.out;subst hG)|(go_at_call 33;(with_reducible refine(bu.calls bn _ _ (a6 t241 1) _ _ ea t264 _ ?af ?ah ?aX ?aW hj.out).mono ?_);(case af=>repeat(first|exact(by repeat(first|(with_reducible exact bw.out)|(with_reducible refine Kd.bE ?_ _)|(with_reducible refine Kd.fJ ?_ _)|(with_reducible refine Kd.fg ?_)|exact bw.out))|(with_reducible refine Kd.bE ?_ _)|(with_reducible refine Kd.fJ ?_ _)|(with_reducible refine Kd.fg ?_)));(case ah=>exact hE.out);(case aX=>exact zC (Kd.aD d0.out).2.2);(case aW=>exact(Kd.aD d0.out).2.1);rintro e w' ⟨rfl,⟨nd,rfl⟩⟩))
       go_ret;exact⟨zE,zB⟩
      ·rw[if_neg cd] at H
       exact absurd H (by simp)
     ·replace cc:=Bool.eq_false_iff.mpr cc
      subst cc;replace H:=zj H;exact absurd ((aH H).trans hr.out) (by decide)
    ·rw[if_neg cb] at H
     exact absurd H (by simp)
end
def ej:List S83:=[⟨0,1,1⟩,⟨0,2,1⟩,⟨0,3,1⟩,⟨1,2,1⟩,⟨1,3,1⟩,⟨2,3,1⟩]
theorem FV:Ev (fun k=>dq.f k 4 ej) (([1,1,1,1]:List Int),(0:Int)):=Ev.at_ (dq.mono _ _) (k:=60) (by decide+kernel)
theorem FW:Ev (fun k=>fH.f k 4 ej) ((4:Int),ej,(0:Int)):=Ev.at_ (fH.mono _ _) (k:=60) (by kernel_rfl)
theorem FX:Ev (fun k=>fG.f k 4 ej) ((3:Int),(0:Int)):=Ev.at_ (fG.mono _ _) (k:=60) (by decide+kernel)
theorem wW:Ev (fun k=>cX.f k 4 ej [1,1,1,0]) (([0,0,0,1]:List Int),(0:Int)):=Ev.at_ (cX.mono _ _ _) (k:=60) (by decide+kernel)
theorem wX {d:List Int} (h:gM 4 ej 0 d=true):dN 4 0 ej d:=by
 obtain⟨n,q,hn,a,h1⟩:=oM h;obtain rfl:n=4:=by omega
 obtain rfl:q=0:=by omega
 exact h1
theorem FY:cT ((4:Nat):Int) ej=0:=by decide+kernel
theorem wY:T.eZ 4 (ai ej) 3:=show T.sN (T.can 4 (ai ej)) 4=2*3-2 from by decide+kernel
theorem o6:dN 4 0 ej [1,1,1,0]:=wX (by decide+kernel)
theorem FZ:dN 4 0 ej [0,0,0,1]:=wX (by decide+kernel)
theorem wZ {d:List Int} (h:dN 4 0 ej d) {r:Int} (a:Rk 4 (ai ej) d r):Ev (fun k=>eC.f k 4 ej d) (r,(0:Int)):=
 wk (n:=4) h FY FW FX wY a
theorem rF:T.Wt 4 (ai ej):=o6.right.wt
theorem F0:T.dz 4 (ai ej):=o6.right.conn o6.conn
theorem F1:∃a b:Int,Rk 4 (ai ej) [1,1,1,0] a/\Rk 4 (ai ej) [0,0,0,1] b/\a-b=1:=by
 obtain⟨a,e⟩:=T.jA rF (by decide) (fun v=>rd [1,1,1,0] (v:Nat));obtain⟨b,hb⟩:=T.jA rF (by decide) (fun v=>rd [0,0,0,1] (v:Nat));have g:T.b8 4 (ai ej) (fun v=>T.can 4 (ai ej) v-rd [1,1,1,0] (v:Nat)) b:=qO (fun v i=>by
  match v,i with
  |0,_=>decide+kernel
  |1,_=>decide+kernel
  |2,_=>decide+kernel
  |3,_=>decide+kernel) hb
 have h:=T.te rF F0 (by decide) wY e g;have j:T.sN (fun v=>rd [1,1,1,0] (v:Nat)) 4=3:=by decide+kernel
 rw[j] at h;exact⟨a,b,e,hb,by omega⟩
theorem F2:Ev (fun k=>ij.f k 4 ej [1,1,1,0]) ((1:Int),(0:Int)):=by
 obtain⟨a,b,e,hb,g⟩:=F1;unfold ij.f;refine Ev.bind wW ?_;simp only[if_true];refine Ev.bind (wZ o6 e) ?_;simp only[if_true];refine Ev.bind (wZ FZ hb) ?_;simp only[if_true,g,show wrap64 1=1 from by unfold wrap64;omega];exact Ev.const _
theorem F3:Ev (fun k=>cp.f k 3 cC 0) (([[-1,0,1],[-1,1,0]]:List (List Int)),(0:Int)):=Ev.at_ (cp.mono _ _ _) (k:=60) (by decide+kernel)
theorem w_ {a b:List Int} {r:Bool} (h:bu.f 60 a b=some r):Ev (fun k=>bu.f k a b) r:=Ev.at_ (bu.mono _ _) (k:=60) h
theorem F4:Ev (fun k=>bJ.f k) true:=by
 unfold bJ.f;refine Ev.bind (a:=ej) (Ev.const _) ?_;refine Ev.bind (a:=cC) (Ev.const _) ?_;refine Ev.bind FV ?_;refine Ev.bind wW ?_;refine Ev.bind F2 ?_;refine Ev.bind F3 ?_;refine Ev.bind FU ?_;simp only[show wrap64 (wrap64 (wrap64 (wrap64 (0+0)+0)+0)+0)=0 from by unfold wrap64;omega,if_true];refine Ev.bind (w_ (r:=true) (by decide+kernel)) ?_;simp only[if_true];refine Ev.bind (w_ (r:=true) (by decide+kernel)) ?_;simp only[if_true];exact Ev.at_ (fun k=>bJ.cm k _ _) (k:=60) (by decide+kernel)
def kp.f:Option (Bool):=some true
theorem kp.calls (r:Bool) (w:World) (h:kp.f=some r):
  Calls Tryz.prog 26 #[] w fun e w'=>e= .returned (.bool r)/\Below w.heap.size w w':=by
 obtain rfl:=aH h;obtain⟨k,hk⟩:=F4.get;exact bJ.calls k true ⟨rfl⟩ w hk
mutual
def cD.j0:Nat->List Int->Bool->Int->List (S83)->Option (Bool)
 |0,_,_,_,_=>none
 |k+1,x1,j,b,e=>if j=true then((kp.f).bind fun l=>(some l)) else((dq.f k b e).bind fun g=>((ji.f k b e).bind fun h=>((cX.f k b e x1).bind fun i=>((dY.f k b e x1).bind fun a=>((bu.f k g.1 h.1).bind fun m=>(if m=true then(if g.2=h.2 then((bu.f k i.1 a.1).bind fun n=>(if n=true then(cD.j1 k x1 a.1 a.2 (i.2 != a.2) b e) else(cD.j1 k x1 a.1 a.2 true b e))) else(cD.j1 k x1 a.1 a.2 true b e)) else(cD.j1 k x1 a.1 a.2 true b e)))))))
def cD.j1:Nat->List Int->List Int->Int->Bool->Int->List (S83)->Option (Bool)
 |0,_,_,_,_,_,_=>none
 |k+1,x1,e,g,h,a,b=>if h=true then(some false) else((dP.f k a b x1).bind fun i=>(if i=true then(if g=0 then((dP.f k a b e).bind fun j=>(cD.j2 k x1 (!j) a b)) else(cD.j2 k x1 false a b)) else(cD.j2 k x1 true a b)))
def cD.j2:Nat->List Int->Bool->Int->List (S83)->Option (Bool)
 |0,_,_,_,_=>none
 |k+1,x1,h,a,b=>if h=true then((kp.f).bind fun i=>(some i)) else((ik.f k a b x1).bind fun e=>((il.f k a b x1).bind fun g=>(if(e.1==g.1)=true then(if e.2=g.2 then((kp.f).bind fun j=>(some j)) else(some false)) else(some false))))
end
def cD.f (k:Nat) (a:Int) (b:List (S83)) (l1:List Int):Option (Bool):=(kZ.f k a b).bind fun e=>(if e=true then(cD.j0 k l1 (decide ((l1.length:Int)>100)) a b) else(cD.j0 k l1 true a b))
theorem cD.F5 {P:Prop} {r:Bool}:∀(k:Nat) (x1:List Int) (a:List Int) (b:Int) (e:Int) (g:List (S83)),cD.j1 k x1 a b true e g=some r->Aside0 (r=true)->P
 |0,_,_,_,_,_,h,_=>by cases h
 |k+1,_,_,_,_,_,h,i=>by
  simp only[cD.j1,if_true] at h;exact absurd ((aH h).trans i.out) (by decide)
theorem cD.calls (k:Nat) (i:Int) (l:Option Addr) (m:Nat) (g:List (S83)) (z:Option Addr) (c1:Nat) (l1:List Int) (r:Bool) (w:World) (bi:Kd.C aT w l g.length g) (bk:g.length<=m) (bn:Kd.C (Kd.int .i64) w z l1.length l1) (bo:l1.length<=c1) (h:cD.f k i g l1=some r) (aa:Aside0 (r=true)):
  Calls Tryz.prog 7 #[.agg #[.int .i64 i,.slice l g.length m],.slice z l1.length c1] w fun e w'=>e= .returned (.bool r)/\Below w.heap.size w w':=by
 have gf:=Tryz.underlying24;have s:=zA bi;have u:=zA bk;clear bi bk;have E:=zA bn;have F:=zA bo;clear bn bo;have b:=zA (ao w.heap.size w);unfold cD.f at h;have H:=h;clear h;have aB:=zA H;clear H;go_enter Tryz.func7,Tryz.ntmps7
 go_upto_region 1 with (first|((with_reducible refine aJ (N:=2) rfl ?_);(try(refine dR (by rfl) ?_;dsimp only));refine zX 2 #[.int .i64 i,.slice l g.length m] 24 ?_;intro aF hg w4 bv hb;have a:=zA (bv);have gi:=zG b hg;have gl:=zG b hg;replace b:=zS b hb;clear hb bv hg))
 (try simp only[Act.put,List.setIfInBounds_toArray,List.set_cons_zero,List.set_cons_succ])
 go_cut [22] (fun v22 wc=>∃(q:Nat) (ab:Bool),v22= .bool ab/\Aside0 (cD.j0 q l1 ab i g=some r)/\Aside0 (q<=k)/\Aside0 (wc.heap[aF]? =some (.cells #[.int .i64 i,(.slice l g.length m)] 24 (0,0)))/\Aside0 (Below w.heap.size w wc))
 case first=>
  have H:=aB.out;clear aB;obtain⟨c0,A5,H⟩:=zo H;by_cases G:c0=true
  ·subst G
   replace H:=zi H;have o:=zA H;clear H;obtain⟨aO,aP,aR,aS⟩:=ax a;go_wp2_with (first|((with_reducible refine aC (f:=34) rfl ?_);refine zL (some 16) Tryz.func34 #[.agg #[.int .i64 i,.slice l g.length m]] ?_;(with_reducible refine(kZ.calls k i _ _ g true _ ?af ?ah A5.out).mono ?_);(case af=>exact Kd.au s.out zB);(case ah=>exact u.out);rintro e w8 ⟨rfl,hb⟩;refine⟨_,rfl,?_⟩;replace a:=zb a hb;replace b:=zS b hb;(try clear hb)))
   go_meet
   case rel=>exact⟨_,(decide ((l1.length:Int)>100)),zT,o,⟨by first|omega|exact aI _⟩,⟨zK a⟩,⟨zB⟩⟩
  ·replace G:=Bool.eq_false_iff.mpr G
   subst G;replace H:=zj H;have o:=zA H;clear H;obtain⟨a0,a1,a2,a3⟩:=ax a;go_wp2_with (first|((with_reducible refine aC (f:=34) rfl ?_);refine zL (some 16) Tryz.func34 #[.agg #[.int .i64 i,.slice l g.length m]] ?_;(with_reducible refine(kZ.calls k i _ _ g false _ ?af ?ah A5.out).mono ?_);(case af=>exact Kd.au s.out zB);(case ah=>exact u.out);rintro e gn ⟨rfl,hb⟩;refine⟨_,rfl,?_⟩;replace a:=zb a hb;replace b:=zS b hb;(try clear hb)))
   go_meet
   case rel=>exact⟨_,(true),zT,o,⟨by first|omega|exact aI _⟩,⟨zK a⟩,⟨zB⟩⟩
 case rest=>
  clear aB;try clear c1
  try clear p2
  try clear c3
  try clear G
  try clear c7
  try clear aO
  try clear aP
  try clear a0
  try clear a1
  try clear aR
  try clear aS
  try clear a2
  try clear a3
  obtain⟨q,ab,rfl,v,K,a,b⟩:=hcut;cases q with
  |zero=>exact absurd v.out (by simp[cD.j0])
  |succ y=>
   have H:=v.out;clear v;simp only[cD.j0] at H;by_cases L:ab=true
   ·subst L
    replace H:=zi H;obtain⟨c5,c8,H⟩:=zo H;obtain rfl:=aH H;go_wp2_with (first|((with_reducible refine aC (f:=26) rfl ?_);refine zL (some 23) Tryz.func26 #[] ?_;(with_reducible refine(kp.calls  c5 _ c8.out).mono ?_);rintro e go ⟨rfl,hb⟩;refine⟨_,rfl,?_⟩;replace a:=zb a hb;replace b:=zS b hb;(try clear hb)))
    go_ret;exact⟨zE,zB⟩
   ·replace L:=Bool.eq_false_iff.mpr L
    subst L;replace H:=zj H;obtain⟨⟨I,b0⟩,c9,H⟩:=zo H;dsimp only at H;obtain⟨⟨J,b1⟩,c',H⟩:=zo H;dsimp only at H;obtain⟨⟨a4,b2⟩,dd,H⟩:=zo H;dsimp only at H;obtain⟨⟨M,ag⟩,dk,H⟩:=zo H;dsimp only at H;have a5:=zA H;clear H;obtain⟨b3,b4,b5,b6⟩:=ax a;go_upto_region 7 with (first|((with_reducible refine aC (f:=35) rfl ?_);refine zL (some 26) Tryz.func35 #[.agg #[.int .i64 i,.slice l g.length m]] ?_;(with_reducible refine(dq.calls y i _ _ g I b0 _ ?af ?ah c9.out).mono ?_);(case af=>exact Kd.au s.out zB);(case ah=>exact u.out);rintro e gp ⟨gq,rfl,n,hb⟩;refine⟨_,rfl,?_⟩;have j:=zA (Kd.ba n (bp zB));replace a:=zb a hb;replace b:=zS b hb;(try clear hb);(try clear n);obtain⟨b_,b',ca,cb⟩:=ax a)|((with_reducible refine aC (f:=36) rfl ?_);refine zL (some 31) Tryz.func36 #[.agg #[.int .i64 i,.slice l g.length m]] ?_;(with_reducible refine(ji.calls y i _ _ g J b1 _ ?af ?ah c'.out).mono ?_);(case af=>exact Kd.au s.out zB);(case ah=>exact u.out);rintro e gr ⟨gs,rfl,n,hb⟩;refine⟨_,rfl,?_⟩;have p:=zA (Kd.ba (Kd.bB n (Kd.a7 (zR j))) (bp zB));replace j:=bH j n hb;replace a:=zb a hb;replace b:=zS b hb;(try clear hb);(try clear n);obtain⟨cc,cd,ce,cf⟩:=ax a)|((with_reducible refine aC (f:=32) rfl ?_);refine zL (some 37) Tryz.func32 #[.agg #[.int .i64 i,.slice l g.length m],.slice z l1.length c1] ?_;(with_reducible refine(cX.calls y i _ _ g _ _ l1 a4 b2 _ ?af ?ah ?aX ?aW dd.out).mono ?_);(case af=>exact Kd.au s.out zB);(case ah=>exact u.out);(case aX=>exact Kd.au E.out zB);(case aW=>exact F.out);rintro e gt ⟨gx,rfl,n,hb⟩;refine⟨_,rfl,?_⟩;have B:=zA (Kd.ba (Kd.bB (Kd.bB n (Kd.a7 (zR j))) (Kd.a7 (zR p))) (bp zB));replace j:=bH j n hb;replace p:=bH p n hb;replace a:=zb a hb;replace b:=zS b hb;(try clear hb);(try clear n);obtain⟨ch,ci,cj,ck⟩:=ax a)|((with_reducible refine aC (f:=37) rfl ?_);refine zL (some 43) Tryz.func37 #[.agg #[.int .i64 i,.slice l g.length m],.slice z l1.length c1] ?_;(with_reducible refine(dY.calls y i _ _ g _ _ l1 M ag _ ?af ?ah ?aX ?aW dk.out).mono ?_);(case af=>exact Kd.au s.out zB);(case ah=>exact u.out);(case aX=>exact Kd.au E.out zB);(case aW=>exact F.out);rintro e g0 ⟨dl,rfl,n,hb⟩;refine⟨_,rfl,?_⟩;have D:=zA (Kd.ba (Kd.bB (Kd.bB (Kd.bB n (Kd.a7 (zR j))) (Kd.a7 (zR p))) (Kd.a7 (zR B))) (bp zB));replace j:=bH j n hb;replace p:=bH p n hb;replace B:=bH B n hb;replace a:=zb a hb;replace b:=zS b hb;(try clear hb);(try clear n)))
    (try simp only[Act.put,List.setIfInBounds_toArray,List.set_cons_zero,List.set_cons_succ])
    go_cut [65] (fun ds wc=>∃(q:Nat) (ak:Bool),ds= .bool ak/\Aside0 (cD.j1 q l1 M ag ak i g=some r)/\Aside0 (q<=y)/\Aside0 (Kd.R (Kd.int .i64) 3 wc w.heap.size (fun _=>True) dl M)/\Aside0 (wc.heap[aF]? =some (.cells #[.int .i64 i,(.slice l g.length m)] 24 (0,0)))/\Aside0 (Below w.heap.size w wc))
    case first=>
     have H:=a5.out;clear a5;obtain⟨dv,a9,H⟩:=zo H;by_cases O:dv=true
     ·subst O
      replace H:=zi H;by_cases P:b0=b1
      ·rw[if_pos P] at H
       obtain⟨am,cl⟩:=bF P;clear P
       (first|rw[am]|(simp only[bT,bW];rw[am])|skip)
       obtain⟨d0,co,H⟩:=zo H;by_cases Q:d0=true
       ·subst Q
        replace H:=zi H;have o:=zA H;clear H;obtain⟨d1,d2,d3⟩:=Kd.bb j.out;subst d3;obtain⟨d4,d5,d6⟩:=Kd.bb p.out;subst d6;go_wp2_with (first|((with_reducible refine aC (f:=33) rfl ?_);refine zL (some 48) Tryz.func33 #[.slice d1 I.length d2,.slice d4 J.length d5] ?_;(with_reducible refine(bu.calls y _ _ I _ _ J true _ ?af ?ah ?aX ?aW a9.out).mono ?_);(case af=>exact zC (Kd.aD j.out).2.2);(case ah=>exact(Kd.aD j.out).2.1);(case aX=>exact zC (Kd.aD p.out).2.2);(case aW=>exact(Kd.aD p.out).2.1);rintro e w' ⟨rfl,⟨nd,rfl⟩⟩;refine⟨_,rfl,?_⟩;obtain⟨g1,g2,d7⟩:=Kd.bb B.out;subst d7;obtain⟨g3,g4,d8⟩:=Kd.bb D.out;subst d8)|(go_at_call 33;(with_reducible refine(bu.calls y _ _ a4 _ _ M true _ ?af ?ah ?aX ?aW co.out).mono ?_);(case af=>exact zC (Kd.aD B.out).2.2);(case ah=>exact(Kd.aD B.out).2.1);(case aX=>exact zC (Kd.aD D.out).2.2);(case aW=>exact(Kd.aD D.out).2.1);rintro e w' ⟨rfl,⟨nd,rfl⟩⟩))
        go_meet
        case rel=>exact⟨_,((b2 != ag)),zT,o,⟨by have:=K.out;first|omega|exact aI _⟩,⟨by(with_reducible repeat(first|apply Kd.aK|apply Kd.bq|apply Kd.bd));exact Kd.a_ D.out (fun _ hk=>trivial)⟩,⟨zK a⟩,⟨zB⟩⟩
       ·replace Q:=Bool.eq_false_iff.mpr Q
        subst Q;replace H:=zj H;have o:=zA H;clear H;obtain⟨d9,ea,eb⟩:=Kd.bb j.out;subst eb;obtain⟨ed,eg,ek⟩:=Kd.bb p.out;subst ek;go_wp2_with (first|((with_reducible refine aC (f:=33) rfl ?_);refine zL (some 48) Tryz.func33 #[.slice d9 I.length ea,.slice ed J.length eg] ?_;(with_reducible refine(bu.calls y _ _ I _ _ J true _ ?af ?ah ?aX ?aW a9.out).mono ?_);(case af=>exact zC (Kd.aD j.out).2.2);(case ah=>exact(Kd.aD j.out).2.1);(case aX=>exact zC (Kd.aD p.out).2.2);(case aW=>exact(Kd.aD p.out).2.1);rintro e w' ⟨rfl,⟨nd,rfl⟩⟩;refine⟨_,rfl,?_⟩;obtain⟨g5,g6,el⟩:=Kd.bb B.out;subst el;obtain⟨g7,g8,em⟩:=Kd.bb D.out;subst em)|(go_at_call 33;(with_reducible refine(bu.calls y _ _ a4 _ _ M false _ ?af ?ah ?aX ?aW co.out).mono ?_);(case af=>exact zC (Kd.aD B.out).2.2);(case ah=>exact(Kd.aD B.out).2.1);(case aX=>exact zC (Kd.aD D.out).2.2);(case aW=>exact(Kd.aD D.out).2.1);rintro e w' ⟨rfl,⟨nd,rfl⟩⟩))
        go_meet
        case rel=>exact⟨_,(true),zT,o,⟨by have:=K.out;first|omega|exact aI _⟩,⟨by(with_reducible repeat(first|apply Kd.aK|apply Kd.bq|apply Kd.bd));exact Kd.a_ D.out (fun _ hk=>trivial)⟩,⟨zK a⟩,⟨zB⟩⟩
      ·rw[if_neg P] at H
       exact cD.F5 _ _ _ _ _ _ H aa
     ·replace O:=Bool.eq_false_iff.mpr O
      subst O;replace H:=zj H;have o:=zA H;clear H;obtain⟨er,es,ev⟩:=Kd.bb j.out;subst ev;obtain⟨ew,ex,ey⟩:=Kd.bb p.out;subst ey;go_wp2_with (first|((with_reducible refine aC (f:=33) rfl ?_);refine zL (some 48) Tryz.func33 #[.slice er I.length es,.slice ew J.length ex] ?_;(with_reducible refine(bu.calls y _ _ I _ _ J false _ ?af ?ah ?aX ?aW a9.out).mono ?_);(case af=>exact zC (Kd.aD j.out).2.2);(case ah=>exact(Kd.aD j.out).2.1);(case aX=>exact zC (Kd.aD p.out).2.2);(case aW=>exact(Kd.aD p.out).2.1);rintro e w' ⟨rfl,⟨nd,rfl⟩⟩;refine⟨_,rfl,?_⟩))
      go_meet
      case rel=>exact⟨_,(true),zT,o,⟨by have:=K.out;first|omega|exact aI _⟩,⟨by(with_reducible repeat(first|apply Kd.aK|apply Kd.bq|apply Kd.bd));exact Kd.a_ D.out (fun _ hk=>trivial)⟩,⟨zK a⟩,⟨zB⟩⟩
    case rest=>
     clear a5;try clear c1
     try clear c2
     try clear p2
     try clear c3
     try clear G
     try clear c7
     try clear L
     try clear e0
     try clear O
     try clear P
     try clear am
     try clear cl
     try clear Q
     try clear e1
     try clear e2
     try clear e3
     try clear e4
     try clear e5
     try clear e6
     try clear b3
     try clear b4
     try clear b_
     try clear b'
     try clear cc
     try clear cd
     try clear ch
     try clear ci
     try clear aO
     try clear aP
     try clear a0
     try clear a1
     try clear b5
     try clear b6
     try clear ca
     try clear cb
     try clear ce
     try clear cf
     try clear cj
     try clear ck
     try clear aR
     try clear aS
     try clear a2
     try clear a3
     try clear p2
     obtain⟨q,ak,rfl,v,be,x,a,b⟩:=hcut;cases q with
     |zero=>exact absurd v.out (by simp[cD.j1])
     |succ V=>
      have H:=v.out;clear v;simp only[cD.j1] at H;by_cases W:ak=true
      ·subst W
       replace H:=zi H;exact absurd ((aH H).trans aa.out) (by decide)
      ·replace W:=Bool.eq_false_iff.mpr W
       subst W;replace H:=zj H;have bf:=zA H;clear H;go_upto_region 9 with (fail)
       go_cut [79] (fun v79 wc=>∃(q:Nat) (ap:Bool),v79= .bool ap/\Aside0 (cD.j2 q l1 ap i g=some r)/\Aside0 (q<=V)/\Aside0 (wc.heap[aF]? =some (.cells #[.int .i64 i,(.slice l g.length m)] 24 (0,0)))/\Aside0 (Below w.heap.size w wc))
       case first=>
        have H:=bf.out;clear bf;obtain⟨e_,bg,H⟩:=zo H;by_cases X:e_=true
        ·subst X
         replace H:=zi H;by_cases S:ag=0
         ·rw[if_pos S] at H
          obtain⟨T,cq⟩:=bF S;clear S
          (first|rw[T]|(simp only[bT,bW];rw[T])|skip)
          obtain⟨cr,e',H⟩:=zo H;have o:=zA H;clear H;obtain⟨fb,fd,fn,fo⟩:=ax a;go_wp2_with (first|((with_reducible refine aC (f:=38) rfl ?_);refine zL (some 68) Tryz.func38 #[.agg #[.int .i64 i,.slice l g.length m],.slice z l1.length c1] ?_;(with_reducible refine(dP.calls V i _ _ g _ _ l1 true _ ?af ?ah ?aX ?aW bg.out).mono ?_);(case af=>exact Kd.au s.out zB);(case ah=>exact u.out);(case aX=>exact Kd.au E.out zB);(case aW=>exact F.out);rintro e g9 ⟨rfl,hb⟩;refine⟨_,rfl,?_⟩;replace x:=br x hb;replace a:=zb a hb;replace b:=zS b hb;(try clear hb);obtain⟨fq,fr,ft,fv⟩:=ax a;obtain⟨g',ha,f0⟩:=Kd.bb x.out;subst f0)|(go_at_call 38;(with_reducible refine(dP.calls V i _ _ g _ _ M cr _ ?af ?ah ?aX ?aW e'.out).mono ?_);(case af=>exact Kd.au s.out zB);(case ah=>exact u.out);(case aX=>exact zC (Kd.aD x.out).2.2);(case aW=>exact(Kd.aD x.out).2.1);rintro e hc ⟨rfl,hb⟩;replace x:=br x hb;replace a:=zb a hb;replace b:=zS b hb;(try clear hb)))
          go_meet
          case rel=>exact⟨_,(!cr),zT,o,⟨by have:=K.out;have:=be.out;first|omega|exact aI _⟩,⟨zK a⟩,⟨zB⟩⟩
         ·rw[if_neg S] at H
          obtain⟨T,cq⟩:=bI S
          (first|rw[T]|(simp only[bT,bW];rw[T])|skip)
          have o:=zA H;clear H;obtain⟨f1,f2,f3,f4⟩:=ax a;go_wp2_with (first|((with_reducible refine aC (f:=38) rfl ?_);refine zL (some 68) Tryz.func38 #[.agg #[.int .i64 i,.slice l g.length m],.slice z l1.length c1] ?_;(with_reducible refine(dP.calls V i _ _ g _ _ l1 true _ ?af ?ah ?aX ?aW bg.out).mono ?_);(case af=>exact Kd.au s.out zB);(case ah=>exact u.out);(case aX=>exact Kd.au E.out zB);(case aW=>exact F.out);rintro e he ⟨rfl,hb⟩;refine⟨_,rfl,?_⟩;replace x:=br x hb;replace a:=zb a hb;replace b:=zS b hb;(try clear hb)))
          go_meet
          case rel=>exact⟨_,(false),zT,o,⟨by have:=K.out;have:=be.out;first|omega|exact aI _⟩,⟨zK a⟩,⟨zB⟩⟩
        ·replace X:=Bool.eq_false_iff.mpr X
         subst X;replace H:=zj H;have o:=zA H;clear H;obtain⟨f5,f6,f7,f8⟩:=ax a;go_wp2_with (first|((with_reducible refine aC (f:=38) rfl ?_);refine zL (some 68) Tryz.func38 #[.agg #[.int .i64 i,.slice l g.length m],.slice z l1.length c1] ?_;(with_reducible refine(dP.calls V i _ _ g _ _ l1 false _ ?af ?ah ?aX ?aW bg.out).mono ?_);(case af=>exact Kd.au s.out zB);(case ah=>exact u.out);(case aX=>exact Kd.au E.out zB);(case aW=>exact F.out);rintro e hf ⟨rfl,hb⟩;refine⟨_,rfl,?_⟩;replace x:=br x hb;replace a:=zb a hb;replace b:=zS b hb;(try clear hb)))
         go_meet
         case rel=>exact⟨_,(true),zT,o,⟨by have:=K.out;have:=be.out;first|omega|exact aI _⟩,⟨zK a⟩,⟨zB⟩⟩
       case rest=>
        clear bf;try clear c1
        try clear c2
        try clear p2
        try clear c3
        try clear c4
        try clear G
        try clear c7
        try clear L
        try clear e0
        try clear O
        try clear P
        try clear am
        try clear cl
        try clear Q
        try clear e1
        try clear e2
        try clear e3
        try clear e4
        try clear e5
        try clear e6
        try clear hh
        try clear W
        try clear X
        try clear S
        try clear T
        try clear cq
        try clear b3
        try clear b4
        try clear b_
        try clear b'
        try clear cc
        try clear cd
        try clear ch
        try clear ci
        try clear fb
        try clear fd
        try clear fq
        try clear fr
        try clear f1
        try clear f2
        try clear f5
        try clear f6
        try clear aO
        try clear aP
        try clear a0
        try clear a1
        try clear b5
        try clear b6
        try clear ca
        try clear cb
        try clear ce
        try clear cf
        try clear cj
        try clear ck
        try clear fn
        try clear fo
        try clear ft
        try clear fv
        try clear f3
        try clear f4
        try clear f7
        try clear f8
        try clear aR
        try clear aS
        try clear a2
        try clear a3
        try clear p2
        obtain⟨q,ap,rfl,v,hj,a,b⟩:=hcut;cases q with
        |zero=>exact absurd v.out (by simp[cD.j2])
        |succ cs=>
         have H:=v.out;clear v;simp only[cD.j2] at H;by_cases ar:ap=true
         ·subst ar
          replace H:=zi H;obtain⟨f9,f',H⟩:=zo H;obtain rfl:=aH H;go_wp2_with (first|((with_reducible refine aC (f:=26) rfl ?_);refine zL (some 80) Tryz.func26 #[] ?_;(with_reducible refine(kp.calls  f9 _ f'.out).mono ?_);rintro e hl ⟨rfl,hb⟩;refine⟨_,rfl,?_⟩;replace a:=zb a hb;replace b:=zS b hb;(try clear hb)))
          go_ret;exact⟨zE,zB⟩
         ·replace ar:=Bool.eq_false_iff.mpr ar
          subst ar;replace H:=zj H;obtain⟨⟨Y,cv⟩,gb,H⟩:=zo H;dsimp only at H;obtain⟨⟨Z,cx⟩,gc,H⟩:=zo H;dsimp only at H;by_cases U:(Y==Z)=true
          ·rw[if_pos U] at H
           have hm:(Y==Z)=true:=U
           (try(have hn:decide (Y=Z)=true:=by simpa using U))
           (try(have ho:(Y==Z)=true:=by simpa using U))
           clear U;by_cases av:cv=cx
           ·rw[if_pos av] at H
            obtain⟨hp,hq⟩:=bF av;clear av;obtain⟨gd,ge,H⟩:=zo H;obtain rfl:=aH H;obtain⟨hr,hs,ht,hv⟩:=ax a;go_wp2_with (first|((with_reducible refine aC (f:=39) rfl ?_);refine zL (some 84) Tryz.func39 #[.agg #[.int .i64 i,.slice l g.length m],.slice z l1.length c1] ?_;(with_reducible refine(ik.calls cs i _ _ g _ _ l1 Y cv _ ?af ?ah ?aX ?aW gb.out).mono ?_);(case af=>exact Kd.au s.out zB);(case ah=>exact u.out);(case aX=>exact Kd.au E.out zB);(case aW=>exact F.out);rintro e hw ⟨rfl,hb⟩;refine⟨_,rfl,?_⟩;replace a:=zb a hb;replace b:=zS b hb;(try clear hb);obtain⟨hx,hy,hz,hA⟩:=ax a)|((with_reducible refine aC (f:=40) rfl ?_);refine zL (some 90) Tryz.func40 #[.agg #[.int .i64 i,.slice l g.length m],.slice z l1.length c1] ?_;(with_reducible refine(il.calls cs i _ _ g _ _ l1 Z cx _ ?af ?ah ?aX ?aW gc.out).mono ?_);(case af=>exact Kd.au s.out zB);(case ah=>exact u.out);(case aX=>exact Kd.au E.out zB);(case aW=>exact F.out);rintro e hB ⟨rfl,hb⟩;refine⟨_,rfl,?_⟩;replace a:=zb a hb;replace b:=zS b hb;(try clear hb))|(go_at_call 26;(with_reducible refine(kp.calls  gd _ ge.out).mono ?_);rintro e hC ⟨rfl,hb⟩;replace a:=zb a hb;replace b:=zS b hb;(try clear hb)))
            go_ret;exact⟨zE,zB⟩
           ·rw[if_neg av] at H
            exact absurd ((aH H).trans aa.out) (by decide)
          ·rw[if_neg U] at H
           exact absurd ((aH H).trans aa.out) (by decide)
section
theorem F6 (N:Int) (E:List S83) (i:E.length<=9223372036854775807):∃b,Ev (fun k=>kZ.f k N E) b/\(b=true->E.length<=40/\(cT N E=0->N<=6/\cK E E.length<=9)):=by
 unfold kZ.f l5.f l4.f kR.f;by_cases j:E.length>40
 ·refine⟨false,Ev.bind (a:=false) (Ev.bind (a:=false) (Ev.bind (a:=false) ?_ (Ev.const _)) (Ev.const _)) (Ev.const _),nofun⟩
  simp only[if_pos (show (E.length:Int)>40 by omega)];exact Ev.const _
 ·by_cases e:cT N E=0
  ·refine⟨decide (N<=6/\cK E E.length<=9),Ev.bind (a:=decide (N<=6/\cK E E.length<=9)) (Ev.bind (a:=decide (N<=6/\cK E E.length<=9)) (Ev.bind (a:=decide (N<=6/\cK E E.length<=9)) ?_ (Ev.const _)) (Ev.const _)) (Ev.const _),fun h=>⟨by omega,fun _=>aw h⟩⟩
   simp only[if_neg (show ¬(E.length:Int)>40 by omega)];refine Ev.bind (pP N E (by omega)) ?_;simp only[if_pos e];by_cases g:N<=6
   ·simp only[if_pos g,lO.f,(j6 e).2.2.Dt (by omega),Option.bind_some,if_true]
    rw[show decide (((cK E E.length:Nat):Int)<=9)=decide (N<=6/\cK E E.length<=9) by congr 1;exact propext (by omega)];exact Ev.const _
   ·simp only[if_neg g]
    rw[aZ (fun h=>by omega)];exact Ev.const _
  ·refine⟨true,Ev.bind (a:=true) (Ev.bind (a:=true) (Ev.bind (a:=true) ?_ (Ev.const _)) (Ev.const _)) (Ev.const _),fun _=>⟨by omega,fun h=>absurd h e⟩⟩
   simp only[if_neg (show ¬(E.length:Int)>40 by omega)];refine Ev.bind (pP N E i) ?_;simp only[if_neg e];exact Ev.const _
theorem xc (N:Int) (E:List S83) {d:List Int} (hd:d.length<=100):∃b,Ev (fun k=>dP.f k N E d) b:=by
 by_cases h:1<=N/\N<=12
 ·unfold dP.f
  simp only[if_neg (show ¬(d.length:Int)>100 by omega)];have e:=qY d N h;by_cases g:(if(d.length:Int)=N then gu d else 8)=0
  ·have:=q6 d (by omega) d.length 0 (by omega)
   exact⟨_,Ev.bind e (by simp only[if_pos g];exact this)⟩
  ·exact⟨true,Ev.bind e (by simp only[if_neg g];exact Ev.const _)⟩
 ·refine⟨true,?_⟩
  unfold dP.f;simp only[if_neg (show ¬(d.length:Int)>100 by omega)];refine Ev.bind (a:=(2:Int)) ?_ ?_
  ·unfold dn.f
   by_cases h1:N<1
   ·simp only[if_pos h1]
    exact Ev.of_succ (by simp only[dn.j0,if_true];exact Ev.const _)
   ·simp only[if_neg h1,az (show N>12 by omega)]
    exact Ev.of_succ (by simp only[dn.j0,if_true];exact Ev.const _)
  ·simp only[if_neg (show ¬(2:Int)=0 by decide)]
   exact Ev.const _
theorem xd {n:Nat} {c:List Int} (h:c.length=n) (hb:∀v:Nat,v<n-> -1048576<=rd c v/\rd c v<=1048576):c.all ct=true:=by
 refine List.all_eq_true.2 fun z a=>?_
 obtain⟨v,b,rfl⟩:=List.getElem_of_mem a;have g:=hb v (by omega);have e:rd c (v:Int)=c[v]:=by simp[rd,bh,bX b]
 rw[e] at g;unfold ct;exact az (by omega)
theorem F7 {n:Nat} {c:List Int} (a:c.length=n) (h:c.all ct=true):∀v:Nat,v<n-> -1048576<=rd c v/\rd c v<=1048576:=fun v b=>by
 have h1:=List.all_eq_true.1 h (c[v]'(by omega)) (List.getElem_mem _);have e:rd c (v:Int)=c[v]'(by omega):=by simp[rd,bh,bX (show v<c.length by omega)]
 rw[e];unfold ct at h1;exact aw h1
namespace Right
variable {n:Nat} {E:List S83} (h:Right n E)
include h
theorem xe {d:List Int} (g:fO n d=0):Ev (fun k=>cX.f k n E d) (if(cI (cG n E) d).all ct=true then(cI (cG n E) d,(0:Int)) else([],11)):=by
 obtain⟨h1,i⟩:=h.oY g;have u:=h.n6;have j:=h.n1;have b:=h.kl;have l:∀v:Nat,v<n-> -1048576<=rd (cG n E) v/\rd (cG n E) v<=1048576:=fun v p=>by have:=h.wJ v p;omega
 unfold cX.f;refine Ev.bind h.nh ?_;simp only[if_true];have m:=h.rB d;rw[g] at m;refine Ev.bind m ?_;simp only[if_true];have q:fN (cG n E) (cG n E).length=0:=by rw[b];exact nc j (by omega) b l
 have e2:fN d d.length=0:=by rw[h1];exact nc j (by omega) h1 i
 have o:=DO (cG n E) d (by omega) (by omega);have r:oS (cG n E) d=0:=by unfold oS;rw[if_pos q,if_pos e2,if_pos (by omega)]
 rw[r] at o;refine Ev.bind (a:=if(cI (cG n E) d).all ct=true then(cI (cG n E) d,(0:Int)) else([],11)) ?_ (Ev.const _);unfold iO.f;refine Ev.bind o ?_;have s:na (cG n E) d=true:=by
  unfold na;rw[xd b l,xd h1 i,az ⟨by omega,by omega,by omega⟩];rfl
 simp only[if_true,if_pos s];by_cases e:(cI (cG n E) d).all ct=true
 ·simp only[if_pos e];exact Ev.const _
 ·simp only[if_neg e];exact Ev.const _
theorem gM {c:List Int} (a:c.length=n) (hb:∀v:Nat,v<n-> -200<=rd c v/\rd c v<=200):dN n 0 E c:=by
 have e:=h.n6;have b:=h.n1;have:=h.len;exact⟨b,by omega,by omega,by omega,h.right,h.conn,h.val,a,hb⟩
theorem rG {c:List Int} (a:fO n c=0):Ev (fun k=>dP.f k n E c) (qZ c):=by
 obtain⟨h1,e⟩:=h.oY a;have g:=h.n6;have i:=h.n1;unfold dP.f;simp only[if_neg (show ¬(c.length:Int)>100 by omega)];refine Ev.bind (qY c n ⟨by omega,by omega⟩) ?_;have:=q6 c (by omega) c.length 0 (by omega);rw[List.drop_zero] at this;have b:(if(c.length:Int)=(n:Int) then gu c else 8)=0:=a;simp only[if_pos b];exact this
end Right
theorem rH {N:Int} {E:List S83} {d:List Int} (x:Bool) (h:x=false->∃p,Ev (fun k=>ik.f k N E d) p/\Ev (fun k=>il.f k N E d) p):Ev (fun k=>cD.j2 k d x N E) true:=by
 refine Ev.of_succ ?_;cases x with
 |true=>
  simp only[cD.j2,if_true];exact Ev.bind (Ev.const _) (Ev.const _)
 |false=>
  obtain⟨p,h1,a⟩:=h rfl;simp only[cD.j2,Bool.false_eq_true,if_false];refine Ev.bind h1 ?_;refine Ev.bind a ?_;simp only[beq_self_eq_true,if_true];exact Ev.bind (Ev.const _) (Ev.const _)
theorem o7 {N:Int} {E:List S83} {d:List Int} {c:List Int} {e:Int} {b:List Int} {f:Int} (a:c.length<=100000) (hb:b.length<=100000) (h1:Ev (fun k=>dq.f k N E) (c,e)) (g:Ev (fun k=>ji.f k N E) (c,e)) (h:Ev (fun k=>cX.f k N E d) (b,f)) (i:Ev (fun k=>dY.f k N E d) (b,f))
  (j:∃l,Ev (fun k=>dP.f k N E d) l/\(l=true->(f=0->∃l2,Ev (fun k=>dP.f k N E b) l2/\(l2=true->∃p,Ev (fun k=>ik.f k N E d) p/\Ev (fun k=>il.f k N E d) p))/\(f≠0->∃p,Ev (fun k=>ik.f k N E d) p/\Ev (fun k=>il.f k N E d) p))):
  Ev (fun k=>cD.j0 k d false N E) true:=by
 refine Ev.of_succ ?_;simp only[cD.j0,Bool.false_eq_true,if_false];refine Ev.bind h1 ?_;refine Ev.bind g ?_;refine Ev.bind h ?_;refine Ev.bind i ?_;refine Ev.bind (wA c a) ?_;simp only[if_true];refine Ev.bind (wA b hb) ?_;simp only[if_true,bne_self_eq_false];refine Ev.of_succ ?_;simp only[cD.j1,Bool.false_eq_true,if_false];obtain⟨l,m,n⟩:=j;refine Ev.bind m ?_;cases l with
 |false=>
  simp only[Bool.false_eq_true,if_false];exact rH true nofun
 |true=>
  simp only[if_true];obtain⟨o,q⟩:=n rfl;by_cases hf:f=0
  ·obtain⟨l2,r,s⟩:=o hf
   simp only[if_pos hf];refine Ev.bind r ?_;refine rH _ fun e=>s ?_
   cases l2 with
   |true=>rfl
   |false=>cases e
  ·simp only[if_neg hf]
   exact rH _ fun _=>q hf
theorem F8 (N:Int) (E:List S83) (o:E.length<=9223372036854775807) (d:List Int):Ev (fun k=>cD.f k N E d) true:=by
 have out:Ev (fun k=>cD.j0 k d true N E) true:=Ev.of_succ (by simp only[cD.j0,if_true];exact Ev.bind (Ev.const _) (Ev.const _));obtain⟨b,hb,x⟩:=F6 N E o;unfold cD.f;refine Ev.bind hb ?_;cases b with
 |false=>
  simp only[Bool.false_eq_true,if_false];exact out
 |true=>
  simp only[if_true];obtain⟨H,y⟩:=x rfl;by_cases hd:(d.length:Int)>100
  ·simp only[az hd]
   exact out
  ·simp only[aZ hd]
   by_cases j:dW N E=0
   ·obtain⟨j1,j2⟩:=vA j
    obtain⟨g1,g2,g3⟩:=j6 j1;obtain⟨s1,s2⟩:=y j1;obtain⟨n,rfl⟩:=Int.eq_ofNat_of_zero_le (show 0<=N by omega);rw[aQ] at j2;have a:Right n E:=⟨j1,by omega,by omega,by omega,g3,(ka (by omega) g3).1 j2,by have:=DC g3;omega⟩;have p:Ev (fun k=>ji.f k n E) (cG n E,(0:Int)):=by
     unfold ji.f;have h1:=oR (n:Int) E o;rw[j] at h1;refine Ev.bind h1 ?_;simp only[if_true];exact Ev.bind a.wL (Ev.const _)
    have I:=a.n6;have J:=a.n1;by_cases i:fO n d=0
    ·obtain⟨K,L⟩:=a.oY i
     by_cases q:(cI (cG n E) d).all ct=true
     ·have g:=a.xe i
      have h:=a.wO i;rw[if_pos q] at g h;have z:fO n (cI (cG n E) d)=0:=by
       have h1:=kN (cI (cG n E) d) n (by rw[a.kY];omega);rw[nc a.n1 (by omega) a.kY (F7 a.kY q)] at h1;exact(a.rB _).unique h1
      refine o7 (by rw[a.kl];omega) (by rw[a.kY];omega) a.nh p g h ⟨_,a.rG i,fun _=>⟨fun _=>⟨_,a.rG z,fun m=>?_⟩,fun e=>absurd rfl e⟩⟩;have B:∀v:Nat,v<n-> -100<=rd (cI (cG n E) d) v/\rd (cI (cG n E) d) v<=100:=fun v u=>qN.1 m v (by rw[a.kY];exact u)
      have w:=a.gM (c:=cI (cG n E) d) a.kY (fun v u=>by have:=B v u;omega);obtain⟨s,w1,w2,w3⟩:=vY w j1;obtain⟨r,C,D⟩:=EU w;have F:=En w w3;have G:r=decide (rd (dM n E (cI (cG n E) d) s) 0>=0):=by
       rw[Bool.eq_iff_iff,D,decide_eq_true_iff];exact F.symm
      refine⟨(r,0),?_,?_⟩
      ·unfold ik.f
       refine Ev.bind g ?_;simp only[if_true];refine Ev.bind w1 ?_;rw[G];exact Ev.const _
      ·unfold il.f
       refine Ev.bind h ?_;simp only[if_true];exact Ev.bind C (Ev.const _)
     ·have g:=a.xe i
      have h:=a.wO i;rw[if_neg q] at g h;refine o7 (by rw[a.kl];omega) (by simp) a.nh p g h ⟨_,a.rG i,fun _=>⟨nofun,fun _=>⟨(false,11),?_,?_⟩⟩⟩
      ·unfold ik.f
       refine Ev.bind g ?_;simp only[if_neg (show ¬(11:Int)=0 by decide)];exact Ev.const _
      ·unfold il.f
       refine Ev.bind h ?_;simp only[if_neg (show ¬(11:Int)=0 by decide)];exact Ev.const _
    ·have g:=a.E5 i
     have h:=a.E4 i;obtain⟨l,m⟩:=xc n E (d:=d) (by omega);refine o7 (by rw[a.kl];omega) (by simp) a.nh p g h ⟨l,m,fun _=>⟨fun e=>absurd e i,fun _=>⟨(false,fO n d),?_,?_⟩⟩⟩
     ·unfold ik.f
      refine Ev.bind g ?_;simp only[if_neg i];exact Ev.const _
     ·unfold il.f
      refine Ev.bind h ?_;simp only[if_neg i];exact Ev.const _
   ·obtain⟨g,h⟩:=EX j (by omega) d
    have c1:Ev (fun k=>dq.f k N E) (([]:List Int),dW N E):=by
     unfold dq.f;refine Ev.bind (wI (by omega)) ?_;simp only[if_neg j];exact Ev.const _
    have c2:Ev (fun k=>ji.f k N E) (([]:List Int),dW N E):=by
     unfold ji.f;refine Ev.bind (oR N E o) ?_;simp only[if_neg j];exact Ev.const _
    obtain⟨l,m⟩:=xc N E (d:=d) (by omega);refine o7 (by simp) (by simp) c1 c2 g h ⟨l,m,fun _=>⟨fun e=>absurd e j,fun _=>⟨(false,dW N E),?_,?_⟩⟩⟩
    ·unfold ik.f
     refine Ev.bind g ?_;simp only[if_neg j];exact Ev.const _
    ·unfold il.f
     refine Ev.bind h ?_;simp only[if_neg j];exact Ev.const _
end
end Go.Proofs.YtffdiakgjakngaaGreat.P


