/- TopO answers true whatever the input (text 5 of 6): own walks and plain laws; no conditions. -/
import Derived.BigQuiet
import Derived.Deep.QuietTactic
import Derived.Deep.RegionHeld3
import Derived.DeepKeys3
import Derived.Laws.CopyRow
import Derived.Maps.Keyed
import Derived.Maps.Own
import Derived.Shelf.SlSortCmp.NoneTotal
import Derived.StillTailTactics
import Derived.Test.YtffdiakgjakngaaGreatTopO4
namespace Go.Proofs.YtffdiakgjakngaaGreat.P
open Go.RowKit Go.Proofs.YtffdiakgjakngaaGreatW.PrintWords Go.Proofs.YtffdiakgjakngaaGreatW.PrintLast Go.Proofs.YtffdiakgjakngaaGreatW.PrintMore
set_option linter.unusedVariables false
set_option linter.unusedSimpArgs false
set_option maxHeartbeats 8000000
set_option maxRecDepth 100000
section
attribute [local go_sem] Oper.semAt_some jN jO jP jQ
theorem DT (gb a cr n:Nat) (B:Nat->Bool) (ok:Nat->Prop) (base:Nat) (W:World) (u:Int) (hb:W.heap[gb]? =some (.cells #[.slice (some ⟨a,0,none⟩) n cr] 43 (0,0))) (g:Kd.bool.R 4 W base ok (.slice (some ⟨a,0,none⟩) n cr) ((List.range n).map B)) (h:0<=u) (hn:u<n):
  Calls Tryz.prog 169 #[.int .i64 u,.pointer (some ⟨gb,0,none⟩)] W fun e w'=>e= .returned (.bool (B u.toNat))/\Below W.heap.size W w':=by
 have b0:W.cell? ⟨gb,0,none⟩=some (.slice (some ⟨a,0,none⟩) n cr):=(ah hb 0).trans rfl;have b:=(Kd.bG false g u h hn).1;have e:bs false ((List.range n).map B) u=B u.toNat:=by
  obtain⟨m,rfl⟩:=Int.eq_ofNat_of_zero_le h;have:m<n:=by omega
  simp[bs,aN,List.getElem?_map,List.getElem?_range this]
 rw[e] at b;have b:W.cell? ⟨a,u.toNat,none⟩=some (.bool (B u.toNat)):=b;clear g hb e;go_enter Tryz.func169,Tryz.ntmps169
 go_wp2;go_ret;exact⟨rfl,ai _ _⟩
theorem DU (A:Option Addr) (c n:Nat) (xs:List Int) (w:World) (a:xs.length=n) (b:Kd.C (Kd.int .i64) w A xs.length xs) (h1:1<=n):
  Calls Tryz.prog 167 #[.slice A n c] w fun e w'=>e= .returned (.int .i64 (fk xs (n-1)))/\Below w.heap.size w w':=by
 subst a;exact DR A c xs w b h1
theorem vC (xs:List Int):∀k i:Nat,i<=k->rd xs (i:Int)<=fk xs k
 |0,i,h=>by
  obtain rfl:i=0:=by omega
  exact Int.le_refl _
 |k+1,i,h=>by
  unfold fk;by_cases e:i=k+1
  ·subst e;split<;>omega
  ·have:=vC xs k i (by omega)
   split<;>omega
theorem vD (xs:List Int):∀k:Nat,∃i,i<=k/\fk xs k=rd xs (i:Int)
 |0=>⟨0,aM _,rfl⟩
 |k+1=>by
  unfold fk;split
  ·exact⟨k+1,aM _,rfl⟩
  ·obtain⟨i,h1,a⟩:=vD xs k
   exact⟨i,by omega,a⟩
structure DV (n q:Nat) (t:Nat->Nat->Int) (out:List Int):Prop where
 len:out.length=n
 q0:rd out (q:Int)=0
 pos:∀v:Nat,v<n->0<=rd out (v:Int)/\rd out (v:Int)<n
 vE:∀u v:Nat,u<n->v<n->0<t u v->rd out (v:Int)<=rd out (u:Int)+1
 back:∀v:Nat,v<n->v≠q->∃u:Nat,u<n/\0<t v u/\rd out (u:Int)+1=rd out (v:Int)
theorem qJ {n:Nat} {E:List S83} (h:a7 n E) {u v:Nat} (hu:u<n) (g:v<n):kh E v u↔0<ae E v u:=by
 have h1:∀L:List (Int×Int),(∀x∈L,0<=x.1/\x.1<n/\x.1≠v/\1<=x.2/\x.2<=50)->0<=dj (fun w=>if w=u then 1 else 0) L/\(0<dj (fun w=>if w=u then 1 else 0) L↔∃m,((u:Int),m)∈L):=by
  intro L;induction L with
  |nil=>intro _;simp[dj]
  |cons x L i=>
   intro a;obtain⟨i1,i2⟩:=i (fun y j=>a y (List.mem_cons_of_mem _ j));have k:=a x (List.mem_cons_self ..);simp only[dj];by_cases e:x.1.toNat=u
   ·rw[if_pos e,Int.mul_one]
    refine⟨by omega,fun _=>⟨x.2,?_⟩,fun _=>by omega⟩;have:x=((u:Int),x.2):=by rw[<-e];ext<;>simp;omega
    rw[<-this];exact List.mem_cons_self ..
   ·rw[if_neg e,Int.mul_zero,Int.zero_add]
    refine⟨i1,fun h=>?_,fun⟨m,hm⟩=>?_⟩
    ·obtain⟨m,hm⟩:=i2.1 h
     exact⟨m,List.mem_cons_of_mem _ hm⟩
    ·rcases List.mem_cons.1 hm with rfl|hm
     ·exact absurd (show ((u:Int)).toNat=u by simp) e
     ·exact i2.2 ⟨m,hm⟩
 have b:=h1 _ (nS h E.length (aM _) (v:=v));rw[nR h _ g,T.gY hu (fun w _ hw=>by rw[if_neg hw,Int.mul_zero]),if_pos rfl,Int.mul_one] at b;exact b.2.symm
theorem Bf.dst {n q:Nat} {E:List S83} (h:a7 n E) (m:T.dP n (ae E)) (o:q<n) {out:List Int} {D:Int} (hb:Bf n q (kh E) out [] D (fun _ _=>False)):DV n q (ae E) out:=by
 have i:∀v:Nat,v<n->0<=rd out (v:Int):=by
  intro v e;refine Classical.byContradiction fun p=>?_
  obtain⟨a,b,k,l,h1,g,j⟩:=m (fun v=>decide (0<=rd out (v:Int))) ⟨q,o,by simp[hb.q0]⟩ ⟨v,e,by simpa using p⟩;have:=hb.jx a k (aD h1) (by simp) b l ((qJ h l k).2 j) (fun f=>f);exact(of_decide_eq_false g) this.1
 refine⟨hb.len,hb.q0,fun v e=>⟨i v e,?_⟩,fun u v hu e r=>(hb.jx u hu (i u hu) (by simp) v e ((qJ h e hu).2 r) (fun f=>f)).2,fun v e s=>?_⟩
 ·have h1:=hb.hi v e
  have g:=iG out;rw[hb.len] at g;omega
 ·obtain⟨u,hu,h1,g,j⟩:=hb.back v e s (i v e)
  exact⟨u,hu,by rw[h.wt.sym];exact(qJ h e hu).1 h1,j⟩
structure LI (w0 w:World) (g gd gs go cd cs co n:Nat) (A0:Option Addr) (c0:Nat) (E:List S83) (q:Int) (out d s:List Int) (W:World):Prop where
 si:SI w0 g gd gs cd cs n A0 c0 E q d s W
 fo:(Kd.int .i64).R 3 W w.heap.size (fun _=>True) (.slice (some ⟨go,0,none⟩) n co) out
 hw:w0.heap.size<=w.heap.size/\gd<w.heap.size/\gs<w.heap.size/\g<w.heap.size/\w.heap.size<=go
namespace LI
variable {w0 w W W':World} {g gd gs go cd cs co n c0 l:Nat} {A0:Option Addr} {E:List S83} {q:Int} {out d s:List Int}
theorem below (h:LI w0 w g gd gs go cd cs co n A0 c0 E q out d s W) (hb:Below W.heap.size W W'):LI w0 w g gd gs go cd cs co n A0 c0 E q out d s W':=⟨h.si.below hb,Kd.b7 h.fo hb,h.hw⟩
theorem alloc (h:LI w0 w g gd gs go cd cs co n A0 c0 E q out d s W) (o:Obj):LI w0 w g gd gs go cd cs co n A0 c0 E q out d s (W.alloc o):=h.below (af (ai _ _) o)
theorem drewN (h:LI w0 w g gd gs go cd cs co n A0 c0 E q out d s W) (m:Nat):LI w0 w g gd gs go cd cs co n A0 c0 E q out d s (W.drewN m):=h.below (cz (ai _ _) m)
theorem drew (h:LI w0 w g gd gs go cd cs co n A0 c0 E q out d s W):LI w0 w g gd gs go cd cs co n A0 c0 E q out d s W.drew:=h.drewN 1
theorem iP (h:LI w0 w g gd gs go cd cs co n A0 c0 E q out d s W) (p:Addr) (v:Value) (a:w.heap.size<=p.block) (h1:p.block≠go):LI w0 w g gd gs go cd cs co n A0 c0 E q out d s (W.setCell p v):=
 ⟨h.si.iP p v (by have:=h.hw;omega) (by have:=h.hw;omega),Kd.bj (Kd.eX (Kd.fm rfl h.fo) (fun k hk=>Below.heap_setCell _ _ _ _ (fun e=>h1 (by rw[<-e];injection hk)))) (fun _ _=>trivial),h.hw⟩
theorem iS (h:LI w0 w g gd gs go cd cs co n A0 c0 E q out d s W) (v:Nat) (a:v<n):W.cell? ⟨go,v,none⟩=some (.int .i64 (rd out v)):=by
 have:=(Kd.bG 0 h.fo (v:Int) (by omega) (by omega)).1;rw[aq] at this;exact this
theorem DW (h:LI w0 w g gd gs go cd cs co n A0 c0 E q out d s W) {d' s':List Int} (a:SI w0 g gd gs cd cs n A0 c0 E q d' s' W') (hk:∀k,k<W.heap.size->k≠gd->k≠gs->W'.heap[k]? =W.heap[k]?):LI w0 w g gd gs go cd cs co n A0 c0 E q out d' s' W':=
 ⟨a,Kd.bj (Kd.eX (Kd.fm rfl h.fo) (fun k e=>by
  injection e with e
  subst e;have h1:=h.hw;exact hk _ (Kd.cF h.fo _ rfl) (by omega) (by omega))) (fun _ _=>trivial),h.hw⟩
end LI
theorem DX (g gd gs cd cs n:Nat) (A0:Option Addr) (c0:Nat) (E:List S83) (q:Nat) (d:List Int) (w0 w:World) (an:Kd.C aQ w0 A0 E.length E) (hE:a7 n E) (hl:E.length<=1000) (hC:eN n E) (hn:n<=12) (hq:q<n) (Z:T.sN (T.val n (ae E)) n<=19)
  (hd:∀v:Nat,v<n-> -200<=rd d v/\rd d v<=200) (bd:d.length=n) (h:SI w0 g gd gs cd cs n A0 c0 E q d (List.replicate n 0) w):
  Calls Tryz.prog 110 #[.pointer (some ⟨g,0,none⟩)] w fun e w'=>e= .returned (.tuple #[])/\∃(d' s':List Int),d'.length=n/\s'.length=n/\SI w0 g gd gs cd cs n A0 c0 E q d' s' w'/\(∀v:Nat,v<n->v≠q->0<=rd d' v)/\∃dist:Nat->Int,T.eG n (ae E) (fun v=>rd d (v:Nat)) dist 200 0 (fun v=>rd d' (v:Nat)) (fun v=>rd s' (v:Nat)):=by
 have e3:=Tryz.underlying188;have hu:=Tryz.underlying24;have o:=zA hE;have HC:=zA hC;have HD:=zA hd;have be:=h.hb.size;obtain⟨q1,q2,q3,q4,q5⟩:=h.ld;have HS:=zA h;have c1:1<=n:=by omega
 clear hE hC hd h;go_enter Tryz.func110,Tryz.ntmps110
 go_wp2_with (first|(go_at_call 165;refine(DQ g n A0 c0 E q _ _ 0 _ (Kd.al an HS.out.hb) o.out.iQ (by omega) hq HS.out.st).mono ?_;rintro e w1 ⟨go,co,out,D,rfl,hO,K,bf⟩;have s:=zA (Bf.dst o.out (o.out.conn HC.out) hq bf);have ap:Aside0 (LI w0 w g gd gs go cd cs co n A0 c0 E q out d (List.replicate n 0) w1):=⟨HS.out.below K,hO,be,q1,q2,q3,Kd.ee hO go rfl⟩;clear hO K bf)|(go_at_call 167;refine(DU _ _ n out _ s.out.len (Kd.a8 ap.out.fo).2.2 c1).mono ?_;rintro e w2 ⟨rfl,K⟩;have L:=zA (ap.out.below K);clear K ap))
 obtain⟨im,c4,c5⟩:=vD out (n-1);obtain⟨G,ar⟩:∃G:Nat,fk out (n-1)=G:=⟨(fk out (n-1)).toNat,by have:=s.out.pos im (by omega);omega⟩;have av:G<=n:=by have:=s.out.pos im (by omega);omega
 have HM:Aside0 (∀v:Nat,v<n->rd out (v:Int)<=G):=⟨fun v l=>by rw[<-ar];exact vC out (n-1) v (by omega)⟩;have bk:Aside0 (T.eG n (ae E) (fun v=>rd d (v:Nat)) (fun v=>rd out (v:Nat)) 200 G (fun v=>rd d (v:Nat)) (fun v=>rd (List.replicate n 0) (v:Nat))):=⟨by
  have h:=T.eG.start (n:=n) (t:=ae E) (D:=fun v=>rd d (v:Nat)) (dist:=fun v=>rd out (v:Nat)) (B:=200) (k:=G) (by omega) (fun v l=>(HD.out v l).1) HM.out (by omega);rw[show (fun v:Nat=>rd (List.replicate n 0) (v:Int))=fun _=>0 from by
   funext v
   simp[rd,aN,List.getElem?_replicate];split<;>rfl]
  exact h⟩
 rw[ar];clear ar c5 c4;have c6:=zA bd;have c7:=zA (List.length_replicate (n:=n) (a:=(0:Int)));clear bd;go_loopg [4] (G) (fun M kv wr=>∃(k:Nat) (d' s':List Int),kv= .int .i64 k/\k<=n/\Aside0 (LI w0 w g gd gs go cd cs co n A0 c0 E q out d' s' wr)/\Aside0 (d'.length=n)/\Aside0 (s'.length=n)/\Aside0 (T.eG n (ae E) (fun v=>rd d (v:Nat)) (fun v=>rd out (v:Nat)) 200 k (fun v=>rd d' (v:Nat)) (fun v=>rd s' (v:Nat)))/\Aside0 (M=k))
 case atStart=>exact⟨G,d,List.replicate n 0,rfl,av,L,c6,c7,bk,⟨rfl⟩⟩
 case round=>
  clear L bk HM av HS;obtain⟨k,d',s',rfl,av,b,O,P,I,HK⟩:=hrel;by_cases hk:0<k
  ·have e6:(0:Int)<(k:Int):=by omega
   have c9:(0:Int)<=(n:Int):=by omega
   have s5:=b.out.si.f5;have s0:=b.out.si.f0;go_wp2_with (first|((with_reducible refine aX (N:=33) rfl ?_);refine Kd.kx Kd.bool _ 4 rfl (N:=33) rfl 43 _ _ rfl (n:Int) rfl rfl Tryz.underlying43 (.bool false) 1 jT rfl (by decide) (by omega) false (ok:=fun _=>True) (okp:=fun _=>True) rfl (fun _ hk=>hk) trivial c9 (by simp;omega) (ai _ _) (aM _) ?_;intro v1 w5 ho hb dd dl;rw[aq] at ho;obtain⟨j,cr,l,e_,ds, -⟩:=Kd.fB ho (by rw[List.length_replicate];omega);rw[List.length_replicate] at l;subst l;have bo:=zA ho;have bq:=zA (b.out.below hb);clear ho hb dd dl))
   have e':=Kd.cF b.out.fo go rfl;have fd:=b.out.si.hb.size;have fn:=b.out.hw;have dv:w.heap.size<=wr.heap.size:=by omega
   have dx:j≠go:=by omega
   have d0:w.heap.size<=j:=by omega
   have ag:=zA (aU w5 (.cells #[.slice (some ⟨j,0,none⟩) n cr] 43));have aF:=zA (Kd.bt (Kd.aK bo.out (.cells #[.slice (some ⟨j,0,none⟩) n cr] 43)) (base':=w.heap.size) dv);have aL:=zA (bq.out.alloc (.cells #[.slice (some ⟨j,0,none⟩) n cr] 43));clear bo bq s5 s0 b;generalize w5.alloc (.cells #[.slice (some ⟨j,0,none⟩) n cr] 43)=W6 at ag aF aL⊢;generalize w5.heap.size=gb at ag ds⊢;have bv:Aside0 (Kd.bool.R 4 W6 w.heap.size (fun _=>True) (.slice (some ⟨j,0,none⟩) n cr) ((List.range n).map fun u:Nat=>if u<0 then decide (rd out (u:Int)<k) else false)):=⟨by
    have h:=aF.out;rw[show (List.replicate n false:List Bool)=(List.range n).map fun u:Nat=>if u<0 then decide (rd out (u:Int)<k) else false from by
     refine List.ext_getElem (by simp) fun i h1 H=>?_
     simp] at h
    exact h⟩
   clear aF;go_loopg [36] (n) (fun M vv aP=>∃v:Nat,v<=n/\vv= .int .i64 v/\Aside0 (LI w0 w g gd gs go cd cs co n A0 c0 E q out d' s' aP)/\Aside0 (aP.heap[gb]? =some (.cells #[.slice (some ⟨j,0,none⟩) n cr] 43 (0,0)))/\Aside0 (Kd.bool.R 4 aP w.heap.size (fun _=>True) (.slice (some ⟨j,0,none⟩) n cr) ((List.range n).map fun u:Nat=>if u<v then decide (rd out (u:Int)<k) else false))/\Aside0 (M=n-v))
   case atStart=>exact⟨0,by omega,rfl,aL,ag,bv,⟨rfl⟩⟩
   case round=>
    clear aL ag bv;obtain⟨v,l,rfl,b,m,Q,J⟩:=hrel;by_cases p:v<n
    ·have d2:(0:Int)<=(v:Int):=by omega
     have d3:(v:Int)<(n:Int):=by omega
     have b0:=cB m.out;have b1:=b.out.iS v p;obtain⟨S,hf⟩:=Kd.bG false Q.out (v:Int) (by omega) (by omega);rw[aq] at S hf;generalize bs false ((List.range n).map fun u:Nat=>if u<v then decide (rd out (u:Int)<k) else false) (v:Int)=z at S;replace S:wr.cell? ⟨j,v,none⟩=some (.bool z):=S;have U:=Kd.cY Q.out (v:Int) (decide (rd out (v:Int)<k));rw[aq] at U;have em:(((List.range n).map fun u:Nat=>if u<v then decide (rd out (u:Int)<k) else false).set v (decide (rd out (v:Int)<k)))=(List.range n).map fun u:Nat=>if u<v+1 then decide (rd out (u:Int)<k) else false:=by
      refine List.ext_getElem (by simp) fun i h1 H=>?_
      rw[List.getElem_set];simp only[List.getElem_map,List.getElem_range];by_cases e:v=i
      ·subst e;simp
      ·rw[if_neg e]
       by_cases h:i<v
       ·rw[if_pos h,if_pos (by omega)]
       ·rw[if_neg h,if_neg (by omega)]
     rw[em] at U;have bw:=zA (Kd.bR U.1);have bx:=zA (dU (cZ (g:=gb) m.out U.2 (fun e=>by injection e with e;omega)));have L:=zA ((b.out.iP ⟨j,v,none⟩ (.bool (decide (rd out (v:Int)<k))) d0 dx).drew);clear U em b m Q;go_wp2;go_region
     clear b0 b1 S hf;generalize (wr.setCell ⟨j,v,none⟩ (.bool (decide (rd out (v:Int)<k)))).drew=W7 at L bx bw⊢;go_wp2;go_roundg (n- (v+1))
     case measure=>rw[J.out];omega
     case rel=>exact⟨v+1,by omega,by go_num,L,bx,bw,⟨rfl⟩⟩
    ·obtain rfl:n=v:=by omega
     go_wp2;have r:Aside0 (Kd.bool.R 4 wr w.heap.size (fun _=>True) (.slice (some ⟨j,0,none⟩) n cr) ((List.range n).map (T.bh (fun v=>rd out (v:Nat)) k))):=⟨by
      have h:=Q.out;rw[show ((List.range n).map fun u:Nat=>if u<n then decide (rd out (u:Int)<k) else false)=(List.range n).map (T.bh (fun v=>rd out (v:Nat)) k) from List.map_congr_left fun u hu=>by
       rw[if_pos (List.mem_range.1 hu)];rfl] at h
      exact h⟩
     have d4:0<=T.eS n (ae E) (fun v=>rd out (v:Nat)) 200 k:=by have:=T.nM (n:=n) (t:=ae E) (fun v=>rd out (v:Nat)) (show (0:Int)<=200 by omega) k;omega
     have d5:=T.qt o.out.wt (fun v=>rd out (v:Nat)) (B:=200) (by omega) Z k;have b4:Aside0 (∀v:Nat,v<n-> -T.eS n (ae E) (fun v=>rd out (v:Nat)) 200 k<=rd d' v):=⟨fun v l=>I.out.low v l⟩;clear Q J;obtain⟨Y,aS⟩:∃Y,Y=T.eS n (ae E) (fun v=>rd out (v:Nat)) 200 k:=⟨_,rfl⟩;rw[<-aS] at d4 d5 b4;have d6:=zA aS;clear aS;go_loopg [51,7] (n) (fun M vv tv wr=>∃(v:Nat) (x:Int),v<=n/\vv= .int .i64 v/\tv= .int .i64 x/\0<=x/\x<=Y/\Aside0 (∀u:Nat,u<v->rd out u=k->rd d' u<0-> -rd d' u<=x*T.sN (fun w=>if T.bh (fun v=>rd out (v:Nat)) k w=true then ae E u w else 0) n)/\Aside0 (LI w0 w g gd gs go cd cs co n A0 c0 E q out d' s' wr)/\Aside0 (wr.heap[gb]? =some (.cells #[.slice (some ⟨j,0,none⟩) n cr] 43 (0,0)))/\Aside0 (Kd.bool.R 4 wr w.heap.size (fun _=>True) (.slice (some ⟨j,0,none⟩) n cr) ((List.range n).map (T.bh (fun v=>rd out (v:Nat)) k)))/\Aside0 (M=n-v))
     case atStart=>exact⟨0,0,by omega,rfl,rfl,by omega,by omega,⟨fun u hu=>by omega⟩,b,m,r,⟨rfl⟩⟩
     case round=>
      clear b m r;obtain⟨v,x,l,rfl,rfl,a0,a1,V,b,m,r,J⟩:=hrel;by_cases p:v<n
      ·have d2:(0:Int)<=(v:Int):=by omega
       have d3:(v:Int)<(n:Int):=by omega
       have b0:=cB m.out;have b1:=b.out.iS v p;have b2:=b.out.si.jy v p;have b3:=b.out.si.f3;by_cases F:rd out v=k
       ·have d9:(rd out v==(k:Int))=true:=by simpa using F
        by_cases b5:rd d' v<0
        ·have ea:decide (rd d' v<0)=true:=aA b5
         obtain⟨u,hu,b6,b_⟩:=s.out.back v p (fun e=>by have:=s.out.q0;rw[<-e] at this;omega);have b':=zA (Du o.out.wt hu b6 b_ F);have ca:Aside0 (T.sN (fun w=>if T.bh (fun v=>rd out (v:Nat)) k w=true then ae E v w else 0) n<=600):=⟨by
          have h:=T.cK (f:=fun w=>if T.bh (fun v=>rd out (v:Nat)) k w=true then ae E v w else 0) (g:=fun _=>50) (n:=n) (fun w _=>by
           have:=o.out.iQ.times v w;show (if T.bh (fun v=>rd out (v:Nat)) k w=true then ae E v w else 0)<=50
           split<;>omega)
          rw[T.fT] at h;omega⟩
         have cb:=zA (qB o.out hl (T.bh (fun v=>rd out (v:Nat)) k) p);have fr:=(mc o.out.wt hn Z (fun v l=>HD.out v l) (by omega) (by omega) I.out v p).1;have ft:=b4.out v p;have a2:=zA F;clear F b6 b_;go_wp2_with (go_at_call 168;refine(DS g n A0 c0 E q _ _ 0 v #[.pointer (some ⟨gb,0,none⟩)] (T.bh (fun v=>rd out (v:Nat)) k) _ (Kd.al an b.out.si.hb) o.out.iQ (by omega) p b.out.si.st (fun W u cc eb eg=>DT gb j cr n _ _ _ W u (au m.out cc) (Kd.b7 r.out cc) eb eg)).mono ?_;rintro e w8 ⟨rfl,ak⟩;have X:=zA (b.out.below ak);have el:=zA (au m.out ak);have er:=zA (Kd.b7 r.out ak);have c2:=X.out.si.jy v p;have c3:=X.out.si.f3;rw[cb.out];clear ak b0 b1 b2 b3 b m r;obtain⟨y,hy⟩:∃y,y=T.sN (fun w=>if T.bh (fun v=>rd out (v:Nat)) k w=true then ae E v w else 0) n:=⟨_,rfl⟩;rw[<-hy];have a3:=b'.out;have es:=ca.out;rw[<-hy] at a3 es;have HY:=zA hy;clear hy b' ca cb)
         all_goals
          have ew:=zA (Dp (a:= -rd d' v) (x:=y) a3);have ce:=zA (Dq (a:= -rd d' v) (x:=y) (by omega) a3);go_roundg (n- (v+1))
          case measure=>rw[J.out];omega
          case rel=>exact⟨v+1,_,by omega,by go_num,rfl,by have:=ce.out;omega,by have:=ce.out;omega,⟨fun u hu h1 H=>by
           have hc:=ew.out;by_cases e:u=v
           ·subst e
            rw[<-HY.out];first|exact hc|exact Int.le_trans hc (Int.mul_le_mul_of_nonneg_right (by assumption) (by omega))
           ·have hT:=V.out u (by omega) h1 H
            first|exact hT|exact Int.le_trans hT (Int.mul_le_mul_of_nonneg_right (by omega) (T.dE fun w _=>by
             show 0<=(if T.bh (fun v=>rd out (v:Nat)) k w=true then ae E u w else 0)
             have:=o.out.wt.pos u w;split<;>omega))⟩,X,el,er,⟨rfl⟩⟩
        ·have ea:decide (rd d' v<0)=false:=aY b5
         have a2:=zA F;clear F;go_wp2;go_roundg (n- (v+1))
         case measure=>rw[J.out];omega
         case rel=>exact⟨v+1,x,by omega,by go_num,rfl,a0,a1,⟨fun u hu h1 H=>by
          by_cases e:u=v
          ·subst e;omega
          ·exact V.out u (by omega) h1 H⟩,b,m,r,⟨rfl⟩⟩
       ·have d9:(rd out v==(k:Int))=false:=by simpa using F
        have a2:=zA F;clear F;go_wp2;go_roundg (n- (v+1))
        case measure=>rw[J.out];omega
        case rel=>exact⟨v+1,x,by omega,by go_num,rfl,a0,a1,⟨fun u hu h1 H=>by
         by_cases e:u=v
         ·subst e;exact absurd h1 a2.out
         ·exact V.out u (by omega) h1 H⟩,b,m,r,⟨rfl⟩⟩
      ·obtain rfl:n=v:=by omega
       by_cases f1:0<x
       ·have b0:=cB m.out
        obtain⟨ci,cj⟩:=Dr o.out hn Z (fun v l=>HD.out v l) s.out.vE (show (1:Int)<=(k:Int) by omega) (by omega) O.out P.out I.out a0 (by rw[<-d6.out];exact a1) V.out;have ex:=zA ci;have ey:=zA cj;obtain⟨a4,a5⟩:=ma E (T.bh (fun v=>rd out (v:Nat)) k) x (d',s') n;have a4:=zA a4;have a5:=zA a5;clear ci cj;rename_i e0 e1;clear e0 e1;go_wp2_with (go_at_call 166;refine(uX g gd gs j cd cs cr n A0 c0 E q d' s' (T.bh (fun v=>rd out (v:Nat)) k) x w0 _ an o.out.iQ (by omega) (by omega) b.out.si (Kd.bt r.out be) ⟨by omega,by omega⟩ O.out P.out ey.out).mono ?_;rintro e w8 ⟨rfl,ck,cl,aG⟩;have X:=zA (b.out.DW ck cl);clear ck cl b m r b0)
        go_roundg (k-1)
        case measure=>rw[HK.out];omega
        case rel=>exact⟨k-1,_,_,by go_num,by omega,X,⟨a4.out.trans O.out⟩,⟨a5.out.trans P.out⟩,⟨by
         have h:=ex.out;rw[show ((k:Int)-1)=((k-1:Nat):Int) by omega] at h;exact h⟩,⟨rfl⟩⟩
       ·obtain rfl:x=0:=by omega
        go_wp2;go_roundg (k-1)
        case measure=>rw[HK.out];omega
        case rel=>exact⟨k-1,d',s',by go_num,by omega,b,O,P,⟨by
         have h:=Dt o.out Z s.out.vE I.out V.out;rw[show ((k:Int)-1)=((k-1:Nat):Int) by omega] at h;exact h⟩,⟨rfl⟩⟩
  ·obtain rfl:k=0:=by omega
   go_wp2;go_end0;exact⟨rfl,d',s',O.out,P.out,b.out.si,fun v l e2=>I.out.jv v l (by obtain⟨u,hu,h1,H⟩:=s.out.back v l e2;have:=s.out.pos u hu;show ((0:Nat):Int)<rd out (v:Int);omega),_,I.out⟩
end
section
attribute [local go_sem] Oper.semAt_some
theorem DY (A0:Option Addr) (c0 n:Nat) (l0:List Int) (w:World) (h:l0.length=n) (h1:1<=n) (hn:n<=1000) (i:Kd.C (Kd.int .i64) w A0 l0.length l0) (j:l0.length<=c0):
  Calls Tryz.prog 57 #[.slice A0 n c0] w fun e w'=>∃gd a,e= .returned (.slice (some ⟨gd,0,none⟩) n a)/\(Kd.int .i64).R 3 w' w.heap.size (fun _=>True) (.slice (some ⟨gd,0,none⟩) n a) l0/\Below w.heap.size w w':=by
 subst h;refine(fb.calls A0 c0 l0 l0 w i j (by unfold fb.f clone.f;rw[if_pos (by omega)])).mono ?_;rintro e w1 ⟨v0,rfl,b,k⟩;obtain⟨g,cap,rfl, -⟩:=Kd.fB b (by omega);exact⟨g,cap,rfl,b,k⟩
abbrev Hg (w:World) (N:Int) (A0:Option Addr) (k c0:Nat) (w':World):Prop:=w'.heap[w.heap.size]? =some (.cells #[.int .i64 N,.slice A0 k c0] 24 (0,0))/\w'.cell? ⟨w.heap.size,0,none⟩=some (.int .i64 N)/\w'.cell? ⟨w.heap.size,1,none⟩=some (.slice A0 k c0)/\Below w.heap.size w w'
theorem Hg.of {w w':World} {N:Int} {A0:Option Addr} {k c0:Nat} (h:w'.heap[w.heap.size]? =some (.cells #[.int .i64 N,.slice A0 k c0] 24 (0,0))) (hb:Below w.heap.size w w'):Hg w N A0 k c0 w':=⟨h,(ah h 0).trans rfl,(ah h 1).trans rfl,hb⟩
theorem Hg.start (w:World) (N:Int) (A0:Option Addr) (k c0:Nat):Hg w N A0 k c0 (w.alloc (.cells #[.int .i64 N,.slice A0 k c0] 24)).drew:=Hg.of (dU (aU w _)) (bC (af (ai _ _) _))
theorem Hg.alloc {w w':World} {N:Int} {A0:Option Addr} {k c0:Nat} (h:w'.heap[w.heap.size]? =some (.cells #[.int .i64 N,.slice A0 k c0] 24 (0,0))) (hb:Below w.heap.size w w') (o:Obj):Hg w N A0 k c0 (w'.alloc o):=Hg.of (aj h o) (af hb o)
theorem Hg.below {w w' a:World} {N:Int} {A0:Option Addr} {k c0:Nat} (h:w'.heap[w.heap.size]? =some (.cells #[.int .i64 N,.slice A0 k c0] 24 (0,0))) (hb:Below w.heap.size w w') (b:Below w'.heap.size w' a):Hg w N A0 k c0 a:=Hg.of (au h b) (aC hb b)
theorem DZ (n:Nat) (q:Int) (A0:Option Addr) (c0:Nat) (E:List S83) (m:Option Addr) (cd:Nat) (d:List Int) (w:World) (hd:Kd.C (Kd.int .i64) w m d.length d) (r:d.length<=cd) (s:d.length=n) (h1:1<=n) (hn:n<=1000):
  Calls Tryz.prog 109 #[.agg #[.int .i64 n,.slice A0 E.length c0],.int .i64 q,.slice m n cd] w fun e w'=>∃g gd gs b x,e= .returned (.pointer (some ⟨g,0,none⟩))/\SI w g gd gs b x n A0 c0 E q d (List.replicate n 0) w':=by
 have hu:=Tryz.underlying24;have G:=Tryz.underlying188;have y:=zA s;have z:=zA r;have B:=zA hd;have H:(0:Int)<=(n:Int):=by omega
 have I:(n:Int)<=1000:=by omega
 obtain⟨zs,u,v⟩:=kL 29 Tryz.underlying29 n hn;have l:=zA v;clear s r hd v;go_enter Tryz.func109,Tryz.ntmps109
 go_wp2_with fail
 go_region_held3 (fun w'=>w'.heap[w.heap.size]? =some (.cells #[.int .i64 n,.slice A0 E.length c0] 24 (0,0))/\w'.cell? ⟨w.heap.size,0,none⟩=some (.int .i64 n)/\w'.cell? ⟨w.heap.size,1,none⟩=some (.slice A0 E.length c0)/\Below w.heap.size w w')
  (first
   |exact Hg.start w n A0 E.length c0
   |((try go_split_ands);refine⟨by assumption,by assumption,by assumption,by assumption⟩)
   |((try go_split_ands);exact Hg.alloc (by assumption) (by assumption) _)
   |((try go_split_ands);exact Hg.below (by assumption) (by assumption) (by assumption))
   |fail)
  ((go_at_call 57;refine(DY m cd n d _ y.out h1 hn (Kd.al B.out (by go_split_ands;assumption)) z.out).mono ?_;rintro e w1 ⟨gd,b,rfl,a,i⟩))
 ·rename_i hHeld
  obtain⟨-, -, -,j⟩:=hHeld;have D:=Kd.cF a gd rfl;have o:=Kd.ee a gd rfl;have p:=i.size;simp only[World.drew,World.size_alloc] at o p;have hS:=l.out w1 (fun _=>True) trivial;have k:=zA (SI.mk (g:=w1.heap.size+1) j (by have h:=aU (w1.alloc (.cells zs 3)) (.cells #[.int .i64 n,.slice A0 E.length c0,.int .i64 q,.slice (some ⟨gd,0,none⟩) n b,.slice (some ⟨w1.heap.size,0,none⟩) n n,.int .i64 0] 188);rw[World.size_alloc] at h;exact h)
   (Kd.aK (Kd.aK (Kd.bt a (by simp[World.drew])) _) _) (Kd.bt (Kd.aK hS _) (by omega)) ⟨by omega,by omega,by omega,by omega⟩)
  clear a i j hS l u;generalize (w1.alloc (.cells zs 3)).alloc (.cells #[.int .i64 n,.slice A0 E.length c0,.int .i64 q,.slice (some ⟨gd,0,none⟩) n b,.slice (some ⟨w1.heap.size,0,none⟩) n n,.int .i64 0] 188)=F at k⊢;go_wp2;go_ret;exact⟨_,_,_,_,_,rfl,k.out⟩
 ·rename_i hHeld
  obtain⟨-, -, -,j⟩:=hHeld;have D:=Kd.cF a gd rfl;have o:=Kd.ee a gd rfl;have p:=i.size;simp only[World.drew,World.size_alloc] at o p;have hS:=Kd.b7 (Kd.bR (l.out (w.alloc (.cells #[.int .i64 n,.slice A0 E.length c0] 24)) (fun _=>True) trivial)) i;rw[World.size_alloc] at hS;have k:=zA (SI.mk (g:=w1.heap.size) j (aU w1 (.cells #[.int .i64 n,.slice A0 E.length c0,.int .i64 q,.slice (some ⟨gd,0,none⟩) n b,.slice (some ⟨w.heap.size+1,0,none⟩) n n,.int .i64 0] 188))
   (Kd.aK (Kd.bt a (by simp[World.drew];omega)) _) (Kd.bt (Kd.aK hS _) (by omega)) ⟨by omega,by omega,by omega,by omega⟩)
  clear a i j hS l u;generalize w1.alloc (.cells #[.int .i64 n,.slice A0 E.length c0,.int .i64 q,.slice (some ⟨gd,0,none⟩) n b,.slice (some ⟨w.heap.size+1,0,none⟩) n n,.int .i64 0] 188)=F at k⊢;go_wp2;go_ret;exact⟨_,_,_,_,_,rfl,k.out⟩
end
section
attribute [local go_sem] Oper.semAt_some
def ej (s:List Int) (o:Int):Nat->List Int
 |0=>s
 |k+1=>(ej s o k).set k (rd (ej s o k) k-o)
theorem mg (s:List Int) (o:Int):∀k,(ej s o k).length=s.length
 |0=>rfl
 |k+1=>by simp[ej,mg s o k]
theorem nW (s:List Int) (o:Int):∀(k v:Nat),k<=s.length->v<s.length->rd (ej s o k) v=if v<k then rd s v-o else rd s v
 |0,v,_,a=>by rw[if_neg (by omega)];rfl
 |k+1,v,hk,a=>by
  have b:=nW s o k;unfold ej;by_cases e:k=v
  ·subst e
   rw[kc _ _ _ (by rw[mg];exact a),b k (by omega) a,if_neg (by omega),if_pos (by omega)]
  ·rw[ie _ _ _ _ e,b v (by omega) a]
   by_cases h:v<k
   ·rw[if_pos h,if_pos (by omega)]
   ·rw[if_neg h,if_neg (by omega)]
theorem D0 (g gd gs cd cs n:Nat) (A0:Option Addr) (c0:Nat) (E:List S83) (q:Nat) (d s:List Int) (w0 w:World) (z:1<=n) (hn:n<=12) (B:q<n) (h:SI w0 g gd gs cd cs n A0 c0 E q d s w) (C:d.length=n) (D:s.length=n)
  (hd:∀v:Nat,v<n-> -1048576<=rd d v/\rd d v<=1048576) (p:∀v:Nat,v<n->0<=rd s v/\rd s v<=2000000/\ -1048576<=rd s v-rd s q/\rd s v-rd s q<=1048576):
  Calls Tryz.prog 112 #[.pointer (some ⟨g,0,none⟩)] w fun e w'=>e= .returned (.tuple #[.slice (some ⟨gd,0,none⟩) n cd,.slice (some ⟨gs,0,none⟩) n cs,.int .i64 0])/\SI w0 g gd gs cd cs n A0 c0 E q d (ej s (rd s q) n) w':=by
 have ag:=Tryz.underlying188;have hu:=Tryz.underlying24;have O:=zA hd;have F:=zA p;have G:=zA C;have j:=zA D;have a:=zA h;obtain⟨P,Q, -, -⟩:=p q B;have ak:(q:Int)<(n:Int):=by omega
 have am:(0:Int)<=(q:Int):=by omega
 clear hd p C D h;have R:=a.out.f5;have b:=a.out.f4;have s2:=a.out.f2;have r:=a.out.cells q B;go_enter Tryz.func112,Tryz.ntmps112
 go_wp2_with fail
 go_quiet (fail)
 clear R s2 r;rename_i nq;have k:=zA (a.out.drewN nq);clear a b;generalize w.drewN nq=W1 at k⊢;have b:=k.out.f4;generalize H:rd s q=o at P Q;have I:=zA H;clear H;go_wp2;go_loopg [31] (n) (fun S T wr=>∃v:Nat,v<=n/\T= .int .i64 v/\Aside0 (SI w0 g gd gs cd cs n A0 c0 E q d (ej s o v) wr)/\Aside0 (S=n-v))
 case atStart=>exact⟨0,by omega,rfl,k,⟨rfl⟩⟩
 case round=>
  clear k b;obtain⟨v,l,rfl,a,U⟩:=hrel;by_cases m:v<n
  ·have an:(0:Int)<=(v:Int):=by omega
   have ao:(v:Int)<(n:Int):=by omega
   have b:=a.out.f4;have r:=a.out.cells v m;have sf:=a.out.uT v m;have J:Aside0 (∀W,SI w0 g gd gs cd cs n A0 c0 E q d ((ej s o v).set v (rd (ej s o v) v-o)) W->SI w0 g gd gs cd cs n A0 c0 E q d (ej s o (v+1)) W):=⟨fun W h=>h⟩;have V:0<=rd (ej s o v) v/\rd (ej s o v) v<=2000000:=by
    rw[nW s o v v (by rw[j.out];omega) (by rw[j.out];exact m),if_neg (by omega)];have:=F.out v m;omega
   obtain⟨X,Y⟩:=V;have i:=zA (J.out _ (a.out.nO v (rd (ej s o v) v-o)));clear J a;generalize rd (ej s o v) v=y at X Y r i;go_wp2;go_roundg (n- (v+1))
   case measure=>rw[U.out];omega
   case rel=>exact⟨v+1,by omega,by go_num,i,⟨rfl⟩⟩
  ·obtain rfl:n=v:=by omega
   have s0:=a.out.f0;have K:=a.out.f3;have b:=a.out.f4;obtain⟨Z,e2,L⟩:=Kd.a8 a.out.d;obtain⟨e4,M,N⟩:=Kd.a8 a.out.s;have u:=zA (And.intro e2 L);have x:=zA (And.intro M N);have ad:Aside0 (∀v:Nat,v<n-> -1048576<=rd (ej s o n) v/\rd (ej s o n) v<=1048576):=⟨fun v l=>by
    rw[nW s o n v (by rw[j.out];omega) (by rw[j.out];exact l),if_pos l];have:=F.out v l;rw[I.out] at this;omega⟩
   clear Z e2 L e4 M N;go_wp2_with fail
   go_quiet ((first|(go_at_call 87;with_reducible exact vm (some ⟨gd,0,none⟩) cd n d _ _ G.out z hn O.out (Kd.ku u.out.2 _) (by rw[G.out];exact u.out.1))|(go_at_call 87;with_reducible exact vm (some ⟨gs,0,none⟩) cs n (ej s o n) _ _ (by rw[mg];exact j.out) z hn ad.out (Kd.ku x.out.2 _) (by rw[mg,j.out];exact x.out.1))))
   have i:=zA (a.out.drewN nq);clear s0 K b a u x;generalize wr.drewN nq=W2 at i⊢;have K:=i.out.f3;have b:=i.out.f4;go_wp2_with fail
   go_quiet (fail)
   go_wp2;refine bodyPost_ret (results_tmp3 rfl _ _ _) rfl ?_;exact⟨rfl,by rw[I.out];exact i.out.drewN _⟩
end
def ik.f (k:Nat) (a:Int) (g:List (S83)) (e:Int) (l2:List Int):Option (Int):=(cD.f k a g).bind fun b=>(if b.2=0 then(if b.1=true then(if e<0 then(some 2) else(if e>=a then(some 2) else((cu.f k l2 a).bind fun t248=>(some t248)))) else(some 13)) else(some b.2))
theorem ik.calls (k:Nat) (g:Int) (m:Option Addr) (n:Nat) (i:List (S83)) (x:Int) (E:Option Addr) (c2:Nat) (l2:List Int) (r:Int) (w:World) (F:Kd.C aQ w m i.length i) (G:i.length<=n) (I:Kd.C (Kd.int .i64) w E l2.length l2) (J:l2.length<=c2) (h:ik.f k g i x l2=some r):
  Calls Tryz.prog 108 #[.agg #[.int .i64 g,.slice m i.length n],.int .i64 x,.slice E l2.length c2] w fun e w'=>e= .returned (.int .i64 r)/\Below w.heap.size w w':=by
 have S:=Tryz.underlying24;have q:=zA F;have s:=zA G;clear F G;have K:=zA I;have L:=zA J;clear I J;have a:=zA (ai w.heap.size w);unfold ik.f at h;have H:=h;clear h;obtain⟨⟨t246,t247⟩,u,H⟩:=zo H;dsimp only at H;by_cases v:t247=0
 ·rw[if_pos v] at H
  obtain⟨M,O⟩:=da v;clear v;by_cases y:t246=true
  ·subst y
   replace H:=zi H;by_cases o:x<0
   ·rw[if_pos o] at H
    have P:=aA o;clear o;obtain rfl:=aR H;go_enter Tryz.func108,Tryz.ntmps108
    go_wp2_with (first|((with_reducible refine aX (N:=3) rfl ?_);refine zX 3 #[.int .i64 g,.slice m i.length n] 24 ?_;intro z j T l hb;have b:=zA (l);have B:=zG a j;have D:=zG a j;replace a:=zS a hb;clear hb l j;obtain⟨U,V,W,X⟩:=aE b)|((with_reducible refine aT (f:=113) rfl ?_);refine zL (some 11) Tryz.func113 #[.agg #[.int .i64 g,.slice m i.length n]] ?_;(with_reducible refine(cD.calls k g _ _ i true t247 _ ?aw ?ax u.out).mono ?_);(case aw=>exact Kd.al q.out zB);(case ax=>exact s.out);rintro e Y ⟨rfl,hb⟩;refine⟨_,rfl,?_⟩;replace b:=zb b hb;replace a:=zS a hb;(try clear hb)))
    go_ret;exact⟨zE,zB⟩
   ·rw[if_neg o] at H
    have P:=aY o;clear o;by_cases p:x>=g
    ·rw[if_pos p] at H
     have Q:=aA p;clear p;obtain rfl:=aR H;go_enter Tryz.func108,Tryz.ntmps108
     go_wp2_with (first|((with_reducible refine aX (N:=3) rfl ?_);refine zX 3 #[.int .i64 g,.slice m i.length n] 24 ?_;intro z j Z l hb;have b:=zA (l);have B:=zG a j;have D:=zG a j;replace a:=zS a hb;clear hb l j;obtain⟨aa,ad,ag,ak⟩:=aE b)|((with_reducible refine aT (f:=113) rfl ?_);refine zL (some 11) Tryz.func113 #[.agg #[.int .i64 g,.slice m i.length n]] ?_;(with_reducible refine(cD.calls k g _ _ i true t247 _ ?aw ?ax u.out).mono ?_);(case aw=>exact Kd.al q.out zB);(case ax=>exact s.out);rintro e am ⟨rfl,hb⟩;refine⟨_,rfl,?_⟩;replace b:=zb b hb;replace a:=zS a hb;(try clear hb);obtain⟨an,ao,ap,ar⟩:=aE b))
     go_ret;exact⟨zE,zB⟩
    ·rw[if_neg p] at H
     have Q:=aY p;clear p;obtain⟨t248,R,H⟩:=zo H;obtain rfl:=aR H;go_enter Tryz.func108,Tryz.ntmps108
     go_wp2_with (first|((with_reducible refine aX (N:=3) rfl ?_);refine zX 3 #[.int .i64 g,.slice m i.length n] 24 ?_;intro z j av l hb;have b:=zA (l);have B:=zG a j;have D:=zG a j;replace a:=zS a hb;clear hb l j;obtain⟨aB,aF,aL,aO⟩:=aE b)|((with_reducible refine aT (f:=113) rfl ?_);refine zL (some 11) Tryz.func113 #[.agg #[.int .i64 g,.slice m i.length n]] ?_;(with_reducible refine(cD.calls k g _ _ i true t247 _ ?aw ?ax u.out).mono ?_);(case aw=>exact Kd.al q.out zB);(case ax=>exact s.out);rintro e aP ⟨rfl,hb⟩;refine⟨_,rfl,?_⟩;replace b:=zb b hb;replace a:=zS a hb;(try clear hb);obtain⟨aS,a0,a2,a3⟩:=aE b)|((with_reducible refine aT (f:=87) rfl ?_);refine zL (some 33) Tryz.func87 #[.slice E l2.length c2,.int .i64 g] ?_;(with_reducible refine(cu.calls k _ _ l2 g t248 _ ?aw ?ax R.out).mono ?_);(case aw=>exact Kd.al K.out zB);(case ax=>exact L.out);rintro e w' ⟨rfl,⟨nd,rfl⟩⟩;refine⟨_,rfl,?_⟩))
     go_ret;exact⟨zE,zB⟩
  ·replace y:=Bool.eq_false_iff.mpr y
   subst y;replace H:=zj H;obtain rfl:=aR H;go_enter Tryz.func108,Tryz.ntmps108
   go_wp2_with (first|((with_reducible refine aX (N:=3) rfl ?_);refine zX 3 #[.int .i64 g,.slice m i.length n] 24 ?_;intro z j a4 l hb;have b:=zA (l);have B:=zG a j;have D:=zG a j;replace a:=zS a hb;clear hb l j;obtain⟨a5,a9,bb,bd⟩:=aE b)|((with_reducible refine aT (f:=113) rfl ?_);refine zL (some 11) Tryz.func113 #[.agg #[.int .i64 g,.slice m i.length n]] ?_;(with_reducible refine(cD.calls k g _ _ i false t247 _ ?aw ?ax u.out).mono ?_);(case aw=>exact Kd.al q.out zB);(case ax=>exact s.out);rintro e be ⟨rfl,hb⟩;refine⟨_,rfl,?_⟩;replace b:=zb b hb;replace a:=zS a hb;(try clear hb)))
   go_ret;exact⟨zE,zB⟩
 ·rw[if_neg v] at H
  obtain⟨M,O⟩:=db v;obtain rfl:=aR H;go_enter Tryz.func108,Tryz.ntmps108
  go_wp2_with (first|((with_reducible refine aX (N:=3) rfl ?_);refine zX 3 #[.int .i64 g,.slice m i.length n] 24 ?_;intro z j bf l hb;have b:=zA (l);have B:=zG a j;have D:=zG a j;replace a:=zS a hb;clear hb l j;obtain⟨bg,bi,bk,bn⟩:=aE b)|((with_reducible refine aT (f:=113) rfl ?_);refine zL (some 11) Tryz.func113 #[.agg #[.int .i64 g,.slice m i.length n]] ?_;(with_reducible refine(cD.calls k g _ _ i t246 t247 _ ?aw ?ax u.out).mono ?_);(case aw=>exact Kd.al q.out zB);(case ax=>exact s.out);rintro e bo ⟨rfl,hb⟩;refine⟨_,rfl,?_⟩;replace b:=zb b hb;replace a:=zS a hb;(try clear hb)))
  go_ret;exact⟨zE,zB⟩
section
attribute [local go_sem] Oper.semAt_some
def eT.f (k:Nat) (N:Int) (E:List S83) (q:Int) (d:List Int):Option (List Int×List Int×Int):=
 (ik.f k N E q d).bind fun e=>if e=0 then(if jz N E q d=true then((fX N.toNat E q.toNat d k).bind fun s=>some (bP N.toNat E d s,s,0)) else none) else some ([],[],e)
theorem D3 {n q:Nat} {t:Nat->Nat->Int} (b:T.Wt n t) (a:q<n) (hn:n<=12) (e:T.sN (T.val n t) n<=19) {D dist:Nat->Int} (g:∀v,v<n-> -200<=D v/\D v<=200) {d s:List Int} (i:d.length=n) (j:s.length=n) (hp:∀v:Nat,v<n->v≠q->0<=rd d v)
  (h:T.eG n t D dist 200 0 (fun v=>rd d (v:Nat)) (fun v=>rd s (v:Nat))):ig n q t D d s:=by
 have hb:=mc b hn e g (by omega) (by omega) h;exact⟨i,j,h.eq,hp,(hb q a).1,fun v k=>(hb v k).2.2.1,(hb q a).2.2.2⟩
theorem D4 (k:Nat) (N:Int) (A0:Option Addr) (c0:Nat) (E:List S83) (q:Int) (a:Option Addr) (c2:Nat) (d:List Int) (t:Int) (w:World) (j:Kd.C aQ w A0 E.length E) (l:E.length<=c0) (b:Kd.C (Kd.int .i64) w a d.length d) (g:d.length<=c2)
  (h:ik.f k N E q d=some t) (i:t≠0):
  Calls Tryz.prog 54 #[.agg #[.int .i64 N,.slice A0 E.length c0],.int .i64 q,.slice a d.length c2] w fun e w'=>e= .returned (.tuple #[.slice none 0 0,.slice none 0 0,.int .i64 t])/\Below w.heap.size w w':=by
 have hu:=Tryz.underlying24;have m:=zA h;have n:=zA b;have o:=zA g;have r:(t != 0)=true:=by simpa using i
 clear h i b g;go_enter Tryz.func54,Tryz.ntmps54
 go_wp2_with (go_at_call 108;refine(ik.calls k N A0 c0 E q a c2 d t _ (Kd.bp j _) l (Kd.bp n.out _) o.out m.out).mono ?_;rintro e w1 ⟨rfl,hb⟩;have p:=zA (aC (af (ai w.heap.size w) _) hb);clear hb)
 refine bodyPost_ret (results_tmp3 rfl _ _ _) rfl ?_;exact⟨rfl,p.out⟩
theorem D5 (n:Nat) (q:Int) (A0:Option Addr) (c0:Nat) (E:List S83) (a:Option Addr) (cd:Nat) (d:List Int) (w:World) (hd:Kd.C (Kd.int .i64) w a d.length d) (b:d.length<=cd) (h:d.length=n) (h1:1<=n) (hn:n<=1000):
  Calls Tryz.prog 109 #[.agg #[.int .i64 n,.slice A0 E.length c0],.int .i64 q,.slice a d.length cd] w fun e w'=>∃g gd gs i j,e= .returned (.pointer (some ⟨g,0,none⟩))/\SI w g gd gs i j n A0 c0 E q d (List.replicate n 0) w':=by
 subst h;exact DZ d.length q A0 c0 E a cd d w hd b rfl h1 hn
theorem D6 (k n:Nat) (A0:Option Addr) (c0:Nat) (E:List S83) (q:Nat) (z:Option Addr) (c2:Nat) (d s:List Int) (w:World) (J:Kd.C aQ w A0 E.length E) (am:E.length<=c0) (K:Kd.C (Kd.int .i64) w z d.length d) (L:d.length<=c2)
  (M:ik.f k n E q d=some 0) (l:ij n q E d) (N:kg n E q d s=true):
  Calls Tryz.prog 54 #[.agg #[.int .i64 n,.slice A0 E.length c0],.int .i64 q,.slice z d.length c2] w fun e w'=>∃gd gs m o,e= .returned (.tuple #[.slice (some ⟨gd,0,none⟩) n m,.slice (some ⟨gs,0,none⟩) n o,.int .i64 0])/\gd≠gs/\(Kd.int .i64).R 3 w' w.heap.size (fun _=>True) (.slice (some ⟨gd,0,none⟩) n m) (bP n E d s)/\(Kd.int .i64).R 3 w' w.heap.size (fun _=>True) (.slice (some ⟨gs,0,none⟩) n o) s/\Below w.heap.size w w':=by
 have hu:=Tryz.underlying24;have HG:=zA M;have O:=zA K;have P:=zA L;have a:=zA l;have F:=(qH l.right).1 N;have G:=zA F.2;have ao:=zA F.1;have Q:=zA l.dl;clear M K L F N;have S:=l.n1;have r:=l.n12;have p:=l.q;clear l;go_enter Tryz.func54,Tryz.ntmps54
 go_wp2_with (go_at_call 108;refine(ik.calls k n A0 c0 E q z c2 d 0 _ (Kd.bp J _) am (Kd.bp O.out _) P.out HG.out).mono ?_;rintro e w1 ⟨rfl,hb⟩;have H:=au (aU w (.cells #[.int .i64 n,.slice A0 E.length c0] 24)) hb;have y0:=(ah H 0).trans rfl;have y1:=(ah H 1).trans rfl;have B:=zA (aC (af (ai w.heap.size w) _) hb);clear hb H)
 refine(D5 n q A0 c0 E z c2 d w1 (Kd.al O.out B.out) P.out Q.out S (by omega)).mono ?_;rintro e w2 ⟨g,gd,gs,m,o,rfl,j⟩;have U:=zA j;have V:=zA (Kd.al J B.out);have W:=B.out.size;clear j y0 y1;go_wp2_with (go_at_call 110;refine(DX g gd gs m o n A0 c0 E q d w1 _ V.out a.out.right a.out.len a.out.conn r p a.out.val a.out.d Q.out U.out).mono ?_;rintro e w3 ⟨rfl,d3,s3,l1,l2,j,hp,dist,hle⟩;have X:=zA j;have Y:=zA (D3 a.out.right.wt p r a.out.val a.out.d l1 l2 hp hle);clear l1 l2 j hp hle U)
 refine(DK g gd gs m o n A0 c0 E q (fun v=>rd d (v:Nat)) (fun v=>rd (bP n E d s) (v:Nat)) (fun v=>rd s (v:Nat)) d3 s3 w1 w3 V.out a.out.right a.out.len a.out.conn r p a.out.val a.out.d G.out Y.out X.out).mono ?_;rintro e w4 ⟨rfl,d4,b,j,x,Z⟩;have aa:=zA j;have aB:=zA (x.bounds a.out.right.wt (a.out.right.conn a.out.conn) p r a.out.val a.out.d G.out);have I:ec n q (ae E) (fun v=>rd d (v:Nat)) (fun v=>rd d4 (v:Nat)) (fun v=>rd b (v:Nat)-rd b q):=⟨⟨x.jv,Z⟩,fun v i=>by
  have h:=T.kT n (ae E) (fun u=>rd b (u:Nat)) (fun _=>rd b q) v;rw[T.jl] at h;rw[h,x.eq v i];omega,by show rd b q-rd b q=0;omega⟩
 have HU:=zA (ec.unique a.out.right.wt (a.out.right.conn a.out.conn) p I G.out);have ag:=zA (ec.bound a.out.right.wt (a.out.right.conn a.out.conn) p r a.out.val a.out.d I);have ak:=zA x.dl;have D:=zA x.sl;clear j x Z I X Y;go_wp2_with (go_at_call 112;refine(D0 g gd gs m o n A0 c0 E q d4 b w1 _ S r p aa.out ak.out D.out (fun v i=>by have:=ag.out v i;omega) (fun v i=>by have h1: -31536<=rd b v-rd b q/\rd b v-rd b q<=31536/\_:=ag.out v i;have h2:=aB.out v i;omega)).mono ?_;rintro e w5 ⟨rfl,j⟩;have aF:=zA j;clear j aa)
 refine bodyPost_ret (results_tmp3 rfl _ _ _) rfl ?_;have e1:d4=bP n E d s:=vp ak.out (qF n E d s) (fun v i=>(HU.out v i).1);have e2:ej b (rd b q) n=s:=vp ((mg _ _ _).trans D.out) ao.out (fun v i=>by
  rw[nW _ _ _ _ (by rw[D.out];omega) (by rw[D.out];exact i),if_pos i];exact(HU.out v i).2)
 have y:=aF.out;rw[e1,e2] at y;exact⟨gd,gs,m,o,rfl,y.ne.1,Kd.bt y.d W,Kd.bt y.s W,aC B.out y.hb⟩
theorem eT.calls (k:Nat) (b:Int) (g:Option Addr) (i:Nat) (a:List (S83)) (j:Int) (l:Option Addr) (c2:Nat) (l2:List Int) (y:List Int) (z:List Int) (B:Int) (w:World) (D:Kd.C aQ w g a.length a) (E:a.length<=i) (F:Kd.C (Kd.int .i64) w l l2.length l2) (G:l2.length<=c2) (h:eT.f k b a j l2=some (y,z,B)):
  Calls Tryz.prog 54 #[.agg #[.int .i64 b,.slice g a.length i],.int .i64 j,.slice l l2.length c2] w fun e w'=>∃o p:Value,e= .returned (.tuple #[o,p,.int .i64 B])/\Kd.R (Kd.int .i64) 3 w' w.heap.size (fun r=>some r≠(p:Value).ownBlock) o y/\Kd.R (Kd.int .i64) 3 w' w.heap.size (fun r=>some r≠(o:Value).ownBlock) p z/\Below w.heap.size w w':=by
 unfold eT.f at h;obtain⟨e,he,u⟩:=Option.bind_eq_some_iff.1 h;clear h;have h:=u;by_cases v:e=0
 ·subst v
  rw[if_pos rfl] at h;by_cases x:jz b a j l2=true
  ·rw[if_pos x] at h
   obtain⟨n,q,rfl,rfl,hk⟩:=DF x;obtain⟨s,m,u⟩:=Option.bind_eq_some_iff.1 h;clear h;have h:=u;simp only[aq,Option.some.injEq,Prod.mk.injEq] at m h;obtain⟨rfl,rfl,rfl⟩:=h;refine(D6 k n g i a q l c2 l2 s w D E F G he hk (qG m)).mono ?_;rintro e w' ⟨gd,gs,K,L,rfl,H,hd,m,hb⟩;exact⟨_,_,rfl,Kd.bj (Kd.fm rfl hd) (fun k hk e=>H (by have:=hk.symm.trans e;injection this)),Kd.bj (Kd.fm rfl m) (fun k hk e=>H (by have:=e.symm.trans hk;injection this)),hb⟩
  ·rw[if_neg x] at h;cases h
 ·rw[if_neg v] at h
  injection h with h
  injection h with h1 h
  injection h with I J
  subst h1 I J;refine(D4 k b g i a j l c2 l2 e w D E F G he v).mono ?_;rintro e' w' ⟨rfl,hb⟩;exact⟨_,_,rfl,Kd.c_ _ _ _ _ _,Kd.c_ _ _ _ _ _,hb⟩
end
section
attribute [local go_sem] Oper.semAt_some
theorem D7 (W:World) (t:TypeId) {A B:Option Addr} {a b:List Int} {e cb:Nat} (h:Kd.C (Kd.int .i64) W A a.length a) (k:a.length<=e) (hb:Kd.C (Kd.int .i64) W B b.length b) (l:b.length<=cb):
  Kd.C (Kd.slice 3 (Kd.int .i64)) (W.alloc (.cells #[.slice A a.length e,.slice B b.length cb] t)) (some ⟨W.heap.size,0,none⟩) [a,b].length [a,b]:=by
 have g:=aU W (.cells #[.slice A a.length e,.slice B b.length cb] t);refine⟨rfl,by simp,fun _=>⟨_,rfl,fun j p hp=>?_⟩⟩;match j,hp with
 |0,hp=>
  obtain rfl:a=p:=by simpa using hp
  refine⟨[.slice A a.length e],rfl,⟨A,e,rfl,k,Kd.bp h _⟩,fun i u hu=>?_⟩;match i,hu with
  |0,hu=>
   obtain rfl:Value.slice A a.length e=u:=by simpa using hu
   rw[add_plain];exact(ah g 0).trans rfl
  |i+1,hu=>simp at hu
 |1,hp=>
  obtain rfl:b=p:=by simpa using hp
  refine⟨[.slice B b.length cb],rfl,⟨B,cb,rfl,l,Kd.bp hb _⟩,fun i u hu=>?_⟩;match i,hu with
  |0,hu=>
   obtain rfl:Value.slice B b.length cb=u:=by simpa using hu
   rw[add_plain];exact(ah g 1).trans rfl
  |i+1,hu=>simp at hu
 |j+2,hp=>simp at hp
end
def il.f (k:Nat) (b:Int) (e:List (S83)) (l1:List Int):Option (Bool×List Int×List Int×Int):=(eT.f k b e 0 l1).bind fun a=>(if a.2.2=0 then(if 0<(a.1.length:Int) then(some (decide ((rd a.1 0)>=0),a.1,a.2.1,0)) else(none)) else(some (false,([]:List Int),([]:List Int),a.2.2)))
theorem il.calls (k:Nat) (g:Int) (l:Option Addr) (m:Nat) (b:List (S83)) (q:Option Addr) (c1:Nat) (l1:List Int) (B:Bool) (D:List Int) (E:List Int) (F:Int) (w:World) (G:Kd.C aQ w l b.length b) (I:b.length<=m) (J:Kd.C (Kd.int .i64) w q l1.length l1) (K:l1.length<=c1) (h:il.f k g b l1=some (B,D,E,F)):
  Calls Tryz.prog 14 #[.agg #[.int .i64 g,.slice l b.length m],.slice q l1.length c1] w fun e w'=>∃u v:Value,e= .returned (.tuple #[.bool B,u,v,.int .i64 F])/\Kd.R (Kd.int .i64) 3 w' w.heap.size (fun x=>some x≠(v:Value).ownBlock) u D/\Kd.R (Kd.int .i64) 3 w' w.heap.size (fun x=>some x≠(u:Value).ownBlock) v E/\Below w.heap.size w w':=by
 have ak:=Tryz.underlying24;have L:=zA G;have M:=zA I;clear G I;have O:=zA J;have P:=zA K;clear J K;have a:=zA (ai w.heap.size w);unfold il.f at h;have H:=h;clear h;obtain⟨⟨t250,t253,t256⟩,Q,H⟩:=zo H;dsimp only at H;by_cases c4:t256=0
 ·rw[if_pos c4] at H
  obtain⟨U,V⟩:=da c4;clear c4;by_cases r:0<(t250.length:Int)
  ·rw[if_pos r] at H
   have am:=aA r;have an:decide (0<t250.length)=true:=aA (by omega);clear r;simp only[Option.some.injEq,Prod.mk.injEq] at H;obtain⟨rfl,rfl,rfl,rfl⟩:=H;go_enter Tryz.func14,Tryz.ntmps14
   go_wp2_with (first|((with_reducible refine aX (N:=2) rfl ?_);refine zX 2 #[.int .i64 g,.slice l b.length m] 24 ?_;intro W i w6 n hb;have j:=zA (n);have X:=zG a i;have Y:=zG a i;replace a:=zS a hb;clear hb n i;obtain⟨ap,ar,av,aB⟩:=aE j)|((with_reducible refine aT (f:=54) rfl ?_);refine zL (some 14) Tryz.func54 #[.agg #[.int .i64 g,.slice l b.length m],.int .i64 0,.slice q l1.length c1] ?_;(with_reducible refine(eT.calls k g _ _ b 0 _ _ l1 t250 t253 t256 _ ?aw ?ax ?dk ?dm Q.out).mono ?_);(case aw=>exact Kd.al L.out zB);(case ax=>exact M.out);(case dk=>exact Kd.al O.out zB);(case dm=>exact P.out);rintro e w8 ⟨Z,aa,rfl,o,p,hb⟩;refine⟨_,rfl,?_⟩;have s:=zA (Kd.bt o (cX zB));have S:=zA (Kd.bt p (cX zB));replace j:=zb j hb;replace a:=zS a hb;(try clear hb);(try clear o);(try clear p);obtain⟨aL,aO,ad⟩:=Kd.bE s.out;subst ad;have y:0<=(0:Int):=(by omega);have z:0<(t250.length:Int):=aD ‹_›;obtain⟨aP,ag,T⟩:=Kd.cP (Kd.a8 s.out).2.2 0 y z;cases ag;have aS:(0<t250.length)=True:=eq_true (by omega);(try rw[show ((0:Int)).toNat=0 from rfl] at T);(try rw[Addr.add_zero'] at T);replace y:=eq_true y;replace z:=eq_true z))
   refine bodyPost_ret (rO (rs:=[.tmp 4,.tmp 5,.tmp 6,.tmp 7]) rfl (by simp) (.tmp (.tmp (.tmp (.tmp .nil))))) rfl ?_;exact⟨_,_,zE,by(with_reducible repeat(first|apply Kd.aK|apply Kd.cO|apply Kd.bR));exact s.out,by(with_reducible repeat(first|apply Kd.aK|apply Kd.cO|apply Kd.bR));exact S.out,zB⟩
  ·rw[if_neg r] at H
   exact absurd H (by simp)
 ·rw[if_neg c4] at H
  obtain⟨U,V⟩:=db c4;simp only[Option.some.injEq,Prod.mk.injEq] at H;obtain⟨rfl,rfl,rfl,rfl⟩:=H;go_enter Tryz.func14,Tryz.ntmps14
  go_wp2_with (first|((with_reducible refine aX (N:=2) rfl ?_);refine zX 2 #[.int .i64 g,.slice l b.length m] 24 ?_;intro W i a0 n hb;have j:=zA (n);have X:=zG a i;have Y:=zG a i;replace a:=zS a hb;clear hb n i;obtain⟨a1,a2,a3,a4⟩:=aE j)|((with_reducible refine aT (f:=54) rfl ?_);refine zL (some 14) Tryz.func54 #[.agg #[.int .i64 g,.slice l b.length m],.int .i64 0,.slice q l1.length c1] ?_;(with_reducible refine(eT.calls k g _ _ b 0 _ _ l1 t250 t253 t256 _ ?aw ?ax ?dk ?dm Q.out).mono ?_);(case aw=>exact Kd.al L.out zB);(case ax=>exact M.out);(case dk=>exact Kd.al O.out zB);(case dm=>exact P.out);rintro e a5 ⟨Z,aa,rfl,o,p,hb⟩;refine⟨_,rfl,?_⟩;have s:=zA (Kd.bt o (cX zB));have S:=zA (Kd.bt p (cX zB));replace j:=zb j hb;replace a:=zS a hb;(try clear hb);(try clear o);(try clear p)))
  refine bodyPost_ret (rO (rs:=[.tmp 4,.tmp 5,.tmp 6,.tmp 7]) rfl (by simp) (.tmp (.tmp (.tmp (.tmp .nil))))) rfl ?_;exact⟨_,_,zE,by first|exact Kd.c_ _ _ _ _ _|exact Kd.jI _ _ _ _ _|exact Kd.V_nil _ _ _ _ _|exact Kd.Q_nil _ _ _ _ _|exact Kd.ja _ _ _ _ _,by first|exact Kd.c_ _ _ _ _ _|exact Kd.jI _ _ _ _ _|exact Kd.V_nil _ _ _ _ _|exact Kd.Q_nil _ _ _ _ _|exact Kd.ja _ _ _ _ _,zB⟩
def jA.f (k:Nat) (b:Int) (e:List (S83)):Option (Int):=(cD.f k b e).bind fun a=>(if a.2=0 then(if a.1=true then(some 0) else(some 13)) else(some a.2))
theorem jA.calls (k:Nat) (g:Int) (l:Option Addr) (m:Nat) (b:List (S83)) (r:Int) (w:World) (s:Kd.C aQ w l b.length b) (u:b.length<=m) (h:jA.f k g b=some r):
  Calls Tryz.prog 55 #[.agg #[.int .i64 g,.slice l b.length m]] w fun e w'=>e= .returned (.int .i64 r)/\Below w.heap.size w w':=by
 have D:=Tryz.underlying24;have o:=zA s;have p:=zA u;clear s u;have a:=zA (ai w.heap.size w);unfold jA.f at h;have H:=h;clear h;obtain⟨⟨t198,t199⟩,q,H⟩:=zo H;dsimp only at H;by_cases c3:t199=0
 ·rw[if_pos c3] at H
  obtain⟨z,B⟩:=da c3;clear c3;by_cases c4:t198=true
  ·subst c4
   replace H:=zi H;obtain rfl:=aR H;go_enter Tryz.func55,Tryz.ntmps55
   go_wp2_with (first|((with_reducible refine aX (N:=1) rfl ?_);refine zX 1 #[.int .i64 g,.slice l b.length m] 24 ?_;intro v i E n hb;have j:=zA (n);have x:=zG a i;have y:=zG a i;replace a:=zS a hb;clear hb n i;obtain⟨F,G,I,J⟩:=aE j)|((with_reducible refine aT (f:=113) rfl ?_);refine zL (some 7) Tryz.func113 #[.agg #[.int .i64 g,.slice l b.length m]] ?_;(with_reducible refine(cD.calls k g _ _ b true t199 _ ?aw ?ax q.out).mono ?_);(case aw=>exact Kd.al o.out zB);(case ax=>exact p.out);rintro e K ⟨rfl,hb⟩;refine⟨_,rfl,?_⟩;replace j:=zb j hb;replace a:=zS a hb;(try clear hb)))
   go_ret;exact⟨zE,zB⟩
  ·replace c4:=Bool.eq_false_iff.mpr c4
   subst c4;replace H:=zj H;obtain rfl:=aR H;go_enter Tryz.func55,Tryz.ntmps55
   go_wp2_with (first|((with_reducible refine aX (N:=1) rfl ?_);refine zX 1 #[.int .i64 g,.slice l b.length m] 24 ?_;intro v i L n hb;have j:=zA (n);have x:=zG a i;have y:=zG a i;replace a:=zS a hb;clear hb n i;obtain⟨M,O,P,Q⟩:=aE j)|((with_reducible refine aT (f:=113) rfl ?_);refine zL (some 7) Tryz.func113 #[.agg #[.int .i64 g,.slice l b.length m]] ?_;(with_reducible refine(cD.calls k g _ _ b false t199 _ ?aw ?ax q.out).mono ?_);(case aw=>exact Kd.al o.out zB);(case ax=>exact p.out);rintro e R ⟨rfl,hb⟩;refine⟨_,rfl,?_⟩;replace j:=zb j hb;replace a:=zS a hb;(try clear hb)))
   go_ret;exact⟨zE,zB⟩
 ·rw[if_neg c3] at H
  obtain⟨z,B⟩:=db c3;obtain rfl:=aR H;go_enter Tryz.func55,Tryz.ntmps55
  go_wp2_with (first|((with_reducible refine aX (N:=1) rfl ?_);refine zX 1 #[.int .i64 g,.slice l b.length m] 24 ?_;intro v i S n hb;have j:=zA (n);have x:=zG a i;have y:=zG a i;replace a:=zS a hb;clear hb n i;obtain⟨T,U,V,W⟩:=aE j)|((with_reducible refine aT (f:=113) rfl ?_);refine zL (some 7) Tryz.func113 #[.agg #[.int .i64 g,.slice l b.length m]] ?_;(with_reducible refine(cD.calls k g _ _ b t198 t199 _ ?aw ?ax q.out).mono ?_);(case aw=>exact Kd.al o.out zB);(case ax=>exact p.out);rintro e X ⟨rfl,hb⟩;refine⟨_,rfl,?_⟩;replace j:=zb j hb;replace a:=zS a hb;(try clear hb)))
  go_ret;exact⟨zE,zB⟩
theorem qK {n:Nat} {E:List S83} (g:E.length<=1000) (b:cE n E=0) (hp:partsOf E n=1):Ev (fun k=>cD.f k n E) (true,(0:Int)):=by
 obtain⟨h1,j,a⟩:=iH b;unfold cD.f;have e:=l5 (n:Int) E g;rw[b] at e;refine Ev.bind e ?_;have h:jh (n:Int) E=true:=by
  unfold jh;rw[aA (by omega),Bool.true_and];refine List.all_eq_true.2 fun x i=>?_
  have:=a.ok x i;simp[bA] at this⊢;omega
 simp only[if_true,if_pos h,aq];rw[show decide (bD (az E) n=1)=true from aA ((pT (by omega) (iy a.dZ)).2 ((iM (by omega) a).1 hp))];exact Ev.const _
theorem qL {l:List Int} {n:Nat} (h1:1<=n) (a:n<=12) (b:l.length=n) (hb:∀v:Nat,v<n-> -1048576<=rd l v/\rd l v<=1048576):kf l n=0:=vk.2 ⟨by omega,by omega,by omega,fun v e=>hb v (by omega)⟩
theorem D8 {n q:Nat} {E:List S83} {d:List Int} (h:ij n q E d) (b:cE n E=0):Ev (fun k=>ik.f k n E q d) 0:=by
 unfold ik.f;have h1:=h.q;refine Ev.bind (qK h.len b ((iM h.n1 h.right).2 h.conn)) ?_;simp only[if_true,if_neg (show ¬(q:Int)<0 by omega),if_neg (show ¬(q:Int)>=(n:Int) by omega)];refine Ev.bind (a:=(0:Int)) ?_ (Ev.const _);have:=nT d n (by have:=h.dl;have:=h.n12;omega);rw[qL h.n1 h.n12 h.dl (fun v e=>by have:=h.d v e;omega)] at this;exact this
theorem nX {n q:Nat} {E:List S83} {d:List Int} (h:ij n q E d) (a:cE n E=0):∃s,Ev (fun k=>eT.f k n E q d) (bP n E d s,s,(0:Int))/\s.length=n/\ec n q (ae E) (fun v=>rd d (v:Nat)) (fun v=>rd (bP n E d s) (v:Nat)) (fun v=>rd s (v:Nat)):=by
 obtain⟨s,h1,b,e⟩:=DE h.right h.conn h.q d;refine⟨s,?_,b,e⟩;unfold eT.f;refine Ev.bind (D8 h a) ?_;simp only[if_true,if_pos (h.ok a),aq];exact Ev.bind h1 (Ev.const _)
theorem D9 {n:Nat} {E:List S83} {d:List Int} (h:ij n 0 E d) (a:cE n E=0):∃s,Ev (fun k=>il.f k n E d) (decide (rd (bP n E d s) 0>=0),bP n E d s,s,(0:Int))/\s.length=n/\ec n 0 (ae E) (fun v=>rd d (v:Nat)) (fun v=>rd (bP n E d s) (v:Nat)) (fun v=>rd s (v:Nat)):=by
 obtain⟨s,h1,b,e⟩:=nX h a;refine⟨s,?_,b,e⟩;unfold il.f;refine Ev.bind h1 ?_;have:=h.n1;simp only[if_true,if_pos (show (0:Int)<((bP n E d s).length:Int) by rw[qF];omega)];exact Ev.const _
theorem D_ {n:Nat} {E:List S83} {d s:List Int} (h:ij n 0 E d) (b:ec n 0 (ae E) (fun v=>rd d (v:Nat)) (fun v=>rd (bP n E d s) (v:Nat)) (fun v=>rd s (v:Nat))):rd (bP n E d s) 0>=0↔T.bV n (ae E) (fun v=>rd d (v:Nat)):=by
 have g:=h.q;have he:T.bY n (ae E) (fun v=>rd d (v:Nat)) (fun v=>rd (bP n E d s) (v:Nat)):=⟨_,b.eq⟩;have e:=T.ni h.right.wt g b.red;constructor
 ·intro a
  exact(e.2 a).jY he.symm
 ·intro a
  exact e.1 (a.jY he)
section
namespace Small
variable {n q:Nat} {E:List S83}
def qM (n q:Nat) (E:List S83) (c:List Int):Bool:=(List.range n).all fun v=>decide (v=q)|| !bJ n (ae E) q (c.set v (rd c v+1))
theorem qN {c:List Int}:qM n q E c=true↔∀v,v<n->v≠q->bJ n (ae E) q (c.set v (rd c v+1))=false:=by
 unfold qM;rw[List.all_eq_true];constructor
 ·intro h v a b
  have:=h v (List.mem_range.2 a);rw[aY b,Bool.false_or,Bool.not_eq_true'] at this;exact this
 ·intro h v a
  by_cases e:v=q
  ·rw[aA e];rfl
  ·rw[aY e,Bool.false_or,Bool.not_eq_true']
   exact h v (List.mem_range.1 a) e
def fK (n q:Nat) (E:List S83):List (List Int):=(dQ n E q).filter fun c=>qM n q E c
theorem Ea (h:Small n q E) (u:eD n E q=0):Ev (fun k=>jt.f k n E q) (fK n q E,(0:Int)):=by
 unfold jt.f;refine Ev.bind (h.CE u) ?_;simp only[if_true];obtain⟨B,y⟩:=h.CW u;refine⟨B,fun K g=>?_⟩;have g:=y K g;have h1:kZ K n E q (dQ n E q)=true:=by
  unfold kZ;refine List.all_eq_true.2 fun c b=>List.all_eq_true.2 fun v i=>?_
  have z:=(h.nG b).1;by_cases a:v=q
  ·simp[a]
  ·obtain⟨r,j,m,_⟩:=g c b v (List.mem_range.2 (by have:=List.mem_range.1 i;omega)) a
   rw[j];simp[m]
 show (if kZ K n E q (dQ n E q)=true then some (List.filter (fun x=> !eE x q (iN K n E q x) x.length) (dQ n E q),(0:Int)) else none)=_
 rw[if_pos h1];congr 2
 refine List.filter_congr fun c b=>?_
 have z:=(h.nG b).1;rw[Bool.eq_iff_iff,qN];unfold eE;rw[Bool.not_eq_true',List.any_eq_false];constructor
 ·intro o v i a
  obtain⟨r,j,m,p⟩:=g c b v (List.mem_range.2 i) a;have s:=o v (List.mem_range.2 (by omega));rw[show iN K n E q c v=r by unfold iN;rw[j];rfl] at s;cases e:bJ n (ae E) q (c.set v (rd c v+1)) with
  |false=>rfl
  |true=>
   have:=p.2 e;rw[aA (show (v:Int)≠q by omega),aA this] at s;exact absurd rfl s
 ·intro o v i l
  have w:v<n:=by have:=List.mem_range.1 i;omega
  rw[Bool.and_eq_true,decide_eq_true_iff,decide_eq_true_iff] at l;have a:v≠q:=fun e=>l.1 (by omega)
  obtain⟨r,j,m,p⟩:=g c b v (List.mem_range.2 w) a;rw[show iN K n E q c v=r by unfold iN;rw[j];rfl] at l;have:=p.1 l.2;rw[o v w a] at this;cases this
end Small
end
namespace Small
theorem Eb {n q:Nat} {E:List S83} (h:Small n q E) {c:List Int} (m:c∈fK n q E):∃pos:Nat->Nat,T.eM n pos/\pos q=0/\∀v:Nat,v<n->rd (c.set q (-1)) v=T.nu n (ae E) pos v:=by
 have o:=h.q;have a:=h.right.wt;obtain⟨hm,p⟩:=List.mem_filter.1 m;obtain⟨c1,c2,c3,c4⟩:=(h.j9 c).1 hm;obtain⟨pos,r,b,g⟩:=T.pL a o ((k7 a).2 c4);have s:=qN.1 p;refine⟨pos,r,b,fun v i=>?_⟩;by_cases e:v=q
 ·subst e
  rw[dR (by omega),T.pM b]
 ·rw[eh (fun k=>e k.symm)]
  have hle:=(g v i e).2;refine Classical.byContradiction fun j=>?_
  have w:rd c (v:Nat)<T.nu n (ae E) pos v:=by
   have:rd c (v:Nat)<=T.nu n (ae E) pos v:=hle;omega
  have l:bJ n (ae E) q (c.set v (rd c v+1))=true:=(k7 a).1 ((T.pN a q pos).down fun u hu j=>by
   show rd (c.set v (rd c v+1)) (u:Nat)<=_
   by_cases e2:u=v
   ·subst e2;rw[dR (by omega)];omega
   ·rw[eh (fun k=>e2 k.symm)];exact(g u hu j).2)
  rw[s v i e] at l;cases l
end Small
section
def bL (S:List (Nat×Int×Int)):List (Nat×Nat):=S.map fun x=>(x.2.1.toNat,x.2.2.toNat)
def e8 (x:Nat×Nat):Int×Int:=((x.1:Int),(x.2:Int))
theorem mh (S:List (Nat×Int×Int)):(bL S).length=S.length:=by simp[bL]
theorem k9 {S:List (Nat×Int×Int)} {o:List Bool} (a:o.length=S.length):(T.arr (bL S) o).length=S.length:=by simp[T.arr,mh,a]
theorem vF {n:Nat} {S:List (Nat×Int×Int)} {o:List Bool} (h:dY n S) (b:o.length=S.length):cV S o S.length=(T.arr (bL S) o).map e8:=by
 refine List.ext_getElem (by rw[List.length_map,k9 b];simp[cV]) fun i h1 g=>?_
 have hi:i<S.length:=by simpa [cV] using h1
 obtain⟨e,a2,a3,a4⟩:=h i hi;have a:S.getD i (0,0,0)=S[i]:=by rw[aN,br hi];rfl
 have e2:o.getD i false=o[i]:=by rw[aN,br (by omega)];rfl
 rw[a] at e a2 a3 a4;simp only[cV,List.getElem_map,List.getElem_range,a,e2,T.arr,List.getElem_zipWith,bL,e8,jk,T.tl,T.hd];cases o[i] with
 |true=>simp;omega
 |false=>simp;omega
theorem vG {n:Nat} {S:List (Nat×Int×Int)} (h:dY n S):∀x∈bL S,x.1<n/\x.2<n:=fun x a=>by
 obtain⟨y,b,rfl⟩:=List.mem_map.1 a;obtain⟨i,hi,rfl⟩:=List.getElem_of_mem b;obtain⟨e,a2,a3,a4⟩:=h i hi;have g:S.getD i (0,0,0)=S[i]:=by rw[aN,br hi];rfl
 rw[g] at e a2 a3 a4;constructor
 ·show S[i].2.1.toNat<n;omega
 ·show S[i].2.2.toNat<n;omega
theorem qO {n:Nat}:∀{L:List (Nat×Nat)} {o:List Bool},(∀x∈L,x.1<n/\x.2<n)->∀x∈T.arr L o,x.1<n/\x.2<n
 |[],o,_,x,a=>by simp[T.arr] at a
 |y::L,[],_,x,a=>by simp[T.arr] at a
 |y::L,b::o,h,x,a=>by
  rw[T.arr,List.zipWith_cons_cons] at a;rcases List.mem_cons.1 a with rfl|a
  ·have:=h y (List.mem_cons_self ..)
   cases b
   ·exact⟨this.2,this.1⟩
   ·exact this
  ·exact qO (o:=o) (fun z e=>h z (List.mem_cons_of_mem _ e)) x a
theorem vH (x:Nat×Nat) (A:List (Nat×Nat)) (p:Nat->Bool) (u:Nat):T.cL (x::A) p u=T.cL A p u+if p x.1=true/\x.2=u then 1 else 0:=by
 unfold T.cL;rw[List.countP_cons];simp only[Bool.and_eq_true,decide_eq_true_eq];split<;>omega
theorem vI {n:Nat}:∀(A:List (Nat×Nat)) (L:List Int),L.length=n->(∀x∈A,x.2<n)->(∀u:Nat,u<n->0<=rd L u/\rd L u+A.length<=1000000)->∀u:Nat,u<n->rd ((A.map e8).foldl (fun l x=>l.set x.2.toNat (wrap64 (rd l x.2+1))) L) u=rd L u+T.cL A (fun _=>true) u
 |[],L,_,_,_,u,_=>by simp[T.cL]
 |x::A,L,b,a,hb,u,hu=>by
  have g:=a x (List.mem_cons_self ..);have h:=hb x.2 g;simp only[List.length_cons] at hb h;have hw:wrap64 (rd L (x.2:Nat)+1)=rd L (x.2:Nat)+1:=fV (by omega);rw[List.map_cons,List.foldl_cons];have h1:=vI A (L.set x.2 (rd L (x.2:Nat)+1)) (by rw[List.length_set];exact b) (fun y i=>a y (List.mem_cons_of_mem _ i)) (fun v j=>by
   have:=hb v j;by_cases e:x.2=v
   ·subst e;rw[dR (by omega)];omega
   ·rw[eh e];omega) u hu
  show rd ((A.map e8).foldl _ (L.set (x.2:Int).toNat (wrap64 (rd L (x.2:Int)+1)))) u=_
  rw[aq,hw,h1,vH];simp only[true_and];by_cases e:x.2=u
  ·subst e;rw[dR (by omega),if_pos rfl];omega
  ·rw[eh e,if_neg e];omega
theorem qP {n v:Nat}:∀(A:List (Nat×Nat)) (L:List Int),L.length=n->(∀x∈A,x.2<n)->(∀u:Nat,u<n-> -1000000<=rd L u-A.length/\rd L u<=1000000)->∀u:Nat,u<n->rd (dD v L (A.map e8)) u=rd L u-T.cL A (fun t=>decide (t=v)) u
 |[],L,_,_,_,u,_=>by simp[T.cL,dD]
 |x::A,L,j,a,hb,u,hu=>by
  have k:=a x (List.mem_cons_self ..);have l:=hb x.2 k;simp only[List.length_cons] at hb l;have hw:wrap64 (rd L (x.2:Nat)-1)=rd L (x.2:Nat)-1:=fV (by omega);rw[vH];simp only[decide_eq_true_eq];by_cases c:x.1=v
  ·have h1:=qP (v:=v) A (L.set x.2 (rd L (x.2:Nat)-1)) (by rw[List.length_set];exact j) (fun y b=>a y (List.mem_cons_of_mem _ b)) (fun w g=>by
    have:=hb w g;by_cases e:x.2=w
    ·subst e;rw[dR (by omega)];omega
    ·rw[eh e];omega) u hu
   have i:dD v L ((x::A).map e8)=dD v (L.set x.2 (rd L (x.2:Nat)-1)) (A.map e8):=by
    show (A.map e8).foldl _ (if(x.1:Int)=(v:Int) then L.set (x.2:Int).toNat (wrap64 (rd L (x.2:Int)-1)) else L)=_
    rw[if_pos (by omega),aq,hw];rfl
   rw[i,h1];by_cases e:x.2=u
   ·subst e;rw[dR (by omega),if_pos ⟨c,rfl⟩];omega
   ·rw[eh e,if_neg (fun h=>e h.2)];omega
  ·have h1:=qP (v:=v) A L j (fun y b=>a y (List.mem_cons_of_mem _ b)) (fun w g=>by have:=hb w g;omega) u hu
   have i:dD v L ((x::A).map e8)=dD v L (A.map e8):=by
    show (A.map e8).foldl _ (if(x.1:Int)=(v:Int) then L.set (x.2:Int).toNat (wrap64 (rd L (x.2:Int)-1)) else L)=_
    rw[if_neg (by omega)];rfl
   rw[i,h1,if_neg (fun h=>c h.1)];omega
theorem Ec {n:Nat} {A:List (Nat×Nat)} {on:List Nat} {W W':Nat->Int} (h:T.fg n A on W) (e:∀u,u<n->W' u=W u):T.fg n A on W':=⟨h.nd,h.lt,fun u hu=>by rw[e u hu];exact h.w u hu,h.up⟩
section
variable {n:Nat} {A:List (Nat×Nat)} {L0:List Int}
theorem Ed (g:∀x∈A,x.1<n/\x.2<n) (m:A.length<=100000) {W:List Int} {on:List Nat} (a:W.length=n) (hS:T.fg n A on (fun u=>rd W (u:Nat))) {v:Nat} (h:v<n) (i:rd W (v:Nat)=0):
  (dD v (W.set v (-1)) (A.map e8)).length=n/\T.fg n A (on++[v]) (fun u=>rd (dD v (W.set v (-1)) (A.map e8)) (u:Nat)):=by
 refine⟨by rw[pD,List.length_set,a],Ec (hS.step h i) fun u hu=>?_⟩;have b:∀w:Nat,w<n->rd (W.set v (-1)) (w:Nat)=if w=v then -1 else rd W (w:Nat):=fun w hw=>by
  by_cases e:w=v
  ·subst e;rw[dR (by omega),if_pos rfl]
  ·rw[eh (fun k=>e k.symm),if_neg e]
 rw[qP A (W.set v (-1)) (by rw[List.length_set,a]) (fun x j=>(g x j).2) (fun w hw=>by
  rw[b w hw];have h1:=hS.w w hw;have o:=T.lZ A (fun t=>decide (t∉on)) w;have p:=T.nm A (fun t=>decide (t∉on)) w;have q: -1<=rd W (w:Nat)/\rd W (w:Nat)<=A.length:=by
   have l:rd W (w:Nat)=if w∈on then -1 else T.cL A (fun t=>decide (t∉on)) w:=h1
   rw[l];split<;>omega
  split<;>omega) u hu,b u hu]
theorem qQ (b:∀x∈A,x.1<n/\x.2<n) (g:A.length<=100000) (j:L0.length=n) (k:∀u:Nat,u<n->rd L0 u=T.cL A (fun _=>true) u):∀(i:Nat) (p:List Int×List Int),e7 (A.map e8) L0 i=some p->p.1.length=n/\∃on:List Nat,on.length=i/\T.fg n A on (fun u=>rd p.1 (u:Nat))
 |0,p,h=>by injection h with h;subst h;exact⟨j,[],rfl,T.fg.start k⟩
 |i+1,p,h=>by
  obtain⟨r,h1,a⟩:=Option.bind_eq_some_iff.1 h;obtain⟨l,on,m,o⟩:=qQ b g j k i r h1;split at a
  ·cases a
  ·rename_i y
   injection a with a
   subst a;rcases pC r.1 0 with⟨e,_⟩|⟨v,z,e2,q,_⟩
   ·omega
   ·rw[e2]
    obtain⟨s,w⟩:=Ed b g l o (v:=v) (by omega) q;exact⟨s,on++[v],by simp[m],w⟩
theorem vJ (a:∀x∈A,x.1<n/\x.2<n) (b:A.length<=100000) (g:L0.length=n) (h:∀u:Nat,u<n->rd L0 u=T.cL A (fun _=>true) u) {pos:Nat->Nat} (hp:∀x∈A,pos x.1<pos x.2):∀i:Nat,i<=n->∃p,e7 (A.map e8) L0 i=some p
 |0,_=>⟨_,rfl⟩
 |i+1,hi=>by
  obtain⟨r,j⟩:=vJ a b g h hp i (by omega);obtain⟨q,on,s,k⟩:=qQ a b g h i r j;obtain⟨v,w,l⟩:=k.next (fun x m=>(a x m).1) hp (by omega);have o:¬idxOf r.1 0<0:=by
   rcases pC r.1 0 with⟨_,e⟩|⟨u,_,e,_,_⟩
   ·exact absurd l (e v (by omega))
   ·omega
  refine⟨(dD (idxOf r.1 0) (r.1.set (idxOf r.1 0).toNat (-1)) (A.map e8),r.2++[idxOf r.1 0]),?_⟩;rw[e7,j];exact if_neg o
end
theorem nY {n:Nat} {S:List (Nat×Int×Int)} {o:List Bool} (h:dY n S) (a:o.length=S.length) (hS:S.length<=100000) {u:Nat} (hu:u<n):rd (bz n S o) u=T.eB (bL S) o u:=by
 unfold bz eL;rw[vF h a,vI (n:=n) _ _ (by simp) (fun x b=>(qO (vG h) x b).2) (fun v e=>by
  have:rd (List.replicate n 0) (v:Nat)=0:=by simp[rd,aN,List.getElem?_replicate,e]
  rw[this,k9 a];omega) u hu,T.jo]
 have:rd (List.replicate n 0) (u:Nat)=0:=by simp[rd,aN,List.getElem?_replicate,hu]
 omega
theorem vK {n:Nat} {S:List (Nat×Int×Int)} {o:List Bool} (h:dY n S) (a:o.length=S.length) (hS:S.length<=100000):(e7 (cV S o S.length) (bz n S o) n).isSome=true↔∃pos:Nat->Nat,T.eM n pos/\T.fU (bL S) o pos:=by
 have b:=qO (n:=n) (o:=o) (vG h);have g:(T.arr (bL S) o).length<=100000:=by rw[k9 a];exact hS
 have i:(bz n S o).length=n:=lS _ _;have j:∀u:Nat,u<n->rd (bz n S o) u=T.cL (T.arr (bL S) o) (fun _=>true) u:=fun u hu=>by rw[nY h a hS hu,T.jo]
 rw[vF h a];constructor
 ·intro l
  obtain⟨p,hp⟩:=Option.isSome_iff_exists.1 l;obtain⟨s,on,m,q⟩:=qQ b g i j n p hp;obtain⟨pos,k,e⟩:=q.order (fun x r=>(b x r).2) m;exact⟨pos,k,T.pP.2 e⟩
 ·rintro⟨pos,k,e⟩
  obtain⟨p,hp⟩:=vJ b g i j (T.pP.1 e) n (aM _);rw[hp];rfl
theorem range_one {n q:Nat} (g:q<n):(List.range n).filter (fun v=>decide (v=q))=[q]:=by
 induction n with
 |zero=>omega
 |succ n a=>
  rw[List.range_succ,List.filter_append];by_cases e:q=n
  ·subst e
   have:(List.range q).filter (fun v=>decide (v=q))=[]:=List.filter_eq_nil_iff.2 fun x b=>by
    have:=List.mem_range.1 b;simp;omega
   rw[this];simp
  ·rw[a (by omega)]
   have e2:¬n=q:=fun h=>e h.symm
   simp[e2]
theorem Ee {L:List Int} {n q:Nat} (b:q<n):ff L n=[(q:Int)]↔∀v:Nat,v<n->(rd L v=0↔v=q):=by
 unfold ff;constructor
 ·intro h v a
  have hm:∀u:Nat,(u:Int)∈((List.range n).filter fun u:Nat=>decide (rd L u=0)).map (fun u:Nat=>(u:Int))↔u<n/\rd L u=0:=fun u=>by
   rw[List.mem_map];constructor
   ·rintro⟨w,hw,e⟩
    obtain rfl:w=u:=by omega
    rw[List.mem_filter,List.mem_range] at hw;exact⟨hw.1,aD hw.2⟩
   ·rintro⟨h1,g⟩
    exact⟨u,List.mem_filter.2 ⟨List.mem_range.2 h1,aA g⟩,rfl⟩
  rw[h] at hm;constructor
  ·intro i
   have:=(hm v).2 ⟨a,i⟩;rw[List.mem_singleton] at this;omega
  ·rintro rfl
   exact((hm v).1 (List.mem_singleton.2 rfl)).2
 ·intro h
  rw[List.filter_congr (q:=fun v=>decide (v=q)) fun v a=>by
   have:=h v (List.mem_range.1 a);rw[decide_eq_decide];exact this,range_one b]
  rfl
end
end Go.Proofs.YtffdiakgjakngaaGreat.P
namespace Go.Proofs.YtffdiakgjakngaaGreat.T
set_option linter.unusedVariables false
set_option linter.unusedSimpArgs false
set_option maxHeartbeats 8000000
set_option maxRecDepth 100000
def ed:List Bool->Option (List Bool)
 |[]=>none
 |b::l=>match ed l with
  |some l'=>some (b::l')
  |none=>if b=true then none else some (true::List.replicate l.length false)
def eU:Nat->List (List Bool)
 |0=>[[]]
 |n+1=>(eU n).map (fun l=>false::l)++(eU n).map (fun l=>true::l)
theorem qR:∀n,(eU n).length=2 ^ n
 |0=>rfl
 |n+1=>by simp only[eU,List.length_append,List.length_map,qR n,Nat.pow_succ];omega
theorem nZ:∀{n:Nat} {o:List Bool},o∈eU n↔o.length=n
 |0,o=>by simp[eU]
 |n+1,o=>by
  simp only[eU,List.mem_append,List.mem_map];constructor
  ·rintro(⟨l,a,rfl⟩|⟨l,a,rfl⟩)
   ·simp[nZ.1 a]
   ·simp[nZ.1 a]
  ·intro h
   cases o with
   |nil=>simp at h
   |cons b l=>
    have a:l∈eU n:=nZ.2 (by simpa using h);cases b with
    |true=>exact .inr ⟨l,a,rfl⟩
    |false=>exact .inl ⟨l,a,rfl⟩
theorem qS:∀n,(eU n).Nodup
 |0=>by simp[eU]
 |n+1=>by
  unfold eU;refine List.nodup_append.2 ⟨?_,?_,?_⟩
  ·exact List.Pairwise.map (R:=fun a b=>a≠b) _ (fun a b h e=>h (by injection e)) (qS n)
  ·exact List.Pairwise.map (R:=fun a b=>a≠b) _ (fun a b h e=>h (by injection e)) (qS n)
  ·intro a g b hb e
   obtain⟨x, -,rfl⟩:=List.mem_map.1 g;obtain⟨y, -,rfl⟩:=List.mem_map.1 hb;cases e
inductive en:List Bool->List (List Bool)->Prop
 |last {o:List Bool} (h:ed o=none):en o [o]
 |step {o a:List Bool} {xs:List (List Bool)} (h:ed o=some a) (r:en a xs):en o (o::xs)
theorem vL:∀{o a:List Bool},ed o=some a->a.length=o.length
 |[],a,h=>by simp[ed] at h
 |b::l,a,h=>by
  unfold ed at h;cases e:ed l with
  |some l'=>rw[e] at h;injection h with h;subst h;simp[vL e]
  |none=>
   rw[e] at h;cases b with
   |true=>simp at h
   |false=>simp at h;subst h;simp
theorem qT {b:Bool} {l l':List Bool} (h:ed l=some l'):ed (b::l)=some (b::l'):=by unfold ed;rw[h]
theorem vM {l:List Bool} (h:ed l=none):ed (true::l)=none:=by unfold ed;rw[h];rfl
theorem vN {l:List Bool} (h:ed l=none):ed (false::l)=some (true::List.replicate l.length false):=by unfold ed;rw[h];rfl
theorem en.Ef {o:List Bool} {xs:List (List Bool)} (h:en o xs):en (true::o) (xs.map fun l=>true::l):=by
 induction h with
 |last h=>exact .last (vM h)
 |step h _ a=>exact .step (qT h) a
theorem en.Eg {o:List Bool} {xs ys:List (List Bool)} (h:en o xs):∀{m:Nat},o.length=m->en (true::List.replicate m false) ys->en (false::o) ((xs.map fun l=>false::l)++ys):=by
 induction h with
 |last h=>intro m hm a;subst hm;exact .step (vN h) a
 |step h _ b=>intro m hm a;exact .step (qT h) (b (by rw[vL h,hm]) a)
theorem qU:∀n,en (List.replicate n false) (eU n)
 |0=>.last rfl
 |n+1=>(qU n).Eg (by simp) (qU n).Ef
theorem qV:∀m,ed (List.replicate m true)=none
 |0=>rfl
 |m+1=>vM (qV m)
theorem vO (m:Nat):∀p:List Bool,ed (p++false::List.replicate m true)=some (p++true::List.replicate m false)
 |[]=>by
  have h:=vN (qV m);rw[List.length_replicate] at h;exact h
 |b::p=>qT (vO m p)
theorem en.len {o:List Bool} {xs:List (List Bool)} (h:en o xs):0<xs.length:=by cases h<;>simp
theorem en.next {o b:List Bool} {xs:List (List Bool)} (h:en o xs) (a:ed o=some b):∃ys,xs=o::ys/\en b ys:=by
 cases h with
 |last h=>rw[h] at a;cases a
 |step h r=>rw[h] at a;injection a with a;subst a;exact⟨_,rfl,r⟩
theorem en.stop {o:List Bool} {xs:List (List Bool)} (h:en o xs) (a:ed o=none):xs=[o]:=by
 cases h with
 |last h=>rfl
 |step h r=>rw[h] at a;cases a
end Go.Proofs.YtffdiakgjakngaaGreat.T
namespace Go.Proofs.YtffdiakgjakngaaGreat.P
open Go.RowKit Go.Proofs.YtffdiakgjakngaaGreatW.PrintWords Go.Proofs.YtffdiakgjakngaaGreatW.PrintLast Go.Proofs.YtffdiakgjakngaaGreatW.PrintMore
set_option linter.unusedVariables false
set_option linter.unusedSimpArgs false
set_option maxHeartbeats 8000000
set_option maxRecDepth 100000
section
attribute [local go_sem] Oper.semAt_some
def fx (n:Nat) (S:List (Nat×Int×Int)) (q:Int) (o:List Bool):Bool:=(e7 (cV S o S.length) (bz n S o) n).isSome&&decide (ff (bz n S o) n=[q])
def uniq (n:Nat) (S:List (Nat×Int×Int)) (q:Int):List (List Bool):=(T.eU S.length).filter (fx n S q)
theorem Eh (W:World) (t:TypeId) (x:Int):Kd.C (Kd.int .i64) (W.alloc (.cells #[.int .i64 x] t)) (some ⟨W.heap.size,0,none⟩) [x].length [x]:=by
 have a:=aU W (.cells #[.int .i64 x] t);refine⟨rfl,by simp,fun _=>⟨_,rfl,fun j p hp=>?_⟩⟩;match j,hp with
 |0,hp=>
  obtain rfl:x=p:=by simpa using hp
  refine⟨[.int .i64 x],rfl,rfl,fun i u hu=>?_⟩;match i,hu with
  |0,hu=>
   obtain rfl:Value.int .i64 x=u:=by simpa using hu
   rw[add_plain];exact(ah a 0).trans rfl
  |i+1,hu=>simp at hu
 |j+1,hp=>simp at hp
theorem vP {b:Nat} (W:World) (t:TypeId) (x:Int) (h:W.heap.size=b):Kd.C (Kd.int .i64) (W.alloc (.cells #[.int .i64 x] t)) (some ⟨b,0,none⟩) [x].length [x]:=by subst h;exact Eh W t x
section
variable {w w':World} {bg bq c0 m:Nat} {n q:Int} {A0:Option Addr}
theorem UQ.mk (a:w'.heap[bg]? =some (.cells #[.int .i64 n,.slice A0 m c0] 24 (0,0))) (b:w'.heap[bq]? =some (.cells #[.int .i64 q] 3 (0,0))) (hb:Below w.heap.size w w'):
  w'.heap[bg]? =some (.cells #[.int .i64 n,.slice A0 m c0] 24 (0,0))/\w'.heap[bq]? =some (.cells #[.int .i64 q] 3 (0,0))/\w'.cell? ⟨bg,0,none⟩=some (.int .i64 n)/\w'.cell? ⟨bg,1,none⟩=some (.slice A0 m c0)/\w'.cell? ⟨bq,0,none⟩=some (.int .i64 q)/\Below w.heap.size w w':=
 ⟨a,b,(ah a 0).trans rfl,(ah a 1).trans rfl,(ah b 0).trans rfl,hb⟩
theorem UQ.alloc (b:w'.heap[bg]? =some (.cells #[.int .i64 n,.slice A0 m c0] 24 (0,0))) (e:w'.heap[bq]? =some (.cells #[.int .i64 q] 3 (0,0))) (hb:Below w.heap.size w w') (a:Obj):
  (w'.alloc a).heap[bg]? =some (.cells #[.int .i64 n,.slice A0 m c0] 24 (0,0))/\(w'.alloc a).heap[bq]? =some (.cells #[.int .i64 q] 3 (0,0))/\(w'.alloc a).cell? ⟨bg,0,none⟩=some (.int .i64 n)/\(w'.alloc a).cell? ⟨bg,1,none⟩=some (.slice A0 m c0)/\(w'.alloc a).cell? ⟨bq,0,none⟩=some (.int .i64 q)/\Below w.heap.size w (w'.alloc a):=
 UQ.mk (aj b a) (aj e a) (af hb a)
theorem UQ.step {w2:World} (b:w'.heap[bg]? =some (.cells #[.int .i64 n,.slice A0 m c0] 24 (0,0))) (e:w'.heap[bq]? =some (.cells #[.int .i64 q] 3 (0,0))) (hb:Below w.heap.size w w') (a:Below w'.heap.size w' w2):
  w2.heap[bg]? =some (.cells #[.int .i64 n,.slice A0 m c0] 24 (0,0))/\w2.heap[bq]? =some (.cells #[.int .i64 q] 3 (0,0))/\w2.cell? ⟨bg,0,none⟩=some (.int .i64 n)/\w2.cell? ⟨bg,1,none⟩=some (.slice A0 m c0)/\w2.cell? ⟨bq,0,none⟩=some (.int .i64 q)/\Below w.heap.size w w2:=
 UQ.mk (au b a) (au e a) (aC hb a)
end
theorem Ei (bg bq k n:Nat) (A0:Option Addr) (c0:Nat) (E:List S83) (i:Option Addr) (co:Nat) (o:List Bool) (S:List (Nat×Int×Int)) (q:Int) (w0 w:World) (m:Kd.C aQ w0 A0 E.length E) (p:E.length<=c0) (r:Kd.bool.C w i o.length o) (hn:n<=1000) (s:aW.f k n E=some 0) (u:cJ E=true) (hS:a6 E E.length=S) (v:o.length=S.length) (x:S.length<=1000000) (y:dY n S)
  (hb:Below w0.heap.size w0 w) (j:w.heap[bg]? =some (.cells #[.int .i64 n,.slice A0 E.length c0] 24 (0,0))) (F:w.heap[bq]? =some (.cells #[.int .i64 q] 3 (0,0))):
  Calls Tryz.prog 66 #[.slice i o.length co,.pointer (some ⟨bg,0,none⟩),.pointer (some ⟨bq,0,none⟩)] w fun e w'=>e= .returned (.bool (fx n S q o))/\Below w.heap.size w w':=by
 unfold fx;have hu:=Tryz.underlying24;have l:Aside0 (∀W,Below w.heap.size w W->_):=⟨fun W g=>AM k n A0 c0 E i co o S W (Kd.al m (aC hb g)) p (Kd.al r g) hn s u hS v x y⟩;have G:Aside0 (∀W,Below w.heap.size w W->_):=⟨fun W g=>AO k n A0 c0 E i co o S W (Kd.al m (aC hb g)) p (Kd.al r g) hn s u hS v x y⟩;have z:=zA (tu (bz n S o) n);have H:=zA j;have I:=zA F;have b0:w.cell? ⟨bg,0,none⟩=some (.int .i64 n):=(ah j 0).trans rfl;have b1:w.cell? ⟨bg,1,none⟩=some (.slice A0 E.length c0):=(ah j 1).trans rfl;clear m r s u hS v x y hb j F p;generalize ff (bz n S o) n=Z at G z⊢;generalize e7 (cV S o S.length) (bz n S o) n=R at l⊢;have N:Aside0 (Z.length<=1000000):=⟨Nat.le_trans z.out (by omega)⟩;clear z;obtain⟨ok,J⟩:∃b:Bool,b=R.isSome:=⟨_,rfl⟩;rw[<-J] at l⊢;clear J;go_enter Tryz.func66,Tryz.ntmps66
 go_wp2_with (go_at_call 67;refine(l.out _ (ai _ _)).mono ?_;rintro e w3 ⟨v3,rfl,h,a⟩;have K:=zA a;have B:=zA (au H.out a);have L:=zA (au I.out a);clear h a)
 clear b0 b1 l H I;cases ok with
 |false=>
  go_quiet (fail)
  go_wp2;go_ret;exact⟨rfl,cz K.out _⟩
 |true=>
  have U:w3.cell? ⟨bg,0,none⟩=some (.int .i64 n):=(ah B.out 0).trans rfl;have V:w3.cell? ⟨bg,1,none⟩=some (.slice A0 E.length c0):=(ah B.out 1).trans rfl;have X:w3.cell? ⟨bq,0,none⟩=some (.int .i64 q):=(ah L.out 0).trans rfl;have EQ:Aside0 (∀{D:Option Addr} {c4:Nat} {M:Option Addr} {O:Nat} (W:World),Kd.C (Kd.int .i64) W D Z.length Z->Kd.C (Kd.int .i64) W M [q].length [q]->Calls Tryz.prog 68 #[.slice D Z.length c4,.slice M 1 O] W fun e w'=>e= .returned (.bool (decide (Z=[q])))/\Below W.heap.size W w'):=⟨fun W h1 P=>AJ _ _ Z _ _ [q] W h1 P N.out (by simp)⟩;go_region_held3 (fun w'=>w'.heap[bg]? =some (.cells #[.int .i64 n,.slice A0 E.length c0] 24 (0,0))/\w'.heap[bq]? =some (.cells #[.int .i64 q] 3 (0,0))/\w'.cell? ⟨bg,0,none⟩=some (.int .i64 n)/\w'.cell? ⟨bg,1,none⟩=some (.slice A0 E.length c0)/\w'.cell? ⟨bq,0,none⟩=some (.int .i64 q)/\Below w.heap.size w w')
   (first
    |exact UQ.mk (dU B.out) (dU L.out) (bC K.out)
    |((try go_split_ands);refine⟨by assumption,by assumption,by assumption,by assumption,by assumption,by assumption⟩)
    |((try go_split_ands);exact UQ.alloc (by assumption) (by assumption) (by assumption) _)
    |((try go_split_ands);exact UQ.step (by assumption) (by assumption) (by assumption) (by assumption))
    |fail)
   (first
    |(go_at_call 69;refine(G.out _ (by go_split_ands;assumption)).mono ?_;rintro e Y ⟨v4,rfl,h,a⟩;obtain⟨D,c4,rfl⟩:=Kd.bE h)
    |(go_at_call 68;first
      |(with_reducible refine(EQ.out _ (Kd.a8 h).2.2 (Kd.al (Kd.gn (vP _ _ _ rfl)) a)).mono ?_;rintro e Q ⟨rfl,T⟩)
      |(with_reducible refine(EQ.out _ (Kd.bp (Kd.a8 h).2.2 _) (vP _ _ _ rfl)).mono ?_;rintro e Q ⟨rfl,T⟩)))
  all_goals rename_i hHeld
  all_goals go_wp2
  all_goals go_ret
  all_goals exact⟨rfl,by go_split_ands;assumption⟩
end
section
theorem lf {p l:List Int} {v:Nat} (h:v<p.length):rd (p++l) v=rd p v:=by simp[rd,aN,List.getElem?_append_left h]
theorem vQ (p:List Int) (x:Int):rd (p++[x]) p.length=x:=by simp[rd,aN]
def Lex (a b:List Int):Prop:=∃i:Nat,i<a.length/\(∀j:Nat,j<i->rd a j=rd b j)/\rd a i<rd b i
theorem Lex.irrefl (a:List Int):¬Lex a a:=fun⟨i,_,_,h⟩=>by omega
theorem vR (g:Nat->Nat):∀m,(dr g m).Pairwise Lex
 |0=>List.pairwise_singleton _ _
 |m+1=>by
  have h:=vR g m;simp only[dr,ji];rw[List.pairwise_flatMap];constructor
  ·intro p hp
   rw[List.pairwise_map];refine List.Pairwise.imp ?_ (List.pairwise_lt_range (n:=g m+1));intro x y v;refine⟨p.length,by simp,fun j e=>by rw[lf e,lf e],?_⟩;rw[vQ,vQ];omega
  ·refine List.Pairwise.imp_of_mem ?_ h
   intro p r hp k l x o y q;obtain⟨a,_,rfl⟩:=List.mem_map.1 o;obtain⟨b,_,rfl⟩:=List.mem_map.1 q;have l1:=kR _ _ _ hp;have l2:=kR _ _ _ k;obtain⟨i,h1,s,u⟩:=l;refine⟨i,by simp;omega,fun j e=>?_,?_⟩
   ·rw[lf (by omega),lf (by omega)];exact s j e
   ·rw[lf (by omega),lf (by omega)];exact u
theorem qW {a b:List Int} (e:a.length=b.length) (h:∀v:Nat,v<a.length->rd a v=rd b v):a=b:=by
 apply List.ext_getElem e
 intro i h1 g;have:=h i h1;simpa [rd,aN,br h1,br g] using this
theorem vS:∀{a b:List Int},a.length=b.length->a≠b->Lex a b\/Lex b a
 |[],[],_,h=>absurd rfl h
 |x::a,y::b,n,h=>by
  have e:∀(z:Int) (l:List Int) (u:Nat),rd (z::l) ((u+1:Nat):Int)=rd l (u:Int):=fun z l u=>by simp only[rd,aq,List.getD_cons_succ]
  have g:∀(z:Int) (l:List Int),rd (z::l) ((0:Nat):Int)=z:=fun z l=>rfl
  have up:∀{p r:List Int} {z:Int},Lex p r->Lex (z::p) (z::r):=fun {p r z} ⟨i,i1,i2,i3⟩=>⟨i+1,by simp;omega,fun j m=>by
   cases j with
   |zero=>rfl
   |succ j=>rw[e,e];exact i2 j (by omega),by rw[e,e];exact i3⟩
  rcases Int.lt_trichotomy x y with c|c|c
  ·exact .inl ⟨0,by simp,fun j m=>by omega,by rw[g,g];exact c⟩
  ·subst c
   rcases vS (a:=a) (b:=b) (by simpa using n) (fun k=>h (by rw[k])) with k|k
   ·exact .inl (up k)
   ·exact .inr (up k)
  ·exact .inr ⟨0,by simp,fun j m=>by omega,by rw[g,g];exact c⟩
namespace Small
variable {n q:Nat} {E:List S83}
theorem Ej (h:Small n q E):(dQ n E q).Pairwise Lex:=by
 rw[h.nF];exact(vR _ _).filter _
theorem Ek (h:Small n q E) (x:Int):((fK n q E).map fun c=>c.set q x).Pairwise Lex:=by
 rw[List.pairwise_map];refine List.Pairwise.imp_of_mem ?_ (h.Ej.filter _);intro a b k hb l;have o:=h.q;obtain⟨p,a2,a3,_⟩:=(h.j9 a).1 (List.mem_filter.1 k).1;obtain⟨b1,r,b3,_⟩:=(h.j9 b).1 (List.mem_filter.1 hb).1;obtain⟨i,i1,i2,i3⟩:=l;have g:q≠i:=fun e=>by subst e;omega
 refine⟨i,by rw[List.length_set];exact i1,fun j m=>?_,?_⟩
 ·by_cases e:q=j
  ·subst e;rw[dR (by omega),dR (by omega)]
  ·rw[eh e,eh e];exact i2 j m
 ·rw[eh g,eh g];exact i3
end Small
end
theorem El {i:Nat} (h:(i:Int)<9223372036854775807):wrap64 ((i:Int)+1)=((i+1:Nat):Int):=by unfold wrap64;omega
theorem Em (N:Int) (E:List S83) (m:E.length<=9223372036854775807) (i:Nat) (hi:i<E.length):Ev (fun k=>eC.f k N E i) (dt N (gK E i) (gL E i) (ab E i)):=by
 unfold eC.f;simp only[if_pos (show (0:Int)<=(i:Int) by omega),if_pos (show (i:Int)<(E.length:Int) by omega),Bw,Option.bind_some];generalize n:ab E i=x;have key:∀b:Bool,b= !bA N x->Ev (fun k=>eC.j0 k i b N E x.f0 x.f1 x.f2) (dt N (gK E i) (gL E i) x):=by
  rintro b rfl;refine Ev.of_succ ?_;simp only[eC.j0];cases h:bA N x with
  |false=>simp[dt,h];exact Ev.const _
  |true=>
   simp only[Bool.not_true,Bool.false_eq_true,if_false];have o:0<=x.f0:=by simp[bA] at h;omega
   by_cases l:x.f0>x.f1
   ·have e:dt N (gK E i) (gL E i) x=9:=by simp[dt,h,l]
    rw[e];simp only[if_pos l];exact Ev.const _
   ·simp only[if_neg l]
    by_cases a:i=0
    ·subst a
     have e:dt N (gK E 0) (gL E 0) x=0:=by
      unfold dt gK gL;rw[h,if_neg (by decide),if_neg (by simp;omega)]
     rw[e];simp;exact Ev.const _
    ·simp only[if_pos (show (i:Int)>0 by omega),show wrap64 ((i:Int)-1)=((i-1:Nat):Int) by unfold wrap64;omega,if_pos (show (0:Int)<=((i-1:Nat):Int) by omega),if_pos (show ((i-1:Nat):Int)<(E.length:Int) by omega)]
     unfold gK gL;rw[if_neg a,if_neg a];generalize ab E (i-1:Nat)=y;unfold dt;rw[h,if_neg (show ¬(true=false) by decide)];by_cases h1:x.f0<y.f0
     ·simp only[if_pos h1];rw[if_pos (.inl h1)];exact Ev.const _
     ·simp only[if_neg h1]
      by_cases g:x.f0=y.f0
      ·simp only[if_pos g]
       by_cases j:x.f1<=y.f1
       ·simp only[if_pos j];rw[if_pos (.inr (.inl ⟨g,j⟩))];exact Ev.const _
       ·simp only[if_neg j];rw[if_neg (by omega)];exact Ev.const _
      ·simp only[if_neg g];rw[if_neg (by omega)];exact Ev.const _
 by_cases a:0<=x.f0/\x.f0<N
 ·simp only[aA a,if_true]
  by_cases h1:0<=x.f1/\x.f1<N
  ·simp only[aA h1,if_true]
   by_cases g:x.f2<1
   ·simp only[if_pos g]
    exact key true (by simp[bA];omega)
   ·simp only[if_neg g]
    exact key _ (by unfold bA;by_cases j:x.f2>50<;>simp[j]<;>omega)
  ·simp only[aY h1,Bool.false_eq_true,if_false]
   exact key true (by simp[bA];omega)
 ·simp only[aY a,Bool.false_eq_true,if_false]
  exact key true (by simp[bA];omega)
theorem vT (N:Int) (E:List S83) (a:E.length<=9223372036854775807):∀(m i:Nat),i+m=E.length->Ev (fun k=>cM.l0 k i N E) (fI N (gK E i) (gL E i) (E.drop i))
 |0,i,hi=>by
  refine Ev.of_succ ?_;simp only[cM.l0,if_neg (show ¬((i:Int)<(E.length:Int)) by omega)];rw[List.drop_eq_nil_of_le (by omega)];exact Ev.const _
 |m+1,i,hi=>by
  have b:=vT N E a m (i+1) (by omega);refine Ev.of_succ ?_;simp only[cM.l0,if_pos (show (i:Int)<(E.length:Int) by omega)];rw[pR (by omega),fI];refine Ev.bind (Em N E a i (by omega)) ?_;have e:gK E (i+1)=(ab E i).f0:=by simp[gK]
  have g:gL E (i+1)=(ab E i).f1:=by simp[gL]
  rw[e,g] at b;by_cases h:dt N (gK E i) (gL E i) (ab E i)=0
  ·simp only[if_pos h,El (show (i:Int)<9223372036854775807 by omega)];exact b
  ·simp only[if_neg h];exact Ev.const _
theorem qX (N:Int) (E:List S83) (a:E.length<=9223372036854775807):Ev (fun k=>cM.f k N E) (cE N E):=by
 unfold cM.f cE;have key:∀b:Bool,b=decide (N<1\/N>12)->Ev (fun k=>cM.j0 k b N E) (if N<1\/N>12 then 2 else fI N (-1) (-1) E):=by
  rintro b rfl;refine Ev.of_succ ?_;simp only[cM.j0];by_cases h:N<1\/N>12
  ·simp[h];exact Ev.const _
  ·simp only[aY h,Bool.false_eq_true,if_false,if_neg h]
   have:=vT N E a E.length 0 (by omega);simpa [gK,gL] using this
 by_cases h:N<1
 ·simp only[if_pos h];exact key true (by simp[h])
 ·simp only[if_neg h];exact key _ (by simp[h])
theorem vU {α:Type} [DecidableEq α]:∀{a L:List α},a.Pairwise (· ≠ ·)->(∀x∈a,x∈L)->a.length<=L.length
 |[],_,_,_=>Nat.zero_le _
 |x::a,L,h,hm=>by
  rw[List.pairwise_cons] at h;have b:=hm x (List.mem_cons_self ..);have h1:=vU (L:=L.erase x) h.2 (fun y g=>(List.mem_erase_of_ne (fun e=>h.1 y g e.symm)).2 (hm y (List.mem_cons_of_mem _ g)));have i:=List.length_erase_of_mem b;have j:=List.length_pos_of_mem b;rw[List.length_cons];omega
def qY.f (k:Nat) (a:Int) (b:List (S83)):Option (Int):=(cM.f k a b).bind fun t149=>(if t149=0 then((j4.f k a b).bind fun t150=>(if t150=true then(some 0) else(some 13))) else(some t149))
end Go.Proofs.YtffdiakgjakngaaGreat.P


namespace Go.Proofs.YtffdiakgjakngaaGreat.P
open Go.RowKit Go.Proofs.YtffdiakgjakngaaGreatW.PrintWords Go.Proofs.YtffdiakgjakngaaGreatW.PrintLast Go.Proofs.YtffdiakgjakngaaGreatW.PrintMore
set_option linter.unusedVariables false
set_option linter.unusedSimpArgs false
set_option maxHeartbeats 8000000
set_option maxRecDepth 100000
def e9.l0:Nat->List Int->Int->Int->Option (Int)
 |0,_,_,_=>none
 |k+1,a,x3,x4=>if x4<(a.length:Int) then(if 0<=x4 then(e9.l0 k a (wrap64 (x3+(rd a x4))) (wrap64 (x4+1))) else(none)) else(some x3)
def e9.f (k:Nat) (l0:List Int):Option (Int):=e9.l0 k l0 0 0
theorem e9.calls (k:Nat) (A0:Option Addr) (c0:Nat) (l0:List Int) (r:Int) (w:World) (m:Kd.C (Kd.int .i64) w A0 l0.length l0) (n:l0.length<=c0) (h:e9.f k l0=some r):
  Calls Tryz.prog 22 #[.slice A0 l0.length c0] w fun e w'=>e= .returned (.int .i64 r)/\aJ w w':=by
 have q:=zA m;have x:=zA n;clear m n;have H:(e9.l0 k l0 0 0)=some r:=h;clear h;have b:=zA H;clear H;go_enter Tryz.func22,Tryz.ntmps22
 go_wp2;go_loopg [3,4] k (fun o v3 v4 w'=>∃(g:Int) (a:Int),v3= .int .i64 g/\v4= .int .i64 a/\Aside0 (e9.l0 o l0 g a=some r)/\Aside0 (o<=k)/\aJ w w')
 case atStart=>exact⟨(0),(0),zT,zT,b,⟨aM _⟩,by repeat(first|exact aJ.refl _|apply aJ.step)⟩
 case round=>
  clear b;obtain⟨g,a,rfl,rfl,i,p,⟨m1,rfl⟩⟩:=hrel;cases gk with
  |zero=>exact absurd i.out (by simp[e9.l0])
  |succ s=>
   have H:=i.out;clear i;simp only[e9.l0] at H;by_cases c2:a<(l0.length:Int)
   ·rw[if_pos c2] at H
    have u:=aA c2;clear c2;by_cases c3:0<=a
    ·rw[if_pos c3] at H
     have y:=aA c3;clear c3;have b:=zA H;clear H;have j:0<=(a:Int):=aD ‹_›;have l:a<(l0.length:Int):=aD ‹_›;obtain⟨z,v,B⟩:=Kd.cP q.out a j l;cases v;replace j:=eq_true j;replace l:=eq_true l;go_wp2;go_roundg s
     case measure=>have:=p.out;omega
     case rel=>exact⟨(wrap64 (g+(rd l0 a))),(wrap64 (a+1)),zT,zT,b,⟨by have:=p.out;omega⟩,by repeat(first|exact aJ.refl _|apply aJ.step)⟩
    ·rw[if_neg c3] at H
     exact absurd H (by simp)
   ·rw[if_neg c2] at H
    have u:=aY c2;clear c2;obtain rfl:=aR H;go_wp2;go_ret;exact⟨zT,by repeat(first|exact aJ.refl _|apply aJ.step)⟩
def jB.f (k:Nat) (a:Int) (b:List (S83)) (e:Int) (a2:Int):Option (Bool):=if(b.length:Int)>40 then(some false) else((cM.f k a b).bind fun t119=>(if t119=0 then(if a<=e then((iz.f a b).bind fun t120=>(some (decide (t120<=a2)))) else(some false)) else(some true)))
theorem jB.calls (k:Nat) (j:Int) (m:Option Addr) (n:Nat) (b:List (S83)) (u:Int) (a2:Int) (r:Bool) (w:World) (B:Kd.C aQ w m b.length b) (D:b.length<=n) (h:jB.f k j b u a2=some r):
  Calls Tryz.prog 97 #[.agg #[.int .i64 j,.slice m b.length n],.int .i64 u,.int .i64 a2] w fun e w'=>e= .returned (.bool r)/\Below w.heap.size w w':=by
 have L:=Tryz.underlying24;have q:=zA B;have s:=zA D;clear B D;have a:=zA (ai w.heap.size w);unfold jB.f at h;have H:=h;clear h;by_cases c4:(b.length:Int)>40
 ·rw[if_pos c4] at H
  have E:=aA c4;have F:decide (40<b.length)=true:=aA (by omega);clear c4;obtain rfl:=aR H;go_enter Tryz.func97,Tryz.ntmps97
  go_wp2_with (first|((with_reducible refine aX (N:=3) rfl ?_);refine zX 3 #[.int .i64 j,.slice m b.length n] 24 ?_;intro v i M l hb;have g:=zA (l);have x:=zG a i;have y:=zG a i;replace a:=zS a hb;clear hb l i;obtain⟨O,P,Q,R⟩:=aE g))
  go_ret;exact⟨zE,zB⟩
 ·rw[if_neg c4] at H
  have E:=aY c4;have F:decide (40<b.length)=false:=aY (by omega);clear c4;obtain⟨t119,z,H⟩:=zo H;by_cases p:t119=0
  ·rw[if_pos p] at H
   obtain⟨G,I⟩:=da p;clear p;by_cases o:j<=u
   ·rw[if_pos o] at H
    have J:=aA o;clear o;obtain⟨t120,K,H⟩:=zo H;obtain rfl:=aR H;go_enter Tryz.func97,Tryz.ntmps97
    go_wp2_with (first|((with_reducible refine aX (N:=3) rfl ?_);refine zX 3 #[.int .i64 j,.slice m b.length n] 24 ?_;intro v i S l hb;have g:=zA (l);have x:=zG a i;have y:=zG a i;replace a:=zS a hb;clear hb l i;obtain⟨T,U,V,W⟩:=aE g)|((with_reducible refine aT (f:=103) rfl ?_);refine zL (some 12) Tryz.func103 #[.agg #[.int .i64 j,.slice m b.length n]] ?_;(with_reducible refine(cM.calls k j _ _ b t119 _ ?aw ?ax z.out).mono ?_);(case aw=>exact Kd.al q.out zB);(case ax=>exact s.out);rintro e X ⟨rfl,hb⟩;refine⟨_,rfl,?_⟩;replace g:=zb g hb;replace a:=zS a hb;(try clear hb);obtain⟨Y,Z,aa,ad⟩:=aE g)|(go_at_call 73;(with_reducible refine(iz.calls j _ _ b t120 _ ?aw ?ax K.out).mono ?_);(case aw=>exact Kd.al q.out zB);(case ax=>exact s.out);rintro e ag ⟨rfl,hb⟩;replace g:=zb g hb;replace a:=zS a hb;(try clear hb)))
    go_ret;exact⟨zE,zB⟩
   ·rw[if_neg o] at H
    have J:=aY o;clear o;obtain rfl:=aR H;go_enter Tryz.func97,Tryz.ntmps97
    go_wp2_with (first|((with_reducible refine aX (N:=3) rfl ?_);refine zX 3 #[.int .i64 j,.slice m b.length n] 24 ?_;intro v i ak l hb;have g:=zA (l);have x:=zG a i;have y:=zG a i;replace a:=zS a hb;clear hb l i;obtain⟨am,an,ao,ap⟩:=aE g)|((with_reducible refine aT (f:=103) rfl ?_);refine zL (some 12) Tryz.func103 #[.agg #[.int .i64 j,.slice m b.length n]] ?_;(with_reducible refine(cM.calls k j _ _ b t119 _ ?aw ?ax z.out).mono ?_);(case aw=>exact Kd.al q.out zB);(case ax=>exact s.out);rintro e ar ⟨rfl,hb⟩;refine⟨_,rfl,?_⟩;replace g:=zb g hb;replace a:=zS a hb;(try clear hb);obtain⟨av,aB,aF,aL⟩:=aE g))
    go_ret;exact⟨zE,zB⟩
  ·rw[if_neg p] at H
   obtain⟨G,I⟩:=db p;obtain rfl:=aR H;go_enter Tryz.func97,Tryz.ntmps97
   go_wp2_with (first|((with_reducible refine aX (N:=3) rfl ?_);refine zX 3 #[.int .i64 j,.slice m b.length n] 24 ?_;intro v i aO l hb;have g:=zA (l);have x:=zG a i;have y:=zG a i;replace a:=zS a hb;clear hb l i;obtain⟨aP,aS,a0,a3⟩:=aE g)|((with_reducible refine aT (f:=103) rfl ?_);refine zL (some 12) Tryz.func103 #[.agg #[.int .i64 j,.slice m b.length n]] ?_;(with_reducible refine(cM.calls k j _ _ b t119 _ ?aw ?ax z.out).mono ?_);(case aw=>exact Kd.al q.out zB);(case ax=>exact s.out);rintro e a4 ⟨rfl,hb⟩;refine⟨_,rfl,?_⟩;replace g:=zb g hb;replace a:=zS a hb;(try clear hb)))
   go_ret;exact⟨zE,zB⟩
def fZ.f (k:Nat) (a:Int) (b:List (S83)):Option (Bool):=(jB.f k a b 5 7).bind fun t122=>(some t122)
theorem fZ.calls (k:Nat) (b:Int) (i:Option Addr) (j:Nat) (a:List (S83)) (r:Bool) (w:World) (n:Kd.C aQ w i a.length a) (o:a.length<=j) (h:fZ.f k b a=some r):
  Calls Tryz.prog 44 #[.agg #[.int .i64 b,.slice i a.length j]] w fun e w'=>e= .returned (.bool r)/\Below w.heap.size w w':=by
 have v:=Tryz.underlying24;have q:=zA n;have s:=zA o;clear n o;have g:=zA (ai w.heap.size w);have H:((jB.f k b a 5 7).bind fun t122=>(some t122))=some r:=h;clear h;obtain⟨t122,u,H⟩:=zo H;obtain rfl:=aR H;go_enter Tryz.func44,Tryz.ntmps44
 go_wp2_with (first|((with_reducible refine aX (N:=1) rfl ?_);refine zX 1 #[.int .i64 b,.slice i a.length j] 24 ?_;intro x l w3 p hb;have m:=zA (p);have y:=zG g l;have z:=zG g l;replace g:=zS g hb;clear hb p l;obtain⟨B,D,E,F⟩:=aE m)|((with_reducible refine aT (f:=97) rfl ?_);refine zL (some 4) Tryz.func97 #[.agg #[.int .i64 b,.slice i a.length j],.int .i64 5,.int .i64 7] ?_;(with_reducible refine(jB.calls k b _ _ a 5 7 t122 _ ?aw ?ax u.out).mono ?_);(case aw=>exact Kd.al q.out zB);(case ax=>exact s.out);rintro e G ⟨rfl,hb⟩;refine⟨_,rfl,?_⟩;replace m:=zb m hb;replace g:=zS g hb;(try clear hb)))
 go_ret;exact⟨zE,zB⟩
def En:List (Int×Int):=(List.range 12).flatMap fun a=>(List.range 12).map fun b:Nat=>(((a:Nat):Int),(b:Int))
theorem Eo {N:Int} {E:List S83} (g:N<=12) (h:a7 N E):E.length<=144:=by
 have h1:(E.map fun x=>(x.f0,x.f1)).length<=En.length:=by
  refine vU ?_ (fun p hp=>?_)
  ·rw[List.pairwise_map]
   refine h.order.imp fun {x y} a e=>?_
   injection e with i e2
   unfold fW at a;omega
  ·obtain⟨x,b,rfl⟩:=List.mem_map.1 hp
   have:=h.ok x b;simp[bA] at this;refine List.mem_flatMap.2 ⟨x.f0.toNat,List.mem_range.2 (by omega),List.mem_map.2 ⟨x.f1.toNat,List.mem_range.2 (by omega),?_⟩⟩;rw[Int.toNat_of_nonneg (by omega),Int.toNat_of_nonneg (by omega)]
 rw[List.length_map] at h1;exact h1
theorem Ep {n:Nat} {f:Nat->Nat->Int} (hf:∀u v,0<=f u v) {x:S83} (o:0<=x.f0/\x.f0<n) (h1:0<=x.f1/\x.f1<n) (p:1<=x.f2):
  (∀u v,0<=ct f x u v)/\T.sN (T.val n (ct f x)) n<=T.sN (T.val n f) n+2*x.f2:=by
 unfold ct;by_cases e:x.f0=x.f1
 ·simp only[if_pos e]
  exact⟨hf,by omega⟩
 ·simp only[if_neg e]
  refine⟨fun u v=>?_,?_⟩
  ·split
   ·omega
   ·split
    ·omega
    ·exact hf u v
  ·have i:x.f0.toNat<n:=by omega
   have hb:x.f1.toNat<n:=by omega
   have h:∀a u,0<=T.one a u:=fun a u=>by unfold T.one;split<;>omega
   have hle:∀u,u<n->T.val n (fun a b=>if a=x.f1.toNat/\b=x.f0.toNat then x.f2 else if a=x.f0.toNat/\b=x.f1.toNat then x.f2 else f a b) u<=T.val n f u+(T.one x.f1.toNat u*x.f2+T.one x.f0.toNat u*x.f2):=fun u hu=>by
    unfold T.val;have k:T.one x.f1.toNat u*x.f2=T.sN (fun v=>(T.one x.f1.toNat u*x.f2)*T.one x.f0.toNat v) n:=by rw[T.fu,T.gI i,Int.mul_one]
    have e2:T.one x.f0.toNat u*x.f2=T.sN (fun v=>(T.one x.f0.toNat u*x.f2)*T.one x.f1.toNat v) n:=by rw[T.fu,T.gI hb,Int.mul_one]
    rw[k,e2,<-T.de,<-T.de];refine T.cK fun v q=>?_
    have r:=hf u v;have s:0<=T.one x.f1.toNat u*x.f2*T.one x.f0.toNat v:=Int.mul_nonneg (Int.mul_nonneg (h _ _) (by omega)) (h _ _);have w:0<=T.one x.f0.toNat u*x.f2*T.one x.f1.toNat v:=Int.mul_nonneg (Int.mul_nonneg (h _ _) (by omega)) (h _ _);show (if u=x.f1.toNat/\v=x.f0.toNat then x.f2 else if u=x.f0.toNat/\v=x.f1.toNat then x.f2 else f u v)<=_
    split
    ·rename_i c
     have:T.one x.f1.toNat u*x.f2*T.one x.f0.toNat v=x.f2:=by unfold T.one;rw[if_pos c.1,if_pos c.2];omega
     omega
    ·split
     ·rename_i c
      have:T.one x.f0.toNat u*x.f2*T.one x.f1.toNat v=x.f2:=by unfold T.one;rw[if_pos c.1,if_pos c.2];omega
      omega
     ·omega
   have j:=T.cK hle;rw[T.de,T.de] at j;have l:T.sN (fun u=>T.one x.f1.toNat u*x.f2) n=x.f2:=by
    rw[T.bm (g:=fun u=>x.f2*T.one x.f1.toNat u) (fun u _=>Int.mul_comm _ _),T.fu,T.gI hb,Int.mul_one]
   have m:T.sN (fun u=>T.one x.f0.toNat u*x.f2) n=x.f2:=by
    rw[T.bm (g:=fun u=>x.f2*T.one x.f0.toNat u) (fun u _=>Int.mul_comm _ _),T.fu,T.gI i,Int.mul_one]
   rw[l,m] at j;omega
theorem vV {n:Nat}:∀(E:List S83) (f:Nat->Nat->Int),(∀u v,0<=f u v)->(∀x∈E,bA n x=true)->T.sN (T.val n (E.foldl ct f)) n<=T.sN (T.val n f) n+2*eF E
 |[],f,_,_=>by simp[eF]
 |x::E,f,hf,h=>by
  have e:=h x (List.mem_cons_self ..);simp[bA] at e;obtain⟨a,b⟩:=Ep (n:=n) hf (x:=x) (by omega) (by omega) (by omega);have i:=vV E (ct f x) a (fun y g=>h y (List.mem_cons_of_mem _ g));rw[List.foldl_cons,eF];omega
theorem Er {n:Nat} {E:List S83} (h:a7 n E):T.sN (T.val n (ae E)) n<=2*(bN E E.length:Nat):=by
 have h1:=vV (n:=n) E (fun _ _=>0) (fun _ _=>Int.le_refl _) h.ok;have b:T.sN (T.val n fun _ _=>0) n=0:=T.fs fun u _=>T.kS n
 have a:=nD h E.length (aM _);rw[List.take_length] at a;unfold ae;omega
def ki (N:Int) (E:List S83):Int:=if cE N E=0 then(if partsOf E N.toNat=1 then 0 else 13) else cE N E
theorem Es (N:Int) (E:List S83) (e:E.length<=9223372036854775807):Ev (fun k=>qY.f k N E) (ki N E):=by
 unfold qY.f ki;refine Ev.bind (qX N E e) ?_;by_cases b:cE N E=0
 ·obtain⟨h1,g,h⟩:=iH b
  obtain⟨n,rfl⟩:=Int.eq_ofNat_of_zero_le (show 0<=N by omega);have i:=Eo g h;simp only[if_pos b,aq];refine Ev.bind (a:=decide (partsOf E n=1)) ?_ ?_
  ·unfold j4.f
   refine Ev.bind (tY E (by omega) n (by omega)) ?_;rw[show (((partsOf E n:Nat):Int)==1)=decide (partsOf E n=1) by rw[Bool.eq_iff_iff];simp;omega];exact Ev.const _
  ·by_cases hp:partsOf E n=1
   ·simp only[aA hp,if_true,if_pos hp];exact Ev.const _
   ·simp only[aY hp,Bool.false_eq_true,if_false,if_neg hp];exact Ev.const _
 ·simp only[if_neg b];exact Ev.const _
theorem vW {N:Int} {E:List S83} (h:ki N E=0):cE N E=0/\partsOf E N.toNat=1:=by
 unfold ki at h;by_cases a:cE N E=0
 ·rw[if_pos a] at h
  by_cases hp:partsOf E N.toNat=1
  ·exact⟨a,hp⟩
  ·rw[if_neg hp] at h;cases h
 ·rw[if_neg a] at h;exact absurd h a
def lh (N:Int) (E:List S83):Bool:=decide (E.length<=40/\N<=5/\bN E E.length<=7)
theorem Et {N:Int} {E:List S83} (b:cE N E=0):Ev (fun k=>fZ.f k N E) (lh N E):=by
 unfold fZ.f jB.f lh;refine Ev.bind (a:=decide (E.length<=40/\N<=5/\bN E E.length<=7)) ?_ (Ev.const _);by_cases g:E.length>40
 ·simp only[if_pos (show (E.length:Int)>40 by omega)]
  rw[aY (fun h=>by omega)];exact Ev.const _
 ·simp only[if_neg (show ¬(E.length:Int)>40 by omega)]
  refine Ev.bind (qX N E (by omega)) ?_;simp only[if_pos b];by_cases e:N<=5
  ·simp only[if_pos e,iz.f,(iH b).2.2.nA (by omega),Option.bind_some,if_true]
   rw[show decide (((bN E E.length:Nat):Int)<=7)=decide (E.length<=40/\N<=5/\bN E E.length<=7) by congr 1;exact propext (by omega)];exact Ev.const _
  ·simp only[if_neg e]
   rw[aY (fun h=>by omega)];exact Ev.const _
def n9 (N:Int) (c:List Int):Int:=if(c.length:Int)=N then eR c else 8
def Eu (c:List Int):Bool:=c.all fun x=>decide (-100<=x/\x<=100)
structure Curve (n:Nat) (E:List S83) (d:List Int):Prop where
 check:cE n E=0
 small:∀q,q<n->Small n q E
 val:T.sN (T.val n (ae E)) n<=14
 dl:d.length=n
 low:∀v:Nat,v<n-> -100<=rd d v/\rd d v<=100
theorem Ew {N:Int} {E:List S83} {d:List Int} (h:ki N E=0) (a:n9 N d=0) (b:lh N E=true) (j:Eu d=true):∃n:Nat,N=n/\1<=n/\Curve n E d:=by
 obtain⟨g,j2⟩:=vW h;obtain⟨g1,g2,g3⟩:=iH g;obtain⟨n,rfl⟩:=Int.eq_ofNat_of_zero_le (show 0<=N by omega);rw[aq] at j2;unfold lh at b;rw[decide_eq_true_iff] at b;have hd:d.length=n:=by
  unfold n9 at a;by_cases e:(d.length:Int)=(n:Int)
  ·omega
  ·rw[if_neg e] at a;cases a
 refine⟨n,rfl,by omega,g,fun q k=>⟨g3,(iM (by omega) g3).1 j2,b.1,by omega,by omega,k,by omega⟩,?_,hd,fun v m=>?_⟩
 ·have:=Er g3
  omega
 ·have l:=List.all_eq_true.1 j
  have i:v<d.length:=by omega
  have:=l d[v] (List.getElem_mem i);rw[decide_eq_true_iff] at this;have e:rd d (v:Int)=d[v]:=by simp[rd,aN,br i]
  rw[e];exact this
section
end
section
attribute [local go_sem] Oper.semAt_some jN jO jP jQ
theorem Ex (l f:Nat):(Fence.wide.inRound l).fn f=True:=rfl
attribute [local simp] Ex
def gR (s:(Nat->Nat)×Nat) (x:Nat×Int×Int):(Nat->Nat)×Nat:=(dJ s.1 x.2.1.toNat x.2.2.toNat,if rootOf s.1 x.2.1.toNat=rootOf s.1 x.2.2.toNat then s.2+1 else s.2)
def qZ (xs:List (Nat×Int×Int)):(Nat->Nat)×Nat:=xs.foldl gR (id,0)
def q6 (N:Int) (E:List S83):Bool:=decide (0<=N/\N<=12)&&cJ E&&gC N E
def q9.f (k:Nat) (N:Int) (E:List S83):Option (Int×Int):=
 (aW.f k N E).bind fun e=>if e=0 then(if q6 N E=true then some (((qZ (a6 E E.length)).2:Nat),0) else none) else some (0,e)
end
def eH (E:List S83):List S83:=E.filter fun x=>decide (x.f0≠x.f1)
theorem oa {E:List S83} {x:S83}:x∈eH E↔x∈E/\x.f0≠x.f1:=by simp[eH]
theorem Ey (E:List S83):ae (eH E)=ae E:=by
 unfold ae eH;generalize (fun _ _=>(0:Int):Nat->Nat->Int)=f;induction E generalizing f with
 |nil=>rfl
 |cons x E a=>
  by_cases e:x.f0=x.f1
  ·rw[List.filter_cons_of_neg (by simp[e]),List.foldl_cons,a,show ct f x=f from if_pos e]
  ·rw[List.filter_cons_of_pos (by simp[e]),List.foldl_cons,List.foldl_cons,a]
theorem a7.eH {N:Int} {E:List S83} (h:a7 N E):a7 N (eH E):=
 ⟨fun x a=>h.ok x (oa.1 a).1,fun x a=>h.le x (oa.1 a).1,h.order.sublist (List.filter_sublist ..)⟩
theorem vX {N:Int}:∀{E:List S83} {a b:Int},(∀x∈E,bA N x=true/\x.f0<=x.f1/\(a<x.f0\/a=x.f0/\b<x.f1))->E.Pairwise fW->fI N a b E=0
 |[],_,_,_,_=>rfl
 |y::E,a,b,h,hp=>by
  obtain⟨g,i⟩:=List.pairwise_cons.1 hp;obtain⟨h1,j,k⟩:=h y (List.mem_cons_self ..);have he:dt N a b y=0:=by
   unfold dt;rw[h1,if_neg (by decide),if_neg (by omega)]
  rw[fI,if_pos he];exact vX (fun x e=>⟨(h x (List.mem_cons_of_mem _ e)).1,(h x (List.mem_cons_of_mem _ e)).2.1,g x e⟩) i
theorem Ez {N:Int} {E:List S83} (h1:1<=N) (b:N<=12) (h:a7 N E):cE N E=0:=by
 unfold cE;rw[if_neg (by omega)];refine vX (fun x a=>⟨h.ok x a,h.le x a,?_⟩) h.order;have:=h.ok x a;simp[bA] at this;omega
theorem eN.eH {n:Nat} {E:List S83} (h:eN n E):eN n (eH E):=fun S h1 b=>by
 obtain⟨x,g,a⟩:=h S h1 b;exact⟨x,oa.2 ⟨g,fun e=>a (by rw[e])⟩,a⟩
theorem vY {p q:Nat->Nat} (h:∀v,rootOf q v=rootOf p v):∀u,bD q u=bD p u
 |0=>rfl
 |u+1=>by rw[bD,bD,vY h u,h u]
theorem vZ {p q:Nat->Nat} {M m:Nat} (g:rootOf p M=M) (hm:rootOf p m=m) (a:m≠M) (h:∀v,rootOf q v=if rootOf p v=M then m else rootOf p v):∀u,bD q u+(if M<u then 1 else 0)=bD p u
 |0=>rfl
 |u+1=>by
  have b:=vZ g hm a h u;rw[bD,bD,h u];rcases Nat.lt_trichotomy u M with e|e|e
  ·have e2:rootOf p u≠M:=by have:=iD p u;omega
   rw[if_neg (by omega)] at b;rw[if_neg e2,if_neg (show ¬M<u+1 by omega)];omega
  ·subst e
   rw[if_neg (Nat.lt_irrefl _)] at b;rw[g,if_pos rfl,if_neg a,if_pos (Nat.lt_succ_self _),if_pos rfl];omega
  ·rw[if_pos e] at b
   rw[if_pos (show M<u+1 by omega)];by_cases e2:rootOf p u=M
   ·have i:m≠u:=fun j=>a (by rw[<-hm,j,e2])
    rw[if_pos e2,if_neg i,e2,if_neg (show ¬M=u by omega)];omega
   ·rw[if_neg e2]
    omega
theorem EA {n:Nat} (s:(Nat->Nat)×Nat) (x:Nat×Int×Int) (h1:x.2.1.toNat<n) (g:x.2.2.toNat<n):(gR s x).2+bD s.1 n=s.2+1+bD (gR s x).1 n:=by
 unfold gR;have a:=kW s.1 x.2.1.toNat x.2.2.toNat;have i:=kO s.1 x.2.1.toNat;have hb:=kO s.1 x.2.2.toNat;have j:=iD s.1 x.2.1.toNat;have lb:=iD s.1 x.2.2.toNat;by_cases e:rootOf s.1 x.2.1.toNat=rootOf s.1 x.2.2.toNat
 ·rw[if_pos e,vY (q:=dJ s.1 x.2.1.toNat x.2.2.toNat) (p:=s.1) (fun v=>by
   rw[a v,e,Nat.max_self,Nat.min_self];split
   ·rename_i h;exact h.symm
   ·rfl) n]
 ·rw[if_neg e]
  have b:=vZ (p:=s.1) (q:=dJ s.1 x.2.1.toNat x.2.2.toNat) (M:=max (rootOf s.1 x.2.1.toNat) (rootOf s.1 x.2.2.toNat)) (m:=min (rootOf s.1 x.2.1.toNat) (rootOf s.1 x.2.2.toNat))
   (by rw[Nat.max_def];split<;>assumption) (by rw[Nat.min_def];split<;>assumption) (by omega) a n
  rw[if_pos (by omega)] at b;dsimp only;omega
theorem v_ {n:Nat}:∀(xs:List (Nat×Int×Int)) (s:(Nat->Nat)×Nat),(∀x∈xs,x.2.1.toNat<n/\x.2.2.toNat<n)->(xs.foldl gR s).2+bD s.1 n=s.2+xs.length+bD (xs.foldl gR s).1 n
 |[],s,_=>by simp
 |x::xs,s,h=>by
  have h1:=EA s x (h x (List.mem_cons_self ..)).1 (h x (List.mem_cons_self ..)).2;have b:=v_ xs (gR s x) (fun y a=>h y (List.mem_cons_of_mem _ a));rw[List.foldl_cons,List.length_cons];omega
def mi (x:Nat×Int×Int):S83:=⟨x.2.1,x.2.2,1⟩
theorem wa:∀(xs:List (Nat×Int×Int)) (s:(Nat->Nat)×Nat),(xs.foldl gR s).1=(xs.map mi).foldl (fun p x=>dJ p x.f0.toNat x.f1.toNat) s.1
 |[],s=>rfl
 |x::xs,s=>by rw[List.foldl_cons,List.map_cons,List.foldl_cons,wa xs (gR s x)];rfl
theorem we:∀n,bD id n=n
 |0=>rfl
 |n+1=>by rw[bD,we n,kV (by simp),if_pos rfl]
theorem wg {E:List S83} {y:Nat×Int×Int} (h:y∈a6 E E.length):∃x∈E,y.2=(x.f0,x.f1):=by
 obtain⟨x,a,h1,b⟩:=m_ E _ (aM _) y h;exact⟨x,a,Prod.ext h1 b⟩
theorem wh {E:List S83} {i:Nat} (hi:i<E.length) (hm:1<=(ab E i).f2):∀{k:Nat},i<k->∃y∈a6 E k,y.2=((ab E i).f0,(ab E i).f1)
 |0,h=>by omega
 |k+1,h=>by
  by_cases e:i=k
  ·subst e
   obtain⟨j,a⟩:∃j,(ab E i).f2.toNat=j+1:=⟨(ab E i).f2.toNat-1,by omega⟩;refine⟨_,List.mem_append_right _ (by rw[a];exact List.mem_append_right _ (List.mem_singleton.2 rfl)),rfl⟩
  ·obtain⟨y,b,he⟩:=wh hi hm (k:=k) (by omega)
   exact⟨y,List.mem_append_left _ b,he⟩
theorem EB {n:Nat} {E:List S83} (e:a7 n E) (h:eN n E):eN n ((a6 E E.length).map mi):=fun S h1 g=>by
 obtain⟨x,a,j⟩:=h S h1 g;obtain⟨i,hi,rfl⟩:=List.getElem_of_mem a;have b:ab E i=E[i]:=by simp[ab,aN,br hi]
 have k:=e.ok _ a;simp[bA] at k;obtain⟨y,l,he⟩:=wh hi (by rw[b];omega) hi;rw[b] at he;refine⟨mi y,List.mem_map.2 ⟨y,l,rfl⟩,?_⟩;show S y.2.1.toNat≠S y.2.2.toNat
 rw[he];exact j
theorem EC {n:Nat} {E:List S83} (hn:1<=n) (a:a7 n E) (h:eN n E):(qZ (a6 E E.length)).2+n=(a6 E E.length).length+1:=by
 have i:∀x∈a6 E E.length,x.2.1.toNat<n/\x.2.2.toNat<n:=fun y b=>by
  obtain⟨x,e,he⟩:=wg b;have g:=a.ok x e;simp[bA] at g;rw[he];show x.f0.toNat<n/\x.f1.toNat<n
  omega
 have j:=v_ (n:=n) (a6 E E.length) (id,0) i;have hf:=wa (a6 E E.length) (id,0);have h1:bD (az ((a6 E E.length).map mi)) n=1:=(pT hn (fun z k=>by
  obtain⟨y,b,rfl⟩:=List.mem_map.1 k;obtain⟨x,e,he⟩:=wg b;have g:=a.ok x e;simp[bA] at g;show 0<=y.2.1/\y.2.1<n/\0<=y.2.2/\y.2.2<n/\(1:Int)<=1/\(1:Int)<=50
  rw[he];show 0<=x.f0/\x.f0<n/\0<=x.f1/\x.f1<n/\(1:Int)<=1/\(1:Int)<=50
  omega)).2 (EB a h)
 rw[show ((a6 E E.length).foldl gR (id,0)).1=az ((a6 E E.length).map mi) from hf,h1,we] at j;show ((a6 E E.length).foldl gR (id,0)).2+n=_
 omega
theorem val_step_eq {n:Nat} {f:Nat->Nat->Int} {x:S83} (j:0<=x.f0/\x.f0<n) (h1:0<=x.f1/\x.f1<n) (a:x.f0≠x.f1) (b:f x.f0.toNat x.f1.toNat=0) (e:f x.f1.toNat x.f0.toNat=0) {u:Nat} (hu:u<n):
  T.val n (ct f x) u=T.val n f u+(T.one x.f1.toNat u*x.f2+T.one x.f0.toNat u*x.f2):=by
 unfold ct;rw[if_neg a];have g:x.f0.toNat<n:=by omega
 have hb:x.f1.toNat<n:=by omega
 have k:x.f0.toNat≠x.f1.toNat:=by omega
 unfold T.val;have i:T.one x.f1.toNat u*x.f2=T.sN (fun v=>(T.one x.f1.toNat u*x.f2)*T.one x.f0.toNat v) n:=by rw[T.fu,T.gI g,Int.mul_one]
 have e2:T.one x.f0.toNat u*x.f2=T.sN (fun v=>(T.one x.f0.toNat u*x.f2)*T.one x.f1.toNat v) n:=by rw[T.fu,T.gI hb,Int.mul_one]
 rw[i,e2,<-T.de,<-T.de];refine T.bm fun v l=>?_
 unfold T.one;dsimp only;by_cases c1:u=x.f1.toNat/\v=x.f0.toNat
 ·rw[if_pos c1,if_pos c1.1,if_pos c1.2,if_neg (show ¬u=x.f0.toNat by omega),c1.1,c1.2,e];omega
 ·rw[if_neg c1]
  by_cases c2:u=x.f0.toNat/\v=x.f1.toNat
  ·rw[if_pos c2,if_pos c2.1,if_pos c2.2,if_neg (show ¬u=x.f1.toNat by omega),c2.1,c2.2,b];omega
  ·rw[if_neg c2]
   by_cases c3:u=x.f1.toNat
   ·rw[if_pos c3,if_neg (fun h=>c1 ⟨c3,h⟩),if_neg (show ¬u=x.f0.toNat by omega)];omega
   ·rw[if_neg c3]
    by_cases c4:u=x.f0.toNat
    ·rw[if_pos c4,if_neg (fun h=>c2 ⟨c4,h⟩)];omega
    ·rw[if_neg c4];omega
theorem ED {n:Nat} {f:Nat->Nat->Int} {x:S83} (b:0<=x.f0/\x.f0<n) (h1:0<=x.f1/\x.f1<n) (e:x.f0≠x.f1) (h:f x.f0.toNat x.f1.toNat=0) (i:f x.f1.toNat x.f0.toNat=0):
  T.sN (T.val n (ct f x)) n=T.sN (T.val n f) n+2*x.f2:=by
 have j:x.f0.toNat<n:=by omega
 have hb:x.f1.toNat<n:=by omega
 have a:=T.bm fun u hu=>val_step_eq b h1 e h i (u:=u) hu
 rw[T.de,T.de] at a;have k:T.sN (fun u=>T.one x.f1.toNat u*x.f2) n=x.f2:=by
  rw[T.bm (g:=fun u=>x.f2*T.one x.f1.toNat u) (fun u _=>Int.mul_comm _ _),T.fu,T.gI hb,Int.mul_one]
 have l:T.sN (fun u=>T.one x.f0.toNat u*x.f2) n=x.f2:=by
  rw[T.bm (g:=fun u=>x.f2*T.one x.f0.toNat u) (fun u _=>Int.mul_comm _ _),T.fu,T.gI j,Int.mul_one]
 rw[k,l] at a;omega
theorem wj {n:Nat}:∀(E:List S83) (f:Nat->Nat->Int),(∀x∈E,bA n x=true/\x.f0<x.f1/\f x.f0.toNat x.f1.toNat=0/\f x.f1.toNat x.f0.toNat=0)->E.Pairwise fW->T.sN (T.val n (E.foldl ct f)) n=T.sN (T.val n f) n+2*eF E
 |[],f,_,_=>by simp[eF]
 |x::E,f,h,hp=>by
  obtain⟨e,g⟩:=List.pairwise_cons.1 hp;obtain⟨h1,r,i,j⟩:=h x (List.mem_cons_self ..);simp[bA] at h1;have k:=ED (n:=n) (f:=f) (x:=x) (by omega) (by omega) (by omega) i j;have l:=wj E (ct f x) (fun y a=>by
   obtain⟨b,m,o,p⟩:=h y (List.mem_cons_of_mem _ a);have hb:=e y a;unfold fW at hb;have q:=b;simp[bA] at q;unfold ct;rw[if_neg (show ¬x.f0=x.f1 by omega)];refine⟨b,m,?_,?_⟩
   ·show (if _ then _ else _)=_
    rw[if_neg (by omega),if_neg (by omega)];exact o
   ·show (if _ then _ else _)=_
    rw[if_neg (by omega),if_neg (by omega)];exact p) g
  rw[List.foldl_cons,l,k,eF];omega
theorem q_ {n:Nat} {E:List S83} (h:a7 n E) (b:∀x∈E,x.f0≠x.f1):T.sN (T.val n (ae E)) n=2*(bN E E.length:Nat):=by
 have h1:=wj (n:=n) E (fun _ _=>0) (fun x a=>⟨h.ok x a,by have:=h.le x a;have:=b x a;omega,rfl,rfl⟩) h.order;have g:T.sN (T.val n fun _ _=>0) n=0:=T.fs fun u _=>T.kS n
 have e:=nD h E.length (aM _);rw[List.take_length] at e;unfold ae;omega
theorem EE {n:Nat} {E:List S83} (hn:1<=n) (m:n<=12) (o:E.length<=40) (e:cE n E=0) (hC:eN n E):
  ∃g:Nat,Ev (fun k=>q9.f k n (eH E)) ((g:Int),(0:Int))/\T.g_ n (ae E) g:=by
 have a:=(iH e).2.2.eH;have p:(eH E).length<=E.length:=List.length_filter_le _ _;have i:=EC hn a hC.eH;refine⟨(qZ (a6 (eH E) (eH E).length)).2,?_,?_⟩
 ·unfold q9.f
  have h:=l5 n (eH E) (by omega);rw[Ez (by omega) (by omega) a] at h;refine Ev.bind h ?_;have j:q6 n (eH E)=true:=by
   unfold q6 cJ;rw[a.dZ,aA (by omega),aA (show (eH E).length<=40 by omega)];simp only[Bool.true_and,Bool.and_true];refine List.all_eq_true.2 fun x b=>?_
   have:=a.ok x b;simp[bA] at this;exact aA (by omega)
  simp only[if_true,if_pos j];exact Ev.const _
 ·have h1:=q_ a (fun x b=>(oa.1 b).2)
  rw[Ey] at h1;show T.sN (T.can n (ae E)) n=_
  have l:T.sN (T.can n (ae E)) n=T.sN (T.val n (ae E)) n-2*n:=by
   show T.sN (fun v=>T.val n (ae E) v-2) n=_
   rw[T.ef,T.fT];omega
  rw[lP] at i;rw[l,h1];omega
section
theorem re:∀(L a:List (Nat×Nat)) (u v:Nat),T.mult (L++a) u v=T.mult L u v+T.mult a u v
 |[],a,u,v=>by show T.mult a u v=0+T.mult a u v;omega
 |x::L,a,u,v=>by
  show _+T.mult (L++a) u v=_+T.mult L u v+T.mult a u v
  rw[re L a u v];omega
def mj (x:S83) (u v:Nat):Int:=if x.f0.toNat=u/\x.f1.toNat=v\/x.f0.toNat=v/\x.f1.toNat=u then x.f2 else 0
theorem wk (s:Nat) (a b:Int) (u v:Nat):∀m,T.mult (bL (eK s a b m)) u v=if a.toNat=u/\b.toNat=v\/a.toNat=v/\b.toNat=u then(m:Int) else 0
 |0=>by simp[eK,bL,T.mult]
 |m+1=>by
  rw[eK,bL,List.map_append,re];have e:=wk s a b u v m;unfold bL at e;rw[e];show _+((if a.toNat=u/\b.toNat=v\/a.toNat=v/\b.toNat=u then 1 else 0)+0)=_
  split<;>omega
def jC (E:List S83) (u v:Nat):Int:=(E.map fun x=>mj x u v).sum
theorem wm {E:List S83} (a:∀x∈E,0<=x.f2) (u v:Nat):∀k,k<=E.length->T.mult (bL (a6 E k)) u v=jC (E.take k) u v
 |0,_=>by simp[a6,bL,T.mult,jC]
 |k+1,hk=>by
  have b:=wm a u v k (by omega);rw[a6,bL,List.map_append,re];unfold bL at b;have e:ab E k=E[k]:=by simp[ab,aN,br (show k<E.length by omega)]
  have g:=wk (bN E k) (ab E k).f0 (ab E k).f1 u v (ab E k).f2.toNat;unfold bL at g;rw[b,g,e,List.take_succ_eq_append_getElem (by omega)];unfold jC;rw[List.map_append,List.sum_append];have hp:=a E[k] (List.getElem_mem _);simp only[List.map_cons,List.map_nil,List.sum_cons,List.sum_nil];unfold mj;split<;>omega
theorem wu {n:Nat}:∀(E:List S83) (f:Nat->Nat->Int),(∀x∈E,bA n x=true/\x.f0<x.f1/\f x.f0.toNat x.f1.toNat=0/\f x.f1.toNat x.f0.toNat=0)->E.Pairwise fW->∀u v,E.foldl ct f u v=f u v+jC E u v
 |[],f,_,_,u,v=>by simp[jC]
 |x::E,f,h,hp,u,v=>by
  obtain⟨g,i⟩:=List.pairwise_cons.1 hp;obtain⟨h1,q,j,k⟩:=h x (List.mem_cons_self ..);simp[bA] at h1;rw[List.foldl_cons,wu (n:=n) E (ct f x) (fun y a=>by
   obtain⟨b,l,m,o⟩:=h y (List.mem_cons_of_mem _ a);have hb:=g y a;unfold fW at hb;have p:=b;simp[bA] at p;unfold ct;rw[if_neg (show ¬x.f0=x.f1 by omega)];refine⟨b,l,?_,?_⟩
   ·show (if _ then _ else _)=_
    rw[if_neg (by omega),if_neg (by omega)];exact m
   ·show (if _ then _ else _)=_
    rw[if_neg (by omega),if_neg (by omega)];exact o) i u v]
  have e:jC (x::E) u v=mj x u v+jC E u v:=by simp[jC]
  rw[e];have e2:ct f x u v=f u v+mj x u v:=by
   unfold ct mj;rw[if_neg (show ¬x.f0=x.f1 by omega)];by_cases c1:u=x.f1.toNat/\v=x.f0.toNat
   ·rw[if_pos c1,if_pos (.inr ⟨c1.2.symm,c1.1.symm⟩),c1.1,c1.2,k];omega
   ·rw[if_neg c1]
    by_cases c2:u=x.f0.toNat/\v=x.f1.toNat
    ·rw[if_pos c2,if_pos (.inl ⟨c2.1.symm,c2.2.symm⟩),c2.1,c2.2,j];omega
    ·rw[if_neg c2,if_neg ?_]
     ·omega
     ·rintro(c|c)
      ·exact c2 ⟨c.1.symm,c.2.symm⟩
      ·exact c1 ⟨c.2.symm,c.1.symm⟩
  omega
theorem EF {n:Nat} {E:List S83} (h:a7 n E) (b:∀x∈E,x.f0≠x.f1) (u v:Nat):T.mult (bL (a6 E E.length)) u v=ae E u v:=by
 have e:∀x∈E,0<=x.f2:=fun x a=>by have:=h.ok x a;simp[bA] at this;omega
 rw[wm e u v E.length (aM _),List.take_length];unfold ae;rw[wu (n:=n) E _ (fun x a=>⟨h.ok x a,by have:=h.le x a;have:=b x a;omega,rfl,rfl⟩) h.order u v];omega
theorem EG {n:Nat} {E:List S83} (h:a7 n E) (b:∀x∈E,x.f0≠x.f1):T.jm n (bL (a6 E E.length)):=fun x e=>by
 obtain⟨y,g,rfl⟩:=List.mem_map.1 e;obtain⟨z,a,h1,j⟩:=m_ E E.length (aM _) y g;have i:=h.ok z a;have k:=b z a;simp[bA] at i;refine⟨?_,?_,?_⟩
 ·show y.2.1.toNat<n;omega
 ·show y.2.2.toNat<n;omega
 ·show y.2.1.toNat≠y.2.2.toNat;omega
theorem EH {n:Nat} {E:List S83} (h:a7 n E):dY n (a6 E E.length):=fun j a=>by
 rw[show (a6 E E.length).getD j (0,0,0)=(a6 E E.length)[j] by rw[aN,br a];rfl];obtain⟨z,b,h1,g⟩:=m_ E E.length (aM _) _ (List.getElem_mem a);have e:=h.ok z b;simp[bA] at e;omega
def cT (n:Nat) (S:List (Nat×Int×Int)) (o:List Bool):List Int:=b9 (bz n S o) n n
theorem ml (n:Nat) (S:List (Nat×Int×Int)) (o:List Bool):(cT n S o).length=n:=nf _ _ _
section
variable {n q:Nat} {E:List S83} {S:List (Nat×Int×Int)}
theorem kj (h:dY n S) (i:S.length<=100000) {o:List Bool} (a:o.length=S.length) {v:Nat} (b:v<n):rd (cT n S o) v=T.eB (bL S) o v-1:=by
 have h1:=nY h a i b;have j:=T.lZ (T.arr (bL S) o) (fun _=>true) v;have g:=T.nm (T.arr (bL S) o) (fun _=>true) v;rw[k9 a] at g;rw[<-T.jo] at j g;have e:rd (cT n S o) v=wrap64 (rd (bz n S o) v-1):=by
  simp[cT,b9,rd,aN,List.getElem?_map,List.getElem?_range,b]
 rw[e,h1];exact fV (by omega)
theorem kl (i:q<n) (b:dY n S) (e:S.length<=100000) {o:List Bool}:o∈uniq n S q↔o.length=S.length/\(∃pos,T.eM n pos/\T.fU (bL S) o pos)/\∀v:Nat,v<n->(T.eB (bL S) o v=0↔v=q):=by
 unfold uniq fx;rw[List.mem_filter,T.nZ,Bool.and_eq_true,decide_eq_true_iff,Ee i];constructor
 ·rintro⟨h1,g,h⟩
  exact⟨h1,(vK b h1 e).1 g,fun v a=>by rw[<-nY b h1 e a];exact h v a⟩
 ·rintro⟨h1,g,h⟩
  exact⟨h1,(vK b h1 e).2 g,fun v a=>by rw[nY b h1 e a];exact h v a⟩
structure fL (n q:Nat) (E:List S83) (S:List (Nat×Int×Int)):Prop where
 small:Small n q E
 ok:dY n S
 len:S.length<=100000
 rf:T.jm n (bL S)
 mult:∀u v,T.mult (bL S) u v=ae E u v
theorem fL.nu (h:fL n q E S) {o:List Bool} (a:o.length=S.length) {pos:Nat->Nat} (e:T.fU (bL S) o pos) {v:Nat} (b:v<n):rd (cT n S o) v=T.nu n (ae E) pos v:=by
 rw[kj h.ok h.len a b,T.nj (by rw[mh];exact a) h.rf e v b];unfold T.nu;rw[T.Bl fun u _=>h.mult v u]
theorem fL.mem (h:fL n q E S) {g:Int} (B:T.g_ n (ae E) g) (x:List Int):x∈(uniq n S q).map (cT n S)↔x∈(Small.fK n q E).map fun c=>c.set q (-1):=by
 have i:=h.small;have j:=i.q;have b:=i.right.wt;rw[List.mem_map,List.mem_map];constructor
 ·rintro⟨o,K,rfl⟩
  obtain⟨C,⟨pos,hi,m⟩,D⟩:=(kl j h.ok h.len).1 K;have r:∀v:Nat,v<n->rd (cT n S o) v=T.nu n (ae E) pos v:=fun v a=>h.nu C m a
  have s:∀v:Nat,v<n->rd (cT n S o) v=T.eB (bL S) o v-1:=fun v a=>kj h.ok h.len C a
  have L:∀v:Nat,0<=T.eB (bL S) o v:=fun v=>by rw[T.jo];exact T.lZ _ _ _
  have F:=ml n S o;generalize cT n S o=x at r s F;have G:rd x (q:Nat)= -1:=by rw[s q j,(D q j).2 rfl];rfl
  have l:∀v:Nat,v≠q->rd (x.set q 0) (v:Nat)=rd x (v:Nat):=fun v e=>eh (fun k=>e k.symm) _
  have H:rd (x.set q 0) (q:Nat)=0:=dR (by omega) _;have M:∀v:Nat,v<n->v≠q->0<=rd x (v:Nat):=fun v a e=>by
   have h1:=L v;have N:=s v a;have O:T.eB (bL S) o v≠0:=fun k=>e ((D v a).1 k)
   omega
  have P:x.set q 0∈dQ n E q:=(i.j9 _).2 ⟨by rw[List.length_set];exact F,fun v=>by
   by_cases e:v=q
   ·subst e;rw[H];exact Int.le_refl _
   ·by_cases a:v<n
    ·rw[l v e];exact M v a e
    ·rw[nI (by rw[List.length_set];omega)];exact Int.le_refl _,H,(k7 b).1 ((T.pN b q pos).down fun v a e=>by
    show rd (x.set q 0) (v:Nat)<=_
    rw[l v e,r v a];exact Int.le_refl _)⟩
  refine⟨x.set q 0,List.mem_filter.2 ⟨P,Small.qN.2 fun v a e=>?_⟩,?_⟩
  ·refine Bool.eq_false_iff.2 fun Q=>?_
   obtain⟨pos',p,I,w⟩:=T.pL b j ((k7 b).2 Q);have hle:∀u,u<n->rd x (u:Nat)+T.one v u<=T.nu n (ae E) pos' u:=fun u hu=>by
    by_cases e2:u=q
    ·subst e2
     rw[T.pM I,G];unfold T.one;rw[if_neg (fun k=>e k.symm)];exact Int.le_refl _
    ·have h1:=(w u hu e2).2
     have N:rd ((x.set q 0).set v (rd (x.set q 0) (v:Nat)+1)) (u:Nat)=rd x (u:Nat)+T.one v u:=by
      unfold T.one;by_cases y:u=v
      ·subst y;rw[dR (by rw[List.length_set];omega),if_pos rfl,l u e2]
      ·rw[eh (fun k=>y k.symm),if_neg y,l u e2];omega
     have O:rd ((x.set q 0).set v (rd (x.set q 0) (v:Nat)+1)) (u:Nat)<=T.nu n (ae E) pos' u:=h1;omega
   have R:=T.cK hle;rw[T.de,T.gI a,T.lY b B p,T.bm r,T.lY b B hi] at R;omega
  ·refine qW (by simp) fun v a=>?_
   rw[List.length_set,List.length_set] at a;by_cases e:v=q
   ·subst e;rw[dR (by rw[List.length_set];omega),G]
   ·rw[eh (fun k=>e k.symm),l v e]
 ·rintro⟨c,J,rfl⟩
  obtain⟨pos,p,I,w⟩:=i.Eb J;obtain⟨c1,c2,c3,c4⟩:=(i.j9 c).1 (List.mem_filter.1 J).1;have z:(T.jn pos (bL S)).length=S.length:=by simp[T.jn,mh]
  have m:=T.tJ p h.rf;have heq:cT n S (T.jn pos (bL S))=c.set q (-1):=qW (by rw[ml,List.length_set,c1]) fun v a=>by
   rw[ml] at a;rw[h.nu z m a,w v a]
  refine⟨T.jn pos (bL S),(kl j h.ok h.len).2 ⟨z,⟨pos,p,m⟩,fun v a=>?_⟩,heq⟩;have h1:=kj h.ok h.len z a;rw[heq] at h1;by_cases e:v=q
  ·subst e
   rw[dR (by omega)] at h1;exact⟨fun _=>rfl,fun _=>by omega⟩
  ·rw[eh (fun k=>e k.symm)] at h1
   have:=c2 v;exact⟨fun k=>by omega,fun k=>absurd k e⟩
theorem fL.inj (h:fL n q E S) {o a:List Bool} (j:o∈uniq n S q) (k:a∈uniq n S q) (he:cT n S o=cT n S a):o=a:=by
 have b:=h.small.q;obtain⟨e,⟨pos,hi,l⟩,_⟩:=(kl b h.ok h.len).1 j;obtain⟨g,⟨pos',hi',m⟩,_⟩:=(kl b h.ok h.len).1 k;have hw:T.Wt n (T.mult (bL S)):=by
  have:=h.small.right.wt;exact⟨fun u v=>by rw[h.mult];exact this.pos u v,fun u v=>by rw[h.mult,h.mult];exact this.sym u v,fun v=>by rw[h.mult];exact this.self v⟩
 refine T.Bo hw h.rf (by rw[mh];exact e) (by rw[mh];exact g) hi hi' l m fun v i=>?_
 have h1:=kj h.ok h.len e i;have p:=kj h.ok h.len g i;rw[he] at h1;omega
theorem fL.nodup (h:fL n q E S):((uniq n S q).map (cT n S)).Nodup:=by
 unfold List.Nodup;rw[List.pairwise_map];have e:(uniq n S q).Nodup:=by unfold uniq;exact(T.qS S.length).filter _
 refine List.Pairwise.imp_of_mem ?_ e;intro a b g hb i he;exact i (h.inj g hb he)
theorem fL.count (h:fL n q E S) {g:Int} (j:T.g_ n (ae E) g):(uniq n S q).length=((Small.fK n q E).map fun c=>c.set q (-1)).length:=by
 have h1:=T.l4 h.nodup fun x i=>(h.mem j x).1 i
 have k:=T.l4 (l:=(Small.fK n q E).map fun c=>c.set q (-1)) (l':=(uniq n S q).map (cT n S)) ((h.small.Ek (-1)).imp fun {a b} m e=>by subst e;exact Lex.irrefl _ m) fun x i=>(h.mem j x).2 i
 simp only[List.length_map] at h1 k⊢;omega
end
end
section
attribute [local go_sem] Oper.semAt_some
end
end Go.Proofs.YtffdiakgjakngaaGreat.P
namespace Go.Proofs.YtffdiakgjakngaaGreat.P
open Go.RowKit Go.Maps Go.Proofs.YtffdiakgjakngaaGreatW.PrintWords Go.Proofs.YtffdiakgjakngaaGreatW.PrintLast Go.Proofs.YtffdiakgjakngaaGreatW.PrintMore
set_option linter.unusedVariables false
set_option linter.unusedSimpArgs false
set_option maxHeartbeats 8000000
set_option maxRecDepth 100000
section
end
end Go.Proofs.YtffdiakgjakngaaGreat.P
namespace Go.Proofs.YtffdiakgjakngaaGreat.P
open Go.RowKit Go.Proofs.YtffdiakgjakngaaGreatW.PrintWords Go.Proofs.YtffdiakgjakngaaGreatW.PrintLast Go.Proofs.YtffdiakgjakngaaGreatW.PrintMore
set_option linter.unusedVariables false
set_option linter.unusedSimpArgs false
set_option maxHeartbeats 8000000
set_option maxRecDepth 100000
section
attribute [local go_sem] Oper.semAt_some jN jO jP jQ
end
end Go.Proofs.YtffdiakgjakngaaGreat.P
namespace Go.Proofs.YtffdiakgjakngaaGreat.P
open Go.RowKit Go.Maps Go.Proofs.YtffdiakgjakngaaGreatW.PrintWords Go.Proofs.YtffdiakgjakngaaGreatW.PrintLast Go.Proofs.YtffdiakgjakngaaGreatW.PrintMore
set_option linter.unusedVariables false
set_option linter.unusedSimpArgs false
set_option maxHeartbeats 8000000
set_option maxRecDepth 100000
section
attribute [local go_sem] Oper.semAt_some
end
end Go.Proofs.YtffdiakgjakngaaGreat.P
namespace Go.Proofs.YtffdiakgjakngaaGreat.P
open Go.RowKit Go.Proofs.YtffdiakgjakngaaGreatW.PrintWords Go.Proofs.YtffdiakgjakngaaGreatW.PrintLast Go.Proofs.YtffdiakgjakngaaGreatW.PrintMore
set_option linter.unusedVariables false
set_option linter.unusedSimpArgs false
set_option maxHeartbeats 8000000
set_option maxRecDepth 100000
def eo.l0:Nat->List Int->List Int->Int->Int->Option (Bool)
 |0,_,_,_,_=>none
 |k+1,b,x1,e,a=>if a<e then(if 0<=a then(if a<(b.length:Int) then(if a<(x1.length:Int) then(if(rd b a)=(rd x1 a) then(eo.l0 k b x1 e (wrap64 (a+1))) else(some false)) else(none)) else(none)) else(none)) else(some true)
def eo.f (k:Nat) (l0:List Int) (l1:List Int):Option (Bool):=if(l0.length:Int)=(l1.length:Int) then(eo.l0 k l0 l1 (l0.length:Int) 0) else(some false)
theorem eo.calls (k:Nat) (A0:Option Addr) (c0:Nat) (l0:List Int) (v:Option Addr) (c1:Nat) (l1:List Int) (r:Bool) (w:World) (x:Kd.C (Kd.int .i64) w A0 l0.length l0) (y:l0.length<=c0) (z:Kd.C (Kd.int .i64) w v l1.length l1) (B:l1.length<=c1) (h:eo.f k l0 l1=some r):
  Calls Tryz.prog 33 #[.slice A0 l0.length c0,.slice v l1.length c1] w fun e w'=>e= .returned (.bool r)/\aJ w w':=by
 have D:=zA x;have U:=zA y;clear x y;have E:=zA z;have V:=zA B;clear z B;unfold eo.f at h;have H:=h;clear h;by_cases c3:(l0.length:Int)=(l1.length:Int)
 ·rw[if_pos c3] at H
  obtain⟨F,G⟩:=da c3;have I:(l0.length==l1.length)=true:=by first|simpa using c3|(simp at c3⊢;omega)
  clear c3;have m:=zA H;clear H;go_enter Tryz.func33,Tryz.ntmps33
  go_wp2;repeat(go_quiet (fail);try go_wp2)
  go_loopg [13] k (fun J L w'=>∃(a:Int),L= .int .i64 a/\Aside0 (eo.l0 J l0 l1 (l0.length:Int) a=some r)/\Aside0 (J<=k)/\aJ w w')
  case atStart=>exact⟨(0),zT,m,⟨aM _⟩,by repeat(first|exact aJ.refl _|apply aJ.step)⟩
  case round=>
   clear m;clear F G I;obtain⟨a,rfl,q,K,⟨m1,rfl⟩⟩:=hrel;cases gk with
   |zero=>exact absurd q.out (by simp[eo.l0])
   |succ M=>
    have H:=q.out;clear q;simp only[eo.l0] at H;by_cases c4:a<(l0.length:Int)
    ·rw[if_pos c4] at H
     have N:=aA c4;clear c4;by_cases n:0<=a
     ·rw[if_pos n] at H
      have W:=aA n;clear n;by_cases o:a<(l0.length:Int)
      ·rw[if_pos o] at H
       have X:=aA o;clear o;by_cases p:a<(l1.length:Int)
       ·rw[if_pos p] at H
        have Y:=aA p;clear p;by_cases l:(rd l0 a)=(rd l1 a)
        ·rw[if_pos l] at H
         obtain⟨O,P⟩:=da l;clear l;have m:=zA H;clear H;have b:0<=(a:Int):=aD ‹_›;have g:a<(l0.length:Int):=aD ‹_›;obtain⟨Q,s,R⟩:=Kd.cP D.out a b g;cases s;replace b:=eq_true b;replace g:=eq_true g;have i:0<=(a:Int):=aD ‹_›;have j:a<(l1.length:Int):=aD ‹_›;obtain⟨S,u,T⟩:=Kd.cP E.out a i j;cases u;replace i:=eq_true i;replace j:=eq_true j;go_wp2;repeat(go_quiet (fail);try go_wp2)
         go_roundg M
         case measure=>have:=K.out;omega
         case rel=>exact⟨(wrap64 (a+1)),zT,m,⟨by have:=K.out;omega⟩,by repeat(first|exact aJ.refl _|apply aJ.step)⟩
        ·rw[if_neg l] at H
         obtain⟨O,P⟩:=db l;obtain rfl:=aR H;have b:0<=(a:Int):=aD ‹_›;have g:a<(l0.length:Int):=aD ‹_›;obtain⟨Q,s,R⟩:=Kd.cP D.out a b g;cases s;replace b:=eq_true b;replace g:=eq_true g;have i:0<=(a:Int):=aD ‹_›;have j:a<(l1.length:Int):=aD ‹_›;obtain⟨S,u,T⟩:=Kd.cP E.out a i j;cases u;replace i:=eq_true i;replace j:=eq_true j;go_wp2;repeat(go_quiet (fail);try go_wp2)
         go_ret;exact⟨zT,by repeat(first|exact aJ.refl _|apply aJ.step)⟩
       ·rw[if_neg p] at H
        exact absurd H (by simp)
      ·rw[if_neg o] at H
       exact absurd H (by simp)
     ·rw[if_neg n] at H
      exact absurd H (by simp)
    ·rw[if_neg c4] at H
     have N:=aY c4;clear c4;obtain rfl:=aR H;go_wp2;repeat(go_quiet (fail);try go_wp2)
     go_ret;exact⟨zT,by repeat(first|exact aJ.refl _|apply aJ.step)⟩
 ·rw[if_neg c3] at H
  obtain⟨F,G⟩:=db c3;have I:(l0.length==l1.length)=false:=by first|simpa using c3|(simp at c3⊢;omega)
  obtain rfl:=aR H;go_enter Tryz.func33,Tryz.ntmps33
  go_wp2;repeat(go_quiet (fail);try go_wp2)
  go_ret;exact⟨zT,by repeat(first|exact aJ.refl _|apply aJ.step)⟩
mutual
def df.j0:Nat->Int->Bool->Int->List (S83)->Option ((List (List Int))×Int)
 |0,_,_,_,_=>none
 |k+1,x1,b,e,g=>if b=true then(some (([]:List (List Int)),2)) else((jt.f k e g x1).bind fun a=>(if a.2=0 then(df.l0 k x1 ([]:List (List Int)) a.1 (a.1.length:Int) 0) else(some (([]:List (List Int)),a.2))))
def df.l0:Nat->Int->List (List Int)->List (List Int)->Int->Int->Option ((List (List Int))×Int)
 |0,_,_,_,_,_=>none
 |k+1,x1,b,e,g,a=>if a<g then(if 0<=a then(if a<(e.length:Int) then((fb.f (aZ e a)).bind fun h=>(if 0<=x1 then(if x1<(h.length:Int) then(if b.length<5864062014805 then(df.l0 k x1 (b++[(h.set (x1:Int).toNat (-1))]) e g (wrap64 (a+1))) else(none)) else(none)) else(none))) else(none)) else(none)) else(some (b,0))
end
def df.f (k:Nat) (a:Int) (e:List (S83)) (b:Int):Option ((List (List Int))×Int):=(jA.f k a e).bind fun g=>(if g=0 then(if b<0 then(df.j0 k b true a e) else(df.j0 k b (decide (b>=a)) a e)) else(some (([]:List (List Int)),g)))
theorem df.calls (k:Nat) (n:Int) (z:Option Addr) (B:Nat) (m:List (S83)) (l:Int) (O:List (List Int)) (P:Int) (w:World) (b2:Kd.C aQ w z m.length m) (b3:m.length<=B) (h:df.f k n m l=some (O,P)):
  Calls Tryz.prog 15 #[.agg #[.int .i64 n,.slice z m.length B],.int .i64 l] w fun e w'=>∃b4:Value,e= .returned (.tuple #[b4,.int .i64 P])/\Kd.N (Kd.slice 3 (Kd.int .i64)) 26 w' w.heap.size (fun a=>(w.heap.size<=a)) b4 O/\Below w.heap.size w w':=by
 have er:=Tryz.underlying24;have aa:=zA b2;have ad:=zA b3;clear b2 b3;have j:=zA (ai w.heap.size w);unfold df.f at h;have H:=h;clear h;obtain⟨a9,A3,H⟩:=zo H;by_cases c4:a9=0
 ·rw[if_pos c4] at H
  obtain⟨b6,b_⟩:=da c4;clear c4;have bb:=zA H;clear H;go_enter Tryz.func15,Tryz.ntmps15
  go_upto_region 4 with (first|((with_reducible refine aX (N:=2) rfl ?_);refine zX 2 #[.int .i64 n,.slice z m.length B] 24 ?_;intro o hg w6 U hb;have g:=zA (U);have cx:=zG j hg;have cy:=zG j hg;replace j:=zS j hb;clear hb U hg;obtain⟨c0,c1,c2,c3⟩:=aE g)|((with_reducible refine aT (f:=55) rfl ?_);refine zL (some 14) Tryz.func55 #[.agg #[.int .i64 n,.slice z m.length B]] ?_;(with_reducible refine(jA.calls k n _ _ m a9 _ ?aw ?ax A3.out).mono ?_);(case aw=>exact Kd.al aa.out zB);(case ax=>exact ad.out);rintro e w8 ⟨rfl,hb⟩;refine⟨_,rfl,?_⟩;replace g:=zb g hb;replace j:=zS j hb;(try clear hb)))
  (try simp only[Act.put,List.setIfInBounds_toArray,List.set_cons_zero,List.set_cons_succ])
  go_cut [25] (fun v25 wc=>∃(J:Nat) (ag:Bool),v25= .bool ag/\Aside0 (df.j0 J l ag n m=some (O,P))/\Aside0 (J<=k)/\Aside0 (wc.heap[o]? =some (.cells #[.int .i64 n,(.slice z m.length B)] 24 (0,0)))/\Aside0 (Below w.heap.size w wc))
  case first=>
   have H:=bb.out;clear bb;by_cases Q:l<0
   ·rw[if_pos Q] at H
    have W:=aA Q;clear Q
    (first|rw[W]|(simp only[cA,cI];rw[W])|skip)
    have G:=zA H;clear H;go_wp2;go_meet
    case rel=>exact⟨_,(true),zT,G,⟨by first|omega|exact aM _⟩,⟨zK g⟩,⟨zB⟩⟩
   ·rw[if_neg Q] at H
    have W:=aY Q;clear Q
    (first|rw[W]|(simp only[cA,cI];rw[W])|skip)
    have G:=zA H;clear H;obtain⟨ew,ex,ey,e0⟩:=aE g;go_wp2;go_meet
    case rel=>exact⟨_,(decide (l>=n)),zT,G,⟨by first|omega|exact aM _⟩,⟨zK g⟩,⟨zB⟩⟩
  case rest=>
   clear bb;clear b6 b_ c0 c1 c2 c3;obtain⟨J,ag,rfl,K,b',g,j⟩:=hcut;cases J with
   |zero=>exact absurd K.out (by simp[df.j0])
   |succ ak=>
    have H:=K.out;clear K;simp only[df.j0] at H;by_cases am:ag=true
    ·subst am
     replace H:=zi H;simp only[Option.some.injEq,Prod.mk.injEq] at H;obtain⟨rfl,rfl⟩:=H;go_wp2;go_ret2;exact⟨_,zE,by first|exact Kd.ja _ _ _ _ _|exact Kd.jI _ _ _ _ _|exact Kd.V_nil _ _ _ _ _|exact Kd.Q_nil _ _ _ _ _|exact Kd.c_ _ _ _ _ _,zB⟩
    ·replace am:=Bool.eq_false_iff.mpr am
     subst am;replace H:=zj H;obtain⟨⟨i,bd⟩,ca,H⟩:=zo H;dsimp only at H;by_cases X:bd=0
     ·rw[if_pos X] at H
      obtain⟨cb,cc⟩:=da X;clear X;have G:=zA H;clear H;obtain⟨c5,c6,c7,c8⟩:=aE g;go_wp2_with (first|((with_reducible refine aT (f:=56) rfl ?_);refine zL (some 29) Tryz.func56 #[.agg #[.int .i64 n,.slice z m.length B],.int .i64 l] ?_;(with_reducible refine(jt.calls ak n _ _ m l i bd _ ?aw ?ax ca.out).mono ?_);(case aw=>exact Kd.al aa.out zB);(case ax=>exact ad.out);rintro e e1 ⟨c',rfl,y,hb⟩;refine⟨_,rfl,?_⟩;have be:=zA (Kd.mJ (Kd.gy (ok':=fun a=>(w.heap.size<=a)/\a≠o) y (fun a Y=>⟨(Nat.le_trans (cX zB) Y),(Kd.oL (zK g) a Y)⟩)) (cX zB));replace g:=zb g hb;replace j:=zS j hb;(try clear hb);(try clear y);obtain⟨cd,F,dd⟩:=Kd.oT be.out;subst dd))
      go_loopg [9,37] ak (fun J v9 v37 w'=>∃(I:List (List Int)) (q:Int),v37= .int .i64 q/\Aside0 (df.l0 J l I i (i.length:Int) q=some (O,P))/\Aside0 (J<=ak)/\Aside0 (Kd.N (Kd.slice 3 (Kd.int .i64)) 26 w' w.heap.size (fun a=>(w.heap.size<=a)/\some a≠((.slice cd i.length F):Value).ownBlock/\a≠o) v9 I)/\Aside0 (Kd.N (Kd.slice 3 (Kd.int .i64)) 26 w' w.heap.size (fun a=>(w.heap.size<=a)/\some a≠(v9:Value).ownBlock/\a≠o) (.slice cd i.length F) i)/\Aside0 (w'.heap[o]? =some (.cells #[.int .i64 n,(.slice z m.length B)] 24 (0,0)))/\Aside0 (Below w.heap.size w w'))
      case atStart=>exact⟨(([]:List (List Int))),(0),zT,G,⟨aM _⟩,⟨by first|exact Kd.ja _ _ _ _ _|exact Kd.jI _ _ _ _ _|exact Kd.V_nil _ _ _ _ _|exact Kd.Q_nil _ _ _ _ _|exact Kd.c_ _ _ _ _ _⟩,⟨by(with_reducible repeat(first|apply Kd.jJ|apply Kd.jL|apply Kd.jK));exact Kd.gy be.out (fun _ hk=>⟨hk.1,⟨(by simp[Value.ownBlock]),hk.2⟩⟩)⟩,⟨zK g⟩,⟨zB⟩⟩
      case round=>
       clear G;clear cb cc c5 c6 c7 c8;obtain⟨I,q,rfl,K,ce,D,s,g,j⟩:=hrel;cases gk with
       |zero=>exact absurd K.out (by simp[df.l0])
       |succ k2=>
        have H:=K.out;clear K;simp only[df.l0] at H;by_cases S:q<(i.length:Int)
        ·rw[if_pos S] at H
         have dl:=aA S;clear S;by_cases an:0<=q
         ·rw[if_pos an] at H
          have e2:=aA an;clear an;by_cases ao:q<(i.length:Int)
          ·rw[if_pos ao] at H
           have e3:=aA ao;clear ao;obtain⟨r,ds,H⟩:=zo H;by_cases ap:0<=l
           ·rw[if_pos ap] at H
            have e4:=aA ap;clear ap;by_cases ar:l<(r.length:Int)
            ·rw[if_pos ar] at H
             have e5:=aA ar;clear ar;obtain⟨av,bg⟩:∃y_:List Int,y_=(r.set (l:Int).toNat (-1)):=⟨_,rfl⟩;replace H:(if I.length<5864062014805 then(df.l0 k2 l (I++[av]) i (i.length:Int) (wrap64 (q+1))) else(none))=some (O,P):=zh bg H;have dv:=zA bg;clear bg;by_cases a0:I.length<5864062014805
             ·rw[if_pos a0] at H
              have dx:=zA a0;clear a0;obtain⟨cg,bk⟩:∃y_:List (List Int),y_=(I++[av]):=⟨_,rfl⟩;replace H:(df.l0 k2 l cg i (i.length:Int) (wrap64 (q+1)))=some (O,P):=zh bk H;have d0:=zA bk;clear bk;have G:=zA H;clear H;have a2:0<=(q:Int):=aD ‹_›;have a3:q<(i.length:Int):=aD ‹_›;obtain⟨L,d1,d2,d3,d4,ch,ci⟩:=mU (Kd.jM s.out).2.2 q a2 a3;cases d3;obtain⟨e6,d5,d6,cj⟩:=Kd.oV s.out [] q a2 (by first|exact a3|exact aD ‹_› |(have e_:=(Kd.jM s.out).1;omega));obtain⟨e',fd,rfl,bn,bo⟩:=Kd.mO d6;have a4:=cj 0 _ rfl;rw[Nat.add_zero,show ((Kd.slice 3 (Kd.int .i64))).sz=1 from rfl,Nat.mul_one] at a4;replace a4:=aR (a4.symm.trans d4);injection a4 with ck d7 cl
              rw[ck] at bo;rw[cl] at bn;have T:=zA (show Kd.V (Kd.int .i64) 3 _ w.heap.size _ _ (aZ i q) from Kd.yz bn bo);clear ck d7 cl bo bn;clear cj d5;have Z:=zA ci;have d8:=zA ch;clear ci ch;replace a2:=eq_true a2;replace a3:=eq_true a3;go_wp2_with (first|((with_reducible refine aT (f:=57) rfl ?_);refine zL (some 42) Tryz.func57 #[.slice d1 (aZ i q).length d2] ?_;(with_reducible refine(fb.calls _ _ (aZ i q) r _ ?aw ?ax ds.out).mono ?_);(case aw=>repeat(first|exact(by repeat(first|(with_reducible exact Z.out)|(with_reducible refine Kd.bp ?_ _)|(with_reducible refine Kd.ku ?_ _)|(with_reducible refine Kd.gn ?_)|exact Z.out))|(with_reducible refine Kd.bp ?_ _)|(with_reducible refine Kd.ku ?_ _)|(with_reducible refine Kd.gn ?_)));(case ax=>exact d8.out);rintro e cn ⟨fn,rfl,y,hb⟩;refine⟨_,rfl,?_⟩;replace D:=sy D y hb;replace s:=sy s y hb;replace T:=zA (Kd.yB (by(with_reducible repeat(first|apply Kd.V_alloc|apply Kd.V_drewN|apply Kd.V_drew));exact T.out) (Kd.ee y) hb);have u:=zA (Kd.bt (Kd.yE (M:=fun a=>(w.heap.size<=a)) y (cX zB) (fun a h_=>h_)) (cX zB));replace g:=zb g hb;replace Z:=zA (Kd.al (by repeat(first|(with_reducible exact Z.out)|(with_reducible refine Kd.bp ?_ _)|(with_reducible refine Kd.ku ?_ _)|(with_reducible refine Kd.gn ?_)|exact Z.out)) hb);replace j:=zS j hb;(try clear hb);(try clear y);have bq:0<=(l:Int):=aD ‹_›;have bv:(l:Int)<((r.length:Int):Int):=aD ‹_›;obtain⟨x,E,co,cq,ea,fo,cr⟩:=Kd.fB u.out (by omega);(first|cases co|(injection co with a5 eb eg;(first|subst a5|(injection a5 with a5;subst a5));subst eg;clear eb));have ek:=zA cq;have fq:=zA cr;clear cq ea cr;obtain⟨fr,ft⟩:=Kd.bG 0 u.out (l:Int) bq bv;replace bq:=eq_true bq;replace bv:=eq_true bv;have n_:=zA (Kd.bj (ok':=(fun a=>(w.heap.size<=a))) u.out (fun a hk=>hk.1));clear u;have u:=n_;clear n_;obtain⟨f0,f1⟩:=Kd.bG 0 u.out (l:Int) (aD ‹_›) (aD ‹_›);have bw:=Kd.cY u.out (l:Int) (-1))|((with_reducible refine iY (t:=3) (p:=45) rfl ?_);refine iX (t:=3) (p:=45) (v:=?F_) (w1:=(cn.setCell ⟨x,(l:Int).toNat,none⟩ (.int .i64 (-1)))) ?hg ?ho ?hn ?hr ?_;(case ho=>rfl);(case hg=>rfl);(case hn=>rfl);(case hr=>first|(go_simp;done)|(go_simp;rfl));intro bx hw;have hg:cn.grownBy bx (some x):=(by rw[hw];exact bw.2);have cv:Kd.R (Kd.int .i64) 3 bx w.heap.size (fun a=>(w.heap.size<=a)) (.slice (some ⟨x,0,none⟩) r.length E) av:=(by rw[hw,dv.out];exact bw.1);clear bw;replace D:=zA (Kd.oX (v:=(.slice (some ⟨x,0,none⟩) r.length E)) (v1:=(.slice (some ⟨x,0,none⟩) r.length E)) (ok:=(fun a=>(w.heap.size<=a)/\some a≠(.slice (some L) i.length F:Value).ownBlock/\a≠o)) (zN D) hg (.inl rfl));replace s:=zA (Kd.oX (v:=(.slice (some ⟨x,0,none⟩) r.length E)) (v1:=(.slice (some ⟨x,0,none⟩) r.length E)) (ok:=(fun a=>(w.heap.size<=a)/\some a≠(u9:Value).ownBlock/\a≠o)) (zN s) hg (.inl rfl));replace g:=zA (cZ (zK g) hg (Kd.cW u.out g.out (by decide)));replace T:=zA (Kd.sh (v:=(.slice (some ⟨x,0,none⟩) r.length E)) (v1:=(.slice (some ⟨x,0,none⟩) r.length E)) (ok:=(fun a=>(w.heap.size<=a)/\some a≠(u9:Value).ownBlock/\some a≠(.slice (some L) i.length F:Value).ownBlock/\a≠o)) (by(with_reducible repeat(first|apply Kd.V_alloc|apply Kd.V_drewN|apply Kd.V_drew));exact Kd.sg T.out (fun _ hk=>⟨⟨hk.1.1.1,⟨hk.1.1.2.1,⟨hk.1.2,hk.1.1.2.2⟩⟩⟩,hk.2⟩)) hg (.inl rfl));replace u:=zA (cv);replace j:=zA ((by rw[hw];exact dz (j.out) ek.out:Below w.heap.size w bx));clear hg hw cv)|((with_reducible refine yy (b:=.append) (xs:=#[.tmp 46,.tmp 48]) rfl ?_);at_builtin;refine Kd.yx (Kd.slice 3 (Kd.int .i64)) (w0:=w) w.heap.size rfl (.tmp 46) (.tmp 48) 33 26 (.slice none 0 0) 24 rfl Tryz.underlying33 o9 rfl (by decide) (by omega) u9 I av [.slice (some ⟨x,0,none⟩) r.length E] (fun a=>(w.heap.size<=a)/\some a≠(.slice (some L) i.length F:Value).ownBlock/\a≠o) (fun a=>((fun a=>(w.heap.size<=a)/\some a≠(.slice (some L) i.length F:Value).ownBlock/\a≠o)) a/\some a≠(u9:Value).ownBlock) rfl rfl ?aP (fun _ hk=>hk) ?aF ?aO ?aB ?aS ?aL ?_;(case aP=>have el:=(Kd.a8 u.out).1;have b0:=zA u.out;rw[el] at b0⊢;exact(Kd.yC (Kd.a8 (Kd.bj (ok':=(fun a=>((fun a=>(w.heap.size<=a)/\some a≠(.slice (some L) i.length F:Value).ownBlock/\a≠o)) a/\some a≠(u9:Value).ownBlock)) (Kd.mr (Kd.mB (Kd.mB (b0.out) (Kd.mI s.out) (by decide)) (Kd.mI D.out) (by decide)) g.out (by decide)) (fun a hk=>⟨⟨hk.1.1.1,⟨hk.1.1.2,hk.2⟩⟩,hk.1.2⟩))).2.1 (Kd.yh (Kd.bj (ok':=(fun a=>((fun a=>(w.heap.size<=a)/\some a≠(.slice (some L) i.length F:Value).ownBlock/\a≠o)) a/\some a≠(u9:Value).ownBlock)) (Kd.mr (Kd.mB (Kd.mB (b0.out) (Kd.mI s.out) (by decide)) (Kd.mI D.out) (by decide)) g.out (by decide)) (fun a hk=>⟨⟨hk.1.1.1,⟨hk.1.1.2,hk.2⟩⟩,hk.1.2⟩)))));(case aB=>exact zB);(case aF=>exact(fun a hk=>⟨(Nat.le_trans (cX zB) hk),Kd.xr (Kd.sa (zN s)) a hk,Kd.oL (zK g) a hk⟩));(case aO=>exact(by(with_reducible repeat(first|apply Kd.jJ|apply Kd.jL|apply Kd.jK));exact Kd.gy D.out (fun _ hk=>⟨hk.1.1,⟨hk.1.2.1,hk.1.2.2⟩⟩)));(case aS=>exact(cX zB));(case aL=>have:=dx.out;omega);intro f2 f3 ho hb hg b1;rw[<-d0.out] at ho;replace s:=zA (Kd.oX (ok:=(fun a=>(w.heap.size<=a)/\some a≠(.slice (some ⟨x,0,none⟩) r.length E:Value).ownBlock/\a≠o)) (by(with_reducible repeat(first|apply Kd.jJ|apply Kd.jL|apply Kd.jK));exact Kd.gy s.out (fun _ hk=>⟨⟨hk.1.1,⟨hk.2,hk.1.2.2⟩⟩,hk.1.2.1⟩)) hg b1);replace g:=zA (cZ (zK g) hg (Kd.ym D.out g.out (by decide)));replace T:=zA (Kd.sh (ok:=(fun a=>(w.heap.size<=a)/\some a≠(.slice (some L) i.length F:Value).ownBlock/\some a≠(.slice (some ⟨x,0,none⟩) r.length E:Value).ownBlock/\a≠o)) (by(with_reducible repeat(first|apply Kd.V_alloc|apply Kd.V_drewN|apply Kd.V_drew));exact Kd.sg T.out (fun _ hk=>⟨⟨hk.1.1,⟨hk.1.2.2.1,⟨hk.2,hk.1.2.2.2⟩⟩⟩,hk.1.2.1⟩)) hg b1);replace j:=zA (hb);have em:=zA (ho);clear D u;clear ho hb hg b1))
              go_roundg k2
              case measure=>have:=b'.out;have:=ce.out;omega
              case rel=>exact⟨(cg),(wrap64 (q+1)),zT,G,⟨by have:=b'.out;have:=ce.out;omega⟩,⟨zN em⟩,⟨by(with_reducible repeat(first|apply Kd.jJ|apply Kd.jL|apply Kd.jK));exact Kd.gy s.out (fun _ hk=>⟨hk.1.1,⟨hk.2,hk.1.2.2⟩⟩)⟩,⟨zK g⟩,⟨zB⟩⟩
             ·rw[if_neg a0] at H
              exact absurd H (by simp)
            ·rw[if_neg ar] at H
             exact absurd H (by simp)
           ·rw[if_neg ap] at H
            exact absurd H (by simp)
          ·rw[if_neg ao] at H
           exact absurd H (by simp)
         ·rw[if_neg an] at H
          exact absurd H (by simp)
        ·rw[if_neg S] at H
         have dl:=aY S;clear S;simp only[Option.some.injEq,Prod.mk.injEq] at H;obtain⟨rfl,rfl⟩:=H;go_wp2;go_ret2;exact⟨_,zE,by(with_reducible repeat(first|apply Kd.jJ|apply Kd.jL|apply Kd.jK));exact Kd.gy D.out (fun _ hk=>hk.1),zB⟩
     ·rw[if_neg X] at H
      obtain⟨cb,cc⟩:=db X;simp only[Option.some.injEq,Prod.mk.injEq] at H;obtain⟨rfl,rfl⟩:=H;obtain⟨f4,f5,f6,f7⟩:=aE g;go_wp2_with (first|((with_reducible refine aT (f:=56) rfl ?_);refine zL (some 29) Tryz.func56 #[.agg #[.int .i64 n,.slice z m.length B],.int .i64 l] ?_;(with_reducible refine(jt.calls ak n _ _ m l i bd _ ?aw ?ax ca.out).mono ?_);(case aw=>exact Kd.al aa.out zB);(case ax=>exact ad.out);rintro e f8 ⟨c',rfl,y,hb⟩;refine⟨_,rfl,?_⟩;have be:=zA (Kd.mJ (Kd.gy (ok':=fun a=>(w.heap.size<=a)/\a≠o) y (fun a Y=>⟨(Nat.le_trans (cX zB) Y),(Kd.oL (zK g) a Y)⟩)) (cX zB));replace g:=zb g hb;replace j:=zS j hb;(try clear hb);(try clear y)))
      go_ret2;exact⟨_,zE,by first|exact Kd.ja _ _ _ _ _|exact Kd.jI _ _ _ _ _|exact Kd.V_nil _ _ _ _ _|exact Kd.Q_nil _ _ _ _ _|exact Kd.c_ _ _ _ _ _,zB⟩
 ·rw[if_neg c4] at H
  obtain⟨b6,b_⟩:=db c4;simp only[Option.some.injEq,Prod.mk.injEq] at H;obtain⟨rfl,rfl⟩:=H;go_enter Tryz.func15,Tryz.ntmps15
  go_wp2_with (first|((with_reducible refine aX (N:=2) rfl ?_);refine zX 2 #[.int .i64 n,.slice z m.length B] 24 ?_;intro o hg f9 U hb;have g:=zA (U);have cx:=zG j hg;have cy:=zG j hg;replace j:=zS j hb;clear hb U hg;obtain⟨f',ga,gb,gc⟩:=aE g)|((with_reducible refine aT (f:=55) rfl ?_);refine zL (some 14) Tryz.func55 #[.agg #[.int .i64 n,.slice z m.length B]] ?_;(with_reducible refine(jA.calls k n _ _ m a9 _ ?aw ?ax A3.out).mono ?_);(case aw=>exact Kd.al aa.out zB);(case ax=>exact ad.out);rintro e gd ⟨rfl,hb⟩;refine⟨_,rfl,?_⟩;replace g:=zb g hb;replace j:=zS j hb;(try clear hb)))
  go_ret2;exact⟨_,zE,by first|exact Kd.ja _ _ _ _ _|exact Kd.jI _ _ _ _ _|exact Kd.V_nil _ _ _ _ _|exact Kd.Q_nil _ _ _ _ _|exact Kd.c_ _ _ _ _ _,zB⟩
theorem EI {l:List (List Int)} {i:Nat} (h:i<l.length):l.drop i=aZ l i::l.drop (i+1):=by
 rw[List.drop_eq_getElem_cons h];simp[aZ,aN,br h]
theorem EJ {n:Nat} {E:List S83} (a:E.length<=1000) (b:cE n E=0) (hp:partsOf E n=1):Ev (fun k=>jA.f k n E) 0:=by
 unfold jA.f;refine Ev.bind (qK a b hp) ?_;simp only[if_true];exact Ev.const _
theorem wv {n q:Nat} (b:q<n) (hn:n<=12) (l:List (List Int)) (e:l.length<=100000) (a:∀x∈l,x.length=n):∀(m i:Nat) (o:List (List Int)),i+m=l.length->o.length<=i->Ev (fun k=>df.l0 k q o l l.length i) (o++(l.drop i).map (fun c=>c.set q (-1)),(0:Int))
 |0,i,o,hi,g=>by
  refine Ev.of_succ ?_;simp only[df.l0,if_neg (show ¬((i:Int)<(l.length:Int)) by omega)];rw[List.drop_eq_nil_of_le (by omega),List.map_nil,List.append_nil];exact Ev.const _
 |m+1,i,o,hi,g=>by
  have h:aZ l i∈l:=by
   have:aZ l i=l[i]:=by simp[aZ,aN,br (show i<l.length by omega)]
   rw[this];exact List.getElem_mem _
  have hlen:=a _ h;have j:=wv b hn l e a m (i+1) (o++[(aZ l i).set q (-1)]) (by omega) (by simp;omega);refine Ev.of_succ ?_;have p:fb.f (aZ l i)=some (aZ l i):=if_pos (by omega);simp only[df.l0,if_pos (show (i:Int)<(l.length:Int) by omega),if_pos (show (0:Int)<=(i:Int) by omega),p,Option.bind_some,if_pos (show (0:Int)<=(q:Int) by omega),if_pos (show (q:Int)<((aZ l i).length:Int) by omega),if_pos (show o.length<5864062014805 by omega),aq,fh (show i<=1000000 by omega)];rw[EI (show i<l.length by omega),List.map_cons];simpa using j
theorem EK {n q:Nat} {E:List S83} (h:Small n q E) (a:cE n E=0):Ev (fun k=>df.f k n E q) ((Small.fK n q E).map (fun c=>c.set q (-1)),(0:Int)):=by
 unfold df.f;have b:=h.q;have g:=h.n5;have i:=h.len;refine Ev.bind (EJ (by omega) a ((iM h.n1 h.right).2 h.conn)) ?_;simp only[if_true,if_neg (show ¬(q:Int)<0 by omega)];refine Ev.of_succ ?_;simp only[df.j0,aY (show ¬(q:Int)>=(n:Int) by omega),Bool.false_eq_true,if_false];refine Ev.bind (h.Ea (h.Cy a)) ?_;simp only[if_true];have j:=h.ql;have hle:(Small.fK n q E).length<=100000:=Nat.le_trans (List.length_filter_le _ _) (by omega);have:=wv b (by omega) (Small.fK n q E) hle (fun x e=>(h.nG (List.mem_filter.1 e).1).1) (Small.fK n q E).length 0 [] (by omega) (by simp);rw[List.drop_zero,List.nil_append] at this;exact this
theorem Curve.jz {n:Nat} {E:List S83} {d:List Int} (h:Curve n E d) (hn:1<=n) {c:List Int} (b:c.length=n) (hb:∀v:Nat,v<n-> -200<=rd c v/\rd c v<=200):ij n 0 E c:=by
 have a:=h.small 0 (by omega);have e:=a.n5;have g:=a.len;have i:=h.val;exact⟨hn,by omega,by omega,by omega,a.right,a.conn,by omega,b,hb⟩
section
theorem wx (c:List Int) (b:c.length<=12) (hb:∀v:Nat,v<c.length-> -2000<=rd c v/\rd c v<=2000):∀(m i:Nat),i+m=c.length->Ev (fun k=>e9.l0 k c (T.sN (fun v=>rd c (v:Nat)) i) i) (T.sN (fun v=>rd c (v:Nat)) c.length)
 |0,i,hi=>by
  obtain rfl:i=c.length:=by omega
  refine Ev.of_succ ?_;simp only[e9.l0,if_neg (show ¬((c.length:Int)<(c.length:Int)) by omega)];exact Ev.const _
 |m+1,i,hi=>by
  have a:=wx c b hb m (i+1) (by omega);have e:∀j,j<=c.length-> -(2000*j:Int)<=T.sN (fun v=>rd c (v:Nat)) j/\T.sN (fun v=>rd c (v:Nat)) j<=2000*j:=fun j=>by
   induction j with
   |zero=>intro _;simp[T.sN]
   |succ j g=>
    intro l;have h1:=g (by omega);have h:=hb j (by omega);rw[T.dK];omega
  have h1:=e i (by omega);have h:=hb i (by omega);refine Ev.of_succ ?_;simp only[e9.l0,if_pos (show (i:Int)<(c.length:Int) by omega),if_pos (show (0:Int)<=(i:Int) by omega),fh (show i<=1000000 by omega),fV (show -1000000000<=T.sN (fun v=>rd c (v:Nat)) i+rd c i/\T.sN (fun v=>rd c (v:Nat)) i+rd c i<=1000000000 by omega)];rw[T.dK] at a;exact a
theorem EL (c:List Int) (a:c.length<=12) (hb:∀v:Nat,v<c.length-> -2000<=rd c v/\rd c v<=2000):Ev (fun k=>e9.f k c) (T.sN (fun v=>rd c (v:Nat)) c.length):=by
 unfold e9.f;exact wx c a hb c.length 0 (by omega)
namespace Curve
variable {n:Nat} {E:List S83} {d:List Int} (h:Curve n E d) (hn:1<=n)
include h hn
theorem facts:n<=5/\E.length<=40/\a7 n E/\eN n E/\partsOf E n=1:=by
 have a:=h.small 0 (by omega);exact⟨a.n5,a.len,a.right,a.conn,(iM hn a.right).2 a.conn⟩
theorem EM:∃g:Nat,Ev (fun k=>q9.f k n (eH E)) ((g:Int),(0:Int))/\T.g_ n (ae E) g:=by
 obtain⟨f1,f2,f3,f4,f5⟩:=h.facts hn;exact EE hn (by omega) f2 h.check f4
end Curve
end
section
attribute [local go_sem] Oper.semAt_some
theorem EN {W:World} {e base:Nat} {ok:Nat->Prop} {A:Option Addr} {cap:Nat} {L:List (List Int)} (h:Kd.N (Kd.slice 3 (Kd.int .i64)) e W base ok (.slice A L.length cap) L) (i:Nat) (hi:i<L.length):
  ∃g a cc,A=some ⟨g,0,none⟩/\W.cell? ⟨g,i,none⟩=some (.slice a (L.getD i []).length cc)/\(L.getD i []).length<=cc/\Kd.F (Kd.int .i64) W ok a (L.getD i []).length (L.getD i []):=by
 have hC:=(Kd.jM h).2.2;obtain⟨ad,he,_⟩:=hC.2.2 (by omega);subst he;obtain⟨g,rfl⟩:∃g,ad=⟨g,0,none⟩:=by
  obtain⟨_,rows,_,j,_⟩:=h;exact Kd.lz j
 obtain⟨ce,o,k,l⟩:=Kd.oV h [] (i:Int) (by omega) (by omega);obtain⟨m,n,rfl,ul,ge⟩:=Kd.mO k;have b:=l 0 _ rfl;rw[Nat.add_zero,show ((Kd.slice 3 (Kd.int .i64))).sz=1 from rfl,Nat.mul_one,aq,add_plain] at b;rw[aq] at ul ge;exact⟨g,m,n,rfl,b,ul,Kd.lB ge (fun _ hk=>hk.1)⟩
end
end Go.Proofs.YtffdiakgjakngaaGreat.P
namespace Go.Proofs.YtffdiakgjakngaaGreat.P
open Go.RowKit Go.Proofs.YtffdiakgjakngaaGreatW.PrintWords Go.Proofs.YtffdiakgjakngaaGreatW.PrintLast Go.Proofs.YtffdiakgjakngaaGreatW.PrintMore
open Go.Sort Go.Shelf
set_option linter.unusedVariables false
set_option linter.unusedSimpArgs false
set_option maxHeartbeats 8000000
set_option maxRecDepth 100000
end Go.Proofs.YtffdiakgjakngaaGreat.P
namespace Go.Proofs.YtffdiakgjakngaaGreat.P
open Go.RowKit Go.Proofs.YtffdiakgjakngaaGreatW.PrintWords Go.Proofs.YtffdiakgjakngaaGreatW.PrintLast Go.Proofs.YtffdiakgjakngaaGreatW.PrintMore
set_option linter.unusedVariables false
set_option linter.unusedSimpArgs false
set_option maxHeartbeats 8000000
set_option maxRecDepth 100000
def eV.l0:Nat->List (List Int)->Int->Int->Int->List (S83)->Option (Int)
 |0,_,_,_,_,_=>none
 |k+1,b,e,a,g,i=>if a<e then(if 0<=a then(if a<(b.length:Int) then((cu.f k (aZ b a) g).bind fun h=>(if h=0 then(eV.l0 k b e (wrap64 (a+1)) g i) else(some h))) else(none)) else(none)) else(some 0)
def eV.f (k:Nat) (b:Int) (e:List (S83)) (l1:List (List Int)):Option (Int):=(cD.f k b e).bind fun a=>(if a.2=0 then(if a.1=true then(eV.l0 k l1 (l1.length:Int) 0 b e) else(some 13)) else(some a.2))
theorem eV.calls (k:Nat) (b:Int) (m:Option Addr) (n:Nat) (i:List (S83)) (U:Option Addr) (c1:Nat) (l1:List (List Int)) (r:Int) (w:World) (V:Kd.C aQ w m i.length i) (W:i.length<=n) (X:Kd.C (Kd.slice 3 (Kd.int .i64)) w U l1.length l1) (Y:l1.length<=c1) (h:eV.f k b i l1=some r):
  Calls Tryz.prog 75 #[.agg #[.int .i64 b,.slice m i.length n],.slice U l1.length c1] w fun e w'=>e= .returned (.int .i64 r)/\Below w.heap.size w w':=by
 have a0:=Tryz.underlying24;have G:=zA V;have I:=zA W;clear V W;have Z:=zA X;have a1:=zA Y;clear X Y;have a:=zA (ai w.heap.size w);unfold eV.f at h;have H:=h;clear h;obtain⟨⟨aa,z⟩,J,H⟩:=zo H;dsimp only at H;by_cases c4:z=0
 ·rw[if_pos c4] at H
  obtain⟨ad,ag⟩:=da c4;clear c4;by_cases B:aa=true
  ·subst B
   replace H:=zi H;have D:=zA H;clear H;go_enter Tryz.func75,Tryz.ntmps75
   go_wp2_with (first|((with_reducible refine aX (N:=2) rfl ?_);refine zX 2 #[.int .i64 b,.slice m i.length n] 24 ?_;intro K l w6 o hb;have j:=zA (o);have ak:=zG a l;have am:=zG a l;replace a:=zS a hb;clear hb o l;obtain⟨ar,av,aB,aF⟩:=aE j)|((with_reducible refine aT (f:=113) rfl ?_);refine zL (some 12) Tryz.func113 #[.agg #[.int .i64 b,.slice m i.length n]] ?_;(with_reducible refine(cD.calls k b _ _ i true z _ ?aw ?ax J.out).mono ?_);(case aw=>exact Kd.al G.out zB);(case ax=>exact I.out);rintro e w8 ⟨rfl,hb⟩;refine⟨_,rfl,?_⟩;replace j:=zb j hb;replace a:=zS a hb;(try clear hb)))
   go_loopg [22] k (fun kq v22 w'=>∃(g:Int),v22= .int .i64 g/\Aside0 (eV.l0 kq l1 (l1.length:Int) g b i=some r)/\Aside0 (kq<=k)/\Aside0 (w'.heap[K]? =some (.cells #[.int .i64 b,(.slice m i.length n)] 24 (0,0)))/\Aside0 (Below w.heap.size w w'))
   case atStart=>exact⟨(0),zT,D,⟨aM _⟩,⟨zK j⟩,⟨zB⟩⟩
   case round=>
    clear D;clear ad ag ar av aB aF;obtain⟨g,rfl,L,ao,j,a⟩:=hrel;cases gk with
    |zero=>exact absurd L.out (by simp[eV.l0])
    |succ M=>
     have H:=L.out;clear L;simp only[eV.l0] at H;by_cases u:g<(l1.length:Int)
     ·rw[if_pos u] at H
      have aL:=aA u;clear u;by_cases E:0<=g
      ·rw[if_pos E] at H
       have a4:=aA E;clear E;by_cases F:g<(l1.length:Int)
       ·rw[if_pos F] at H
        have a5:=aA F;clear F;obtain⟨O,ap,H⟩:=zo H;by_cases v:O=0
        ·rw[if_pos v] at H
         obtain⟨aO,aP⟩:=da v;clear v;have D:=zA H;clear H;have p:0<=(g:Int):=aD ‹_›;have q:g<(l1.length:Int):=aD ‹_›;obtain⟨aS,P,Q,R,s,x,y⟩:=mU Z.out g p q;cases R;replace s:=(a.out.cell (bS w _ s)).trans s;have S:=zA y;have T:=zA x;clear y x;replace p:=eq_true p;replace q:=eq_true q;obtain⟨a9,bb,bd,be⟩:=aE j;go_wp2_with (first|((with_reducible refine aT (f:=87) rfl ?_);refine zL (some 29) Tryz.func87 #[.slice P (aZ l1 g).length Q,.int .i64 b] ?_;(with_reducible refine(cu.calls M _ _ (aZ l1 g) b O _ ?aw ?ax ap.out).mono ?_);(case aw=>exact Kd.al S.out zB);(case ax=>exact T.out);rintro e w' ⟨rfl,⟨nd,rfl⟩⟩;refine⟨_,rfl,?_⟩))
         go_roundg M
         case measure=>have:=ao.out;omega
         case rel=>exact⟨(wrap64 (g+1)),zT,D,⟨by have:=ao.out;omega⟩,⟨zK j⟩,⟨zB⟩⟩
        ·rw[if_neg v] at H
         obtain⟨aO,aP⟩:=db v;obtain rfl:=aR H;have p:0<=(g:Int):=aD ‹_›;have q:g<(l1.length:Int):=aD ‹_›;obtain⟨aS,P,Q,R,s,x,y⟩:=mU Z.out g p q;cases R;replace s:=(a.out.cell (bS w _ s)).trans s;have S:=zA y;have T:=zA x;clear y x;replace p:=eq_true p;replace q:=eq_true q;obtain⟨bf,bg,bi,bk⟩:=aE j;go_wp2_with (first|((with_reducible refine aT (f:=87) rfl ?_);refine zL (some 29) Tryz.func87 #[.slice P (aZ l1 g).length Q,.int .i64 b] ?_;(with_reducible refine(cu.calls M _ _ (aZ l1 g) b O _ ?aw ?ax ap.out).mono ?_);(case aw=>exact Kd.al S.out zB);(case ax=>exact T.out);rintro e w' ⟨rfl,⟨nd,rfl⟩⟩;refine⟨_,rfl,?_⟩))
         go_ret;exact⟨zE,zB⟩
       ·rw[if_neg F] at H
        exact absurd H (by simp)
      ·rw[if_neg E] at H
       exact absurd H (by simp)
     ·rw[if_neg u] at H
      have aL:=aY u;clear u;obtain rfl:=aR H;go_wp2;go_ret;exact⟨zE,zB⟩
  ·replace B:=Bool.eq_false_iff.mpr B
   subst B;replace H:=zj H;obtain rfl:=aR H;go_enter Tryz.func75,Tryz.ntmps75
   go_wp2_with (first|((with_reducible refine aX (N:=2) rfl ?_);refine zX 2 #[.int .i64 b,.slice m i.length n] 24 ?_;intro K l bn o hb;have j:=zA (o);have ak:=zG a l;have am:=zG a l;replace a:=zS a hb;clear hb o l;obtain⟨bo,bq,bv,bw⟩:=aE j)|((with_reducible refine aT (f:=113) rfl ?_);refine zL (some 12) Tryz.func113 #[.agg #[.int .i64 b,.slice m i.length n]] ?_;(with_reducible refine(cD.calls k b _ _ i false z _ ?aw ?ax J.out).mono ?_);(case aw=>exact Kd.al G.out zB);(case ax=>exact I.out);rintro e bx ⟨rfl,hb⟩;refine⟨_,rfl,?_⟩;replace j:=zb j hb;replace a:=zS a hb;(try clear hb)))
   go_ret;exact⟨zE,zB⟩
 ·rw[if_neg c4] at H
  obtain⟨ad,ag⟩:=db c4;obtain rfl:=aR H;go_enter Tryz.func75,Tryz.ntmps75
  go_wp2_with (first|((with_reducible refine aX (N:=2) rfl ?_);refine zX 2 #[.int .i64 b,.slice m i.length n] 24 ?_;intro K l b0 o hb;have j:=zA (o);have ak:=zG a l;have am:=zG a l;replace a:=zS a hb;clear hb o l;obtain⟨b1,b2,b3,b4⟩:=aE j)|((with_reducible refine aT (f:=113) rfl ?_);refine zL (some 12) Tryz.func113 #[.agg #[.int .i64 b,.slice m i.length n]] ?_;(with_reducible refine(cD.calls k b _ _ i aa z _ ?aw ?ax J.out).mono ?_);(case aw=>exact Kd.al G.out zB);(case ax=>exact I.out);rintro e b5 ⟨rfl,hb⟩;refine⟨_,rfl,?_⟩;replace j:=zb j hb;replace a:=zS a hb;(try clear hb)))
  go_ret;exact⟨zE,zB⟩
section
attribute [local go_sem] Oper.semAt_some
end
section
attribute [local go_sem] jN jO jP jQ mK mL mM mN
def gS.f (k:Nat) (b:Int) (e:List (S83)) (l1:List Int) (a2:Int):Option (Int×Int):=(eT.f k b e a2 l1).bind fun a=>(if a.2.2=0 then(if 0<=a2 then(if a2<(a.1.length:Int) then(some (mx 0 (wrap64 (-(rd a.1 a2))),0)) else(none)) else(none)) else(some (0,a.2.2)))
theorem gS.calls (k:Nat) (g:Int) (m:Option Addr) (n:Nat) (b:List (S83)) (u:Option Addr) (c1:Nat) (l1:List Int) (a2:Int) (z:Int) (B:Int) (w:World) (J:Kd.C aQ w m b.length b) (K:b.length<=n) (L:Kd.C (Kd.int .i64) w u l1.length l1) (M:l1.length<=c1) (h:gS.f k g b l1 a2=some (z,B)):
  Calls Tryz.prog 129 #[.agg #[.int .i64 g,.slice m b.length n],.slice u l1.length c1,.int .i64 a2] w fun e w'=>e= .returned (.tuple #[.int .i64 z,.int .i64 B])/\Below w.heap.size w w':=by
 have am:=Tryz.underlying24;have O:=zA J;have P:=zA K;clear J K;have Q:=zA L;have R:=zA M;clear L M;have a:=zA (ai w.heap.size w);unfold gS.f at h;have H:=h;clear h;obtain⟨⟨i,S,D⟩,E,H⟩:=zo H;dsimp only at H;by_cases p:D=0
 ·rw[if_pos p] at H
  obtain⟨T,U⟩:=da p;clear p;by_cases v:0<=a2
  ·rw[if_pos v] at H
   have an:=aA v;clear v;by_cases x:a2<(i.length:Int)
   ·rw[if_pos x] at H
    have ao:=aA x;clear x;obtain⟨y,o⟩:∃V:Int,(mx 0 (wrap64 (-(rd i a2))))=V:=⟨_,rfl⟩;replace H:(some (y,0))=some (z,B):=by first|(rw[o] at H;exact H)|(simp only[o] at H⊢;exact H)
    (try rw[o] at E)
    (try(have ap:0<=y:=by(rw[<-o];unfold mx;(repeat' split)<;>omega)))
    (try(have ar:0<=y:=by omega))
    have av:(if 0<(wrap64 (-(rd i a2))) then(wrap64 (-(rd i a2))) else 0)=y:=o;simp only[Option.some.injEq,Prod.mk.injEq] at H;obtain⟨rfl,rfl⟩:=H;go_enter Tryz.func129,Tryz.ntmps129
    go_wp2_with (first|((with_reducible refine aX (N:=3) rfl ?_);refine zX 3 #[.int .i64 g,.slice m b.length n] 24 ?_;intro W j w9 q hb;have l:=zA (q);have X:=zG a j;have Y:=zG a j;replace a:=zS a hb;clear hb q j;obtain⟨aF,aL,aO,aP⟩:=aE l)|((with_reducible refine aT (f:=54) rfl ?_);refine zL (some 15) Tryz.func54 #[.agg #[.int .i64 g,.slice m b.length n],.int .i64 a2,.slice u l1.length c1] ?_;(with_reducible refine(eT.calls k g _ _ b a2 _ _ l1 i S D _ ?aw ?ax ?dk ?dm E.out).mono ?_);(case aw=>exact Kd.al O.out zB);(case ax=>exact P.out);(case dk=>exact Kd.al Q.out zB);(case dm=>exact R.out);rintro e aS ⟨Z,aa,rfl,r,s,hb⟩;refine⟨_,rfl,?_⟩;have F:=zA (Kd.bt r (cX zB));have ad:=zA (Kd.bt s (cX zB));replace l:=zb l hb;replace a:=zS a hb;(try clear hb);(try clear r);(try clear s);obtain⟨a0,a1,ag⟩:=Kd.bE F.out;subst ag;have G:0<=(a2:Int):=aD ‹_›;have I:a2<(i.length:Int):=aD ‹_›;obtain⟨a3,ak,a4⟩:=Kd.cP (Kd.a8 F.out).2.2 a2 G I;cases ak;replace G:=eq_true G;replace I:=eq_true I))
    go_ret2;exact⟨by first|rfl|(simp[dW,dX]<;>rfl)|(simp only[<-o];first|rfl|(simp[dW,dX]<;>rfl))|(simp[*,dW,dX]<;>rfl),zB⟩
   ·rw[if_neg x] at H
    exact absurd H (by simp)
  ·rw[if_neg v] at H
   exact absurd H (by simp)
 ·rw[if_neg p] at H
  obtain⟨T,U⟩:=db p;simp only[Option.some.injEq,Prod.mk.injEq] at H;obtain⟨rfl,rfl⟩:=H;go_enter Tryz.func129,Tryz.ntmps129
  go_wp2_with (first|((with_reducible refine aX (N:=3) rfl ?_);refine zX 3 #[.int .i64 g,.slice m b.length n] 24 ?_;intro W j a5 q hb;have l:=zA (q);have X:=zG a j;have Y:=zG a j;replace a:=zS a hb;clear hb q j;obtain⟨a9,bb,bd,be⟩:=aE l)|((with_reducible refine aT (f:=54) rfl ?_);refine zL (some 15) Tryz.func54 #[.agg #[.int .i64 g,.slice m b.length n],.int .i64 a2,.slice u l1.length c1] ?_;(with_reducible refine(eT.calls k g _ _ b a2 _ _ l1 i S D _ ?aw ?ax ?dk ?dm E.out).mono ?_);(case aw=>exact Kd.al O.out zB);(case ax=>exact P.out);(case dk=>exact Kd.al Q.out zB);(case dm=>exact R.out);rintro e bf ⟨Z,aa,rfl,r,s,hb⟩;refine⟨_,rfl,?_⟩;have F:=zA (Kd.bt r (cX zB));have ad:=zA (Kd.bt s (cX zB));replace l:=zb l hb;replace a:=zS a hb;(try clear hb);(try clear r);(try clear s)))
  go_ret2;exact⟨zE,zB⟩
end
end Go.Proofs.YtffdiakgjakngaaGreat.P


namespace Go.Proofs.YtffdiakgjakngaaGreat.P
open Go.RowKit Go.Proofs.YtffdiakgjakngaaGreatW.PrintWords Go.Proofs.YtffdiakgjakngaaGreatW.PrintLast Go.Proofs.YtffdiakgjakngaaGreatW.PrintMore
set_option linter.unusedVariables false
set_option linter.unusedSimpArgs false
set_option maxHeartbeats 8000000
set_option maxRecDepth 100000
section
attribute [local go_sem] Oper.semAt_some
theorem EO (N:Int) (ev:Value) (A:Option Addr) (m c:Nat) (w:World):Calls Tryz.prog 72 #[.agg #[.int .i64 N,ev],.slice A m c] w fun e w'=>e= .returned (.func (.func 128) #[] #[.pointer (some ⟨w.heap.size,0,none⟩),.pointer (some ⟨w.heap.size+1,0,none⟩)])/\w'=(w.alloc (.cells #[.int .i64 N,ev] 24)).alloc (.cells #[.slice A m c] 26):=by
 go_enter Tryz.func72,Tryz.ntmps72
 go_wp2;go_ret;exact⟨rfl,rfl⟩
def fl (L:List Int) (v:Nat):List Int:=(List.range v).map fun u:Nat=>rd L u
theorem EP (L:List Int) (v:Nat):fl L (v+1)=fl L v++[rd L v]:=by simp[fl,List.range_succ]
def ER (base a b:Nat) (X Y:World):Prop:=(base<=X.heap.size->Below base X Y)/\(a<X.heap.size->Y.heap[a]? =X.heap[a]?)/\(b<X.heap.size->Y.heap[b]? =X.heap[b]?)
theorem ES (bg g k n:Nat) (A0:Option Addr) (c0:Nat) (E:List S83) (h:Option Addr) (c1:Nat) (d:List Int) (L:List Int) (w0 W:World) (P:Kd.C aQ w0 A0 E.length E) (Q:E.length<=c0) (R:Kd.C (Kd.int .i64) w0 h d.length d) (S:d.length<=c1) (hn:n<=1000) (r:∀u:Nat,u<n->gS.f k n E d (u:Nat)=some (rd L u,0)) (s:Below w0.heap.size w0 W)
  (o:W.heap[bg]? =some (.cells #[.int .i64 n,.slice A0 E.length c0] 24 (0,0))) (w:W.heap[g]? =some (.cells #[.slice h d.length c1] 26 (0,0))):
  gD (σ:=Unit) Fence.wide 9 Tryz.prog 128 #[.pointer (some ⟨bg,0,none⟩),.pointer (some ⟨g,0,none⟩)] (fun x:Int=>#[.int .i64 x,.int .i64 0]) (fun _ W W1=>W1=W) (fun _ A B=>Below A.heap.size A B) (fun _ x A B=>Below A.heap.size A B)
   (fun _ X Y=>ER w0.heap.size bg g X Y)
   (fun _ xs W'=>xs=fl L n) (fun _ _ _=>True) (fun pre=>pre.length<=n) W:=by
 intro lp J Jx y z D F;have T:=zA y;have aO:=zA z;have U:=zA F;have V:=zA r;have G:=D () W rfl;clear y z D F r;have hu:=Tryz.underlying24;refine callsIn_of_wp Tryz.func128 rfl trivial ?_ rfl;simp only[Tryz.ntmps128,List.size_toArray,List.length_cons,List.length_nil,Nat.reduceAdd,Nat.reduceSub,Array.replicate_succ,Array.replicate_zero,List.push_toArray,List.append_toArray,List.nil_append,List.cons_append];have b0:W.cell? ⟨bg,0,none⟩=some (.int .i64 n):=(ah o 0).trans rfl;have a:=zA o;have b:=zA w;clear o w;gi_wp2;clear b0;gi_loopg [9] (n) (fun Z i wr=>∃v:Nat,i= .int .i64 v/\v<=n/\Aside0 (J () (fl L v) wr)/\Aside0 (wr.heap[bg]? =some (.cells #[.int .i64 n,.slice A0 E.length c0] 24 (0,0)))/\Aside0 (wr.heap[g]? =some (.cells #[.slice h d.length c1] 26 (0,0)))/\Aside0 (Below w0.heap.size w0 wr)/\Aside0 (Z=n-v))
 case atStart=>exact⟨0,rfl,Nat.zero_le _,⟨G⟩,a,b,⟨s⟩,⟨rfl⟩⟩
 case round=>
  clear G s a b;obtain⟨v,rfl,hv,p,a,b,l,HK⟩:=hrel;by_cases ad:v<n
  ·have aS:(0:Int)<=(v:Int):=by omega
   have a0:(v:Int)<(n:Int):=by omega
   have HV:=zA (V.out v ad);have ak:=zA (EP L v);have b0:wr.cell? ⟨bg,0,none⟩=some (.int .i64 n):=(ah a.out 0).trans rfl;have b1:wr.cell? ⟨bg,1,none⟩=some (.slice A0 E.length c0):=(ah a.out 1).trans rfl;have b2:wr.cell? ⟨g,0,none⟩=some (.slice h d.length c1):=(ah b.out 0).trans rfl;gi_wp2_with (refine⟨trivial,?_⟩;gi_at_call 129;go_loud (refine(callsIn_wide.2 (gS.calls k n A0 c0 E h c1 d v (rd L v) 0 _ (Kd.al P l.out) Q (Kd.al R l.out) S HV.out)).mono ?_;rintro e w3 ⟨rfl,j⟩;have an:=zA (T.out () _ _ _ p.out j);have H:=zA (aC l.out j);have I:=zA (au a.out j);have K:=zA (au b.out j);obtain⟨fn,tmps,a1,a2,q,M⟩:=U.out () (fl L v) (rd L v) _ _ an.out (ai _ _) (by show (fl L v).length<=n;simp[fl];omega);have ao:=zA M;try(simp only at q);clear M j p l a b b0 b1 b2))
   refine ao.out.mono ?_;rintro e W3 (⟨rfl,N,m⟩|⟨rfl,O⟩)
   ·have ap:=zA N
    have ar:=zA ((m.2.1 (ay I.out)).trans I.out);have av:=zA ((m.2.2 (ay K.out)).trans K.out);have aB:=zA (H.out.trans (m.1 H.out.size));clear N m q;gi_wp2;gi_roundg (n- (v+1))
    case measure=>rw[HK.out];omega
    case rel=>exact⟨v+1,by go_num,by omega,⟨by rw[ak.out];exact ap.out⟩,ar,av,aB,⟨rfl⟩⟩
   ·have aF:=zA O
    clear O q;gi_wp2;refine bodyPost_ret (results_none rfl _ _ _) rfl ?_;exact⟨⟨_,rfl⟩,.inr ⟨(),_,trivial,aF.out⟩⟩
  ·obtain rfl:n=v:=by omega
   gi_wp2;go_end0;exact⟨⟨_,rfl⟩,.inl ⟨(),_,rfl,p.out⟩⟩
def eI (pre:List Int):List Int×Int:=pre.foldl (fun s x=>(if x=1 then s.1++[s.2] else s.1,wrap64 (s.2+1))) ([],0)
theorem ET (pre:List Int) (x:Int):eI (pre++[x])=(if x=1 then(eI pre).1++[(eI pre).2] else(eI pre).1,wrap64 ((eI pre).2+1)):=by simp[eI,List.foldl_append]
theorem EU (pre:List Int):(eI pre).1.length<=pre.length:=by
 have key:∀(pre:List Int) (s:List Int×Int),(pre.foldl (fun s x=>(if x=1 then s.1++[s.2] else s.1,wrap64 (s.2+1))) s).1.length<=s.1.length+pre.length:=fun pre=>by
  induction pre with
  |nil=>intro s;simp
  |cons x pre a=>
   intro s;rw[List.foldl_cons];refine Nat.le_trans (a _) ?_;rw[List.length_cons];split<;>simp<;>omega
 have:=key pre ([],0);simpa [eI] using this
theorem EV (k n:Nat) (A0:Option Addr) (c0:Nat) (E:List S83) (m:Option Addr) (c1:Nat) (d:List Int) (L r2 r3:List Int) (w:World) (be:Kd.C aQ w A0 E.length E) (bf:E.length<=c0) (bg:Kd.C (Kd.int .i64) w m d.length d) (am:d.length<=c1) (hn:n<=1000) (hw:il.f k n E d=some (false,r2,r3,0)) (hL:∀u:Nat,u<n->gS.f k n E d (u:Nat)=some (rd L u,0)):
  Calls Tryz.prog 21 #[.agg #[.int .i64 n,.slice A0 E.length c0],.slice m d.length c1] w fun e w'=>∃v,e= .returned (.tuple #[v,.int .i64 0])/\(Kd.int .i64).R 3 w' w.heap.size (fun _=>True) v (eI (fl L n)).1/\Below w.heap.size w w':=by
 have hu:=Tryz.underlying24;have Hw:=zA hw;have HL:=zA hL;have M:=zA (l7 w (.cells #[.int .i64 n,.slice A0 E.length c0] 24) (.cells #[.slice none 0 0] 25) (.cells #[.int .i64 0] 30));have cq:(((w.alloc (.cells #[.int .i64 n,.slice A0 E.length c0] 24)).alloc (.cells #[.slice none 0 0] 25)).alloc (.cells #[.int .i64 0] 30)).cell? ⟨w.heap.size,0,none⟩=some (.int .i64 n):=(ah M.out.1 0).trans rfl;have cv:(((w.alloc (.cells #[.int .i64 n,.slice A0 E.length c0] 24)).alloc (.cells #[.slice none 0 0] 25)).alloc (.cells #[.int .i64 0] 30)).cell? ⟨w.heap.size,1,none⟩=some (.slice A0 E.length c0):=(ah M.out.1 1).trans rfl;clear hw hL;refine(callsIn_wide (n:=10)).1 ?_;refine callsIn_of_wp_marks Tryz.func21 rfl trivial ?_ rfl;simp only[Tryz.ntmps21,List.size_toArray,List.length_cons,List.length_nil,Nat.reduceAdd,Nat.reduceSub,Array.replicate_succ,Array.replicate_zero,List.push_toArray,List.append_toArray,List.nil_append,List.cons_append];gi_wp2_with (first|(refine⟨trivial,?_⟩;gi_at_call 14;refine(callsIn_wide.2 (il.calls k n A0 c0 E m c1 d false r2 r3 0 _ (Kd.bp (Kd.bp (Kd.bp be _) _) _) bf (Kd.bp (Kd.bp (Kd.bp bg _) _) _) am Hw.out)).mono ?_;rintro e w1 ⟨v1,v2,rfl, -, -,hb⟩;have HB:=zA ((af (af (af (ai w.heap.size w) _) _) _).trans (hb.mono (by simp;omega)));have X0:=zA (au M.out.1 hb);have N:=zA (au M.out.2.1 hb);have z:=zA (au M.out.2.2 hb);have y0:((w1.alloc (.cells #[.slice none 0 0] 25)).alloc (.cells #[.int .i64 0] 3)).cell? ⟨w.heap.size,0,none⟩=some (.int .i64 n):=(ah (aj (aj X0.out _) _) 0).trans rfl;have y1:((w1.alloc (.cells #[.slice none 0 0] 25)).alloc (.cells #[.int .i64 0] 3)).cell? ⟨w.heap.size,1,none⟩=some (.slice A0 E.length c0):=(ah (aj (aj X0.out _) _) 1).trans rfl;clear hb cq cv)|(refine⟨trivial,?_⟩;gi_at_call 72;refine(callsIn_wide.2 (EO _ _ _ _ _ _)).mono ?_;rintro e w3 ⟨rfl,rfl⟩))
 have c3:=HB.out.size;have c4:w.heap.size+1+1<w1.heap.size:=ay z.out;obtain⟨S,bn⟩:∃o:Obj,o= .cells #[.slice none 0 0] 25:=⟨_,rfl⟩;obtain⟨T,bq⟩:∃o:Obj,o= .cells #[.int .i64 0] 3:=⟨_,rfl⟩;obtain⟨U,bw⟩:∃o:Obj,o= .cells #[.int .i64 n,.slice A0 E.length c0] 24:=⟨_,rfl⟩;obtain⟨G,bx⟩:∃o:Obj,o= .cells #[.slice m d.length c1] 26:=⟨_,rfl⟩;obtain⟨V0,V1,V2⟩:=l7 w1 S T U;have V3:=aU (((w1.alloc S).alloc T).alloc U) G;simp only[World.size_alloc] at V3;have Z:=zA (aj (V0.trans (by rw[bn]:_=some (.cells #[.slice none 0 0] 25 (0,0)))) G);have V:=zA (aj (V1.trans (by rw[bq]:_=some (.cells #[.int .i64 0] 3 (0,0)))) G);have av:=zA (aj (V2.trans (by rw[bw]:_=some (.cells #[.int .i64 n,.slice A0 E.length c0] 24 (0,0)))) G);have aB:=zA (V3.trans (by rw[bx]:_=some (.cells #[.slice m d.length c1] 26 (0,0))));have aF:=zA (af (af (af (af HB.out S) T) U) G);have ca:=zA (aj (aj (aj (aj N.out S) T) U) G);have cb:=zA (aj (aj (aj (aj z.out S) T) U) G);clear V0 V1 V2 V3;subst bn bq bw bx;clear y0 y1 X0 N z HB M Hw;have aa:((((w1.alloc (.cells #[.slice none 0 0] 25)).alloc (.cells #[.int .i64 0] 3)).alloc (.cells #[.int .i64 n,.slice A0 E.length c0] 24)).alloc (.cells #[.slice m d.length c1] 26)).heap.size=w1.heap.size+4:=by simp
 generalize (((w1.alloc (.cells #[.slice none 0 0] 25)).alloc (.cells #[.int .i64 0] 3)).alloc (.cells #[.int .i64 n,.slice A0 E.length c0] 24)).alloc (.cells #[.slice m d.length c1] 26)=a at Z V av aB aF ca cb aa⊢;have cc:=Nat.le_of_eq aa;have cd:=Nat.le_of_eq aa.symm;clear aa;generalize ce:w1.heap.size+1+1+1=qx at aB⊢;generalize cg:w1.heap.size+1+1=gx at av ce⊢;generalize ch:w1.heap.size+1=bv at V cg⊢;generalize w1.heap.size=bo at Z cc cd c4 c3 ch⊢;have e1:bo+1<=bv:=by omega
 have e2:bv+1<=gx:=by omega
 have e3:gx+1<=qx:=by omega
 have e4:qx+1<=a.heap.size:=by omega
 clear ce cg ch cc cd;refine fR (σ:=Unit) (α:=Int) (F:=Fence.wide) (n:=10) rfl (by decide) (gf:=128) (lb:=#[.pointer (some ⟨gx,0,none⟩),.pointer (some ⟨qx,0,none⟩)]) rfl trivial (enters_of Tryz.func128 (by kernel_rfl) rfl)
  (fun o=>ES gx qx k n A0 c0 E m c1 d L w _ be bf bg am hn HL.out (af (af aF.out _) _) (aj (aj av.out _) _) (aj (aj aB.out _) _)) (fun _=>rfl)
  (fun _=>True) ?dT ?st ?ar
  (fun _ pre W=>a.heap.size+2<=W.heap.size/\(∃v,W.heap[bo]? =some (.cells #[v] 25 (0,0))/\(Kd.int .i64).R 3 W w.heap.size (fun k=>a.heap.size+2<=k) v (eI pre).1)/\W.heap[bv]? =some (.cells #[.int .i64 (eI pre).2] 3 (0,0))/\W.heap[w.heap.size+1]? =some (.cells #[.slice none 0 0] 25 (0,0))/\W.heap[w.heap.size+1+1]? =some (.cells #[.int .i64 0] 30 (0,0))/\Below w.heap.size w W) (fun _ _ _ _=>False)
  ?is (fun _ _ _ _ _ _ h _=>h) ?ib (fun _ _ _ _ _ h _=>h) ?kt ?h0 ?a1 ?assign ?body ?done (fun _ _ _ _ _ _ _ h=>h.elim)
 case assign=>
  intro l x W K hK;gi_wp2;exact hK
 case dT=>
  intro o s W1 h;exact⟨trivial,by rw[h];exact bI.refl _ _⟩
 case st=>intro s A B _ h;exact cQ h
 case ar=>intro s x A B _ h;exact cQ h
 case is=>
  rintro s pre A B _ ⟨X,⟨v,h1,h4⟩,h2,h3,h6,h5⟩ H;exact⟨Nat.le_trans X H.size,⟨v,au h1 H,Kd.b7 h4 H⟩,au h2 H,au h3 H,au h6 H,aC h5 H⟩
 case ib=>
  rintro s pre A B ⟨X,⟨v,h1,h4⟩,h2,h3,h6,h5⟩ hb;exact⟨by rw[hb.size];exact X,⟨v,hb.cells h1,cC h4 hb⟩,hb.cells h2,hb.cells h3,hb.cells h6,h5.trans (hb.below w.heap.size (by omega))⟩
 case kt=>
  intro s A B C D O a2 a3;refine⟨fun aG=>((O.below w.heap.size (by omega)).trans (a2.1 (by rw[O.size];exact aG))).trans (a3.below w.heap.size (by omega)),fun i=>?_,fun i=>?_⟩
  ·have Y:gx≠a.heap.size+1:=by omega
   exact(a3.heap _ Y).trans ((a2.2.1 (by rw[O.size];exact i)).trans (O.heap _ Y))
  ·have Y:qx≠a.heap.size+1:=by omega
   exact(a3.heap _ Y).trans ((a2.2.2 (by rw[O.size];exact i)).trans (O.heap _ Y))
 case h0=>
  rintro o s W1 rfl;exact⟨by simp,⟨_,aj (aj Z.out _) _,Kd.c_ _ _ _ _ _⟩,aj (aj V.out _) _,aj (aj ca.out _) _,aj (aj cb.out _) _,af (af aF.out _) _⟩
 case body=>
  rintro l s pre x Wb W1 W _ ⟨X,⟨v,i1,i4⟩,i2,i3,i6,i5⟩ q ad b;have eb:Wb.heap.size<=W.heap.size:=by have:=b.size;have:=q.size;omega
  have b1:=zA (b.cells (au i1 q));have P:=zA (b.cells (au i2 q));have b3:=zA (b.cells (au i3 q));have r:=zA (b.cells (au i6 q));have b4:=zA (cC (Kd.b7 i4 q) b);have Q:=zA ((aC i5 q).trans (b.below w.heap.size (by omega)));have y:=zA (ET pre x);have ci:=zA (Nat.le_trans (EU pre) (show pre.length<=n from ad));clear i1 i2 i3 i4 i5 i6 q b ad;generalize (eI pre).1=o at b4 y ci;generalize (eI pre).2=j at P y;obtain⟨g,cr,rfl⟩:=Kd.bE b4.out;have c7:a.heap.size+2<=W.heap.size:=by omega
  have z2:=cB P.out;have z3:=bc P.out 0;by_cases hx:x=1
  ·subst hx
   rw[if_pos rfl] at y;have z1:=cB b1.out;have LN:Aside0 ((o.length+1)*8<=140737488355328):=⟨by have:=ci.out;omega⟩;have c9:Aside0 (∀k,W.heap.size<=k->a.heap.size+2<=k):=⟨fun k hk=>by omega⟩;gi_wp2_with (gi_at_builtin;go_loud (refine jd (Kd.int .i64) (w0:=w) w.heap.size rfl (.tmp 38) (.tmp 40) 25 3 (.int .i64 0) 8 rfl Tryz.underlying25 fC rfl (by decide) (by omega) (.slice g o.length cr) o j [.int .i64 j] (fun k=>a.heap.size+2<=k) (fun _=>False) rfl rfl rfl (fun _ hk=>hk.elim) c9.out b4.out Q.out Q.out.size LN.out ?_;intro v1 eg I hb ag c';obtain⟨A2,c2,rfl⟩:=Kd.bE I;have dd:=zA I;have dl:=zA hb;have J:=zA ag;have N:=zA ((ag.block bo (ay b1.out) (Kd.cW b4.out b1.out (by decide))).trans b1.out);have am:=cB N.out;have ek:=bc N.out 0;have z:=zA ((ag.block bv (ay P.out) (fun e=>by have h:a.heap.size+2<=bv:=b4.out.1 bv e.symm;omega)).trans P.out);have el:=cB z.out;have em:=bc z.out 0;clear I hb ag c'))
   have X3:=zA ((J.out.block _ (ay b3.out) (Kd.cW b4.out b3.out (by decide))).trans b3.out);have X6:=zA ((J.out.block _ (ay r.out) (Kd.cW b4.out r.out (by decide))).trans r.out);have I:∀k,(Value.slice g o.length cr).ownBlock=some k->a.heap.size+2<=k:=fun k e=>b4.out.1 k e
   have dx:w.heap.size<=W.heap.size:=Q.out.size;refine⟨((lN b4.out J.out).trans (eu _ _ (ay Z.out))).trans (eu _ _ (ay V.out)),⟨fun _=>?_,fun i=>?_,fun i=>?_⟩,by have:=J.out.size;simp at this⊢;omega,⟨.slice A2 (o.length+1) c2,?_,?_⟩,?_,?_,?_,?_⟩
   ·exact(((ai w.heap.size W).grown J.out dx (fun k e=>by have:=I k e;omega)).setCell (p:=⟨bo,0,none⟩) (by show w.heap.size<=bo;omega) _).setCell (p:=⟨bv,0,none⟩) (by show w.heap.size<=bv;omega) _
   ·rw[Below.heap_setCell _ _ _ _ (by show gx≠bv;omega),Below.heap_setCell _ _ _ _ (by show gx≠bo;omega)]
    exact J.out.block gx i (fun e=>by have:=I gx e.symm;omega)
   ·rw[Below.heap_setCell _ _ _ _ (by show qx≠bv;omega),Below.heap_setCell _ _ _ _ (by show qx≠bo;omega)]
    exact J.out.block qx i (fun e=>by have:=I qx e.symm;omega)
   ·exact aH (bB N.out 0 (.slice A2 (o.length+1) c2)) (by show bo≠bv;omega) _
   ·rw[y.out]
    have h:=Kd.kp (p:=⟨bv,0,none⟩) (Kd.kp (p:=⟨bo,0,none⟩) dd.out (fun k hk=>by show k≠bo;omega) (.slice A2 (o.length+1) c2)) (fun k hk=>by show k≠bv;omega) (.int .i64 (wrap64 (j+1)));simpa using h
   ·rw[y.out]
    exact cm (cs:=#[.int .i64 j]) (aH z.out (by show bv≠bo;omega) _) 0 _ rfl
   ·exact aH (aH X3.out (by show w.heap.size+1≠bo;omega) _) (by show w.heap.size+1≠bv;omega) _
   ·exact aH (aH X6.out (by show w.heap.size+1+1≠bo;omega) _) (by show w.heap.size+1+1≠bv;omega) _
   ·exact dz (dz dl.out (by show w.heap.size<=bo;omega)) (by show w.heap.size<=bv;omega)
  ·rw[if_neg hx] at y
   gi_wp2;refine⟨eu _ _ (ay V.out),⟨fun _=>?_,fun i=>?_,fun i=>?_⟩,by simpa using c7,⟨_,aH b1.out (by show bo≠bv;omega) _,?_⟩,?_,aH b3.out (by show w.heap.size+1≠bv;omega) _,aH r.out (by show w.heap.size+1+1≠bv;omega) _,dz Q.out (by show w.heap.size<=bv;omega)⟩
   ·exact(ai w.heap.size W).setCell (p:=⟨bv,0,none⟩) (by show w.heap.size<=bv;omega) _
   ·exact Below.heap_setCell _ _ _ _ (by show gx≠bv;omega)
   ·exact Below.heap_setCell _ _ _ _ (by show qx≠bv;omega)
   ·rw[y.out]
    exact Kd.kp (p:=⟨bv,0,none⟩) b4.out (fun k hk=>by show k≠bv;omega) _
   ·rw[y.out]
    exact cm (cs:=#[.int .i64 j]) P.out 0 _ rfl
 case done=>
  rintro s xs W W' _ ck ⟨X,⟨v,i1,i4⟩,i2,i3,i6,i5⟩ b cl;have d0:xs=fl L n:=ck;subst d0;have b1:=zA (b.cells i1);have b3:=zA (b.cells i3);have r:=zA (b.cells i6);have b4:=zA (cC i4 b);have Q:=zA (i5.trans (b.below w.heap.size (by omega)));have d1:=zA cl;clear i1 i2 i3 i4 i5 i6 cl ck b;obtain⟨o,ho⟩:∃o,o=(eI (fl L n)).1:=⟨_,rfl⟩;have d2:=zA ho;rw[<-ho] at b4;clear ho;obtain⟨g,cr,rfl⟩:=Kd.bE b4.out;have z1:=cB b1.out;have z3:=cB b3.out;have z4:=bc b3.out 0;have z6:=cB r.out;have z7:=bc r.out 0;have Y3:=zA (aH (p:=⟨w.heap.size+1,0,none⟩) r.out (by show w.heap.size+1+1≠w.heap.size+1;omega) (.slice g o.length cr));have q3:(W'.setCell ⟨w.heap.size+1,0,none⟩ (.slice g o.length cr)).cell? ⟨w.heap.size+1+1,0,none⟩=some (.int .i64 0):=cB Y3.out;have q4:=bc Y3.out 0;gi_wp2;have ad:w.heap.size+1≠a.heap.size:=by omega
  have d3:w.heap.size+1+1≠a.heap.size:=by omega
  have Y1:=zA (aH (p:=⟨w.heap.size+1+1,0,none⟩) (bB b3.out 0 (.slice g o.length cr)) (by show w.heap.size+1≠w.heap.size+1+1;omega) (.int .i64 0));have Y2:=zA (bB Y3.out 0 (.int .i64 0));have Y4:=zA (show ((W'.setCell ⟨w.heap.size+1,0,none⟩ (.slice g o.length cr)).setCell ⟨w.heap.size+1+1,0,none⟩ (.int .i64 0)).heap[a.heap.size]? =some (.deferred (some [])) from by rw[Below.heap_setCell _ _ _ _ (fun e=>d3 e.symm),Below.heap_setCell _ _ _ _ (fun e=>ad e.symm)];exact d1.out);have Y5:=zA (Kd.kp (p:=⟨w.heap.size+1+1,0,none⟩) (Kd.kp (p:=⟨w.heap.size+1,0,none⟩) b4.out (fun k hk=>by show k≠w.heap.size+1;omega) (.slice g o.length cr)) (fun k hk=>by show k≠w.heap.size+1+1;omega) (.int .i64 0));have Y6:=zA ((Q.out.setCell (p:=⟨w.heap.size+1,0,none⟩) (by show w.heap.size<=w.heap.size+1;omega) (.slice g o.length cr)).setCell (p:=⟨w.heap.size+1+1,0,none⟩) (by show w.heap.size<=w.heap.size+1+1;omega) (.int .i64 0));have ak:Bk a.heap.size ((W'.setCell ⟨w.heap.size+1,0,none⟩ (.slice g o.length cr)).setCell ⟨w.heap.size+1+1,0,none⟩ (.int .i64 0)) (((W'.setCell ⟨w.heap.size+1,0,none⟩ (.slice g o.length cr)).setCell ⟨w.heap.size+1+1,0,none⟩ (.int .i64 0)).putObj a.heap.size (.deferred none)):=⟨_,_,Y4.out,rfl,rfl⟩;refine iB (D:=a.heap.size) rfl Y4.out (qd (p:=4) (u:=5) rfl _ _ ⟨w.heap.size+1,0,none⟩ ⟨w.heap.size+1+1,0,none⟩ (.slice g o.length cr) (.int .i64 0) rfl rfl Tryz.underlying25 Tryz.underlying30 rfl rfl ((ah (ak.cells Y1.out) 0).trans (by simp)) ((ah (ak.cells Y2.out) 0).trans (by simp))) ⟨_,rfl,?_,Y6.out.trans (ak.below w.heap.size (by omega))⟩;rw[<-d2.out];exact Kd.bj (cC Y5.out ak) (fun _ _=>trivial)
end
section
def bQ (P:Nat->Prop):Prop:=∃B,∀K,B<=K->P K
theorem bQ.fM {α:Type} {f:Nat->Option α} {r:α} (h:Ev f r):bQ fun k=>f k=some r:=h
theorem bQ.and {P Q:Nat->Prop} (h:bQ P) (a:bQ Q):bQ fun k=>P k/\Q k:=by
 obtain⟨B,h⟩:=h;obtain⟨C,a⟩:=a;exact⟨max B C,fun K b=>⟨h K (by omega),a K (by omega)⟩⟩
theorem bQ.imp {P Q:Nat->Prop} (h:bQ P) (hi:∀k,P k->Q k):bQ Q:=by
 obtain⟨B,h⟩:=h;exact⟨B,fun K a=>hi K (h K a)⟩
theorem bQ.mem {α:Type} {P:α->Nat->Prop}:∀{l:List α},(∀x∈l,bQ (P x))->bQ fun k=>∀x∈l,P x k
 |[],_=>⟨0,fun _ _ x b=>by simp at b⟩
 |x::l,h=>by
  refine((h x (List.mem_cons_self ..)).and (bQ.mem fun y a=>h y (List.mem_cons_of_mem _ a))).imp fun k hk y a=>?_
  rcases List.mem_cons.1 a with rfl|a
  ·exact hk.1
  ·exact hk.2 y a
theorem bQ.below {P:Nat->Nat->Prop} {n:Nat} (h:∀v,v<n->bQ (P v)):bQ fun k=>∀v,v<n->P v k:=
 (bQ.mem (l:=List.range n) fun v a=>h v (List.mem_range.1 a)).imp fun k hk v a=>hk v (List.mem_range.2 a)
theorem EW (pre:List Int):(eI pre).1.length=pre.countP fun x=>decide (x=1):=by
 have key:∀(pre:List Int) (s:List Int×Int),(pre.foldl (fun s x=>(if x=1 then s.1++[s.2] else s.1,wrap64 (s.2+1))) s).1.length=s.1.length+pre.countP fun x=>decide (x=1):=fun pre=>by
  induction pre with
  |nil=>intro s;simp
  |cons x pre a=>
   intro s;rw[List.foldl_cons,a,List.countP_cons];by_cases e:x=1
   ·simp[e];omega
   ·simp[e]
 have:=key pre ([],0);simpa [eI] using this
theorem EX {L:List Int} {n:Nat} (h:∀u:Nat,u<n->rd L u=1):(eI (fl L n)).1.length=n:=by
 have a:(fl L n).length=n:=by simp[fl]
 rw[EW,List.countP_eq_length.2,a];intro x b;obtain⟨u,hu,rfl⟩:=List.mem_map.1 b;exact aA (h u (List.mem_range.1 hu))
namespace Curve
variable {n:Nat} {E:List S83} {d:List Int} (h:Curve n E d) (hn:1<=n)
include h hn
theorem oe {c:List Int} (b:c.length=n) (hb:∀v:Nat,v<n-> -200<=rd c v/\rd c v<=200) {q:Nat} (e:q<n):ij n q E c:=by
 have a:=h.jz hn b hb;exact⟨a.n1,a.n12,e,a.len,a.right,a.conn,a.val,a.dl,a.d⟩
theorem EY {c:List Int} (o:c.length=n) (hb:∀v:Nat,v<n-> -200<=rd c v/\rd c v<=200) {v:Nat} (i:v<n):∃p,Ev (fun k=>gS.f k n E c v) (p,(0:Int))/\(p=1↔¬T.bV n (ae E) (fun u=>rd c (u:Nat))/\T.bV n (ae E) (fun u=>rd c (u:Nat)+T.one v u)):=by
 have j:=h.oe hn o hb i;have y:=(h.facts hn).1;have e:=j.right.wt;obtain⟨s,h1,C,g⟩:=nX j h.check;have he:T.bY n (ae E) (fun u=>rd c (u:Nat)) (fun u=>rd (bP n E c s) (u:Nat)):=⟨_,g.eq⟩;have q:=T.Bi e i he g.red;have D:=he.ng e;have F:=T.l9 (f:=fun u=>rd c (u:Nat)) (n:=n) (B:=200) hb;have l:=T.uQ (f:=fun u=>rd (bP n E c s) (u:Nat)) i (a:=0) (b:=19) (by omega) (by omega) (fun u hu m=>by
  have r:=g.red.1 u hu m;have a2:=T.nL e g.red.2 hu m;have a3:=T.gZ hu (f:=T.val n (ae E)) (fun w _=>T.dE fun z _=>e.pos _ _);have a4:=j.val;have x:0<=rd (bP n E c s) (u:Nat):=r;have G:rd (bP n E c s) (u:Nat)<T.val n (ae E) u:=a2;exact⟨x,by show rd (bP n E c s) (u:Nat)<=19;omega⟩)
 have H:T.sN (fun u=>rd (bP n E c s) (u:Nat)) n-n*19<=rd (bP n E c s) (v:Nat):=l.1;have I:rd (bP n E c s) (v:Nat)<=T.sN (fun u=>rd (bP n E c s) (u:Nat)) n-n*0:=l.2;refine⟨mx 0 (wrap64 (-(rd (bP n E c s) (v:Nat)))),?_,?_⟩
 ·unfold gS.f
  refine Ev.bind h1 ?_;simp only[if_true,if_pos (show (0:Int)<=(v:Int) by omega),if_pos (show (v:Int)<((bP n E c s).length:Int) by rw[qF];omega)];exact Ev.const _
 ·rw[fV (by omega)]
  refine Iff.trans ?_ q;show _↔rd (bP n E c s) (v:Nat)= -1
  unfold mx;split<;>omega
theorem EZ {c:List Int} (b:c.length=n) (hb:∀v:Nat,v<n-> -200<=rd c v/\rd c v<=200):∃L:List Int,(bQ fun k=>∀u:Nat,u<n->gS.f k n E c (u:Nat)=some (rd L u,0))/\∀u:Nat,u<n->(rd L u=1↔¬T.bV n (ae E) (fun x=>rd c (x:Nat))/\T.bV n (ae E) (fun x=>rd c (x:Nat)+T.one u x)):=by
 have hex:∀v:Nat,∃p:Int,v<n->Ev (fun k=>gS.f k n E c v) (p,(0:Int))/\(p=1↔¬T.bV n (ae E) (fun u=>rd c (u:Nat))/\T.bV n (ae E) (fun u=>rd c (u:Nat)+T.one v u)):=fun v=>by
  by_cases a:v<n
  ·obtain⟨p,h1⟩:=h.EY hn b hb a
   exact⟨p,fun _=>h1⟩
  ·exact⟨0,fun e=>absurd e a⟩
 refine⟨(List.range n).map fun v=>(hex v).choose,bQ.below fun u hu=>?_,fun u hu=>?_⟩
 ·rw[nU _ hu]
  exact((hex u).choose_spec hu).1
 ·rw[nU _ hu]
  exact((hex u).choose_spec hu).2
end Curve
end
end Go.Proofs.YtffdiakgjakngaaGreat.P
namespace Go.Proofs.YtffdiakgjakngaaGreat.P
open Go.RowKit Go.Proofs.YtffdiakgjakngaaGreatW.PrintWords Go.Proofs.YtffdiakgjakngaaGreatW.PrintLast Go.Proofs.YtffdiakgjakngaaGreatW.PrintMore Go.Proofs.YtffdiakgjakngaaGreat.T
set_option linter.unusedVariables false
set_option linter.unusedSimpArgs false
set_option maxHeartbeats 8000000
set_option maxRecDepth 100000
section
attribute [local go_sem] Oper.semAt_some
theorem E4 (t:TypeId) (g:Tryz.prog.underlying t=some (.slice 4)) (n:Nat) (hn:n<=1000):∃zs:Array Value,(∀W:World,(Instr.makeSlice t (.int .i64 n) (.int .i64 n)).run Tryz.prog W= .ok (.slice (some ⟨W.heap.size,0,none⟩) n n) (W.alloc (.cells zs 4)))/\
  ∀(W:World) (ok:Nat->Prop),ok W.heap.size->Kd.bool.R 4 (W.alloc (.cells zs 4)) W.heap.size ok (.slice (some ⟨W.heap.size,0,none⟩) n n) (List.replicate n false):=by
 obtain⟨i0,hi,b⟩:=Option.map_eq_some_iff.1 jT;simp only[Prod.mk.injEq] at b;obtain⟨i,j,l⟩:=b;refine⟨madeCells (Value.bool false).cells (n*1),fun W=>?_,fun W ok m=>⟨fun k hk=>?_,(madeCells (Value.bool false).cells (n*1)).toList,?_,?_⟩⟩
 ·have a:=run_make (P:=Tryz.prog) W t 4 i0 (.bool false) g hi i .i64 .i64 (n:Int) (n:Int) (by omega) (by omega) (by rw[l];omega) (by omega)
  simp only[aq] at a;rw[j] at a;exact a
 ·have:W.heap.size=k:=by simpa [Value.ownBlock] using hk
  subst this;exact m
 ·have h:=World.ownsRow_lit (base:=W.heap.size) (e:=4) (size:=1) W (madeCells (Value.bool false).cells (n*1)) n (aM _) (by simp only[maxLen];omega) (size_madeCells _ _)
  rw[List.length_replicate];exact h
 ·exact Kd.oF (R:=Kd.bool.M (W.alloc (.cells (madeCells (Value.bool false).cells (n*1)) 4)) W.heap.size (fun k=>ok k/\some k≠(Value.slice (some ⟨W.heap.size,0,none⟩) n n).ownBlock)) (size:=1) (z:=Value.bool false) (z0:=false) rfl (by decide) rfl n
theorem E5 (n:Int) (w:World):Calls Tryz.prog 124 #[.int .i64 n] w fun e w'=>e= .returned (.func (.func 179) #[] #[.pointer (some ⟨w.heap.size,0,none⟩)])/\w'=w.alloc (.cells #[.int .i64 n] 3):=by
 go_enter Tryz.func124,Tryz.ntmps124
 go_wp2;go_ret;exact⟨rfl,rfl⟩
def wy (w0:World) (a b:Nat) (X Y:World):Prop:=(w0.heap.size<=X.heap.size->Below w0.heap.size X Y)/\∀k,(k=a\/k=b)->k<X.heap.size->Y.heap[k]? =X.heap[k]?
def E6 (w0:World) (a n:Nat) (x:List Bool) (A C:World):Prop:=A.grownBy C (some a)/\Kd.bool.R 4 C w0.heap.size (fun k=>k=a) (.slice (some ⟨a,0,none⟩) n n) x/\x.length=n/\a<A.heap.size
theorem E7 (g n s:Nat) (w0 W:World) (hS:W.heap.size=s) (hn:n<=1000) (E:W.heap[g]? =some (.cells #[.int .i64 n] 3 (0,0))) (hw:Below w0.heap.size w0 W):
  gD (σ:=Unit) Fence.wide 9 Tryz.prog 179 #[.pointer (some ⟨g,0,none⟩)] (fun _:List Bool=>#[.slice (some ⟨s,0,none⟩) n n]) (fun _ W W1=>W1=W) (fun _ A C=>A.grownBy C (some s)) (fun _ x A C=>E6 w0 s n x A C)
   (fun _ X Y=>wy w0 g s X Y) (fun _ xs W'=>xs=eU n) (fun _ _ _=>True) (fun pre=>pre.length<2 ^ n) W:=by
 intro lp J Jx T U V Z;have H:=zA T;have bq:=zA U;have hY:=zA Z;have aa:=V () W rfl;clear T U V Z;subst hS;obtain⟨zs,a3,ad⟩:=E4 43 Tryz.underlying43 n hn;have bv:(0:Int)<=(n:Int):=by omega
 refine callsIn_of_wp Tryz.func179 rfl trivial ?_ rfl;simp only[Tryz.ntmps179,List.size_toArray,List.length_cons,List.length_nil,Nat.reduceAdd,Nat.reduceSub,Array.replicate_succ,Array.replicate_zero,List.push_toArray,List.append_toArray,List.nil_append,List.cons_append];have b0:W.cell? ⟨g,0,none⟩=some (.int .i64 n):=(ah E 0).trans rfl;have bw:=ay E;have HZ:=zA (Kd.bt (base':=w0.heap.size) (ad W (fun k=>k=W.heap.size) rfl) hw.size);have h:=zA (aj E (.cells zs 4));have i:=zA (af hw (.cells zs 4));have u:=zA (H.out () _ _ (W.alloc (.cells zs 4)) aa (gh (af (ai _ _) _) _));have j:=zA (show W.heap.size<(W.alloc (.cells zs 4)).heap.size by simp);clear E ad aa;gi_wp2;clear b0 a3;gi_loopg [] (2 ^ n) (fun I wr=>∃(o:List Bool) (pre rest:List (List Bool)),pre++rest=eU n/\en o rest/\o.length=n/\Aside0 (J () pre wr)/\Aside0 (Kd.bool.R 4 wr w0.heap.size (fun k=>k=W.heap.size) (.slice (some ⟨W.heap.size,0,none⟩) n n) o)/\Aside0 (wr.heap[g]? =some (.cells #[.int .i64 n] 3 (0,0)))/\Aside0 (Below w0.heap.size w0 wr)/\Aside0 (W.heap.size<wr.heap.size)/\Aside0 (I=rest.length))
 case atStart=>exact⟨List.replicate n false,[],eU n,rfl,qU n,by simp,u,HZ,h,i,j,⟨(qR n).symm⟩⟩
 case round=>
  clear u HZ h i j;obtain⟨o,pre,rest,K,l,L,u,M,h,i,j,HK⟩:=hrel;have ak:=zA K;have am:=zA l;have N:=zA L;have hlen:pre.length<2 ^ n:=by
   have h1:=qR n;rw[<-K,List.length_append] at h1;have:=l.len;omega
  obtain⟨fn,tmps,bx,b1,hy,ao⟩:=hY.out () pre o wr wr u.out ⟨gh (ai _ _) _,M.out,L,j.out⟩ hlen;have a5:=zA ao;clear ao hlen K l L;gi_wp2;refine a5.out.mono ?_;rintro e W3 (⟨rfl,ar,F⟩|⟨rfl,av⟩)
  ·have hk:=F.1 i.out.size
   have q:=zA ar;have r:=zA ((F.2 g (.inl rfl) (ay h.out)).trans h.out);have v:=zA (Kd.iW M.out (fun k h1 h2=>F.2 k (.inr h1) h2));have w:=zA (i.out.trans hk);have y:Aside0 (W.heap.size<W3.heap.size):=⟨Nat.lt_of_lt_of_le j.out hk.size⟩;have b0:W3.cell? ⟨g,0,none⟩=some (.int .i64 n):=(ah r.out 0).trans rfl;clear ar F hk hy u h M i j;gi_wp2;clear b0;gi_loopg [4] (n) (fun I iv wi=>∃(p:List Bool) (m:Nat),p.length+m=n/\Aside0 (o=p++List.replicate m true)/\iv= .int .i64 ((p.length:Int)-1)/\Aside0 (Kd.bool.R 4 wi w0.heap.size (fun k=>k=W.heap.size) (.slice (some ⟨W.heap.size,0,none⟩) n n) (p++List.replicate m false))/\Aside0 (J () (pre++[o]) wi)/\Aside0 (wi.heap[g]? =some (.cells #[.int .i64 n] 3 (0,0)))/\Aside0 (Below w0.heap.size w0 wi)/\Aside0 (W.heap.size<wi.heap.size)/\Aside0 (I=p.length))
   case atStart=>exact⟨o,0,by have:=N.out;omega,⟨by simp⟩,by rw[N.out],⟨by simpa using v.out⟩,q,r,w,y,⟨N.out.symm⟩⟩
   case round=>
    clear v q r w y;obtain⟨p,m,aB,O,rfl,v,q,r,w,y,aF⟩:=hrel;rcases List.eq_nil_or_concat p with rfl|⟨a,b,aL⟩
    ·have bd:Aside0 (pre++[o]=eU n):=⟨by rw[<-ak.out,am.out.stop (by rw[O.out];exact qV m)]⟩
     gi_wp2;refine bodyPost_ret (results_none rfl _ _ _) rfl ?_;exact⟨⟨_,rfl⟩,.inl ⟨(),_,bd.out,q.out⟩⟩
    ·rw[List.concat_eq_append] at aL
     subst aL;have b2:a.length+1+m=n:=by rw[<-aB];simp
     have aO:(((a++[b]).length:Int)-1)=(a.length:Int):=by simp
     have G:=v.out;rw[show a++[b]++List.replicate m false=a++b::List.replicate m false by simp] at G;have aP:=zA (O.out.trans (show a++[b]++List.replicate m true=a++b::List.replicate m true by simp));have be:=zA (aF.out.trans (show (a++[b]).length=a.length+1 by simp));have bf:(0:Int)<=(a.length:Int):=by omega
     have b3:(a.length:Int)<(n:Int):=by omega
     obtain⟨z,y4⟩:=Kd.bG false G (a.length:Int) bf (by first|omega|(simp;omega));rw[show bs false (a++b::List.replicate m false) (a.length:Int)=b by simp[bs,aN],aq] at z;rw[aq] at y4;have P:∀x:Bool,_:=fun x=>Kd.cY G (a.length:Int) x
     simp only[aq,List.set_append_right _ _ (aM _),Nat.sub_self,List.set_cons_zero] at P;have aS:=zA P;rw[aO];clear P G aB O aF aO v;cases b with
     |true=>
      replace z:wr.cell? ⟨W.heap.size,a.length,none⟩=some (.bool true):=z;obtain⟨B,D⟩:=aS.out false;have Q:=zA B;have S:=zA D;clear B D;gi_wp2;gi_roundg (a.length)
      case measure=>rw[be.out];omega
      case rel=>exact⟨a,m+1,by omega,⟨by rw[aP.out];rfl⟩,by go_num,⟨Q.out⟩,⟨H.out () _ _ _ q.out S.out⟩,⟨(Below.heap_setCell _ _ _ _ (by show g≠W.heap.size;omega)).trans r.out⟩,⟨Below.setCell (p:=⟨W.heap.size,a.length,none⟩) w.out hw.size _⟩,⟨by simpa using y.out⟩,⟨rfl⟩⟩
     |false=>
      replace z:wr.cell? ⟨W.heap.size,a.length,none⟩=some (.bool false):=z;obtain⟨B,D⟩:=aS.out true;have Q:=zA B;have S:=zA D;clear B D;obtain⟨ys,a0,l⟩:=am.out.next (by rw[aP.out];exact vO m a);have a1:=zA a0;have bi:=zA l;clear a0 l;gi_wp2;gi_roundg (ys.length)
      case measure=>rw[HK.out,a1.out,List.length_cons];omega
      case rel=>exact⟨_,pre++[o],ys,by rw[<-ak.out,a1.out];simp,bi.out,by simp;omega,⟨H.out () _ _ _ q.out S.out⟩,⟨Q.out⟩,⟨(Below.heap_setCell _ _ _ _ (by show g≠W.heap.size;omega)).trans r.out⟩,⟨Below.setCell (p:=⟨W.heap.size,a.length,none⟩) w.out hw.size _⟩,⟨by simpa using y.out⟩,⟨rfl⟩⟩
  ·have bk:=zA av
   clear av hy;gi_wp2;go_end0;exact⟨⟨_,rfl⟩,.inr ⟨(),_,trivial,bk.out⟩⟩
end
end Go.Proofs.YtffdiakgjakngaaGreat.P
namespace Go.Proofs.YtffdiakgjakngaaGreat.P
open Go.RowKit Go.Proofs.YtffdiakgjakngaaGreatW.PrintWords Go.Proofs.YtffdiakgjakngaaGreatW.PrintLast Go.Proofs.YtffdiakgjakngaaGreatW.PrintMore
set_option linter.unusedVariables false
set_option linter.unusedSimpArgs false
set_option maxHeartbeats 8000000
set_option maxRecDepth 100000
theorem E8 (w:World) (ok:Nat->Prop) (a:ok w.heap.size) (e:Nat):Kd.bool.R e (w.alloc (.cells #[] e)) w.heap.size ok (.slice (some ⟨w.heap.size,0,none⟩) 0 0) []:=
 ⟨fun k hk=>by
  have:w.heap.size=k:=by simpa [Value.ownBlock] using hk
  subst this;exact a,[],by
  show World.ownsRow _ _ _ 1 _ _ _
  simpa using World.ownsRow_lit (base:=w.heap.size) (e:=e) (size:=1) w #[] 0 (aM _) (by decide) rfl,bH.none _ _⟩
theorem E9 (ad:Addr) (c0:Nat) (l:List Bool) (w:World) (b:Kd.bool.C w (some ad) l.length l) (h:l.length<=1000000):
  Calls Tryz.prog 125 #[.slice (some ad) l.length c0] w fun e w'=>∃v,e= .returned v/\Kd.bool.R 4 w' w.heap.size (fun _=>True) v l/\Below w.heap.size w w':=by
 have hu:=Tryz.underlying43;have i:=fun (w:World) (a:Option Addr) (n c:Nat)=>Lib.run_eql_slice_nil (P:=Tryz.prog) w 43 4 a n c 0 0 hu
 go_enter Tryz.func125,Tryz.ntmps125
 go_wp2_with (at_builtin;refine Kd.oM (w0:=w) (Value.bool) (false:Bool) (h1:=fun _=>rfl) w.heap.size rfl (.tmp 5) (.tmp 6) 43 4 (.bool false) 1 rfl Tryz.underlying43 jT rfl (by decide) (.slice (some ⟨w.heap.size,0,none⟩) 0 0) [] l (some ad) l.length c0 (fun _=>True) rfl rfl (fun _ _=>trivial) (E8 w _ trivial 4) (Kd.al b (af (ai _ _) _)) (af (ai _ _) _) (by simp) (by simp;omega) ?_;intro v1 w1 g hb j _)
 go_ret;exact⟨_,rfl,g,hb⟩
end Go.Proofs.YtffdiakgjakngaaGreat.P
namespace Go.Proofs.YtffdiakgjakngaaGreat.P
open Go Go.RowKit
set_option linter.unusedVariables false
set_option linter.unusedSimpArgs false
set_option maxHeartbeats 8000000
set_option maxRecDepth 100000
section
section
variable {F:Fence} {n:Nat} {P:Program} {md:Region.Mode}
def chainB (md:Region.Mode) (ops:Array Oper):Array Bool->List Nat->Bool
 |a,[]=>Region.ready md ops a==[]
 |a,i::is=>Region.ready md ops a==[i]&&chainB md ops (a.setIfInBounds i true) is
theorem mm {l:List Oper} {Q:Exit->Act->World->Prop}:∀(k m:Nat) (e:Array Bool) (fuel:Nat) (a:Act) (w:World),m+k=l.length->chainB md l.toArray e (List.range' m k)=true->k<=fuel->wpListIn F n P l.toArray Q (l.drop m) a w->wpAnyIn F n P md l.toArray Q fuel e a w
 |0,m,e,fuel,a,w,hm,b,hf,h=>by
  have g:Region.ready md l.toArray e=[]:=by simpa [chainB] using b
  rw[List.drop_eq_nil_of_le (by omega)] at h;cases fuel with
  |zero=>exact⟨g,h⟩
  |succ f=>exact⟨fun _=>h,fun i hi=>by rw[g] at hi;cases hi⟩
 |k+1,m,e,fuel,a,w,hm,b,hf,h=>by
  rw[List.range'_succ,chainB,Bool.and_eq_true,beq_iff_eq] at b;obtain⟨g,b⟩:=b;obtain⟨f,rfl⟩:∃f,fuel=f+1:=⟨fuel-1,by omega⟩;have j:m<l.length:=by omega
  have o:l.toArray[m]? =some l[m]:=by rw[List.getElem?_toArray,br j]
  rw[List.drop_eq_getElem_cons j] at h;refine⟨fun h1=>absurd (g.symm.trans h1) (by simp),fun i hi=>?_⟩;rw[g,List.mem_singleton] at hi;subst hi;have p:wpOpIn F n P l.toArray Q i (wpListIn F n P l.toArray Q (l.drop (i+1))) a w:=by
   unfold wpOpIn;simp only[o];exact h
  exact wpOpIn_mono (fun a w q=>mm k (i+1) _ f a w (by omega) b (by omega) q) p
end
end
end Go.Proofs.YtffdiakgjakngaaGreat.P
namespace Go.Proofs.YtffdiakgjakngaaGreat.P
open Go.RowKit Go.Proofs.YtffdiakgjakngaaGreatW.PrintWords Go.Proofs.YtffdiakgjakngaaGreatW.PrintLast Go.Proofs.YtffdiakgjakngaaGreatW.PrintMore Go.Proofs.YtffdiakgjakngaaGreat.T
set_option linter.unusedVariables false
set_option linter.unusedSimpArgs false
set_option maxHeartbeats 8000000
set_option maxRecDepth 100000
section
attribute [local go_sem] Oper.semAt_some
theorem E_ {α:Type} {d:Kd α} {e base bo nw:Nat} {ok:Nat->Prop} {W b w1:World} {v:Value} {xs:List α} (K:Nat->Prop) (a:Below W.heap.size W b) (g:d.R e b base ok v xs) (h:b.grownBy w1 v.ownBlock) (l:bo<nw) (m:base<=bo) (i:∀k,K k->k≠bo/\¬ok k) (v1:Value):
  bI nw W (w1.setCell ⟨bo,0,none⟩ v1)/\(base<=W.heap.size->Below base W (w1.setCell ⟨bo,0,none⟩ v1))/\∀k,K k->k<W.heap.size->(w1.setCell ⟨bo,0,none⟩ v1).heap[k]? =W.heap[k]? :=by
 refine⟨((cQ a).trans (lN g h)).trans (eu _ _ l),fun aG=>((a.mono aG).grown h (Nat.le_trans aG a.size) (Kd.ee g)).setCell (p:=⟨bo,0,none⟩) m _,fun k hk j=>?_⟩;rw[Below.heap_setCell _ _ _ _ (i k hk).1];exact(h.block k (Nat.lt_of_lt_of_le j a.size) (fun e=>(i k hk).2 (g.1 k e.symm))).trans (a.block k j)
theorem wz:(Tryz.prog.info? 43).map (fun i=>(i.zero,i.size,i.bytes))=some (some (.slice none 0 0),1,24):=by kernel_rfl
theorem E' (bg bq k n:Nat) (A0:Option Addr) (c0:Nat) (E:List S83) (S:List (Nat×Int×Int)) (q:Int) (w:World) (ap:Kd.C aQ w A0 E.length E) (av:E.length<=c0) (hn:n<=1000) (ht:aW.f k n E=some 0) (hE:cJ E=true) (hS:a6 E E.length=S) (bv:S.length<=14) (bw:dY n S)
  (b0:w.heap[bg]? =some (.cells #[.int .i64 n,.slice A0 E.length c0] 24 (0,0))) (b3:w.heap[bq]? =some (.cells #[.int .i64 q] 3 (0,0))):
  Calls Tryz.prog 65 #[.agg #[.int .i64 n,.slice A0 E.length c0],.func (.func 66) #[] #[.pointer (some ⟨bg,0,none⟩),.pointer (some ⟨bq,0,none⟩)]] w fun e w'=>∃v,e= .returned (.tuple #[v,.int .i64 0])/\(Kd.slice 4 Kd.bool).R 43 w' w.heap.size (fun _=>True) v (uniq n S q)/\Below w.heap.size w w':=by
 have hu:=Tryz.underlying24;have c8:Aside0 (∀W,Below w.heap.size w W->_):=⟨fun W N=>tw k n A0 c0 E S W (Kd.al ap N) av ht hE hS⟩;have c9:Aside0 (∀(o:List Bool) (X:Option Addr) (co:Nat) (W:World),o.length=S.length->Below w.heap.size w W->Kd.bool.C W X S.length o->Calls Tryz.prog 66 #[.slice X S.length co,.pointer (some ⟨bg,0,none⟩),.pointer (some ⟨bq,0,none⟩)] W fun e w'=>e= .returned (.bool (fx n S q o))/\Below W.heap.size W w'):=⟨fun o X co W O N hC=>by
  have h:=Ei bg bq k n A0 c0 E X co o S q w W ap av (by rw[O];exact hC) hn ht hE hS O (by omega) bw N (au b0 N) (au b3 N);rw[O] at h;exact h⟩
 clear ap ht hE hS bw b0 b3 av;unfold uniq;generalize Y:S.length=s at*;have e0:wrap64 ((2:Int) ^ s)<=16384:=by
  have h1:(2:Nat) ^ s<=2 ^ 14:=Nat.pow_le_pow_right (by omega) bv;have m:((2:Int) ^ s)=((2 ^ s:Nat):Int):=by simp
  rw[m];generalize (2:Nat) ^ s=z at h1⊢;unfold wrap64;omega
 refine(callsIn_wide (n:=10)).1 ?_;refine callsIn_of_wp_marks Tryz.func65 rfl trivial ?_ rfl;simp only[Tryz.ntmps65,List.size_toArray,List.length_cons,List.length_nil,Nat.reduceAdd,Nat.reduceSub,Array.replicate_succ,Array.replicate_zero,List.push_toArray,List.append_toArray,List.nil_append,List.cons_append];gi_wp2_with (first|(refine⟨trivial,?_⟩;gi_at_call 123;refine(callsIn_wide.2 (c8.out _ (af (af (ai _ _) _) _))).mono ?_;rintro e w1 ⟨rfl,hb⟩;have HB:=zA (aC (af (af (ai w.heap.size w) _) _) hb);have aO:=zA (au (heap_alloc2_new w (.cells #[.int .i64 n,.slice A0 E.length c0] 24) (.cells #[.func (.func 66) #[] #[.pointer (some ⟨bg,0,none⟩),.pointer (some ⟨bq,0,none⟩)]] 98)) hb);clear hb)|(refine⟨trivial,?_⟩;gi_at_call 124;refine(callsIn_wide.2 (E5 _ _)).mono ?_;rintro e w3 ⟨rfl,rfl⟩))
 have c':=HB.out.size;have dl:w.heap.size+1<w1.heap.size:=ay aO.out;have aP:=zA (aj (aU w1 (.cells #[.slice none 0 0] 40)) (.cells #[.int .i64 s] 3));have aS:=zA (heap_alloc2_new w1 (.cells #[.slice none 0 0] 40) (.cells #[.int .i64 s] 3));have a0:=zA (af (af HB.out (.cells #[.slice none 0 0] 40)) (.cells #[.int .i64 s] 3));have b6:=zA (aj (aj aO.out (.cells #[.slice none 0 0] 40)) (.cells #[.int .i64 s] 3));have Z:((w1.alloc (.cells #[.slice none 0 0] 40)).alloc (.cells #[.int .i64 s] 3)).heap.size=w1.heap.size+2:=by simp
 clear HB aO;generalize ((w1.alloc (.cells #[.slice none 0 0] 40)).alloc (.cells #[.int .i64 s] 3))=a at aP aS a0 b6 Z⊢;have ds:=Nat.le_of_eq Z;have dv:=Nat.le_of_eq Z.symm;clear Z;generalize d0:w1.heap.size+1=i at aS⊢;generalize w1.heap.size=bo at aP c' dl ds dv d0⊢;refine fR (σ:=Unit) (α:=List Bool) (F:=Fence.wide) (n:=10) rfl (by decide) (gf:=179) (lb:=#[.pointer (some ⟨i,0,none⟩)]) rfl trivial (enters_of Tryz.func179 (by kernel_rfl) rfl)
  (fun dd=>E7 i s (a.heap.size+2) w _ (by simp) (by omega) (aj (aj aS.out _) _) (af (af a0.out _) _)) (fun _=>rfl)
  (fun _=>True) ?dT ?st ?ar
  (fun _ pre W=>a.heap.size+2<=W.heap.size/\∃v,W.heap[bo]? =some (.cells #[v] 40 (0,0))/\W.heap[w.heap.size+1]? =some (.cells #[.func (.func 66) #[] #[.pointer (some ⟨bg,0,none⟩),.pointer (some ⟨bq,0,none⟩)]] 98 (0,0))/\(Kd.slice 4 Kd.bool).R 43 W w.heap.size (fun k=>¬(k=i\/k=a.heap.size+2)) v (pre.filter (fx n S q))/\Below w.heap.size w W) (fun _ _ _ _=>False)
  ?is (fun _ _ _ _ _ _ h _=>h) ?ib (fun _ _ _ _ _ h _=>h) ?kt ?h0 ?a1 ?assign ?body ?done (fun _ _ _ _ _ _ _ h=>h.elim)
 case assign=>
  intro l x W K b;gi_wp2;exact b
 case dT=>
  intro o s W1 h;exact⟨trivial,by rw[h];exact bI.refl _ _⟩
 case st=>intro s A B _ h k o h1 m P _;exact(h.block k (Array.getElem?_eq_some_iff.1 P).1 (fun e=>by injection e;omega)).trans P
 case ar=>intro s x A B _ h k o h1 m P _;exact(h.1.block k (Array.getElem?_eq_some_iff.1 P).1 (fun e=>by injection e;omega)).trans P
 case is=>
  rintro s pre A B _ ⟨Y,v,h1,m,h4,y⟩ Q;exact⟨Nat.le_trans Y Q.size,v,(Q.block bo (ay h1) (fun e=>by injection e;omega)).trans h1,(Q.block _ (ay m) (fun e=>by injection e;omega)).trans m,Kd.fO h4 Q (fun k hk e=>hk (.inr (by injection e))),ir y _ y.size Q (fun k e=>by injection e;omega)⟩
 case ib=>
  rintro s pre A B ⟨Y,v,h1,m,h4,y⟩ hb;exact⟨by rw[hb.size];exact Y,v,hb.cells h1,hb.cells m,cC h4 hb,y.trans (hb.below w.heap.size (by omega))⟩
 case kt=>
  intro s A B C D aa b_ a3;refine⟨fun aG=>((aa.below w.heap.size (by omega)).trans (b_.1 (by rw[aa.size];exact aG))).trans (a3.below w.heap.size (by omega)),fun k hk aG=>?_⟩;have b':k≠a.heap.size+1:=by rcases hk with rfl|rfl<;>omega
  exact(a3.heap k b').trans ((b_.2 k hk (by rw[aa.size];exact aG)).trans (aa.heap k b'))
 case h0=>
  rintro o s W1 rfl;exact⟨by simp,_,aj (aj aP.out _) _,aj (aj b6.out _) _,Kd.c_ _ _ _ _ _,af (af a0.out _) _⟩
 case body=>
  rintro l s' pre x Wb W1 W _ ⟨d3,v,i1,i2,i4,i5⟩ ⟨J,cb,cc,e5⟩ cd j;have e6:Wb.heap.size<=W.heap.size:=by have:=j.size;have:=J.size;omega
  have b1:=zA (j.cells ((J.block bo (ay i1) (fun e=>by injection e;omega)).trans i1));have b2:=zA (j.cells ((J.block _ (ay i2) (fun e=>by injection e;omega)).trans i2));have b4:=zA (cC (Kd.fO i4 J (fun k hk e=>hk (.inr (by injection e)))) j);have b5:=zA ((ir i5 _ i5.size J (fun k e=>by injection e;omega)).trans (j.below w.heap.size (by omega)));have bx:=zA (cC cb j);have L:x.length=s:=cc;have ch:∀k,v.ownBlock=some k->k<Wb.heap.size:=fun k hk=>Kd.cF i4 k hk
  have d6:=zA ch;have T:=zA (show (pre++[x]).filter (fx n S q)=if fx n S q x=true then pre.filter (fx n S q)++[x] else pre.filter (fx n S q) by
   rw[List.filter_append];by_cases h:fx n S q x=true
   ·rw[if_pos h];simp[h]
   ·rw[if_neg h];simp[h])
  have ci:Aside0 ((pre.filter (fx n S q)).length<=16384):=⟨Nat.le_trans (List.length_filter_le _ _) (by have h1:(2:Nat) ^ s<=2 ^ 14:=Nat.pow_le_pow_right (by omega) bv;have m:pre.length<2 ^ s:=cd;omega)⟩;clear i1 i2 i4 i5 J cb j ch cd cc;generalize pre.filter (fx n S q)=out at b4 T ci;obtain⟨M,cr,rfl⟩:=Kd.bE b4.out;have hc:=cB b1.out;have hf:=bc b1.out 0;have d7:W.cell? ⟨w.heap.size+1,0,none⟩=some (.func (.func 66) #[] #[.pointer (some ⟨bg,0,none⟩),.pointer (some ⟨bq,0,none⟩)]):=(ah b2.out 0).trans rfl;have d8:=zA (c9.out x (some ⟨a.heap.size+2,0,none⟩) s W L b5.out (by have h:=(Kd.a8 bx.out).2.2;rw[L] at h;exact h));gi_wp2_with (first|(refine⟨trivial,?_⟩;gi_at_call 66;refine(callsIn_wide.2 d8.out).mono ?_;rintro e U ⟨rfl,r⟩;have B4:=zA r;have c1:=zA (au b1.out r);have c2:=zA (au b2.out r);have c4:=zA (Kd.b7 b4.out r);have c5:=zA (aC b5.out r);have cx:=zA (Kd.b7 bx.out r);have e_:=r.size;clear hc hf d7 r))
  ·have ea:Aside0 (∀W,Kd.bool.C W (some ⟨a.heap.size+2,0,none⟩) s x->Calls Tryz.prog 125 #[.slice (some ⟨a.heap.size+2,0,none⟩) s s] W fun e w'=>∃v,e= .returned v/\Kd.bool.R 4 w' W.heap.size (fun _=>True) v x/\Below W.heap.size W w'):=⟨fun W hC=>by have h:=E9 ⟨a.heap.size+2,0,none⟩ s x W (by rw[L];exact hC) (by omega);rw[L] at h;exact h⟩
   have a5:=(Kd.a8 (Kd.bR cx.out)).2.2;rw[L] at a5;have eb:=zA a5;have e':=cB c1.out;have LN:Aside0 ((out.length+1)*24<=140737488355328):=⟨by have:=ci.out;omega⟩;clear a5;have cl:Aside0 (∀k,U.heap.size<=k->¬(k=i\/k=a.heap.size+2)/\some k≠(Value.slice M out.length cr).ownBlock):=⟨fun k hk=>⟨by omega,fun e=>by have:=d6.out k e.symm;omega⟩⟩;rename_i a9;rw[if_pos a9] at T;have bb:Aside0 (∀(G w1:World) (g:Option Addr) (c1:Nat),Below W.heap.size W G->(Kd.slice 4 Kd.bool).R 43 G w.heap.size (fun k=>¬(k=i\/k=a.heap.size+2)) (.slice M out.length cr) out->G.grownBy w1 (Value.slice M out.length cr).ownBlock->(Kd.slice 4 Kd.bool).R 43 w1 w.heap.size (fun k=>¬(k=i\/k=a.heap.size+2)) (.slice g (out.length+1) c1) (out++[x])->w1.heap[bo]? =some (.cells #[.slice M out.length cr] 40 (0,0))->w1.heap[w.heap.size+1]? =some (.cells #[.func (.func 66) #[] #[.pointer (some ⟨bg,0,none⟩),.pointer (some ⟨bq,0,none⟩)]] 98 (0,0))->Below w.heap.size w w1->
     bI a.heap.size W (w1.setCell ⟨bo,0,none⟩ (.slice g (out.length+1) c1))/\wy w i (a.heap.size+2) W (w1.setCell ⟨bo,0,none⟩ (.slice g (out.length+1) c1))/\a.heap.size+2<=(w1.setCell ⟨bo,0,none⟩ (.slice g (out.length+1) c1)).heap.size/\∃v,(w1.setCell ⟨bo,0,none⟩ (.slice g (out.length+1) c1)).heap[bo]? =some (.cells #[v] 40 (0,0))/\(w1.setCell ⟨bo,0,none⟩ (.slice g (out.length+1) c1)).heap[w.heap.size+1]? =some (.cells #[.func (.func 66) #[] #[.pointer (some ⟨bg,0,none⟩),.pointer (some ⟨bq,0,none⟩)]] 98 (0,0))/\(Kd.slice 4 Kd.bool).R 43 (w1.setCell ⟨bo,0,none⟩ (.slice g (out.length+1) c1)) w.heap.size (fun k=>¬(k=i\/k=a.heap.size+2)) v ((pre++[x]).filter (fx n S q))/\Below w.heap.size w (w1.setCell ⟨bo,0,none⟩ (.slice g (out.length+1) c1))):=⟨fun G w1 g c1 y hR hg O cq ek hb=>by
    obtain⟨e1,e2,e3⟩:=E_ (nw:=a.heap.size) (bo:=bo) (fun k=>k=i\/k=a.heap.size+2) y hR hg (by omega) (by omega) (fun k hk=>⟨by omega,fun h=>h hk⟩) (.slice g (out.length+1) c1);refine⟨e1,⟨e2,e3⟩,by have:=hg.size;have:=y.size;simp;omega,.slice g (out.length+1) c1,by simpa using bB cq 0 (.slice g (out.length+1) c1),aH ek (by show w.heap.size+1≠bo;omega) _,?_,dz hb (by show w.heap.size<=bo;omega)⟩;rw[T.out];exact Kd.ep O cq (by decide) 0 (.slice g (out.length+1) c1)⟩
   refine wpIn_region_any (by kernel_rfl) ?_;change wpAnyIn _ _ _ _ _ _ _ _ _ (World.drew _)
   refine wpAnyIn_ready (rs:=[0,1]) (by kernel_rfl) (by simp) ?_;refine AllReadyIn.cons rfl (fun K b=>?_) (AllReadyIn.cons rfl (fun K b=>?_) AllReadyIn.nil);go_simp
   refine b _ _ ?_;clear b K;refine mm 5 1 _ _ _ _ rfl (by kernel_rfl) (by decide) ?_;rotate_left
   go_simp
   refine b _ _ ?_;clear b K;refine wpAnyIn_ready (rs:=[0,2]) (by kernel_rfl) (by simp) ?_;refine AllReadyIn.cons rfl (fun K b=>?_) (AllReadyIn.cons rfl (fun K b=>?_) AllReadyIn.nil);go_simp
   refine b _ _ ?_;clear b K;refine mm 4 2 _ _ _ _ rfl (by kernel_rfl) (by decide) ?_;rotate_left
   go_simp
   rotate_left
   all_goals(try simp only[List.drop_succ_cons,List.drop_zero])
   all_goals gi_wp2_with (first|(refine⟨trivial,?_⟩;gi_at_call 125;refine(callsIn_wide.2 (ea.out _ eb.out)).mono ?_;rintro e G ⟨v5,rfl,bd,H⟩;have B5:=zA (aC (bC B4.out) H);obtain⟨A5,bi,cs⟩:=Kd.bE bd;rw[L] at cs;subst cs;have d1:=zA (au (dU c1.out) H);have d2:=zA (au (dU c2.out) H);have d4:=zA (Kd.b7 (Kd.bR c4.out) H);have d5:=zA (aC (bC c5.out) H);have dx:=zA (Kd.kr (Kd.bt (base':=w.heap.size) (Kd.bj (ok':=fun k=>U.heap.size<=k) (Kd.dy bd) (fun k hk=>hk.2.1)) c5.out.size));have fd:U.heap.size<=G.heap.size:=H.size;have a3:=cB d1.out;have fn:=cB (aj d1.out (.cells #[.slice A5 s bi] 43));have cy:Aside0 (∀k,G.heap.size<=k->¬(k=i\/k=a.heap.size+2)):=⟨fun k hk=>by omega⟩;clear bd H)|(gi_at_builtin;go_loud (refine jd (Kd.slice 4 Kd.bool) (w0:=w) w.heap.size rfl (.tmp 31) (.tmp 34) 40 43 (.slice none 0 0) 24 rfl Tryz.underlying40 wz rfl (by decide) (by omega) (.slice M out.length cr) out x [.slice A5 s bi] (fun k=>¬(k=i\/k=a.heap.size+2)) (fun k=>U.heap.size<=k) rfl rfl dx.out cl.out cy.out d4.out d5.out d5.out.size LN.out ?_;intro v1 er I hb p bk;obtain⟨g,es,V⟩:=Kd.bE I;rw[List.length_append,List.length_singleton] at V;subst V;have u:=zA ((p.block bo (ay d1.out) (Kd.cW d4.out d1.out (by decide))).trans d1.out);have X2:=zA ((p.block _ (ay d2.out) (Kd.cW d4.out d2.out (by decide))).trans d2.out);have ev:=cB u.out;have ew:=bc u.out 0;have am:=zA I;have an:=zA hb;have ao:=zA p;clear I hb p bk)))
   exact bb.out _ _ _ _ B5.out d4.out ao.out am.out u.out X2.out an.out;exact bb.out _ _ _ _ B5.out d4.out ao.out am.out u.out X2.out an.out;refine wpAnyIn_ready (rs:=[0,3]) (by kernel_rfl) (by simp) ?_;refine AllReadyIn.cons rfl (fun K b=>?_) (AllReadyIn.cons rfl (fun K b=>?_) AllReadyIn.nil);go_simp
   refine b _ _ ?_;clear b K;refine mm 3 3 _ _ _ _ rfl (by kernel_rfl) (by decide) ?_;rotate_left
   go_simp
   refine b _ _ ?_;clear b K;refine wpAnyIn_ready (rs:=[0]) (by kernel_rfl) (by simp) ?_;refine AllReadyIn.cons rfl (fun K b=>?_) AllReadyIn.nil;go_simp
   refine b _ _ ?_;clear b K;refine mm 2 4 _ _ _ _ rfl (by kernel_rfl) (by decide) ?_
   all_goals simp only[List.drop_succ_cons,List.drop_zero]
   all_goals gi_wp2_with ((gi_at_builtin;go_loud (refine jd (Kd.slice 4 Kd.bool) (w0:=w) w.heap.size rfl (.tmp 31) (.tmp 34) 40 43 (.slice none 0 0) 24 rfl Tryz.underlying40 wz rfl (by decide) (by omega) (.slice M out.length cr) out x [.slice A5 s bi] (fun k=>¬(k=i\/k=a.heap.size+2)) (fun k=>U.heap.size<=k) rfl rfl dx.out cl.out cy.out d4.out d5.out d5.out.size LN.out ?_;intro v1 er I hb p bk;obtain⟨g,es,V⟩:=Kd.bE I;rw[List.length_append,List.length_singleton] at V;subst V;have u:=zA ((p.block bo (ay d1.out) (Kd.cW d4.out d1.out (by decide))).trans d1.out);have X2:=zA ((p.block _ (ay d2.out) (Kd.cW d4.out d2.out (by decide))).trans d2.out);have ev:=cB u.out;have ew:=bc u.out 0;have am:=zA I;have an:=zA hb;have ao:=zA p;clear I hb p bk)))
   all_goals exact bb.out _ _ _ _ B5.out d4.out ao.out am.out u.out X2.out an.out
  ·rename_i a9
   rw[if_neg (by rw[a9];decide)] at T;refine⟨cQ B4.out,⟨fun aG=>B4.out.mono aG,fun k hk ex=>B4.out.block k ex⟩,by omega,_,c1.out,c2.out,?_,c5.out⟩;rw[T.out];exact c4.out
 case done=>
  rintro s' xs W W' _ ey ⟨d3,v,i1,i2,i4,i5⟩ j c3;subst ey;have b1:=zA (j.cells i1);have b4:=zA (cC i4 j);have b5:=zA (i5.trans (j.below w.heap.size (by omega)));have c6:=zA c3;clear i1 i2 i4 i5 c3;have hc:=cB b1.out;gi_wp2_with fail
  have c7:Bk a.heap.size W' (W'.putObj a.heap.size (.deferred none)):=⟨_,_,c6.out,rfl,rfl⟩;exact iB (D:=a.heap.size) rfl c6.out (results_tmp2 rfl _ _ _) ⟨_,rfl,Kd.bj (cC b4.out c7) (fun _ _=>trivial),b5.out.trans (c7.below w.heap.size (by omega))⟩
end
section
attribute [local go_sem] Oper.semAt_some
theorem Fa (k n:Nat) (A0:Option Addr) (c0:Nat) (E:List S83) (S:List (Nat×Int×Int)) (q:Int) (w:World) (a:Kd.C aQ w A0 E.length E) (b:E.length<=c0) (hn:n<=1000) (g:aW.f k n E=some 0) (l:cJ E=true) (hS:a6 E E.length=S) (m:S.length<=14) (o:dY n S) (G:0<=q) (H:q<n):
  Calls Tryz.prog 19 #[.agg #[.int .i64 n,.slice A0 E.length c0],.int .i64 q] w fun e w'=>∃v,e= .returned (.tuple #[v,.int .i64 0])/\(Kd.slice 4 Kd.bool).R 43 w' w.heap.size (fun _=>True) v (uniq n S q)/\Below w.heap.size w w':=by
 have hu:=Tryz.underlying24;have p:Aside0 (∀W,Below w.heap.size w W->W.heap[w.heap.size]? =some (.cells #[.int .i64 n,.slice A0 E.length c0] 24 (0,0))->W.heap[w.heap.size+1]? =some (.cells #[.int .i64 q] 3 (0,0))->_):=⟨fun W h h1 x=>E' w.heap.size (w.heap.size+1) k n A0 c0 E S q W (Kd.al a h) b hn g l hS m o h1 x⟩;have y:Aside0 (∀W,Below w.heap.size w W->_):=⟨fun W h=>aW.calls k n A0 c0 E 0 W (Kd.al a h) b g⟩;clear a g l hS o b m;generalize uniq n S q=R at p⊢;have r:=aj (aU w (.cells #[.int .i64 n,.slice A0 E.length c0] 24)) (.cells #[.int .i64 q] 3);have x1:=heap_alloc2_new w (.cells #[.int .i64 n,.slice A0 E.length c0] 24) (.cells #[.int .i64 q] 3);have z:=zA r;have B:=zA x1;clear r x1;go_enter Tryz.func19,Tryz.ntmps19
 go_wp2_with (first|(go_at_call 64;refine(y.out _ (af (af (ai _ _) _) _)).mono ?_;rintro e w1 ⟨rfl,hb⟩;have i:=zA (aC (af (af (ai w.heap.size w) _) _) hb);have j:=zA (au z.out hb);have s:=zA (au B.out hb);have I:w1.cell? ⟨w.heap.size,0,none⟩=some (.int .i64 n):=(ah j.out 0).trans rfl;have J:w1.cell? ⟨w.heap.size,1,none⟩=some (.slice A0 E.length c0):=(ah j.out 1).trans rfl;have K:w1.cell? ⟨w.heap.size+1,0,none⟩=some (.int .i64 q):=(ah s.out 0).trans rfl;clear hb)|(go_at_call 65;refine(p.out _ i.out j.out s.out).mono ?_;rintro e w2 ⟨v,rfl,u,hb⟩;have D:=zA (Kd.bt u i.out.size);have F:=zA (aC i.out hb);clear u hb))
 go_ret2;exact⟨_,rfl,D.out,F.out⟩
end
end Go.Proofs.YtffdiakgjakngaaGreat.P
namespace Go.Proofs.YtffdiakgjakngaaGreat.P
open Go.RowKit Go.Proofs.YtffdiakgjakngaaGreatW.PrintWords Go.Proofs.YtffdiakgjakngaaGreatW.PrintLast Go.Proofs.YtffdiakgjakngaaGreatW.PrintMore
set_option linter.unusedVariables false
set_option linter.unusedSimpArgs false
set_option maxHeartbeats 8000000
set_option maxRecDepth 100000
section
theorem Fb {W:World} {e base:Nat} {ok:Nat->Prop} {A:Option Addr} {cap:Nat} {L:List (List Bool)} (h:Kd.N (Kd.slice 4 Kd.bool) e W base ok (.slice A L.length cap) L) (i:Nat) (hi:i<L.length):
  ∃g a cc,A=some ⟨g,0,none⟩/\W.cell? ⟨g,i,none⟩=some (.slice a (L.getD i []).length cc)/\(L.getD i []).length<=cc/\Kd.F Kd.bool W ok a (L.getD i []).length (L.getD i []):=by
 have hC:=(Kd.jM h).2.2;obtain⟨ad,he,_⟩:=hC.2.2 (by omega);subst he;obtain⟨g,rfl⟩:∃g,ad=⟨g,0,none⟩:=by
  obtain⟨_,rows,_,j,_⟩:=h;exact Kd.lz j
 obtain⟨ce,o,k,l⟩:=Kd.oV h [] (i:Int) (by omega) (by omega);obtain⟨m,n,rfl,ul,ge⟩:=Kd.mO k;have b:=l 0 _ rfl;rw[Nat.add_zero,show ((Kd.slice 4 Kd.bool)).sz=1 from rfl,Nat.mul_one,aq,add_plain] at b;rw[aq] at ul ge;exact⟨g,m,n,rfl,b,ul,Kd.lB ge (fun _ hk=>hk.1)⟩
section
variable {w w':World} {gb c0 m:Nat} {n:Int} {A0:Option Addr}
theorem GB.mk (a:w'.heap[gb]? =some (.cells #[.int .i64 n,.slice A0 m c0] 24 (0,0))) (hb:Below w.heap.size w w'):
  w'.heap[gb]? =some (.cells #[.int .i64 n,.slice A0 m c0] 24 (0,0))/\w'.cell? ⟨gb,0,none⟩=some (.int .i64 n)/\w'.cell? ⟨gb,1,none⟩=some (.slice A0 m c0)/\Below w.heap.size w w':=
 ⟨a,(ah a 0).trans rfl,(ah a 1).trans rfl,hb⟩
theorem GB.step {w2:World} (b:w'.heap[gb]? =some (.cells #[.int .i64 n,.slice A0 m c0] 24 (0,0))) (hb:Below w.heap.size w w') (a:Below w'.heap.size w' w2):
  w2.heap[gb]? =some (.cells #[.int .i64 n,.slice A0 m c0] 24 (0,0))/\w2.cell? ⟨gb,0,none⟩=some (.int .i64 n)/\w2.cell? ⟨gb,1,none⟩=some (.slice A0 m c0)/\Below w.heap.size w w2:=
 GB.mk (au b a) (aC hb a)
end
end
def iT.f (k:Nat) (a:Int) (b:List (S83)):Option (Int):=(cM.f k a b).bind fun e=>(if e=0 then((j4.f k a b).bind fun g=>(if g=true then(some 0) else(some 13))) else(some e))
theorem iT.calls (k:Nat) (i:Int) (l:Option Addr) (m:Nat) (b:List (S83)) (r:Int) (w:World) (v:Kd.C aQ w l b.length b) (x:b.length<=m) (h:iT.f k i b=some r):
  Calls Tryz.prog 60 #[.agg #[.int .i64 i,.slice l b.length m]] w fun e w'=>e= .returned (.int .i64 r)/\Below w.heap.size w w':=by
 have I:=Tryz.underlying24;have o:=zA v;have p:=zA x;clear v x;have a:=zA (ai w.heap.size w);unfold iT.f at h;have H:=h;clear h;obtain⟨q,u,H⟩:=zo H;by_cases c3:q=0
 ·rw[if_pos c3] at H
  obtain⟨E,F⟩:=da c3;clear c3;obtain⟨G,y,H⟩:=zo H;by_cases s:G=true
  ·subst s
   replace H:=zi H;obtain rfl:=aR H;go_enter Tryz.func60,Tryz.ntmps60
   go_wp2_with (first|((with_reducible refine aX (N:=1) rfl ?_);refine zX 1 #[.int .i64 i,.slice l b.length m] 24 ?_;intro z j J n hb;have g:=zA (n);have B:=zG a j;have D:=zG a j;replace a:=zS a hb;clear hb n j;obtain⟨K,L,M,O⟩:=aE g)|((with_reducible refine aT (f:=103) rfl ?_);refine zL (some 5) Tryz.func103 #[.agg #[.int .i64 i,.slice l b.length m]] ?_;(with_reducible refine(cM.calls k i _ _ b q _ ?aw ?ax u.out).mono ?_);(case aw=>exact Kd.al o.out zB);(case ax=>exact p.out);rintro e P ⟨rfl,hb⟩;refine⟨_,rfl,?_⟩;replace g:=zb g hb;replace a:=zS a hb;(try clear hb);obtain⟨Q,R,S,T⟩:=aE g)|((with_reducible refine aT (f:=104) rfl ?_);refine zL (some 10) Tryz.func104 #[.agg #[.int .i64 i,.slice l b.length m]] ?_;(with_reducible refine(j4.calls k i _ _ b true _ ?aw ?ax y.out).mono ?_);(case aw=>exact Kd.al o.out zB);(case ax=>exact p.out);rintro e U ⟨rfl,hb⟩;refine⟨_,rfl,?_⟩;replace g:=zb g hb;replace a:=zS a hb;(try clear hb)))
   go_ret;exact⟨zE,zB⟩
  ·replace s:=Bool.eq_false_iff.mpr s
   subst s;replace H:=zj H;obtain rfl:=aR H;go_enter Tryz.func60,Tryz.ntmps60
   go_wp2_with (first|((with_reducible refine aX (N:=1) rfl ?_);refine zX 1 #[.int .i64 i,.slice l b.length m] 24 ?_;intro z j V n hb;have g:=zA (n);have B:=zG a j;have D:=zG a j;replace a:=zS a hb;clear hb n j;obtain⟨W,X,Y,Z⟩:=aE g)|((with_reducible refine aT (f:=103) rfl ?_);refine zL (some 5) Tryz.func103 #[.agg #[.int .i64 i,.slice l b.length m]] ?_;(with_reducible refine(cM.calls k i _ _ b q _ ?aw ?ax u.out).mono ?_);(case aw=>exact Kd.al o.out zB);(case ax=>exact p.out);rintro e aa ⟨rfl,hb⟩;refine⟨_,rfl,?_⟩;replace g:=zb g hb;replace a:=zS a hb;(try clear hb);obtain⟨ad,ag,ak,am⟩:=aE g)|((with_reducible refine aT (f:=104) rfl ?_);refine zL (some 10) Tryz.func104 #[.agg #[.int .i64 i,.slice l b.length m]] ?_;(with_reducible refine(j4.calls k i _ _ b false _ ?aw ?ax y.out).mono ?_);(case aw=>exact Kd.al o.out zB);(case ax=>exact p.out);rintro e an ⟨rfl,hb⟩;refine⟨_,rfl,?_⟩;replace g:=zb g hb;replace a:=zS a hb;(try clear hb)))
   go_ret;exact⟨zE,zB⟩
 ·rw[if_neg c3] at H
  obtain⟨E,F⟩:=db c3;obtain rfl:=aR H;go_enter Tryz.func60,Tryz.ntmps60
  go_wp2_with (first|((with_reducible refine aX (N:=1) rfl ?_);refine zX 1 #[.int .i64 i,.slice l b.length m] 24 ?_;intro z j ao n hb;have g:=zA (n);have B:=zG a j;have D:=zG a j;replace a:=zS a hb;clear hb n j;obtain⟨ap,ar,av,aB⟩:=aE g)|((with_reducible refine aT (f:=103) rfl ?_);refine zL (some 5) Tryz.func103 #[.agg #[.int .i64 i,.slice l b.length m]] ?_;(with_reducible refine(cM.calls k i _ _ b q _ ?aw ?ax u.out).mono ?_);(case aw=>exact Kd.al o.out zB);(case ax=>exact p.out);rintro e aF ⟨rfl,hb⟩;refine⟨_,rfl,?_⟩;replace g:=zb g hb;replace a:=zS a hb;(try clear hb)))
  go_ret;exact⟨zE,zB⟩
theorem wA (a b m:Int) (w:World):Calls Tryz.prog 62 #[.agg #[.int .i64 a,.int .i64 b,.int .i64 m]] w fun e w'=>e= .returned (.bool (decide (a=b)))/\Below w.heap.size w w':=by
 have hu:=Tryz.underlying83;have g:=aU w (.cells #[.int .i64 a,.int .i64 b,.int .i64 m] 83);have h:(w.alloc (.cells #[.int .i64 a,.int .i64 b,.int .i64 m] 83)).cell? ⟨w.heap.size,0,none⟩=some (.int .i64 a):=(ah g 0).trans rfl;have h1:(w.alloc (.cells #[.int .i64 a,.int .i64 b,.int .i64 m] 83)).cell? ⟨w.heap.size,1,none⟩=some (.int .i64 b):=(ah g 1).trans rfl;clear g;go_enter Tryz.func62,Tryz.ntmps62
 go_wp2;go_ret;refine⟨?_,af (ai _ _) _⟩;first|rfl|(by_cases e:a=b<;>simp[e])
def iq (E:List S83):Bool:=E.any fun x=>decide (x.f0=x.f1)
theorem Fc {E:List S83} (h:∀v:Nat,v<E.length->(ab E v).f0≠(ab E v).f1):iq E=false:=by
 unfold iq;rw[List.any_eq_false];intro x a;obtain⟨i,hi,rfl⟩:=List.getElem_of_mem a;have:=h i hi;rw[show ab E i=E[i] by simp[ab,aN,br hi]] at this;simpa using this
theorem Fe {E:List S83} {v:Nat} (a:v<E.length) (h:(ab E v).f0=(ab E v).f1):iq E=true:=by
 unfold iq;rw[List.any_eq_true];rw[show ab E v=E[v] by simp[ab,aN,br a]] at h;exact⟨E[v],List.getElem_mem a,by simpa using h⟩
theorem Ff (A0:Option Addr) (c0:Nat) (E:List S83) (w:World) (z:Kd.C aQ w A0 E.length E) (G:E.length<=1000):
  Calls Tryz.prog 120 #[.slice A0 E.length c0,.func (.func 62) #[] #[]] w fun e w'=>∃r:Int,e= .returned (.int .i64 r)/\decide (r>=0)=iq E/\Below w.heap.size w w':=by
 have hu:=Tryz.underlying83;go_enter Tryz.func120,Tryz.ntmps120
 go_wp2;go_loopg [8] (E.length) (fun B i wr=>∃v:Nat,i= .int .i64 v/\v<=E.length/\Aside0 (Below w.heap.size w wr)/\Aside0 (∀u:Nat,u<v->(ab E u).f0≠(ab E u).f1)/\Aside0 (B=E.length-v))
 case atStart=>exact⟨0,rfl,Nat.zero_le _,⟨ai _ _⟩,⟨fun u hu=>by omega⟩,⟨rfl⟩⟩
 case round=>
  obtain⟨v,rfl,H,h,q,D⟩:=hrel;by_cases F:v<E.length
  ·have I:(0:Int)<=(v:Int):=by omega
   have J:(v:Int)<(E.length:Int):=by omega
   obtain⟨ad,rfl,j,k,l⟩:=fa (Kd.al z h.out) v (by omega) (by omega);rw[aq] at j k l;have s:Aside0 (∃x,x=ab E v):=⟨_,rfl⟩;obtain⟨x,n⟩:=s.out;rw[<-n] at j k l;have y:=zA n;clear n s;obtain⟨a,b,m⟩:=x;simp only at j k l;by_cases o:a=b
   ·subst o
    have g:=zA (wA a a m wr);rw[aA rfl] at g;go_wp2_with (go_at_call 62;refine g.out.mono ?_;rintro e w1 ⟨rfl,hb⟩;have p:=zA (aC h.out hb);clear hb)
    go_ret;refine⟨_,rfl,?_,p.out⟩;rw[Fe F (by rw[<-y.out]),aA (by omega)]
   ·have g:=zA (wA a b m wr)
    rw[aY o] at g;go_wp2_with (go_at_call 62;refine g.out.mono ?_;rintro e w1 ⟨rfl,hb⟩;have p:=zA (aC h.out hb);clear hb)
    go_roundg (E.length- (v+1))
    case measure=>rw[D.out];omega
    case rel=>exact⟨v+1,by go_num,by omega,p,⟨fun u hu=>by
     by_cases e:u=v
     ·subst e;rw[<-y.out];exact o
     ·exact q.out u (by omega)⟩,⟨rfl⟩⟩
  ·obtain rfl:v=E.length:=by omega
   go_wp2;go_ret;refine⟨_,rfl,?_,h.out⟩;rw[Fc q.out];rfl
theorem Fg (A0:Option Addr) (c0:Nat) (E:List S83) (w:World) (b:Kd.C aQ w A0 E.length E) (g:E.length<=1000):
  Calls Tryz.prog 61 #[.slice A0 E.length c0,.func (.func 62) #[] #[]] w fun e w'=>e= .returned (.bool (iq E))/\Below w.heap.size w w':=by
 have H:=zA (Ff A0 c0 E w b g);go_enter Tryz.func61,Tryz.ntmps61
 go_wp2_with (go_at_call 120;refine H.out.mono ?_;rintro e w1 ⟨r,rfl,a,hb⟩;have h:=zA a;have i:=zA hb;clear a hb)
 go_ret;refine⟨?_,i.out⟩;rw[<-h.out];rfl
def ll (k:Nat) (N:Int) (E:List S83) (r:Bool):Prop:=(fZ.f k N E=some false/\r=false)\/(∃j,fZ.f k N E=some true/\iT.f k N E=some j/\j≠0/\r=false)\/(fZ.f k N E=some true/\iT.f k N E=some 0/\E.length<=1000/\r= !iq E)
theorem wB (k:Nat) (N:Int) (A0:Option Addr) (c0:Nat) (E:List S83) (r:Bool) (w:World) (b:Kd.C aQ w A0 E.length E) (i:E.length<=c0) (h:ll k N E r):
  Calls Tryz.prog 17 #[.agg #[.int .i64 N,.slice A0 E.length c0]] w fun e w'=>e= .returned (.bool r)/\Below w.heap.size w w':=by
 have hu:=Tryz.underlying24;have b0:(w.alloc (.cells #[.int .i64 N,.slice A0 E.length c0] 24)).cell? ⟨w.heap.size,0,none⟩=some (.int .i64 N):=(ah (aU _ _) 0).trans rfl;have p:=zA (aU w (.cells #[.int .i64 N,.slice A0 E.length c0] 24));rcases h with⟨h1,rfl⟩|⟨j,h1,l,u,rfl⟩|⟨h1,l,v,rfl⟩
 ·have m:=zA h1
  clear h1;go_enter Tryz.func17,Tryz.ntmps17
  go_wp2_with (go_at_call 44;refine(fZ.calls k N A0 c0 E false _ (Kd.bp b _) i m.out).mono ?_;rintro e w1 ⟨rfl,hb⟩;have a:=zA (aC (af (ai w.heap.size w) _) hb);clear hb)
  go_ret;exact⟨rfl,a.out⟩
 ·have m:=zA h1
  have o:=zA l;have z:(j==0)=false:=by simpa using u
  clear h1 l;go_enter Tryz.func17,Tryz.ntmps17
  go_wp2_with (first|(go_at_call 44;refine(fZ.calls k N A0 c0 E true _ (Kd.bp b _) i m.out).mono ?_;rintro e w1 ⟨rfl,hb⟩;have a:=zA (aC (af (ai w.heap.size w) _) hb);have g:=zA (au p.out hb);have q:w1.cell? ⟨w.heap.size,0,none⟩=some (.int .i64 N):=(ah g.out 0).trans rfl;have s:w1.cell? ⟨w.heap.size,1,none⟩=some (.slice A0 E.length c0):=(ah g.out 1).trans rfl;clear hb b0)|(go_at_call 60;refine(iT.calls k N A0 c0 E j _ (Kd.al b a.out) i o.out).mono ?_;rintro e w2 ⟨rfl,hb⟩;have n:=zA (aC a.out hb);clear hb))
  go_ret;exact⟨rfl,n.out⟩
 ·have m:=zA h1
  have o:=zA l;clear h1 l;go_enter Tryz.func17,Tryz.ntmps17
  go_wp2_with (first|(go_at_call 44;refine(fZ.calls k N A0 c0 E true _ (Kd.bp b _) i m.out).mono ?_;rintro e w1 ⟨rfl,hb⟩;have a:=zA (aC (af (ai w.heap.size w) _) hb);have g:=zA (au p.out hb);have q:w1.cell? ⟨w.heap.size,0,none⟩=some (.int .i64 N):=(ah g.out 0).trans rfl;have s:w1.cell? ⟨w.heap.size,1,none⟩=some (.slice A0 E.length c0):=(ah g.out 1).trans rfl;clear hb b0)|(go_at_call 60;refine(iT.calls k N A0 c0 E 0 _ (Kd.al b a.out) i o.out).mono ?_;rintro e w2 ⟨rfl,hb⟩;have n:=zA (aC a.out hb);have x:=zA (au g.out hb);have B:w2.cell? ⟨w.heap.size,1,none⟩=some (.slice A0 E.length c0):=(ah x.out 1).trans rfl;clear hb q s)|(go_at_call 61;refine(Fg A0 c0 E _ (Kd.al b n.out) v).mono ?_;rintro e w3 ⟨rfl,hb⟩;have y:=zA (aC n.out hb);clear hb))
  go_ret;exact⟨rfl,y.out⟩
def f_:List S83:=[⟨0,1,1⟩,⟨0,2,1⟩,⟨1,2,1⟩]
def oh:List (Nat×Int×Int):=[(0,0,1),(1,0,2),(2,1,2)]
theorem Fh (W:World):Kd.C aQ (W.alloc (.cells #[.int .i64 0,.int .i64 1,.int .i64 1,.int .i64 0,.int .i64 2,.int .i64 1,.int .i64 1,.int .i64 2,.int .i64 1] 83)) (some ⟨W.heap.size,0,none⟩) f_.length f_:=by
 have h:Kd.R aQ 83 (W.alloc (.cells #[.int .i64 0,.int .i64 1,.int .i64 1,.int .i64 0,.int .i64 2,.int .i64 1,.int .i64 1,.int .i64 2,.int .i64 1] 83)) W.heap.size (fun _=>True) (.slice (some ⟨W.heap.size,0,none⟩) f_.length 3) f_:=
  ⟨fun _ _=>trivial,[.int .i64 0,.int .i64 1,.int .i64 1,.int .i64 0,.int .i64 2,.int .i64 1,.int .i64 1,.int .i64 2,.int .i64 1],
   World.ownsRow_lit (base:=W.heap.size) (e:=83) (size:=3) W #[.int .i64 0,.int .i64 1,.int .i64 1,.int .i64 0,.int .i64 2,.int .i64 1,.int .i64 1,.int .i64 2,.int .i64 1] 3 (aM _) (by decide) rfl,
   bH.c3 (o_ _ _ _ ⟨0,1,1⟩) (bH.c3 (o_ _ _ _ ⟨0,2,1⟩) (bH.c3 (o_ _ _ _ ⟨1,2,1⟩) (bH.none _ _)))⟩
 exact(Kd.a8 h).2.2
theorem Fi (W:World) (a b c:Bool):Kd.bool.C (W.alloc (.cells #[.bool a,.bool b,.bool c] 4)) (some ⟨W.heap.size,0,none⟩) [a,b,c].length [a,b,c]:=by
 have h:Kd.bool.R 4 (W.alloc (.cells #[.bool a,.bool b,.bool c] 4)) W.heap.size (fun _=>True) (.slice (some ⟨W.heap.size,0,none⟩) [a,b,c].length 3) [a,b,c]:=⟨fun _ _=>trivial,bu Value.bool [a,b,c],World.ownsRow_lit (base:=W.heap.size) (e:=4) (size:=1) W #[.bool a,.bool b,.bool c] 3 (aM _) (by decide) rfl,Kd.oC _⟩;exact(Kd.a8 h).2.2
theorem Fj (W:World) (a b c:Int):(Kd.int .i64).C (W.alloc (.cells #[.int .i64 a,.int .i64 b,.int .i64 c] 3)) (some ⟨W.heap.size,0,none⟩) [a,b,c].length [a,b,c]:=by
 have h:(Kd.int .i64).R 3 (W.alloc (.cells #[.int .i64 a,.int .i64 b,.int .i64 c] 3)) W.heap.size (fun _=>True) (.slice (some ⟨W.heap.size,0,none⟩) [a,b,c].length 3) [a,b,c]:=⟨fun _ _=>trivial,bu (Value.int .i64) [a,b,c],World.ownsRow_lit (base:=W.heap.size) (e:=3) (size:=1) W #[.int .i64 a,.int .i64 b,.int .i64 c] 3 (aM _) (by decide) rfl,Kd.oC _⟩;exact(Kd.a8 h).2.2
theorem Fk:dY 3 oh:=fun j a=>by
 have:j=0\/j=1\/j=2:=by simp[oh] at a;omega
 rcases this with rfl|rfl|rfl<;>decide
theorem Fl (w:World):Calls Tryz.prog 63 #[] w fun e w'=>∃A,e= .returned (.agg #[.int .i64 3,.slice A 3 3])/\Kd.C aQ w' A f_.length f_/\Below w.heap.size w w':=by
 have hu:=Tryz.underlying24;have g:=Tryz.underlying83;go_enter Tryz.func63,Tryz.ntmps63
 go_wp2;have b:=aj (aU w (.cells #[.int .i64 3,.slice (some ⟨w.heap.size+1,0,none⟩) 3 3] 24)) (.cells #[.int .i64 0,.int .i64 1,.int .i64 1,.int .i64 0,.int .i64 2,.int .i64 1,.int .i64 1,.int .i64 2,.int .i64 1] 83);have a:=Fh (w.alloc (.cells #[.int .i64 3,.slice (some ⟨w.heap.size+1,0,none⟩) 3 3] 24));rw[World.size_alloc] at a;refine bodyPost_ret (xx rfl (.cell w.heap.size 24 #[.int .i64 3,.slice (some ⟨w.heap.size+1,0,none⟩) 3 3] (0,0) _ rfl b hu rfl (by kernel_rfl) .nil)) rfl ?_;exact⟨_,rfl,a,af (af (ai _ _) _) _⟩
theorem wC (w:World):Calls Tryz.prog 18 #[] w fun e w'=>e= .returned (.bool true)/\Below w.heap.size w w':=by
 have l:=zA Fl;have o:Aside0 (∀(A:Option Addr) (g:Option Addr) (W:World),Kd.C aQ W A f_.length f_->Kd.bool.C W g [true,true,true].length [true,true,true]->Calls Tryz.prog 20 #[.agg #[.int .i64 3,.slice A 3 3],.slice g 3 3] W fun e w'=>∃go c,e= .returned (.tuple #[.slice (some ⟨go,0,none⟩) 3 c,.int .i64 0])/\3<=c/\(Kd.int .i64).C w' (some ⟨go,0,none⟩) [-1,0,1].length [-1,0,1]/\Below W.heap.size W w'):=⟨fun A g W h1 b=>by
  have h:=tx 60 3 A 3 f_ g 3 [true,true,true] oh W h1 (by decide) b (by decide) (by decide+kernel) (by decide+kernel) (by decide+kernel) rfl (by decide) Fk;refine h.mono ?_;rintro e w' ⟨go,c,rfl,i,hb⟩;have p:b9 (bz 3 oh [true,true,true]) 3 3=[-1,0,1]:=by decide+kernel
  rw[p] at i;exact⟨go,c,rfl,(Kd.a8 i).2.1,(Kd.a8 i).2.2,hb⟩⟩
 have q:Aside0 (∀(A a:Option Addr) (c1:Nat) (W:World),Kd.C aQ W A f_.length f_->(Kd.int .i64).C W a [-1,0,1].length [-1,0,1]->3<=c1->Calls Tryz.prog 14 #[.agg #[.int .i64 3,.slice A 3 3],.slice a 3 c1] W fun e w'=>∃v1 v2:Value,e= .returned (.tuple #[.bool false,v1,v2,.int .i64 0])/\Below W.heap.size W w'):=⟨fun A a c1 W h1 b j=>(il.calls 60 3 A 3 f_ a c1 [-1,0,1] false [-1,0,1] [0,0,0] 0 W h1 (by decide) b j (by decide+kernel)).mono fun e w' ⟨v1,v2,h,_,_,hb⟩=>⟨v1,v2,h,hb⟩⟩;have r:Aside0 (∀(A a:Option Addr) (c c1:Nat) (W:World),(Kd.int .i64).C W A [-1,0,1].length [-1,0,1]->3<=c->(Kd.int .i64).C W a [-1,0,1].length [-1,0,1]->3<=c1->Calls Tryz.prog 33 #[.slice A 3 c,.slice a 3 c1] W fun e w'=>e= .returned (.bool true)/\aJ W w'):=⟨fun A a c c1 W h1 b j s=>eo.calls 60 A c [-1,0,1] a c1 [-1,0,1] true W h1 b j s (by decide+kernel)⟩;go_enter Tryz.func18,Tryz.ntmps18
 go_upto_region 2 with (first|(go_at_call 63;with_reducible refine(l.out _).mono ?_;rintro e w1 ⟨A,rfl,hC,hb⟩;have u:=zA (Kd.bp hC (.cells #[.bool true,.bool true,.bool true] 4));have v:Aside0 (Kd.bool.C (w1.alloc (.cells #[.bool true,.bool true,.bool true] 4)) (some ⟨w1.heap.size,0,none⟩) [true,true,true].length [true,true,true]):=⟨Fi w1 true true true⟩;have x:=zA (af hb (.cells #[.bool true,.bool true,.bool true] 4));clear hC hb)|(go_at_call 20;refine(o.out _ _ _ u.out v.out).mono ?_;rintro e w2 ⟨go,c,rfl,m,hC,hb⟩;have y:=zA hC;have z:=zA (aC x.out hb);clear hC hb))
 go_wp2_with (first|(go_at_call 63;with_reducible refine(l.out _).mono ?_;rintro e w3 ⟨H,rfl,hC,hb⟩;have B:=zA hC;have n:=zA (Kd.al y.out hb);have D:=zA (aC z.out hb);clear hC hb)|(go_at_call 14;refine(q.out _ _ _ _ B.out n.out m).mono ?_;rintro e k ⟨v1,v2,rfl,hb⟩;have E:=zA (Kd.bp (Kd.al n.out hb) (.cells #[.int .i64 (-1),.int .i64 0,.int .i64 1] 3));have F:Aside0 ((Kd.int .i64).C (k.alloc (.cells #[.int .i64 (-1),.int .i64 0,.int .i64 1] 3)) (some ⟨k.heap.size,0,none⟩) [-1,0,1].length [-1,0,1]):=⟨Fj k (-1) 0 1⟩;have G:=zA (af (aC D.out hb) (.cells #[.int .i64 (-1),.int .i64 0,.int .i64 1] 3));clear hb)|(go_at_call 33;refine(r.out _ _ _ _ _ E.out m F.out (aM _)).mono ?_;rintro e I ⟨rfl,⟨m5,rfl⟩⟩))
 go_ret;exact⟨rfl,cz G.out m5⟩
theorem Fm (k n:Nat) (A0:Option Addr) (c0:Nat) (E:List S83) (j:Option Addr) (c1:Nat) (a:List Int) (l:Option Addr) (c2:Nat) (b:List Int) (x s y t:List Int) (w:World) (m:Kd.C aQ w A0 E.length E) (o:E.length<=c0) (p:Kd.C (Kd.int .i64) w j a.length a) (u:a.length<=c1) (q:Kd.C (Kd.int .i64) w l b.length b) (v:b.length<=c2)
  (z:eV.f k n E [a,b]=some 0) (B:eT.f k n E 0 a=some (x,s,0)) (D:eT.f k n E 0 b=some (y,t,0)) (F:eo.f k x y=some false):
  Calls Tryz.prog 24 #[.agg #[.int .i64 n,.slice A0 E.length c0],.slice j a.length c1,.slice l b.length c2] w fun e w'=>e= .returned (.tuple #[.bool false,.slice none 0 0,.int .i64 0])/\Below w.heap.size w w':=by
 have hu:=Tryz.underlying24;have K:=zA z;have L:=zA B;have M:=zA D;have N:=zA F;have O:=zA p;have P:=zA q;have r:=D7 (w.alloc (.cells #[.int .i64 n,.slice A0 E.length c0] 24)) 26 (Kd.bp p _) u (Kd.bp q _) v;rw[World.size_alloc] at r;have Q:=zA r;clear r;have R:=zA (aj (aU w (.cells #[.int .i64 n,.slice A0 E.length c0] 24)) (.cells #[.slice j a.length c1,.slice l b.length c2] 26));have b0:(w.alloc (.cells #[.int .i64 n,.slice A0 E.length c0] 24)).cell? ⟨w.heap.size,0,none⟩=some (.int .i64 n):=(ah (aU _ _) 0).trans rfl;clear z B D F p q;go_enter Tryz.func24,Tryz.ntmps24
 go_wp2_with (first|(go_at_call 75;refine(eV.calls k n A0 c0 E (some ⟨w.heap.size+1,0,none⟩) 2 [a,b] 0 _ (Kd.bp (Kd.bp m _) _) o Q.out (by simp) K.out).mono ?_;rintro e w1 ⟨rfl,hb⟩;have g:=zA (aC (af (af (ai w.heap.size w) _) _) hb);have i:=zA (au R.out hb);have G:w1.cell? ⟨w.heap.size,0,none⟩=some (.int .i64 n):=(ah i.out 0).trans rfl;have H:w1.cell? ⟨w.heap.size,1,none⟩=some (.slice A0 E.length c0):=(ah i.out 1).trans rfl;clear hb b0)|(go_at_call 54;with_reducible refine(eT.calls k n A0 c0 E 0 j c1 a x s 0 _ (Kd.al m g.out) o (Kd.al O.out g.out) u L.out).mono ?_;rintro e w2 ⟨v1,v2,rfl,h, -,hb⟩;obtain⟨S,T,rfl⟩:=Kd.bE h;have I:=zA (Kd.a8 h).2;replace g:=zA (aC g.out hb);replace i:=zA (au i.out hb);replace G:w2.cell? ⟨w.heap.size,0,none⟩=some (.int .i64 n):=(ah i.out 0).trans rfl;replace H:w2.cell? ⟨w.heap.size,1,none⟩=some (.slice A0 E.length c0):=(ah i.out 1).trans rfl;clear h hb)|(go_at_call 54;with_reducible refine(eT.calls k n A0 c0 E 0 l c2 b y t 0 _ (Kd.al m g.out) o (Kd.al P.out g.out) v M.out).mono ?_;rintro e w3 ⟨v3,v4,rfl,h, -,hb⟩;obtain⟨U,V,rfl⟩:=Kd.bE h;have J:=zA (Kd.a8 h).2;have W:=zA (Kd.al I.out.2 hb);replace g:=zA (aC g.out hb);clear h hb G H)|(go_at_call 33;refine(eo.calls k S T x U V y false _ W.out I.out.1 J.out.2 J.out.1 N.out).mono ?_;rintro e X ⟨rfl,⟨m4,rfl⟩⟩))
 go_ret3
 exact⟨rfl,cz g.out m4⟩
def eW.f (k:Nat) (a:Int) (b:List (S83)):Option (Int):=(iz.f a b).bind fun e=>((bZ.f k a b).bind fun g=>(some (wrap64 ((wrap64 (e-a))+g))))
def eW.T1:Bool×List (List Nat×List Nat):=(true,[([],[]),([0],[0]),([],[]),([2],[2]),([1,3],[1,3]),([],[]),([5,1],[5]),([4,6],[4,6]),([7,6,0,1,2,3,4,5,6,7],[7])])
def eW.B1:List Nat:=[0,1,0,4,15,0,35,127,255]
theorem eW.pg:dA .any (opsOf Tryz.f23 1)=eW.T1:=by kernel_rfl
theorem eW.ph:kH eW.T1.2 eW.B1=true:=by kernel_rfl
theorem eW.calls (k:Nat) (l:Int) (m:Option Addr) (o:Nat) (b:List (S83)) (r:Int) (w:World) (u:Kd.C aQ w m b.length b) (x:b.length<=o) (h:eW.f k l b=some r):
  Calls Tryz.prog 23 #[.agg #[.int .i64 l,.slice m b.length o]] w fun e w'=>e= .returned (.int .i64 r)/\Below w.heap.size w w':=by
 have L:=Tryz.underlying24;have y:=zA u;have z:=zA x;clear u x;have g:=zA (ai w.heap.size w);unfold eW.f at h;have H:=h;clear h;obtain⟨E,F,H⟩:=zo H;obtain⟨G,I,H⟩:=zo H;obtain rfl:=aR H;go_enter Tryz.func23,Tryz.ntmps23
 try go_wp2_with (first|((with_reducible refine aX (N:=1) rfl ?_);refine zX 1 #[.int .i64 l,.slice m b.length o] 24 ?_;intro B q J D hb;have a:=zA (D);have M:=zG g q;have O:=zG g q;replace g:=zS g hb;clear hb D q))
 replace a:=zA (dU a.out);replace g:=zA (bC g.out);refine rR (n:=9) (S:=fun w'=>w'.cell? ⟨B,0,none⟩=some (.int .i64 l)/\w'.cell? ⟨B,1,none⟩=some (.slice m b.length o)) (ds:=[]) #[false,false,false,false,false,false,false,false,false] (by kernel_rfl) rfl rfl ⟨(ah a.out 0).trans rfl,(ah a.out 1).trans rfl⟩ (fun hHeld=>?_);refine sx eW.pg eW.ph (fun j s=>?_);generalize J.drew=P at a g hHeld⊢;refine zs 9 0 2 (by kernel_rfl) ?_;refine zn (v:=?_) (a':=?_) (by simp only[Nat.reduceAdd];rfl) j rfl rfl (by kernel_rfl) (Or.inl ⟨by rfl,?_⟩) ?_ ?_;rotate_left;(focus (intro w';go_simp;with_reducible rfl));rotate_left;(focus (simp only[Act.put,List.setIfInBounds_toArray,List.set_cons_zero,List.set_cons_succ,cA,cI];rfl))
 refine jF (i:=0) (N:=some 3) (v:=?_) (a':=?_) #[true,false,true,false,false,false,false,false,false] rfl rfl (jS j.out s.out (by kernel_rfl)) (fun _ _ _ h=>h) (Or.inl ⟨by rfl,?_⟩) hHeld ?_ ?_;rotate_left
 ·rintro w' ⟨s0,s1⟩
  go_simp
  with_reducible rfl
 rotate_left
 ·simp only[Act.put,List.setIfInBounds_toArray,List.set_cons_zero,List.set_cons_succ,cA,cI]
  rfl
 refine jF (i:=3) (N:=some 6) (v:=?_) (a':=?_) #[true,false,true,true,false,false,false,false,false] rfl rfl (jS j.out s.out (by kernel_rfl)) (fun _ _ _ h=>h) (Or.inl ⟨by rfl,?_⟩) hHeld ?_ ?_;rotate_left
 ·rintro w' ⟨s0,s1⟩
  go_simp
  with_reducible rfl
 rotate_left
 ·simp only[Act.put,List.setIfInBounds_toArray,List.set_cons_zero,List.set_cons_succ,cA,cI]
  rfl
 refine jF (i:=5) (N:=some 8) (v:=?_) (a':=?_) #[true,false,true,true,false,true,false,false,false] rfl rfl (jS j.out s.out (by kernel_rfl)) (fun _ _ _ h=>h) (Or.inl ⟨by rfl,?_⟩) hHeld ?_ ?_;rotate_left
 ·rintro w' ⟨s0,s1⟩
  go_simp
  with_reducible rfl
 rotate_left
 ·simp only[Act.put,List.setIfInBounds_toArray,List.set_cons_zero,List.set_cons_succ,cA,cI]
  rfl
 refine kz (i:=1) (N:=some 4) #[true,true,true,true,false,true,false,false,false] rfl rfl (kG j.out (by kernel_rfl)) (by decide) (fun K p=>?_);refine ly Tryz.func73 (by kernel_rfl) rfl #[.agg #[.int .i64 l,.slice m b.length o]] (by rfl) rfl rfl (by(try simp only[List.map_toArray,List.map_cons,List.map_nil]);first|done|rfl|(simp only[List.length_drop,List.length_take];rfl)) ?_;with_reducible refine(iz.calls l _ _ b E _ ?aw ?ax F.out).mono ?_
 (case aw=>exact Kd.al y.out zB)
 (case ax=>exact z.out)
 rintro e Q ⟨rfl,hb⟩;refine⟨_,rfl,?_⟩;replace a:=zb a hb;replace g:=zS g hb
 (try clear hb)
 skip;skip;skip;refine p.out _ _ ⟨(ah a.out 0).trans rfl,(ah a.out 1).trans rfl⟩ (fun hHeld=>?_);clear p K;refine kA (a':=?_) ?_ ?_;rotate_left
 ·show Act.put _ (some 4) _=_
  simp only[Act.put,List.setIfInBounds_toArray,List.set_cons_zero,List.set_cons_succ,cA,cI];rfl
 refine zs 9 47 4 (by kernel_rfl) ?_;refine zn (v:=?_) (a':=?_) (by simp only[Nat.reduceAdd];rfl) j rfl rfl (by kernel_rfl) (Or.inl ⟨by rfl,?_⟩) ?_ ?_;rotate_left;(focus (intro w';go_simp;with_reducible rfl));rotate_left;(focus (simp only[Act.put,List.setIfInBounds_toArray,List.set_cons_zero,List.set_cons_succ,cA,cI];rfl))
 refine kz (i:=6) (N:=some 9) #[true,true,true,true,true,true,true,false,false] rfl rfl (kG j.out (by kernel_rfl)) (by decide) (fun K p=>?_);refine ly Tryz.func74 (by kernel_rfl) rfl #[.agg #[.int .i64 l,.slice m b.length o]] (by rfl) rfl rfl (by(try simp only[List.map_toArray,List.map_cons,List.map_nil]);first|done|rfl|(simp only[List.length_drop,List.length_take];rfl)) ?_;with_reducible refine(bZ.calls k l _ _ b G _ ?aw ?ax I.out).mono ?_
 (case aw=>exact Kd.al y.out zB)
 (case ax=>exact z.out)
 rintro e R ⟨rfl,hb⟩;refine⟨_,rfl,?_⟩;replace a:=zb a hb;replace g:=zS g hb
 (try clear hb)
 skip;skip;skip;refine p.out _ _ ⟨(ah a.out 0).trans rfl,(ah a.out 1).trans rfl⟩ (fun hHeld=>?_);clear p K;refine kA (a':=?_) ?_ ?_;rotate_left
 ·show Act.put _ (some 9) _=_
  simp only[Act.put,List.setIfInBounds_toArray,List.set_cons_zero,List.set_cons_succ,cA,cI];rfl
 refine zs 9 127 7 (by kernel_rfl) ?_;iterate 2 (refine zn (v:=?_) (a':=?_) (by simp only[Nat.reduceAdd];rfl) j rfl rfl (by kernel_rfl) (Or.inl ⟨by rfl,?_⟩) ?_ ?_;rotate_left;(focus (intro w';go_simp;with_reducible rfl));rotate_left;(focus (simp only[Act.put,List.setIfInBounds_toArray,List.set_cons_zero,List.set_cons_succ,cA,cI];rfl)))
 refine rS (so j.out (by kernel_rfl)) ?_;try go_wp2
 go_ret;exact⟨zE,zB⟩
end Go.Proofs.YtffdiakgjakngaaGreat.P


namespace Go.Proofs.YtffdiakgjakngaaGreat.P
open Go.RowKit Go.Proofs.YtffdiakgjakngaaGreatW.PrintWords Go.Proofs.YtffdiakgjakngaaGreatW.PrintLast Go.Proofs.YtffdiakgjakngaaGreatW.PrintMore
set_option linter.unusedVariables false
set_option linter.unusedSimpArgs false
set_option maxHeartbeats 8000000
set_option maxRecDepth 100000
section
attribute [local go_sem] Oper.semAt_some
theorem Fo (k:Nat) (N:Int) (A0:Option Addr) (c0:Nat) (E:List S83) (q:Int) (r:Bool) (w:World) (a:Kd.C aQ w A0 E.length E) (g:E.length<=c0) (hp:ll k N E r) (hf:r=false\/r=true/\q<0\/r=true/\0<=q/\N<=q):
  Calls Tryz.prog 4 #[.agg #[.int .i64 N,.slice A0 E.length c0],.int .i64 q] w fun e w'=>e= .returned (.bool true)/\Below w.heap.size w w':=by
 have hu:=Tryz.underlying24;have i:=zA (wB k N A0 c0 E r (w.alloc (.cells #[.int .i64 N,.slice A0 E.length c0] 24)) (Kd.bp a _) g hp);have b:=zA (aU w (.cells #[.int .i64 N,.slice A0 E.length c0] 24));have b0:(w.alloc (.cells #[.int .i64 N,.slice A0 E.length c0] 24)).cell? ⟨w.heap.size,0,none⟩=some (.int .i64 N):=(ah b.out 0).trans rfl;clear hp a;rcases hf with rfl|⟨rfl,h⟩|⟨rfl,h,m⟩
 all_goals go_enter Tryz.func4,Tryz.ntmps4
 all_goals go_wp2_with (first|(go_at_call 17;refine i.out.mono ?_;rintro e w1 ⟨rfl,hb⟩;have j:=zA (aC (af (ai w.heap.size w) _) hb);have n:w1.cell? ⟨w.heap.size,0,none⟩=some (.int .i64 N):=(ah (au b.out hb) 0).trans rfl;clear hb b0)|(go_at_call 18;refine(wC _).mono ?_;rintro e w2 ⟨rfl,hb⟩;have l:=zA (aC j.out hb);clear hb))
 all_goals go_ret
 all_goals exact⟨rfl,l.out⟩
structure mo (k n:Nat) (E:List S83) (g:Int) (x:List Int):Prop where
 Gu:∃a b,il.f k n E x=some (false,a,b,0)
 Gv:∃L,(∀u:Nat,u<n->gS.f k n E x (u:Nat)=some (rd L u,0))/\(eI (fl L n)).1.length=n
 Gw:e9.f k x=some (g-1)
def ln (k n:Nat) (E:List S83) (a b:List Int):Prop:=∃x s y t,eV.f k n E [a,b]=some 0/\eT.f k n E 0 a=some (x,s,0)/\eT.f k n E 0 b=some (y,t,0)/\eo.f k x y=some false
structure PW (n:Nat) (A0:Option Addr) (c0:Nat) (E:List S83) (a:Value) (all:List (List Bool)) (w W:World):Prop where
 box:W.heap[w.heap.size]? =some (.cells #[.int .i64 n,.slice A0 E.length c0] 24 (0,0))
 wD:Kd.N (Kd.slice 4 Kd.bool) 43 W w.heap.size (fun _=>True) a all
 eA:Below w.heap.size w W
theorem PW.step {n:Nat} {A0:Option Addr} {c0:Nat} {E:List S83} {a:Value} {all:List (List Bool)} {w W W':World} (h:PW n A0 c0 E a all w W) (hb:Below W.heap.size W W'):PW n A0 c0 E a all w W':=
 ⟨au h.box hb,Kd.gz h.wD hb,aC h.eA hb⟩
theorem PW.b0 {n:Nat} {A0:Option Addr} {c0:Nat} {E:List S83} {a:Value} {all:List (List Bool)} {w W:World} (h:PW n A0 c0 E a all w W):W.cell? ⟨w.heap.size,0,none⟩=some (.int .i64 n):=(ah h.box 0).trans rfl
theorem PW.b1 {n:Nat} {A0:Option Addr} {c0:Nat} {E:List S83} {a:Value} {all:List (List Bool)} {w W:World} (h:PW n A0 c0 E a all w W):W.cell? ⟨w.heap.size,1,none⟩=some (.slice A0 E.length c0):=(ah h.box 1).trans rfl
theorem Fp (k n:Nat) (A0:Option Addr) (c0:Nat) (E:List S83) (S:List (Nat×Int×Int)) (q:Nat) (l:List (List Int)) (g:Int) (w:World) (z:Kd.C aQ w A0 E.length E) (B:E.length<=c0)
  (hn:n<=1000) (hq:q<n) (hp:ll k n E true) (hu:df.f k n E q=some (l,0)) (hG:eW.f k n E=some g) (hg:0<=g/\g<=1000)
  (ht:aW.f k n E=some 0) (hE:cJ E=true) (hS:a6 E E.length=S) (b4:S.length<=14) (aF:dY n S) (aL:(uniq n S q).length=l.length) (b5:(uniq n S q).length<=100000)
  (b6:∀o∈uniq n S q,o.length=S.length) (b_:∀o∈uniq n S q,mo k n E g (b9 (bz n S o) n n)) (b':∀u v:Nat,u<v->v<(uniq n S q).length->ln k n E (b9 (bz n S ((uniq n S q).getD v [])) n n) (b9 (bz n S ((uniq n S q).getD u [])) n n)):
  Calls Tryz.prog 4 #[.agg #[.int .i64 n,.slice A0 E.length c0],.int .i64 q] w fun e w'=>e= .returned (.bool true)/\Below w.heap.size w w':=by
 have gc:=Tryz.underlying24;have HP:=zA (wB k n A0 c0 E true (w.alloc (.cells #[.int .i64 n,.slice A0 E.length c0] 24)) (Kd.bp z _) B hp);have HX:=zA (aU w (.cells #[.int .i64 n,.slice A0 E.length c0] 24));have HG:=zA hG;have HU:=zA hu;have aO:Aside0 (∀W,Below w.heap.size w W->_):=⟨fun W a=>Fa k n A0 c0 E S q W (Kd.al z a) B hn ht hE hS b4 aF (by omega) (by omega)⟩;have aP:Aside0 (∀o∈uniq n S q,∀(Ao:Option Addr) (co:Nat) (W:World),Below w.heap.size w W->Kd.bool.C W Ao o.length o->_):=⟨fun o ho Ao co W h1 M=>tx k n A0 c0 E Ao co o S W (Kd.al z h1) B M hn ht hE hS (b6 o ho) (by omega) aF⟩;have a0:=zA b_;have a5:=zA b';have d9:=b5;clear hp hG hu ht hE hS b4 aF b6 b_ b' b5;generalize uniq n S q=all at aO aP a0 a5 aL d9;have a9:=zA aL;have gd:(0:Int)<=(q:Int):=by omega
 have ge:(q:Int)<(n:Int):=by omega
 clear aL;have b0:(w.alloc (.cells #[.int .i64 n,.slice A0 E.length c0] 24)).cell? ⟨w.heap.size,0,none⟩=some (.int .i64 n):=(ah HX.out 0).trans rfl;go_enter Tryz.func4,Tryz.ntmps4
 go_upto_region 5 with (first|(go_at_call 17;refine HP.out.mono ?_;rintro e w1 ⟨rfl,hb⟩;have p:=zA (aC (af (ai w.heap.size w) _) hb);have V:=zA (au HX.out hb);have y0:w1.cell? ⟨w.heap.size,0,none⟩=some (.int .i64 n):=(ah V.out 0).trans rfl;have N:w1.cell? ⟨w.heap.size,1,none⟩=some (.slice A0 E.length c0):=(ah V.out 1).trans rfl;clear hb b0)|(go_at_call 19;refine(aO.out _ p.out).mono ?_;rintro e w6 ⟨va,rfl,G,hb⟩;obtain⟨Aa,ca,rfl⟩:=Kd.bE G;have D:=zA (PW.mk (au V.out hb) (Kd.lE (Kd.bt (base':=w.heap.size) G p.out.size)) (aC p.out hb));replace y0:=D.out.b0;replace N:=D.out.b1;clear hb G V p)|(go_at_call 15;refine(df.calls k n A0 c0 E q l 0 _ (Kd.al z D.out.eA) B HU.out).mono ?_;rintro e w7 ⟨vl,rfl,H,hb⟩;obtain⟨Al,cl,eb, -⟩:=Kd.yq H;subst eb;replace D:=zA (D.out.step hb);clear H hb y0 N))
 have hlen:((all.length:Int) != (l.length:Int))=false:=by rw[a9.out];simp
 have gp:¬((all.length:Int)≠(l.length:Int)):=by rw[a9.out];simp
 go_wp2;generalize w7=W0 at D⊢;go_loopg [9,66] (all.length) (fun kq s i wr=>∃v:Nat,i= .int .i64 v/\v<=all.length/\Aside0 (Below W0.heap.size W0 wr)/\Aside0 ((Kd.slice 3 (Kd.int .i64)).R 26 wr W0.heap.size (fun _=>True) s ((all.take v).map fun o=>b9 (bz n S o) n n))/\Aside0 (kq=all.length-v))
 case atStart=>exact⟨0,rfl,Nat.zero_le _,⟨ai _ _⟩,⟨Kd.c_ _ _ _ _ _⟩,⟨rfl⟩⟩
 case round=>
  obtain⟨v,rfl,hv,p,O,HK⟩:=hrel;have F:=zA (D.out.step p.out);by_cases I:v<all.length
  ·have gq:(0:Int)<=(v:Int):=by omega
   have gr:(v:Int)<(all.length:Int):=by omega
   have be:all.getD v []∈all:=by rw[aN,br I];exact List.getElem_mem I
   have ck:all.take (v+1)=all.take v++[all.getD v []]:=by rw[List.take_succ_eq_append_getElem I,aN,br I];rfl
   have bf:=zA (show (all.take (v+1)).map (fun o=>b9 (bz n S o) n n)=(all.take v).map (fun o=>b9 (bz n S o) n n)++[b9 (bz n S (all.getD v [])) n n] by rw[ck,List.map_append];rfl);have P:=zA (show ((all.take v).map (fun o=>b9 (bz n S o) n n)).length=v by rw[List.length_map,List.length_take];omega);have bg:Aside0 (∀u:Nat,u<v->ln k n E (b9 (bz n S (all.getD v [])) n n) (((all.take v).map fun o=>b9 (bz n S o) n n).getD u [])/\(((all.take v).map fun o=>b9 (bz n S o) n n).getD u []).length=n):=⟨fun u hu=>by
    have e:((all.take v).map fun o=>b9 (bz n S o) n n).getD u []=b9 (bz n S (all.getD u [])) n n:=by
     rw[aN,aN,List.getElem?_map,List.getElem?_take_of_lt hu,br (show u<all.length by omega)];rfl
    rw[e];exact⟨a5.out u v hu I,nf _ _ _⟩⟩
   obtain⟨ga,Ac,cc,rfl,N,y2,y3⟩:=Fb F.out.wD v I;obtain⟨⟨p2,p3,cy⟩,⟨L,c1,c2⟩,c3⟩:=a0.out _ be;have X:=zA cy;have bi:=zA c1;have el:=zA c2;have bk:=zA c3;have Y:=zA (aP.out _ be Ac cc wr F.out.eA (Kd.oR y3));have b:=zA (nf (bz n S (all.getD v [])) n n);clear be ck y2 y3 cy c1 c2 c3;generalize b9 (bz n S (all.getD v [])) n n=dv at bf bk Y b bg X bi;generalize all.getD v []=o at N Y;generalize (all.take v).map (fun o=>b9 (bz n S o) n n)=Z at O bf P bg;obtain⟨As,cs,c4⟩:=Kd.bE O.out;rw[P.out] at c4;subst c4;have x0:=F.out.b0;have x1:=F.out.b1;go_upto_region 12 with (go_at_call 20;refine Y.out.mono ?_;rintro e j ⟨go,r,rfl,G,hb⟩;have c5:=zA G;have c6:=zA (aC p.out hb);have y:=zA (F.out.step hb);have bn:=zA (Kd.b7 O.out hb);have c7:=(Kd.a8 G).2;clear G hb x0 x1 N)
   rw[b.out] at c7;obtain⟨ad,c8⟩:=c7;have Q:=zA c8;clear c8;have c9:Aside0 (∀W,Below j.heap.size j W->Calls Tryz.prog 14 #[.agg #[.int .i64 n,.slice A0 E.length c0],.slice (some ⟨go,0,none⟩) n r] W fun e w'=>∃er es:Value,e= .returned (.tuple #[.bool false,er,es,.int .i64 0])/\Below W.heap.size W w'):=⟨fun W a=>by
    have h:=il.calls k n A0 c0 E (some ⟨go,0,none⟩) r dv false p2 p3 0 W (Kd.al z (aC y.out.eA a)) B (by rw[b.out];exact Kd.al Q.out a) (by rw[b.out];exact ad) X.out;rw[b.out] at h;exact h.mono fun e w' ⟨v1,v2,M,_,_,h4⟩=>⟨v1,v2,M,h4⟩⟩
   have c':Aside0 (∀W,Below j.heap.size j W->Calls Tryz.prog 21 #[.agg #[.int .i64 n,.slice A0 E.length c0],.slice (some ⟨go,0,none⟩) n r] W fun e w'=>∃An cn,e= .returned (.tuple #[.slice An n cn,.int .i64 0])/\Below W.heap.size W w'):=⟨fun W a=>by
    have h:=EV k n A0 c0 E (some ⟨go,0,none⟩) r dv L p2 p3 W (Kd.al z (aC y.out.eA a)) B (by rw[b.out];exact Kd.al Q.out a) (by rw[b.out];exact ad) hn X.out bi.out;rw[b.out] at h;exact h.mono fun e w' ⟨v,M,h4,h5⟩=>by obtain⟨An,cn,hv⟩:=Kd.bE h4;rw[el.out] at hv;exact⟨An,cn,by rw[M,hv],h5⟩⟩
   have dd:Aside0 (∀W,Below j.heap.size j W->Calls Tryz.prog 22 #[.slice (some ⟨go,0,none⟩) n r] W fun e w'=>e= .returned (.int .i64 (g-1))/\Below W.heap.size W w'):=⟨fun W a=>by
    have h:=e9.calls k (some ⟨go,0,none⟩) r dv (g-1) W (by rw[b.out];exact Kd.al Q.out a) (by rw[b.out];exact ad) bk.out;rw[b.out] at h;exact h.mono fun e w' ⟨h1,m,h2⟩=>⟨h1,by rw[h2];exact cz (ai _ _) m⟩⟩
   have dl:Aside0 (∀W,Below j.heap.size j W->_):=⟨fun W a=>eW.calls k n A0 c0 E g W (Kd.al z (aC y.out.eA a)) B HG.out⟩;have ds:Aside0 (∀W,Below j.heap.size j W->∀(J:Option Addr) (K:Nat) (x:List Int),ln k n E dv x->x.length=n->x.length<=K->(Kd.int .i64).C W J x.length x->Calls Tryz.prog 24 #[.agg #[.int .i64 n,.slice A0 E.length c0],.slice (some ⟨go,0,none⟩) n r,.slice J x.length K] W fun e w'=>e= .returned (.tuple #[.bool false,.slice none 0 0,.int .i64 0])/\Below W.heap.size W w'):=⟨fun W a J K x hx am ey e0=>by
    obtain⟨a1,a2,a3,a4,e1,e2,e3,e4⟩:=hx;have h:=Fm k n A0 c0 E (some ⟨go,0,none⟩) r dv J K x a1 a2 a3 a4 W (Kd.al z (aC y.out.eA a)) B (by rw[b.out];exact Kd.al Q.out a) (by rw[b.out];exact ad) e0 ey e1 e2 e3 e4;rw[b.out] at h;exact h⟩
   have fd:IntKind.i64.wrap (g-1)=g-1:=by rw[cA];unfold wrap64;omega
   have z0:=y.out.b0;have z1:=y.out.b1;go_upto_region 14 with (first|(go_at_call 14;refine(c9.out _ (ai _ _)).mono ?_;rintro e w9 ⟨v4,v5,rfl,hb⟩;have bq:=zA hb;have an:=zA (y.out.step hb);replace z0:=an.out.b0;replace z1:=an.out.b1;clear hb)|(go_at_call 21;refine(c'.out _ bq.out).mono ?_;rintro e gu ⟨An,cn,rfl,hb⟩;have dx:=zA (aC bq.out hb);have ao:=zA (an.out.step hb);replace z0:=ao.out.b0;replace z1:=ao.out.b1;clear hb))
   go_region_held3 (fun w'=>w'.heap[w.heap.size]? =some (.cells #[.int .i64 n,.slice A0 E.length c0] 24 (0,0))/\w'.cell? ⟨w.heap.size,0,none⟩=some (.int .i64 n)/\w'.cell? ⟨w.heap.size,1,none⟩=some (.slice A0 E.length c0)/\Below j.heap.size j w')
    (first
     |exact GB.mk (dU ao.out.box) (bC dx.out)
     |((try go_split_ands);refine⟨by assumption,by assumption,by assumption,by assumption⟩)
     |((try go_split_ands);exact GB.step (by assumption) (by assumption) (by assumption))
     |fail)
    (first
     |(go_at_call 22;refine(dd.out _ (by go_split_ands;assumption)).mono ?_;rintro e ap ⟨rfl,hB⟩)
     |(go_at_call 23;refine(dl.out _ (by go_split_ands;assumption)).mono ?_;rintro e ap ⟨rfl,hB⟩))
   rename_i hHeld;have ar:Aside0 (Below j.heap.size j ap):=⟨by go_split_ands;assumption⟩;have d1:=zA (y.out.step ar.out);have d2:=zA (Kd.lE (Kd.b7 bn.out ar.out));clear hHeld hB z0 z1 bq an dx ao dd dl fd Y c9 c' bi X bk;obtain⟨ws,d3⟩:∃ws,ws=wr.heap.size:=⟨_,rfl⟩;have fo:=zA (Kd.bt (base':=W0.heap.size) (Kd.bj (ok':=fun k=>ws<=k) (Kd.dy c5.out) (fun k hk=>by rw[d3];exact hk.2.1)) p.out.size);have fq:Aside0 (∀k,ws<=k->True/\some k≠(Value.slice As v cs).ownBlock):=⟨fun k hk=>⟨trivial,fun e=>by have:=Kd.cF O.out k e.symm;omega⟩⟩;clear d3;go_wp2;go_loopg [116] (v) (fun kq i wi=>∃u:Nat,i= .int .i64 u/\u<=v/\Aside0 (Below ap.heap.size ap wi)/\Aside0 (kq=v-u))
   case atStart=>exact⟨0,rfl,Nat.zero_le _,⟨ai _ _⟩,⟨rfl⟩⟩
   case round=>
    obtain⟨u,rfl,hu,T,d4⟩:=hrel;have U:=zA (aC ar.out T.out);by_cases d5:u<v
    ·have gv:(0:Int)<=(u:Int):=by omega
     have gx:(u:Int)<(v:Int):=by omega
     obtain⟨bv,am⟩:=bg.out u d5;have H:=Kd.gz d2.out T.out;rw[show (Value.slice As v cs)= .slice As Z.length cs by rw[P.out]] at H;obtain⟨gs,J,K,rfl,fr,bw,bx⟩:=EN H u (by rw[P.out];exact d5);clear H;generalize Z.getD u []=x at bv am fr bw bx;have ft:=zA (ds.out _ U.out J K x bv am bw (Kd.oR bx));have b2:=zA (d1.out.step T.out);have g0:=b2.out.b0;have g1:=b2.out.b1;clear bv bw bx am b2;go_wp2_with (go_at_call 24;refine ft.out.mono ?_;rintro e g2 ⟨rfl,hb⟩;have f0:=zA (aC T.out hb);clear hb)
     go_roundg (v- (u+1))
     case measure=>rw[d4.out];omega
     case rel=>exact⟨u+1,by go_num,by omega,f0,⟨rfl⟩⟩
    ·obtain rfl:u=v:=by omega
     have d6:=zA (aC c6.out U.out);have f1:=zA (Kd.b7 bn.out U.out);have f2:=zA (Kd.kr (Kd.b7 fo.out U.out));have LN:Aside0 ((Z.length+1)*24<=140737488355328):=⟨by have:=P.out;omega⟩;clear T U d4 ds d2 d1 ar c5 bn y c6 Q F;go_wp2_with (at_builtin;refine Kd.mw (Kd.slice 3 (Kd.int .i64)) (w0:=W0) W0.heap.size rfl (.tmp 134) (.tmp 136) 33 26 (.slice none 0 0) 24 rfl Tryz.underlying33 o9 rfl (by decide) (by omega) (.slice As u cs) Z dv [.slice (some ⟨go,0,none⟩) n r] (fun _=>True) (fun k=>ws<=k) rfl rfl f2.out fq.out (fun _ _=>trivial) f1.out d6.out d6.out.size LN.out ?_;intro v1 g3 d7 hb f4 f5;have f6:=zA d7;have f7:=zA hb;clear d7 hb f4 f5)
     go_roundg (all.length- (u+1))
     case measure=>rw[HK.out];omega
     case rel=>exact⟨u+1,by go_num,by omega,f7,⟨by rw[bf.out];exact f6.out⟩,⟨rfl⟩⟩
  ·obtain rfl:v=all.length:=by omega
   have f8:=zA F.out.eA;clear O p HK F aP aO HP HU HG a0 a5 D a9;go_wp2_with (go_at_call 18;refine(wC _).mono ?_;rintro e w9 ⟨rfl,hb⟩;have HZ:=zA (aC f8.out hb);clear hb)
   go_ret;exact⟨rfl,HZ.out⟩
end
section
theorem wE:∀{c:List Int},(∀x∈c, -1048576<=x/\x<=1048576)->eR c=0
 |[],_=>rfl
 |x::c,h=>by
  have h1:=h x (List.mem_cons_self ..);have a:=wE (c:=c) fun y b=>h y (List.mem_cons_of_mem _ b)
  rw[eR,if_pos (by simp[ju];omega)];exact a
theorem Fq (N:Int) (E:List S83) (i:E.length<=9223372036854775807):∃b,Ev (fun k=>fZ.f k N E) b/\(b=true->E.length<=40)/\(cE N E=0->b=lh N E):=by
 by_cases g:cE N E=0
 ·refine⟨_,Et g,fun e=>?_,fun _=>rfl⟩
  unfold lh at e;exact(aD e).1
 ·unfold fZ.f jB.f
  by_cases j:E.length>40
  ·refine⟨false,Ev.bind (a:=false) ?_ (Ev.const _),nofun,fun h=>absurd h g⟩
   simp only[if_pos (show (E.length:Int)>40 by omega)];exact Ev.const _
  ·refine⟨true,Ev.bind (a:=true) ?_ (Ev.const _),fun _=>by omega,fun h=>absurd h g⟩
   simp only[if_neg (show ¬(E.length:Int)>40 by omega)];refine Ev.bind (qX N E i) ?_;simp only[if_neg g];exact Ev.const _
theorem Fs (N:Int) (E:List S83) (a:E.length<=9223372036854775807):Ev (fun k=>iT.f k N E) (ki N E):=by
 have h:=Es N E a;unfold qY.f at h;unfold iT.f;exact h
theorem rh {a b:List Int} (g:a.length=b.length) (h:a.length<=100000) {i:Nat} (hi:i<a.length) (he:∀j:Nat,j<i->rd a j=rd b j) (e:rd a i≠rd b i):∀(m j:Nat),j+m=i->Ev (fun k=>eo.l0 k a b a.length j) false
 |0,j,l=>by
  obtain rfl:j=i:=by omega
  refine Ev.of_succ ?_;simp only[eo.l0,if_pos (show (j:Int)<(a.length:Int) by omega),if_pos (show (j:Int)<(b.length:Int) by omega),if_pos (show (0:Int)<=(j:Int) by omega),if_neg e];exact Ev.const _
 |m+1,j,l=>by
  have n:=rh g h hi he e m (j+1) (by omega);refine Ev.of_succ ?_;simp only[eo.l0,if_pos (show (j:Int)<(a.length:Int) by omega),if_pos (show (j:Int)<(b.length:Int) by omega),if_pos (show (0:Int)<=(j:Int) by omega),if_pos (he j (by omega)),fh (show j<=1000000 by omega)];exact n
theorem Ft {a b:List Int} (e:a.length=b.length) (h:a.length<=100000) (l:a≠b):Ev (fun k=>eo.f k a b) false:=by
 rcases vS e l with⟨i,h1,g,m⟩|⟨i,h1,g,m⟩
 ·unfold eo.f
  simp only[if_pos (show (a.length:Int)=(b.length:Int) by omega)];exact rh e h h1 g (by omega) i 0 (by omega)
 ·unfold eo.f
  simp only[if_pos (show (a.length:Int)=(b.length:Int) by omega)];exact rh e h (by omega) (fun j n=>(g j n).symm) (by omega) i 0 (by omega)
theorem Fu {n:Nat} {E:List S83} {a b:List Int} (h:E.length<=1000) (i:cE n E=0) (hp:partsOf E n=1) (j:kf a n=0) (hb:kf b n=0) (l:a.length<=1000) (m:b.length<=1000):Ev (fun k=>eV.f k n E [a,b]) 0:=by
 unfold eV.f;refine Ev.bind (qK h i hp) ?_;have e:=nT a n (by omega);have g:=nT b n (by omega);rw[j] at e;rw[hb] at g;simp only[if_true];refine Ev.of_succ ?_;simp only[eV.l0,List.length_cons,List.length_nil];simp only[if_pos (show (0:Int)<((0+1+1:Nat):Int) by decide),if_pos (show (0:Int)<=0 by decide)];refine Ev.bind (show Ev (fun k=>cu.f k (aZ [a,b] 0) n) 0 from e) ?_;simp only[if_true];refine Ev.of_succ ?_;simp only[eV.l0,show wrap64 (0+1)=1 by unfold wrap64;omega,List.length_cons,List.length_nil];simp only[if_pos (show (1:Int)<((0+1+1:Nat):Int) by decide),if_pos (show (0:Int)<=1 by decide)];refine Ev.bind (show Ev (fun k=>cu.f k (aZ [a,b] 1) n) 0 from g) ?_;simp only[if_true];refine Ev.of_succ ?_;simp only[eV.l0,show wrap64 (1+1)=2 by unfold wrap64;omega];simp only[if_neg (show ¬(2:Int)<((0+1+1:Nat):Int) by decide)];exact Ev.const _
theorem Fv {n:Nat} {E:List S83} (hn:1<=n) (j:n<=12) (l:E.length<=40) (a:a7 n E) (b:∀x∈E,x.f0≠x.f1) (hp:partsOf E n=1) (m:bN E E.length<=100) {g:Int} (h:T.g_ n (ae E) g):Ev (fun k=>eW.f k n E) g:=by
 unfold eW.f iz.f;rw[if_pos (a.nA (by omega))];refine Ev.bind (Ev.const _) ?_;refine Ev.bind (tY E (by omega) n (by omega)) ?_;have h1:=q_ a b;have i:T.sN (T.can n (ae E)) n=2*g-2:=h;rw[show T.can n (ae E)=fun v=>T.val n (ae E) v-2 from rfl,T.ef,T.fT] at i;rw[hp];have e:wrap64 (wrap64 (((bN E E.length:Nat):Int)-n)+((1:Nat):Int))=g:=by
  rw[fV (show -1000000000<=((bN E E.length:Nat):Int)-n/\((bN E E.length:Nat):Int)-n<=1000000000 by omega),fV (by omega)];omega
 rw[e];exact Ev.const _
section
variable {n q:Nat} {E:List S83} {d:List Int} {S:List (Nat×Int×Int)}
theorem Fw (hC:Curve n E d) (hn:1<=n) (b:fL n q E S) (aG:S.length<=7) {g:Int} (m:T.g_ n (ae E) g) {o:List Bool} (z:o∈uniq n S q):bQ fun k=>mo k n E g (b9 (bz n S o) n n):=by
 have hS:=b.small;have B:=hS.q;have j:=hS.right.wt;have C:=hS.right.conn hS.conn;have J:=hS.n5;obtain⟨l,⟨pos,hi,D⟩,K⟩:=(kl B b.ok b.len).1 z;have h:∀v,v<n->rd (cT n S o) (v:Nat)=T.nu n (ae E) pos v:=fun v a=>b.nu l D a
 have hb:∀v:Nat,v<n-> -8<=rd (cT n S o) v/\rd (cT n S o) v<=8:=fun v a=>by
  have h1:=T.lZ (T.arr (bL S) o) (fun _=>true) v;have p:=T.nm (T.arr (bL S) o) (fun _=>true) v;rw[k9 l] at p;rw[<-T.jo] at h1 p;rw[kj b.ok b.len l a];omega
 have i:=ml n S o;show bQ fun k=>mo k n E g (cT n S o)
 generalize cT n S o=x at h hb i;have r:¬T.bV n (ae E) (fun v=>rd x (v:Nat)):=fun hw=>T.pG j hn pos (hw.jY (T.bY.of_eq fun v a=>(h v a).symm))
 obtain⟨L,F,G⟩:=hC.EZ hn i (fun v a=>by have:=hb v a;omega);have H:∀u:Nat,u<n->rd L u=1:=fun u hu=>(G u hu).2 ⟨r,(T.Bj j C hn m hi hu).jY (T.bY.of_eq fun v a=>by show rd x (v:Nat)+T.one u v=_;rw[h v a])⟩
 have w:=hC.oe hn i (fun v a=>by have:=hb v a;omega) (show 0<n by omega);obtain⟨s,w1,w2,w3⟩:=D9 w hC.check;have I:=D_ w w3;rw[aY (fun e=>r (I.1 e))] at w1;have y:=EL x (by omega) (fun v a=>by have:=hb v (by omega);omega);rw[i,T.bm h,T.lY j m hi] at y;exact(((bQ.fM w1).and F).and (bQ.fM y)).imp fun k hk=>⟨⟨_,_,hk.1.1⟩,⟨L,hk.1.2,EX H⟩,hk.2⟩
theorem Fx (hC:Curve n E d) (hn:1<=n) (i:fL n q E S) (aG:S.length<=7) {a b:List Int} (y:a∈(uniq n S q).map (cT n S)) (hb:b∈(uniq n S q).map (cT n S)) (z:a≠b):bQ fun k=>ln k n E a b:=by
 have hS:=i.small;have l:=hS.q;have m:=hS.right.wt;have B:=hS.right.conn hS.conn;obtain⟨f1,f2,f3,f4,f5⟩:=hC.facts hn;have key:∀x∈(uniq n S q).map (cT n S),x.length=n/\(∀v:Nat,v<n-> -8<=rd x v/\rd x v<=8)/\T.fG n (ae E) q (fun v=>rd x (v:Nat)):=fun x C=>by
  obtain⟨o,D,rfl⟩:=List.mem_map.1 C;obtain⟨j,⟨pos,hi,F⟩,G⟩:=(kl l i.ok i.len).1 D;have p:∀v:Nat,v<n->rd (cT n S o) v=T.eB (bL S) o v-1:=fun v g=>kj i.ok i.len j g
  have h1:∀v,0<=T.eB (bL S) o v:=fun v=>by rw[T.jo];exact T.lZ _ _ _
  refine⟨ml n S o,fun v g=>?_,fun v g e=>?_,(T.pN m q pos).down fun v g e=>?_⟩
  ·have r:=T.nm (T.arr (bL S) o) (fun _=>true) v
   rw[k9 j,<-T.jo] at r;have:=h1 v;rw[p v g];omega
  ·show 0<=rd (cT n S o) (v:Nat)
   have r:=h1 v;have M:T.eB (bL S) o v≠0:=fun k=>e ((G v g).1 k)
   rw[p v g];omega
  ·show rd (cT n S o) (v:Nat)<=_
   rw[i.nu j F g];exact Int.le_refl _
 obtain⟨u,a2,a3⟩:=key a y;obtain⟨b1,w,b3⟩:=key b hb;obtain⟨s,x1,x2,x3⟩:=nX (hC.oe hn u (fun v g=>by have:=a2 v g;omega) (show 0<n by omega)) hC.check;obtain⟨t,H,N,I⟩:=nX (hC.oe hn b1 (fun v g=>by have:=w v g;omega) (show 0<n by omega)) hC.check;have O:(bP n E a s).length=n:=by simp[bP]
 have P:(bP n E b t).length=n:=by simp[bP]
 have J:bP n E a s≠bP n E b t:=fun e=>by
  have K:T.bY n (ae E) (fun v=>rd a (v:Nat)) (fun v=>rd (bP n E a s) (v:Nat)):=⟨_,x3.eq⟩;have e2:T.bY n (ae E) (fun v=>rd b (v:Nat)) (fun v=>rd (bP n E b t) (v:Nat)):=⟨_,I.eq⟩;rw[<-e] at e2;have h:=T.tH m B l a3 b3 (K.trans e2.symm);exact z (qW (by omega) fun v g=>(h v (by omega)).symm)
 have L:=Fu (by omega) hC.check f5 (qL hn (by omega) u (fun v g=>by have:=a2 v g;omega)) (qL hn (by omega) b1 (fun v g=>by have:=w v g;omega)) (by omega) (by omega);exact(((bQ.fM L).and (bQ.fM x1)).and ((bQ.fM H).and (bQ.fM (Ft (by omega) (by omega) J)))).imp fun k hk=>⟨_,_,_,_,hk.1.1,hk.1.2,hk.2.1,hk.2.2⟩
end
def Fy (k:Nat) (N:Int) (E:List S83) (q:Int):Prop:=∃(n:Nat) (S:List (Nat×Int×Int)) (p:Nat) (l:List (List Int)) (g:Int),N=n/\q=p/\n<=1000/\p<n/\ll k n E true/\df.f k n E p=some (l,0)/\eW.f k n E=some g/\(0<=g/\g<=1000)/\aW.f k n E=some 0/\cJ E=true/\a6 E E.length=S/\S.length<=14/\dY n S/\(uniq n S p).length=l.length/\(uniq n S p).length<=100000/\(∀o∈uniq n S p,o.length=S.length)/\(∀o∈uniq n S p,mo k n E g (b9 (bz n S o) n n))/\
  ∀u v:Nat,u<v->v<(uniq n S p).length->ln k n E (b9 (bz n S ((uniq n S p).getD v [])) n n) (b9 (bz n S ((uniq n S p).getD u [])) n n)
theorem Fz (N:Int) (E:List S83) (H:E.length<=9223372036854775807) (q:Int):∃k,(∃r,ll k N E r/\(r=false\/r=true/\q<0\/r=true/\0<=q/\N<=q))\/Fy k N E q:=by
 obtain⟨b,hb,P,Q⟩:=Fq N E H;have F:=Fs N E H;cases b with
 |false=>
  obtain⟨k,hk⟩:=hb.get;exact⟨k,.inl ⟨false,.inl ⟨hk,rfl⟩,.inl rfl⟩⟩
 |true=>
  have aS:=P rfl;by_cases s:ki N E=0
  ·rw[s] at F
   obtain⟨B,w⟩:=(bQ.fM hb).and (bQ.fM F);have m:∀k,B<=k->ll k N E (!iq E):=fun k hk=>.inr (.inr ⟨(w k hk).1,(w k hk).2,by omega,rfl⟩)
   cases y:iq E with
   |true=>exact⟨B,.inl ⟨false,by have:=m B (aM _);rw[y] at this;exact this,.inl rfl⟩⟩
   |false=>
    rw[y] at m;by_cases R:q<0
    ·exact⟨B,.inl ⟨true,m B (aM _),.inr (.inl ⟨rfl,R⟩)⟩⟩
    ·by_cases U:N<=q
     ·exact⟨B,.inl ⟨true,m B (aM _),.inr (.inr ⟨rfl,by omega,U⟩)⟩⟩
     ·obtain⟨I,j2⟩:=vW s
      obtain⟨c1,c2,c3⟩:=iH I;have J:∀x∈List.replicate N.toNat (0:Int),x=0:=fun x l=>(List.mem_replicate.1 l).2
      have V:n9 N (List.replicate N.toNat 0)=0:=by
       unfold n9;rw[if_pos (by simp;omega)];exact wE fun x l=>by rw[J x l];omega
      obtain⟨n,rfl,hn,hC⟩:=Ew s V (Q I).symm (List.all_eq_true.2 fun x l=>by rw[J x l];decide);obtain⟨f1,f2,f3,f4,f5⟩:=hC.facts hn;obtain⟨g, -,z⟩:=hC.EM hn;obtain⟨p,rfl⟩:=Int.eq_ofNat_of_zero_le (show 0<=q by omega);have hp:p<n:=by omega
      have hS:=hC.small p hp;have hu:=EK hS hC.check;have D:∀x∈E,x.f0≠x.f1:=fun x l=>by
       unfold iq at y;have:=List.any_eq_false.1 y x l;simpa using this
      have hv:=q_ f3 D;have a1:=hC.val;have aG:(a6 E E.length).length<=7:=by rw[lP];omega
      have W:=Fv hn (by omega) f2 f3 D f5 (by omega) z;have X:(0:Int)<=g/\(g:Int)<=1000:=by
       have Y:T.sN (T.can n (ae E)) n=2*g-2:=z;rw[show T.can n (ae E)=fun v=>T.val n (ae E) v-2 from rfl,T.ef,T.fT] at Y;omega
      have K:=l5 n E (by omega);rw[hC.check] at K;have Z:cJ E=true:=f3.nA (by omega);have j:fL n p E (a6 E E.length):=⟨hS,EH f3,by omega,EG f3 D,EF f3 D⟩;generalize aa:a6 E E.length=S at aG j;have ad:=j.count z;have ag:=hS.ql;have a2:(Small.fK n p E).length<=4096:=Nat.le_trans (List.length_filter_le _ _) ag;have a3:((Small.fK n p E).map fun c=>c.set p (-1)).length=(Small.fK n p E).length:=List.length_map _;have ak:bQ fun k=>∀o∈uniq n S p,mo k n E g (b9 (bz n S o) n n):=bQ.mem fun o G=>Fw hC hn j aG z G
      have am:bQ fun k=>∀a∈(uniq n S p).map (cT n S),∀b∈(uniq n S p).map (cT n S),a≠b->ln k n E a b:=bQ.mem fun a ha=>bQ.mem fun b hb=>by
       by_cases e:a=b
       ·exact⟨0,fun _ _ h=>absurd e h⟩
       ·exact(Fx hC hn j aG ha hb e).imp fun k hk _=>hk
      obtain⟨C,ao⟩:=(((bQ.fM hu).and (bQ.fM W)).and (bQ.fM K)).and (ak.and am);obtain⟨⟨⟨k1,k2⟩,k3⟩,k4,k5⟩:=ao (max B C) (by omega);refine⟨max B C,.inr ⟨n,S,p,_,g,rfl,rfl,by omega,hp,m _ (by omega),k1,k2,X,k3,Z,aa,by omega,j.ok,ad,by omega,fun o G=>((kl hp j.ok j.len).1 G).1,k4,fun u v aL L=>?_⟩⟩;have M:∀i:Nat,i<(uniq n S p).length->(uniq n S p).getD i []∈uniq n S p/\((uniq n S p).map (cT n S)).getD i []=cT n S ((uniq n S p).getD i []):=fun i hi=>by
       rw[aN,aN,List.getElem?_map,br hi];exact⟨List.getElem_mem hi,rfl⟩
      have gu:=M u (by omega);have gv:=M v L;refine k5 _ (List.mem_map.2 ⟨_,gv.1,rfl⟩) _ (List.mem_map.2 ⟨_,gu.1,rfl⟩) fun e=>?_
      have O:=List.pairwise_iff_getElem.1 j.nodup u v (by rw[List.length_map];omega) (by rw[List.length_map];omega) aL;rw[List.getElem_map,List.getElem_map] at O;rw[aN,aN,br L,br (show u<(uniq n S p).length by omega)] at e;exact O e.symm
  ·obtain⟨B,w⟩:=(bQ.fM hb).and (bQ.fM F)
   have:=w B (aM _);exact⟨B,.inl ⟨false,.inr (.inl ⟨_,this.1,this.2,s,rfl⟩),.inl rfl⟩⟩
theorem FA (N:Int) (A0:Option Addr) (c0:Nat) (E:List S83) (q:Int) (w:World) (a:Kd.C aQ w A0 E.length E) (b:E.length<=c0) (h:E.length<=9223372036854775807):
  Calls Tryz.prog 4 #[.agg #[.int .i64 N,.slice A0 E.length c0],.int .i64 q] w fun e w'=>e= .returned (.bool true)/\Below w.heap.size w w':=by
 obtain⟨k,⟨r,h1,i⟩|⟨n,S,p,l,g,rfl,rfl,hn,hp,j,hu,m,o,s,u,hS,v,x,y,z,B,D,F⟩⟩:=Fz N E h q
 ·exact Fo k N A0 c0 E q r w a b h1 i
 ·exact Fp k n A0 c0 E S p l g w a b hn hp j hu m o s u hS v x y z B D F
end
end Go.Proofs.YtffdiakgjakngaaGreat.P


