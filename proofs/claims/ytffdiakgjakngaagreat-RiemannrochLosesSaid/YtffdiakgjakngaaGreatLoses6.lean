/- RiemannrochLoses answers true whatever the input (text 6 of 7): own walks and plain laws; no conditions. -/
import Derived.BigQuiet
import Derived.Deep.QuietTactic
import Derived.Laws.CopyRow
import Derived.Shelf.SlSortCmp.NoneTotal
import Derived.StillTailTactics
import Derived.Test.YtffdiakgjakngaaGreatLoses5
namespace Go.Proofs.YtffdiakgjakngaaGreat.P
open Go.RowKit Go.Proofs.YtffdiakgjakngaaGreatW.PrintWords Go.Proofs.YtffdiakgjakngaaGreatW.PrintLast Go.Proofs.YtffdiakgjakngaaGreatW.PrintMore
set_option linter.unusedVariables false
set_option linter.unusedSimpArgs false
set_option maxHeartbeats 8000000
set_option maxRecDepth 100000
section
attribute [local go_sem] Oper.semAt_some jq jr js jt
theorem pJ (d:List Int):∀n,eU d n=T.sN (fun v=>rd d (v:Nat)) n
 |0=>rfl
 |n+1=>by
  show eU d n+_=T.sN _ n+_
  rw[pJ d n]
def gL (W:World) (a:Nat) (n:Nat) (A0:Option Addr) (E:List S83) (c0:Nat) (g:Int) (b:Nat):Prop:=W.heap[a]? =some (.cells #[.int .i64 n,.slice A0 E.length c0,.int .i64 g,.map (some b)] 171 (0,0))
def fe (a:Nat) (W W':World):Prop:=Below a W W'/\∀k,k<W.heap.size->k≠a->W'.heap[k]? =W.heap[k]?
theorem fe.mI {a:Nat} {W W':World} (h:Below W.heap.size W W') (hm:a<=W.heap.size):fe a W W':=⟨h.mono hm,fun k hk _=>h.block k hk⟩
theorem fe.trans {a:Nat} {A B C:World} (h:fe a A B) (b:fe a B C):fe a A C:=⟨h.1.trans b.1,fun k hk e=>(b.2 k (Nat.lt_of_lt_of_le hk h.1.size) e).trans (h.2 k hk e)⟩
theorem fe.xW {a:Nat} {W W':World} (h:fe a W W') {k:Nat} {cs:Array Value} {t:TypeId} (hk:W.heap[k]? =some (.cells cs t (0,0))) (b:k≠a):W'.heap[k]? =some (.cells cs t (0,0)):=(h.2 k (aA hk) b).trans hk
structure sj (n:Nat) (E:List S83) (g:Int):Prop where
 n1:1<=n
 n12:n<=12
 right:br n E
 conn:fl n E
 len:E.length<=1000
 val:T.sN (T.val n (af E)) n<=19
 gen:T.dF n (af E) g
 g0: -100<=g/\g<=100
 sk:∀d:List Int,dU n 0 E d->∃k s,fu.f k n E d=some (decide (rd (cN n E d s) 0>=0),cN n E d s,s,0)/\kF n E 0 d s=true
 b9:∀a:List (List Int),a.Pairwise (· ≠ ·)->(∀l∈a,∃x,j5 n (af E) g l x)->a.length<16384
def pK (n:Nat) (d:List Int):Prop:=d.length=n/\∀v:Nat,v<n-> -200<=rd d v/\rd d v<=200
def sm (n:Nat) (t:Nat->Nat->Int) (g:Int) (d:List Int) (a:Nat) (W:World) (e:Ending) (W':World):Prop:=∃r:Int,e= .returned (.tuple #[.int .i64 r,.int .i64 0])/\Rk n t d r/\dV (j5 n t g) W' a/\fe a W W'
theorem xX (n:Nat) (A0:Option Addr) (c0:Nat) (E:List S83) (g:Int) (q i:Nat) (w0:World) (g1:Kd.C aN w0 A0 E.length E) (el:E.length<=c0) (hG:sj n E g) (g2:w0.heap.size<=i)
  (d:List Int) (A:Option Addr) (c:Nat) (W:World) (hd:pK n d) (ih:0<=eU d n->∀(d':List Int) (A':Option Addr) (c':Nat) (W':World),pK n d'->eU d' n<eU d n->Below w0.heap.size w0 W'->gL W' q n A0 E c0 g i->dV (j5 n (af E) g) W' i->Kd.C (Kd.int .i64) W' A' d'.length d'->d'.length<=c'->Calls Tryz.prog 95 #[.pointer (some ⟨q,0,none⟩),.slice A' n c'] W' (sm n (af E) g d' i W')) (hB:Below w0.heap.size w0 W) (hF:gL W q n A0 E c0 g i) (hM:dV (j5 n (af E) g) W i) (ak:q≠i) (hC:Kd.C (Kd.int .i64) W A d.length d) (hc:d.length<=c):
  Calls Tryz.prog 95 #[.pointer (some ⟨q,0,none⟩),.slice A n c] W (sm n (af E) g d i W):=by
  have IH:=zA ih;have X:=zA hG;have HD:=zA hd;have HB:=zA hB;have HF:=zA hF;have HM:=zA hM;have HC:=zA hC;have c5:=zA hc;have ex:=hG.n1;have b5:=hG.n12;have ey:=hG.g0;have h6:=Tryz.underlying171;have hu:=Tryz.underlying24;have g4:=hM.lt;have h7:=aA hF;have e1:=zA (sg (n:=n) (d:=d) (fun v Q=>by have:=hd.2 v Q;omega) n (aI n));have e2:=zA (pJ d n);clear ih hG hd hB hF hM hC hc;go_enter Tryz.func95,Tryz.ntmps95
  go_wp2_with fail
  refine(Gi A c n d W HC.out c5.out HD.out.1 ex b5 (fun v Q=>by have:=HD.out.2 v Q;omega)).mono ?_;rintro e w1 ⟨rfl,hb⟩;have b6:=zA hb;have b_:=zA (show gL w1 q n A0 E c0 g i from aE HF.out hb);have ap:=zA (HM.out.below hb);clear hb;have b':=zA (aZ HB.out b6.out);have ca:=zA (fe.mI b6.out (Nat.le_of_lt g4));have y2:w1.cell? ⟨q,2,none⟩=some (.int .i64 g):=(aj b_.out 2).trans rfl;have y0:w1.cell? ⟨q,0,none⟩=some (.int .i64 n):=(aj b_.out 0).trans rfl;have y1:w1.cell? ⟨q,1,none⟩=some (.slice A0 E.length c0):=(aj b_.out 1).trans rfl;have Z:0<n:=by omega
  have aa:=zA X.out.right.wt;have e3:=zA (X.out.right.conn X.out.conn);have hb:=e1.out;have bv:Aside0 (eU d n=T.sN (fun v=>rd d (v:Nat)) n):=e2;generalize g5:eU d n=S at hb IH bv⊢;have g6: -20000000<=S:=by omega
  have g7:S<=20000000:=by omega
  clear g5 hb e1 e2;by_cases e4:S<0
  ·have P:Aside0 (Rk n (af E) d (-1)):=⟨xh aa.out Z (fun hw=>by have:=hw.ba aa.out;rw[<-bv.out] at this;omega)⟩
   have g8:decide (S<0)=true:=az e4;go_wp2;go_ret2;exact⟨-1,rfl,P.out,ap.out,ca.out⟩
  have g8:decide (S<0)=false:=a6 e4;by_cases cb:2*g-2<S
  ·have P:Aside0 (Rk n (af E) d (S-g)):=⟨by rw[bv.out];exact FJ aa.out e3.out Z X.out.gen (by rw[<-bv.out];exact cb)⟩
   have g9:decide (2*g-2<S)=true:=az cb;obtain⟨g',ha⟩:=ey;go_wp2;go_ret2;exact⟨S-g,rfl,P.out,ap.out,ca.out⟩
  have g9:decide (2*g-2<S)=false:=a6 cb;obtain⟨g',ha⟩:=ey;obtain⟨kW,s,e6,hs⟩:=X.out.sk d ⟨ex,b5,Z,X.out.len,X.out.right,X.out.conn,X.out.val,HD.out.1,HD.out.2⟩;have cc:=(nJ X.out.right).1 hs;have cd:=zA cc.2;have Y:=zA (pB n E d s);have bw:=zA e6;have e':=zA (Kd.aw g1 b'.out);have fd:=zA (Kd.aw HC.out b6.out);have c6:=zA (eH.bound aa.out e3.out Z b5 X.out.val HD.out.2 cc.2);have bx:Aside0 (T.bM n (af E) (fun v=>rd d (v:Nat)) (fun v=>rd (cN n E d s) (v:Nat))):=⟨⟨_,cc.2.eq⟩⟩;have he:=zA HD.out.1;clear e6 hs cc;generalize cN n E d s=cl at cd Y bw c6 bx;have hf:=he.out;subst hf;cases aO:decide (rd cl 0>=0) with
  |false=>
   have aP:¬0<=rd cl (0:Nat):=by simpa using aO
   have P:Aside0 (Rk d.length (af E) d (-1)):=⟨xh aa.out Z (fun hw=>aP ((T.lf aa.out Z cd.out.red).1 (hw.eY bx.out)))⟩;rw[aO] at bw;clear aO aP;go_wp2_with (go_at_call 14;refine(fu.calls kW d.length A0 c0 E A c d false cl s 0 _ e'.out el fd.out c5.out bw.out).mono ?_;rintro e w2 ⟨v1,v2,rfl,aS,c7,ad⟩;have ce:=zA (ca.out.trans (fe.mI ad (Nat.le_of_lt ap.out.lt)));have a0:=zA (ap.out.below ad);clear aS c7 ad)
   go_ret2;exact⟨-1,rfl,P.out,a0.out,ce.out⟩
  |true=>
   have aP:0<=rd cl (0:Nat):=by simpa using aO
   have hg:Aside0 (T.bE d.length (af E) (fun v=>rd cl (v:Nat))):=⟨(T.lf aa.out Z cd.out.red).2 aP⟩;have hh:=zA aP;rw[aO] at bw;clear aO aP;go_wp2_with (go_at_call 14;refine(fu.calls kW d.length A0 c0 E A c d true cl s 0 _ e'.out el fd.out c5.out bw.out).mono ?_;rintro e w2 ⟨v1,v2,rfl,aS,c7,ad⟩;obtain⟨l,cr,rfl,h',ib, -⟩:=Kd.fK aS (by rw[Y.out];omega);rw[Y.out] at aS⊢;have cf:=zA (Kd.bb aS (ok':=fun _=>True) (fun _ _=>trivial));have ce:=zA (ca.out.trans (fe.mI ad (Nat.le_of_lt ap.out.lt)));have a0:=zA (ap.out.below ad);have fn:=zA (aZ b'.out ad);have fo:=zA (show gL w2 q d.length A0 E c0 g i from aE b_.out ad);have ii:=ad.size;clear aS c7 ad)
   obtain⟨qs,fq,c8⟩:∃qs:List Int,qs=jF cl/\qs.length=12:=⟨_,rfl,FN (by rw[Y.out];exact b5)⟩;have HQ:=zA fq;have fr:=Kd.aQ cf.out;have hl:=zA fr.2.2;rw[run_copy_row _ (w2.alloc (.cells #[.int .i64 0,.int .i64 0,.int .i64 0,.int .i64 0,.int .i64 0,.int .i64 0,.int .i64 0,.int .i64 0,.int .i64 0,.int .i64 0,.int .i64 0,.int .i64 0] 172)) 25 26 3 3 w2.heap.size 0 12 12 ⟨l,0,none⟩ d.length cr _ 172 (cl.map (Value.int .i64)) Tryz.underlying25 (by kernel_rfl) (bc w2 _) (by rw[List.length_map,Y.out];show d.length=min d.length 12;omega) (fun j v hj=>by
    obtain⟨c9,hn⟩:=List.getElem?_eq_some_iff.1 hj;rw[List.length_map] at c9;have h:=(Kd.b7 0 (Kd.aR cf.out (.cells #[.int .i64 0,.int .i64 0,.int .i64 0,.int .i64 0,.int .i64 0,.int .i64 0,.int .i64 0,.int .i64 0,.int .i64 0,.int .i64 0,.int .i64 0,.int .i64 0] 172)) (j:Int) (by omega) (by rw[Y.out] at c9;omega)).1;rw[aM] at h;rw[add_plain,h,<-hn];simp[bW,a7,bK c9]) (by rw[List.length_map,Y.out];simp;omega) (fun v Q=>by obtain⟨x, -,rfl⟩:=List.mem_map.1 Q;rfl)]
   have ho:∃z B D F G H I J K M N O:Int,qs=[z,B,D,F,G,H,I,J,K,M,N,O]:=by
    match qs,c8 with
    |[z,B,D,F,G,H,I,J,K,M,N,O],_=>exact⟨_,_,_,_,_,_,_,_,_,_,_,_,rfl⟩
   obtain⟨z,B,D,F,G,H,I,J,K,M,N,O,hk⟩:=ho;rw[show ((#[.int .i64 0,.int .i64 0,.int .i64 0,.int .i64 0,.int .i64 0,.int .i64 0,.int .i64 0,.int .i64 0,.int .i64 0,.int .i64 0,.int .i64 0,.int .i64 0]:Array Value).toList.take 0++cl.map (Value.int .i64)++(#[.int .i64 0,.int .i64 0,.int .i64 0,.int .i64 0,.int .i64 0,.int .i64 0,.int .i64 0,.int .i64 0,.int .i64 0,.int .i64 0,.int .i64 0,.int .i64 0]:Array Value).toList.drop (0+(cl.map (Value.int .i64)).length)).toArray=#[.int .i64 z,.int .i64 B,.int .i64 D,.int .i64 F,.int .i64 G,.int .i64 H,.int .i64 I,.int .i64 J,.int .i64 K,.int .i64 M,.int .i64 N,.int .i64 O] from by
    rw[show (#[.int .i64 0,.int .i64 0,.int .i64 0,.int .i64 0,.int .i64 0,.int .i64 0,.int .i64 0,.int .i64 0,.int .i64 0,.int .i64 0,.int .i64 0,.int .i64 0]:Array Value).toList=List.replicate 12 (Value.int .i64 0) from rfl,List.take_zero,List.nil_append,List.length_map,Nat.zero_add,List.drop_replicate];have h:qs.map (Value.int .i64)=cl.map (Value.int .i64)++List.replicate (12-cl.length) (Value.int .i64 0):=by rw[HQ.out,jF,List.map_append,List.map_replicate]
    rw[<-h,hk];rfl]
   have dk:=zA hk;have U:=zA (setRow_heap (w2.alloc (.cells #[.int .i64 0,.int .i64 0,.int .i64 0,.int .i64 0,.int .i64 0,.int .i64 0,.int .i64 0,.int .i64 0,.int .i64 0,.int .i64 0,.int .i64 0,.int .i64 0] 172)) w2.heap.size _ #[.int .i64 z,.int .i64 B,.int .i64 D,.int .i64 F,.int .i64 G,.int .i64 H,.int .i64 I,.int .i64 J,.int .i64 K,.int .i64 M,.int .i64 N,.int .i64 O] _ _ (bc w2 _));have ar:=zA (below_setRow (g:=w2.heap.size) (ao (aq w2.heap.size w2) (.cells #[.int .i64 0,.int .i64 0,.int .i64 0,.int .i64 0,.int .i64 0,.int .i64 0,.int .i64 0,.int .i64 0,.int .i64 0,.int .i64 0,.int .i64 0,.int .i64 0] 172)) (aI _) #[.int .i64 z,.int .i64 B,.int .i64 D,.int .i64 F,.int .i64 G,.int .i64 H,.int .i64 I,.int .i64 J,.int .i64 K,.int .i64 M,.int .i64 N,.int .i64 O]);clear hk fq fr;rw[Result.andThen_ok];generalize (w2.alloc (.cells #[.int .i64 0,.int .i64 0,.int .i64 0,.int .i64 0,.int .i64 0,.int .i64 0,.int .i64 0,.int .i64 0,.int .i64 0,.int .i64 0,.int .i64 0,.int .i64 0] 172)).setRow w2.heap.size #[.int .i64 z,.int .i64 B,.int .i64 D,.int .i64 F,.int .i64 G,.int .i64 H,.int .i64 I,.int .i64 J,.int .i64 K,.int .i64 M,.int .i64 N,.int .i64 O]=y at U ar⊢;rw[Oper.upon_value];have ft:=zA (aZ fn.out ar.out);have dl:=zA (show gL y q d.length A0 E c0 g i from aE fo.out ar.out);have a1:=zA (a0.out.below ar.out);have ds:=zA (ce.out.trans (fe.mI ar.out (Nat.le_of_lt a0.out.lt)));have fv:=zA (Kd.cT cf.out ar.out);have f0:l≠i:=by have:=ap.out.lt;omega
   have f1:w2.heap.size≠i:=by have:=a0.out.lt;omega
   have dv:l≠w2.heap.size:=by omega
   clear fn fo a0 ce cf ar hl;have f2:Aside0 (mH qs):=⟨⟨c8,fun x hx=>by
    rw[HQ.out,jF] at hx;rcases List.mem_append.1 hx with hx|hx
    ·obtain⟨v,Q,rfl⟩:=List.getElem_of_mem hx
     have h:=c6.out v (by rw[<-Y.out];exact Q);have e:rd cl (v:Int)=cl[v]:=by simp[rd,a7,bK Q]
     rw[e] at h;omega
    ·rw[List.eq_of_mem_replicate hx];omega⟩⟩
   have d0:=a1.out.look qD f2.out;rw[dk.out] at d0;have x0:y.cell? ⟨w2.heap.size,0,none⟩=some (.int .i64 z):=(aj U.out 0).trans rfl;have x1:y.cell? ⟨w2.heap.size,1,none⟩=some (.int .i64 B):=(aj U.out 1).trans rfl;have x2:y.cell? ⟨w2.heap.size,2,none⟩=some (.int .i64 D):=(aj U.out 2).trans rfl;have x3:y.cell? ⟨w2.heap.size,3,none⟩=some (.int .i64 F):=(aj U.out 3).trans rfl;have x4:y.cell? ⟨w2.heap.size,4,none⟩=some (.int .i64 G):=(aj U.out 4).trans rfl;have x5:y.cell? ⟨w2.heap.size,5,none⟩=some (.int .i64 H):=(aj U.out 5).trans rfl;have x6:y.cell? ⟨w2.heap.size,6,none⟩=some (.int .i64 I):=(aj U.out 6).trans rfl;have x7:y.cell? ⟨w2.heap.size,7,none⟩=some (.int .i64 J):=(aj U.out 7).trans rfl;have x8:y.cell? ⟨w2.heap.size,8,none⟩=some (.int .i64 K):=(aj U.out 8).trans rfl;have x9:y.cell? ⟨w2.heap.size,9,none⟩=some (.int .i64 M):=(aj U.out 9).trans rfl;have be:y.cell? ⟨w2.heap.size,10,none⟩=some (.int .i64 N):=(aj U.out 10).trans rfl;have bf:y.cell? ⟨w2.heap.size,11,none⟩=some (.int .i64 O):=(aj U.out 11).trans rfl;have f3:y.cell? ⟨q,3,none⟩=some (.map (some i)):=(aj dl.out 3).trans rfl;have b0:ei [z,B,D,F,G,H,I,J,K,M,N,O]= .agg #[.int .i64 z,.int .i64 B,.int .i64 D,.int .i64 F,.int .i64 G,.int .i64 H,.int .i64 I,.int .i64 J,.int .i64 K,.int .i64 M,.int .i64 N,.int .i64 O]:=rfl;rw[b0] at d0;clear b0 c8;rcases d0 with⟨x,hx,b1⟩|b1
   ·have d1:∀m,(Instr.lookup 169 (.map (some i)) (.agg #[.int .i64 z,.int .i64 B,.int .i64 D,.int .i64 F,.int .i64 G,.int .i64 H,.int .i64 I,.int .i64 J,.int .i64 K,.int .i64 M,.int .i64 N,.int .i64 O]) true).run Tryz.prog (y.drewN m)= .ok (.tuple #[.int .i64 x,.bool true]) (y.drewN m):=fun m=>b1 _ rfl
    have hp:Aside0 (Rk d.length (af E) d x):=⟨by
     obtain⟨c',hq,f4,hr, -⟩:=hx;rw[<-dk.out,HQ.out] at f4;obtain rfl:=FO Y.out hq f4;exact T.cg.eY bx.out.symm hr⟩
    clear b1 hx;go_wp2_with fail
    go_quiet (fail)
    clear d1 x0 x1 x2 x3 x4 x5 x6 x7 x8 x9 be bf f3;have bg:=zA (a1.out.below (bY (aq _ _) nq));have b2:=zA (ds.out.trans (fe.mI (bY (aq _ _) nq) (Nat.le_of_lt a1.out.lt)));go_wp2;go_ret2;exact⟨x,rfl,hp.out,bg.out,b2.out⟩
   ·have d1:∀m,(Instr.lookup 169 (.map (some i)) (.agg #[.int .i64 z,.int .i64 B,.int .i64 D,.int .i64 F,.int .i64 G,.int .i64 H,.int .i64 I,.int .i64 J,.int .i64 K,.int .i64 M,.int .i64 N,.int .i64 O]) true).run Tryz.prog (y.drewN m)= .ok (.tuple #[.int .i64 0,.bool false]) (y.drewN m):=fun m=>b1 _ rfl
    clear b1;go_wp2_with fail
    go_quiet (fail)
    clear d1 x0 x1 x2 x3 x4 x5 x6 x7 x8 x9 be bf f3;have av:=bY (aq y.heap.size y) nq;have bg:=zA (a1.out.below av);have b2:=zA (ds.out.trans (fe.mI av (Nat.le_of_lt a1.out.lt)));have ci:=zA (show gL (y.drewN nq) q d.length A0 E c0 g i from aE dl.out av);have d2:=zA (Kd.cT fv.out av);have d3:=zA (aZ ft.out av);have cj:=zA (aE U.out av);clear av a1 ds dl fv ft U;generalize y.drewN nq=W4 at bg b2 ci d2 d3 cj⊢;obtain⟨ml,hlen,ks,hA,f5,f6⟩:=bg.out.len 3;have hD:=X.out.b9 ks f5 f6;have im:((ml:Int)==16384)=false:=by simp;omega
    have f3:W4.cell? ⟨q,3,none⟩=some (.map (some i)):=(aj ci.out 3).trans rfl;clear hA f5 f6 hD;have f7:T.sN (fun v=>rd cl (v:Nat)) d.length=S:=by rw[bv.out];exact T.bM.ba aa.out bx.out
    have ck:Aside0 (∀v:Nat,v<d.length->0<=rd cl v):=⟨fun v Q=>by
     by_cases e:v=0
     ·subst e;exact hh.out
     ·exact(c6.out v Q).2.2.2.2 e |>.1⟩
    have f8:Aside0 (∀v:Nat,v<d.length->rd cl v<=198):=⟨fun v Q=>by
     have h:=T.gD (f:=fun v=>rd cl (v:Nat)) Q ck.out;have h2:rd cl (v:Nat)<=T.sN (fun v=>rd cl (v:Nat)) d.length:=h;omega⟩
    have d4:=zA f7;clear f7;go_wp2;clear hlen f3;generalize d5:w2.heap.size=o at f1 dv cj⊢;have io:=Nat.le_of_eq d5;have ip:=Nat.le_of_eq d5.symm;clear d5;have it:(d.length:Int)<=12:=by omega
    go_loopg [81,14] (d.length) (fun kq vv lv wr=>∃(v:Nat) (L:Int),v<=d.length/\vv= .int .i64 v/\lv= .int .i64 L/\ -20000000<=L/\L<=20000000/\Aside0 (∀u,u<v->∀k,T.cg d.length (af E) (fun w=>rd cl (w:Nat)-T.one u w) k->L<=k+1)/\Aside0 (L=S\/∃u,u<v/\∃k,T.cg d.length (af E) (fun w=>rd cl (w:Nat)-T.one u w) k/\L=k+1)/\Aside0 ((Kd.int .i64).R 3 wr w1.heap.size (fun _=>True) (.slice (some ⟨l,0,none⟩) d.length cr) cl)/\Aside0 (dV (j5 d.length (af E) g) wr i)/\Aside0 (fe i W wr)/\Aside0 (Below w0.heap.size w0 wr)/\Aside0 (gL wr q d.length A0 E c0 g i)/\Aside0 (wr.heap[o]? =some (.cells #[.int .i64 z,.int .i64 B,.int .i64 D,.int .i64 F,.int .i64 G,.int .i64 H,.int .i64 I,.int .i64 J,.int .i64 K,.int .i64 M,.int .i64 N,.int .i64 O] 172 (0,0)))/\Aside0 (kq=d.length-v))
    case atStart=>exact⟨0,S,by omega,rfl,rfl,g6,g7,⟨fun u hu=>by omega⟩,⟨.inl rfl⟩,d2,bg,b2,d3,ci,cj,⟨rfl⟩⟩
    case round=>
     clear d2 bg b2 d3 ci cj;obtain⟨v,L,Q,rfl,rfl,hJ,hK,d6,f9,HR,HM,HK,f',HF,V,hL⟩:=hrel;by_cases b3:v<d.length
     ·have iv:(0:Int)<=(v:Int):=by omega
      have i0:(v:Int)<(d.length:Int):=by omega
      have d7:=Y.out;obtain⟨z1,z2⟩:=Kd.b7 0 HR.out (v:Int) (by omega) (by omega);rw[aM] at z1 z2;replace z1:wr.cell? ⟨l,v,none⟩=some (.int .i64 (rd cl v)):=z1;have hN:=ck.out v b3;have hO:=f8.out v b3;have P:=Kd.dt HR.out (v:Int) (rd cl v-1);rw[aM] at P;have bk:=zA P.1;have cq:=zA (show gL (wr.setCell ⟨l,v,none⟩ (.int .i64 (rd cl v-1))) q d.length A0 E c0 g i from aD HF.out (by show q≠l;have:=HF.out;intro e;subst e;have h2:=(Kd.gQ HR.out q rfl);obtain⟨cs,b4⟩:=h2;rw[gL,b4] at this;injection this with h;injection h with _ h _;exact absurd h (by decide)) _);have d8:=zA (HM.out.iC ⟨l,v,none⟩ (.int .i64 (rd cl v-1)) (fun e=>f0 e.symm));have d9:=zA (aD (p:=⟨l,v,none⟩) V.out (fun e=>dv e.symm) (.int .i64 (rd cl v-1)));have cv:=zA (Below.setCell (p:=⟨l,v,none⟩) f'.out (by show w0.heap.size<=l;have:=b'.out.size;omega) (.int .i64 (rd cl v-1)));have i1:W.heap.size<=l:=by have:=b6.out.size;omega
      have ea:Aside0 (fe i W (wr.setCell ⟨l,v,none⟩ (.int .i64 (rd cl v-1)))):=⟨Below.setCell (p:=⟨l,v,none⟩) HK.out.1 (by show i<=l;omega) _,fun k hk ak=>(Below.heap_setCell _ _ _ _ (by show k≠l;omega)).trans (HK.out.2 k hk ak)⟩;have cx:∀u,u<d.length->rd (cl.set v (rd cl v-1)) (u:Nat)=rd cl u-T.one v u:=FL d7 b3;have gb:eU (cl.set v (rd cl v-1)) d.length=S-1:=by
       rw[pJ,T.bP cx,T.de,d4.out,T.fj b3]
      have gc:=zA (IH.out (by omega) (cl.set v (rd cl v-1)) (some ⟨l,0,none⟩) cr _ ⟨by rw[List.length_set];exact d7,fun u hu=>by
       rw[cx u hu];have a:=ck.out u hu;have b:=f8.out u hu;unfold T.one;split<;>omega⟩ (by omega) cv.out cq.out d8.out (Kd.aQ bk.out).2.2 (by have h:=(Kd.aQ bk.out);rw[<-h.1];exact h.2.1))
      have gd:=zA cx;have ge:=zA (FM (c:=cl) (v:=v) (by omega) (rd cl v-1));have hP:=zA (show (cl.set v (rd cl v-1)).length=cl.length from by rw[List.length_set]);clear P cx d7 HR HM HK f' HF V;generalize gf:rd cl v=xv at z1 hN hO gb bk cq d8 d9 cv ea gc ge hP gd;have i2:=zA gf;clear gf;go_wp2_with fail
      refine gc.out.mono ?_;rintro e w6 ⟨r,rfl,c2,gg,bn⟩;have i3: -1<=r:=c2.1;have eb:Aside0 (T.cg d.length (af E) (fun w=>rd cl (w:Nat)-T.one v w) r):=⟨r_ (fun u hu=>(gd.out u hu).symm) c2⟩;have i4:r<=S:=by
       by_cases e0:0<=r
       ·have h:=T.cg.qA aa.out Z c2 e0
        rw[<-pJ,gb] at h;omega
       ·omega
      clear c2;have ed:=zA (Kd.bb (ok':=fun _=>True) (Kd.fB (Kd.gS rfl bk.out) (fun k hk=>bn.2 k (by obtain⟨cs,b4⟩:=Kd.gQ bk.out k hk.symm;exact aA b4) (by have:=aH (show some l=some k from hk.symm);omega))) (fun _ _=>trivial));have gi:=zA (show gL w6 q d.length A0 E c0 g i from bn.xW cq.out ak);have hR:=zA (bn.xW d9.out f1);have hT:=zA (show Below w0.heap.size w0 w6 from cv.out.trans (bn.1.mono g2));have gl:=zA (ea.out.trans bn);have hV:=zA gg;clear gg bn bk cq d9 cv ea d8;obtain⟨z3,z4⟩:=Kd.b7 0 ed.out (v:Int) (by omega) (by omega);rw[aM] at z3 z4;have gm:bW 0 (cl.set v (xv-1)) (v:Int)=xv-1:=jX _ _ _ (by rw[Y.out];exact b3);rw[gm] at z3;have P:=Kd.dt ed.out (v:Int) xv;rw[aM,ge.out] at P;have gn:=zA P.1;clear P gm;have go:=zA (show gL (w6.setCell ⟨l,v,none⟩ (.int .i64 xv)) q d.length A0 E c0 g i from aD gi.out (by show q≠l;have:=gi.out;intro e;subst e;have h2:=(Kd.gQ ed.out q rfl);obtain⟨cs,b4⟩:=h2;rw[gL,b4] at this;injection this with h;injection h with _ h _;exact absurd h (by decide)) _);have gp:=zA (hV.out.iC ⟨l,v,none⟩ (.int .i64 xv) (fun e=>f0 e.symm));have gq:=zA (aD (p:=⟨l,v,none⟩) hR.out (fun e=>dv e.symm) (.int .i64 xv));have gs:=zA (Below.setCell (p:=⟨l,v,none⟩) hT.out (by show w0.heap.size<=l;have:=b'.out.size;omega) (.int .i64 xv));have gt:Aside0 (fe i W (w6.setCell ⟨l,v,none⟩ (.int .i64 xv))):=⟨Below.setCell (p:=⟨l,v,none⟩) gl.out.1 (by show i<=l;omega) _,fun k hk ak=>(Below.heap_setCell _ _ _ _ (by show k≠l;omega)).trans (gl.out.2 k hk ak)⟩;go_wp2
      all_goals
       go_roundg (d.length- (v+1))
       case measure=>rw[hL.out];omega
      case rel=>exact⟨v+1,r+1,by omega,by go_num,rfl,by omega,by omega,⟨fun u hu k hk=>by
       by_cases e:u=v
       ·subst e
        have:=T.cg.unique Z hk eb.out;omega
       ·have:=d6.out u (by omega) k hk
        omega⟩,⟨.inr ⟨v,by omega,r,eb.out,rfl⟩⟩,gn,gp,gt,gs,go,gq,⟨rfl⟩⟩
      exact⟨v+1,L,by omega,by go_num,rfl,hJ,hK,⟨fun u hu k hk=>by
       by_cases e:u=v
       ·subst e
        have:=T.cg.unique Z hk eb.out;omega
       ·exact d6.out u (by omega) k hk⟩,⟨f9.out.imp id (fun⟨u,hu,h⟩=>⟨u,by omega,h⟩)⟩,gn,gp,gt,gs,go,gq,⟨rfl⟩⟩
     ·obtain rfl:v=d.length:=by omega
      have P:Aside0 (Rk d.length (af E) cl L):=⟨FH aa.out Z hg.out d6.out (by rw[d4.out];exact f9.out)⟩;have hW:Aside0 (Rk d.length (af E) d L):=⟨T.cg.eY bx.out.symm P.out⟩;have hX:Aside0 (j5 d.length (af E) g qs L):=⟨cl,Y.out,HQ.out,P.out,ck.out,fun v Q h0=>T.nD aa.out cd.out.red.2 Q h0,by rw[d4.out];simpa using cb⟩;obtain⟨w9,eg,gx,ek⟩:=dV.store (HM.out.i' (w':=wr.drew) rfl) f2.out hX.out;have x0:wr.cell? ⟨o,0,none⟩=some (.int .i64 z):=(aj V.out 0).trans rfl;have x1:wr.cell? ⟨o,1,none⟩=some (.int .i64 B):=(aj V.out 1).trans rfl;have x2:wr.cell? ⟨o,2,none⟩=some (.int .i64 D):=(aj V.out 2).trans rfl;have x3:wr.cell? ⟨o,3,none⟩=some (.int .i64 F):=(aj V.out 3).trans rfl;have x4:wr.cell? ⟨o,4,none⟩=some (.int .i64 G):=(aj V.out 4).trans rfl;have x5:wr.cell? ⟨o,5,none⟩=some (.int .i64 H):=(aj V.out 5).trans rfl;have x6:wr.cell? ⟨o,6,none⟩=some (.int .i64 I):=(aj V.out 6).trans rfl;have x7:wr.cell? ⟨o,7,none⟩=some (.int .i64 J):=(aj V.out 7).trans rfl;have x8:wr.cell? ⟨o,8,none⟩=some (.int .i64 K):=(aj V.out 8).trans rfl;have x9:wr.cell? ⟨o,9,none⟩=some (.int .i64 M):=(aj V.out 9).trans rfl;have be:wr.cell? ⟨o,10,none⟩=some (.int .i64 N):=(aj V.out 10).trans rfl;have bf:wr.cell? ⟨o,11,none⟩=some (.int .i64 O):=(aj V.out 11).trans rfl;have f3:wr.cell? ⟨q,3,none⟩=some (.map (some i)):=(aj HF.out 3).trans rfl;rw[dk.out] at eg;have b0:ei [z,B,D,F,G,H,I,J,K,M,N,O]= .agg #[.int .i64 z,.int .i64 B,.int .i64 D,.int .i64 F,.int .i64 G,.int .i64 H,.int .i64 I,.int .i64 J,.int .i64 K,.int .i64 M,.int .i64 N,.int .i64 O]:=rfl;rw[b0] at eg;have h3:=zA gx;have h4:=HM.out.lt;have h5:Aside0 (fe i W w9):=⟨⟨Below.grown (ig HK.out.1) ek (Nat.le_of_lt h4) (fun k e=>by cases e;exact aI _),fun k hk ak=>(ek.block k (Nat.lt_of_lt_of_le hk (HK.out.1.size)) (fun e=>ak (aH e))).trans (HK.out.2 k hk ak)⟩⟩;clear gx ek b0;go_wp2_with fail
      refine wp_region_still_tail 6 (by kernel_rfl) (by kernel_rfl) ?_;simp only[List.take_succ_cons,List.take_zero,List.drop_succ_cons,List.drop_zero];repeat still_step
      refine wpStill_nil ?_;change wpList _ _ _ _ _ wr.drew
      replace x0:wr.drew.cell? ⟨o,0,none⟩=some (.int .i64 z):=x0;replace x1:wr.drew.cell? ⟨o,1,none⟩=some (.int .i64 B):=x1;replace x2:wr.drew.cell? ⟨o,2,none⟩=some (.int .i64 D):=x2;replace x3:wr.drew.cell? ⟨o,3,none⟩=some (.int .i64 F):=x3;replace x4:wr.drew.cell? ⟨o,4,none⟩=some (.int .i64 G):=x4;replace x5:wr.drew.cell? ⟨o,5,none⟩=some (.int .i64 H):=x5;replace x6:wr.drew.cell? ⟨o,6,none⟩=some (.int .i64 I):=x6;replace x7:wr.drew.cell? ⟨o,7,none⟩=some (.int .i64 J):=x7;replace x8:wr.drew.cell? ⟨o,8,none⟩=some (.int .i64 K):=x8;replace x9:wr.drew.cell? ⟨o,9,none⟩=some (.int .i64 M):=x9;replace be:wr.drew.cell? ⟨o,10,none⟩=some (.int .i64 N):=be;replace bf:wr.drew.cell? ⟨o,11,none⟩=some (.int .i64 O):=bf;replace f3:wr.drew.cell? ⟨q,3,none⟩=some (.map (some i)):=f3;generalize wr.drew=wd at x0 x1 x2 x3 x4 x5 x6 x7 x8 x9 be bf f3 eg⊢;go_wp2;go_ret2;exact⟨L,rfl,hW.out,h3.out,h5.out⟩
theorem xY (n:Nat) (A0:Option Addr) (c0:Nat) (E:List S83) (g:Int) (b a:Nat) (w0:World) (e:Kd.C aN w0 A0 E.length E) (i:E.length<=c0) (j:sj n E g) (k:w0.heap.size<=a) (l:b≠a):
  ∀(m:Nat) (d:List Int) (A:Option Addr) (c:Nat) (W:World),pK n d->eU d n<m->Below w0.heap.size w0 W->gL W b n A0 E c0 g a->dV (j5 n (af E) g) W a->Kd.C (Kd.int .i64) W A d.length d->d.length<=c->
   Calls Tryz.prog 95 #[.pointer (some ⟨b,0,none⟩),.slice A n c] W (sm n (af E) g d a W)
 |0,d,A,c,W,hd,r,o,hF,p,hC,q=>xX n A0 c0 E g b a w0 e i j k d A c W hd (fun h=>by omega) o hF p l hC q
 |m+1,d,A,c,W,hd,r,o,hF,p,hC,q=>xX n A0 c0 E g b a w0 e i j k d A c W hd (fun h d' A' s W' u B v w x y z=>xY n A0 c0 E g b a w0 e i j k l m d' A' s W' u (by omega) v w x y z) o hF p l hC q
end
end Go.Proofs.YtffdiakgjakngaaGreat.P
namespace Go.Proofs.YtffdiakgjakngaaGreat.P
open Go.RowKit Go.Maps Go.Proofs.YtffdiakgjakngaaGreatW.PrintWords Go.Proofs.YtffdiakgjakngaaGreatW.PrintLast Go.Proofs.YtffdiakgjakngaaGreatW.PrintMore
set_option linter.unusedVariables false
set_option linter.unusedSimpArgs false
set_option maxHeartbeats 8000000
set_option maxRecDepth 100000
section
attribute [local go_sem] Oper.semAt_some
theorem Gn (G:List Int->Int->Prop) (k n:Nat) (A0:Option Addr) (c0:Nat) (E:List S83) (n' g:Int) (a:List S83) (w:World) (m:Kd.C aN w A0 E.length E) (v:E.length<=c0) (o:fT.f k n E=some (n',a,0)) (p:fc.f k n' a=some (g,0)):
  Calls Tryz.prog 94 #[.agg #[.int .i64 n,.slice A0 E.length c0]] w fun e w'=>∃h b,e= .returned (.tuple #[.pointer (some ⟨h,0,none⟩),.int .i64 0])/\gL w' h n A0 E c0 g b/\dV G w' b/\h≠b/\w.heap.size<=b/\Below w.heap.size w w':=by
 have hu:=Tryz.underlying24;have J:=Tryz.underlying171;have x:=zA o;have y:=zA p;have z:=zA m;clear o p m;go_enter Tryz.func94,Tryz.ntmps94
 have q:=bc w (.cells #[.int .i64 n,.slice A0 E.length c0] 24);go_wp2_with (go_at_call 30;refine(fT.calls k n A0 c0 E n' a 0 _ (Kd.bp z.out _) v x.out).mono ?_;rintro e w1 ⟨v1,rfl,i,j⟩;obtain⟨B,c1,rfl⟩:=Kd.bm i;have r:=zA (Kd.aQ i);have D:=zA (aZ (ao (aq w.heap.size w) _) j);have F:=zA (aE q j);clear i j)
 refine(fc.calls k n' B c1 a g 0 _ (Kd.bp r.out.2.2 _) r.out.2.1 y.out).mono ?_;rintro e w2 ⟨rfl,l⟩;have s:=zA (aE (au F.out _) l);have u:=zA (aZ (ao D.out _) l);have K:w2.cell? ⟨w.heap.size,0,none⟩=some (.int .i64 n):=(aj s.out 0).trans rfl;have L:w2.cell? ⟨w.heap.size,1,none⟩=some (.slice A0 E.length c0):=(aj s.out 1).trans rfl;have aY:=u.out.size;clear l q;have M:=@run_makeMap Tryz.prog;go_wp2_with fail
 have H:=ao (aq w2.heap.size w2) (.map #[] 0);have I:=ao H (.cells #[.int .i64 n,.slice A0 E.length c0,.int .i64 g,.map (some w2.heap.size)] 171);go_ret2;refine⟨_,w2.heap.size,rfl,?_,(dV.made w2).alloc _,by omega,by omega,aZ u.out I⟩;have:=bc (w2.alloc (.map #[] 0)) (.cells #[.int .i64 n,.slice A0 E.length c0,.int .i64 g,.map (some w2.heap.size)] 171);rw[show (w2.alloc (.map #[] 0)).heap.size=w2.heap.size+1 from by simp] at this;exact this
noncomputable def xZ (n:Nat) (t:Nat->Nat->Int) (d:List Int):Int:=@Classical.epsilon Int ⟨0⟩ fun r=>Rk n t d r
theorem x_ {n:Nat} {t:Nat->Nat->Int} {d:List Int} (hn:0<n) {r:Int} (h:Rk n t d r):xZ n t d=r:=
 T.cg.unique hn (@Classical.epsilon_spec_aux Int ⟨0⟩ (fun r=>Rk n t d r) ⟨r,h⟩) h
noncomputable def eI.f (k:Nat) (N:Int) (E:List S83) (d:List Int):Option (Int×Int):=
 (fw.f k N E [d]).bind fun e=>if e=0 then(if gu N E 0 d=true then((fT.f k N E).bind fun p=>if p.2.2=0 then((fc.f k p.1 p.2.1).bind fun g=>if g.2=0 then(if T.sN (T.can N.toNat (af E)) N.toNat=2*g.1-2 then some (xZ N.toNat (af E) d,0) else none) else none) else none) else none) else some (0,e)
theorem Gp (k:Nat) (N:Int) (A0:Option Addr) (c0:Nat) (E:List S83) (a:Option Addr) (c2:Nat) (d:List Int) (t:Int) (w:World) (l:Kd.C aN w A0 E.length E) (m:E.length<=c0) (g:Kd.C (Kd.int .i64) w a d.length d) (h:d.length<=c2)
  (i:fw.f k N E [d]=some t) (j:t≠0):
  Calls Tryz.prog 41 #[.agg #[.int .i64 N,.slice A0 E.length c0],.slice a d.length c2] w fun e w'=>e= .returned (.tuple #[.int .i64 0,.int .i64 t])/\Below w.heap.size w w':=by
 have hu:=Tryz.underlying24;have n:=zA i;have o:=zA g;have p:=zA h;have r:(t != 0)=true:=by simpa using j
 clear i j g h;go_enter Tryz.func41,Tryz.ntmps41
 have b:=r6 (w.alloc (.cells #[.int .i64 N,.slice A0 E.length c0] 24)) 26 (Kd.bp o.out _) p.out;rw[show (w.alloc (.cells #[.int .i64 N,.slice A0 E.length c0] 24)).heap.size=w.heap.size+1 from by simp] at b;go_wp2_with fail
 refine(fw.calls k N A0 c0 E (some ⟨w.heap.size+1,0,none⟩) 1 [d] t _ (Kd.bp (Kd.bp l _) _) m b (aI 1) n.out).mono ?_;rintro e w1 ⟨rfl,hb⟩;have q:=zA (aZ (ao (ao (aq w.heap.size w) (.cells #[.int .i64 N,.slice A0 E.length c0] 24)) (.cells #[.slice a d.length c2] 26)) hb);clear hb b;go_wp2;go_ret2;exact⟨rfl,q.out⟩
theorem Gq {n:Nat} {t:Nat->Nat->Int} (a:T.Wt n t) (hn:n<=12) (h:T.sN (T.val n t) n<=19) {g:Int} (b:T.dF n t g): -100<=g/\g<=100:=by
 have h1:T.sN (T.can n t) n=T.sN (T.val n t) n-2*n:=by
  have key:∀m:Nat,T.sN (T.can n t) m=T.sN (T.val n t) m-2*m:=by
   intro m;induction m with
   |zero=>simp[T.sN]
   |succ m e=>
    show T.sN (T.can n t) m+T.can n t m=T.sN (T.val n t) m+T.val n t m-_
    rw[e];unfold T.can;omega
  exact key n
 have i:T.sN (T.can n t) n=2*g-2:=b;have j:0<=T.sN (T.val n t) n:=T.dy fun v _=>T.dy fun u _=>a.pos v u
 omega
theorem Gr {n:Nat} {E:List S83} {d:List Int} {g:Int} (h:dU n 0 E d) (i:cz n E=0) (a:T.dF n (af E) g):sj n E g where
 n1:=h.n1
 n12:=h.n12
 right:=h.right
 conn:=h.conn
 len:=h.len
 val:=h.val
 gen:=a
 g0:=Gq h.right.wt h.n12 h.val a
 sk:=fun d' e=>by
  obtain⟨s,h1,b,j⟩:=r8 e i;obtain⟨k,hk⟩:=h1.get;exact⟨k,s,hk,(nJ e.right).2 ⟨b,j⟩⟩
 b9:=fun l h1 b=>FV h.right.wt h.n1 a h.val l h1 b
theorem Gs (k n:Nat) (A0:Option Addr) (c0:Nat) (E:List S83) (a:Option Addr) (c2:Nat) (d:List Int) (n' g:Int) (h:List S83) (w:World) (i:Kd.C aN w A0 E.length E) (j:E.length<=c0) (p:Kd.C (Kd.int .i64) w a d.length d) (q:d.length<=c2)
  (s:fw.f k n E [d]=some 0) (b:dU n 0 E d) (u:cz n E=0) (v:fT.f k n E=some (n',h,0)) (x:fc.f k n' h=some (g,0)) (K:T.dF n (af E) g):
  Calls Tryz.prog 41 #[.agg #[.int .i64 n,.slice A0 E.length c0],.slice a d.length c2] w fun e w'=>∃r,e= .returned (.tuple #[.int .i64 r,.int .i64 0])/\Rk n (af E) d r/\Below w.heap.size w w':=by
 have hu:=Tryz.underlying24;have L:=zA s;have M:=zA v;have N:=zA x;have y:=zA p;have z:=zA q;have O:=zA (Gr b u K);have P:Aside0 (pK n d):=⟨b.dl,b.d⟩;have Q:=zA b.dl;clear s v x p q b u;have B:=bc w (.cells #[.int .i64 n,.slice A0 E.length c0] 24);have l:=r6 (w.alloc (.cells #[.int .i64 n,.slice A0 E.length c0] 24)) 26 (Kd.bp y.out _) z.out;rw[show (w.alloc (.cells #[.int .i64 n,.slice A0 E.length c0] 24)).heap.size=w.heap.size+1 from by simp] at l;go_enter Tryz.func41,Tryz.ntmps41
 go_wp2_with fail
 refine(fw.calls k n A0 c0 E (some ⟨w.heap.size+1,0,none⟩) 1 [d] 0 _ (Kd.bp (Kd.bp i _) _) j l (aI 1) L.out).mono ?_;rintro e w1 ⟨rfl,hb⟩;have D:=zA (aE (au B (.cells #[.slice a d.length c2] 26)) hb);have m:=zA (aZ (ao (ao (aq w.heap.size w) (.cells #[.int .i64 n,.slice A0 E.length c0] 24)) (.cells #[.slice a d.length c2] 26)) hb);have Z:w1.cell? ⟨w.heap.size,0,none⟩=some (.int .i64 n):=(aj D.out 0).trans rfl;have y1:w1.cell? ⟨w.heap.size,1,none⟩=some (.slice A0 E.length c0):=(aj D.out 1).trans rfl;clear hb l B;go_wp2_with fail
 refine(Gn (j5 n (af E) g) k n A0 c0 E n' g h w1 (Kd.aw i m.out) j M.out N.out).mono ?_;rintro e w2 ⟨R,F,rfl,hF,G,S,ab,H⟩;have o:=zA (aZ m.out H);have U:=zA hF;have V:=zA G;have I:w.heap.size<=F:=by have:=m.out.size;omega
 clear hF G H;go_wp2_with fail
 have W:=Q.out;subst W;refine(xY d.length A0 c0 E g R F w i j O.out I S ((eU d d.length).toNat+1) d a c2 w2 P.out (by omega) o.out U.out V.out (Kd.aw y.out o.out) z.out).mono ?_;rintro e w3 ⟨r,rfl,J, -,hk⟩;have X:=zA J;have Y:=zA (o.out.trans (hk.1.mono I));clear J hk;go_wp2;go_ret2;exact⟨r,rfl,X.out,Y.out⟩
theorem eI.calls (k:Nat) (j:Int) (l:Option Addr) (m:Nat) (b:List (S83)) (o:Option Addr) (c1:Nat) (l1:List Int) (s:Int) (u:Int) (w:World) (v:Kd.C aN w l b.length b) (x:b.length<=m) (y:Kd.C (Kd.int .i64) w o l1.length l1) (z:l1.length<=c1) (h:eI.f k j b l1=some (s,u)):
  Calls Tryz.prog 41 #[.agg #[.int .i64 j,.slice l b.length m],.slice o l1.length c1] w fun e w'=>e= .returned (.tuple #[.int .i64 s,.int .i64 u])/\Below w.heap.size w w':=by
 unfold eI.f at h;obtain⟨e,he,a⟩:=Option.bind_eq_some_iff.1 h;clear h;by_cases q:e=0
 ·subst q
  rw[if_pos rfl] at a;by_cases i:gu j b 0 l1=true
  ·rw[if_pos i] at a
   obtain⟨⟨n',E,F⟩,G,a⟩:=Option.bind_eq_some_iff.1 a;have H:cz j b=0:=by
    unfold gu at i;rw[Bool.and_eq_true,decide_eq_true_eq] at i;exact i.1.2.2.2.2.2.1
   obtain⟨n,I,rfl,L,hO⟩:=pC i;obtain rfl:I=0:=by omega
   simp only at a;by_cases B:F=0
   ·subst B
    rw[if_pos rfl] at a;obtain⟨⟨g,e2⟩,J,a⟩:=Option.bind_eq_some_iff.1 a;simp only at a;by_cases D:e2=0
    ·subst D
     rw[if_pos rfl] at a;by_cases p:T.sN (T.can (n:Int).toNat (af b)) (n:Int).toNat=2*g-2
     ·rw[if_pos p] at a
      simp only[Option.some.injEq,Prod.mk.injEq,aM] at a;obtain⟨rfl,rfl⟩:=a;rw[aM] at p;refine(Gs k n l m b o c1 l1 n' g E w v x y z he hO H G J p).mono ?_;rintro e w' ⟨r,rfl,K,hb⟩;rw[x_ hO.n1 K];exact⟨rfl,hb⟩
     ·rw[if_neg p] at a;cases a
    ·rw[if_neg D] at a;cases a
   ·rw[if_neg B] at a;cases a
  ·rw[if_neg i] at a;cases a
 ·rw[if_neg q] at a
  simp only[Option.some.injEq,Prod.mk.injEq] at a;obtain⟨rfl,rfl⟩:=a;exact Gp k j l m b o c1 l1 e w v x y z he q
end
end Go.Proofs.YtffdiakgjakngaaGreat.P
namespace Go.Proofs.YtffdiakgjakngaaGreat.P
open Go.RowKit Go.Proofs.YtffdiakgjakngaaGreatW.PrintWords Go.Proofs.YtffdiakgjakngaaGreatW.PrintLast Go.Proofs.YtffdiakgjakngaaGreatW.PrintMore
set_option linter.unusedVariables false
set_option linter.unusedSimpArgs false
set_option maxHeartbeats 8000000
set_option maxRecDepth 100000
def eB.f (k:Nat) (a:Int) (b:List (S83)):Option (List Int×Int):=(eh.f k a b).bind fun t231=>(if t231=0 then((ji.f k a b).bind fun t232=>(some (t232,0))) else(some (([]:List Int),t231)))
theorem eB.mono:∀a0 a k,al (eB.f k a0 a) (eB.f (k+1) a0 a):=by
 intro a0 a k;unfold eB.f;with_reducible repeat' first|exact ji.mono _ _ _|exact eh.mono _ _ _|exact al.refl _|exact al.none _|refine al.ite ?_ ?_|refine al.bind ?_ (fun _=>?_)
theorem eB.calls (k:Nat) (g:Int) (j:Option Addr) (l:Nat) (b:List (S83)) (q:List Int) (r:Int) (w:World) (s:Kd.C aN w j b.length b) (u:b.length<=l) (h:eB.f k g b=some (q,r)):
  Calls Tryz.prog 35 #[.agg #[.int .i64 g,.slice j b.length l]] w fun e w'=>∃v:Value,e= .returned (.tuple #[v,.int .i64 r])/\Kd.R (Kd.int .i64) 3 w' w.heap.size (fun _=>True) v q/\Below w.heap.size w w':=by
 have J:=Tryz.underlying24;have o:=zA s;have p:=zA u;clear s u;have a:=zA (aq w.heap.size w);unfold eB.f at h;have H:=h;clear h;obtain⟨t231,x,H⟩:=zo H;by_cases c3:t231=0
 ·rw[if_pos c3] at H
  obtain⟨z,B⟩:=bH c3;clear c3;obtain⟨t232,D,H⟩:=zo H;simp only[Option.some.injEq,Prod.mk.injEq] at H;obtain⟨rfl,rfl⟩:=H;go_enter Tryz.func35,Tryz.ntmps35
  go_wp2_with (first|((with_reducible refine aJ (N:=1) rfl ?_);refine zX 1 #[.int .i64 g,.slice j b.length l] 24 ?_;intro E m K n hb;have i:=zA (n);have F:=zG a m;have G:=zG a m;replace a:=zS a hb;clear hb n m;obtain⟨L,M,O,P⟩:=ax i)|((with_reducible refine aG (f:=55) rfl ?_);refine zL (some 6) Tryz.func55 #[.agg #[.int .i64 g,.slice j b.length l]] ?_;(with_reducible refine(eh.calls k g _ _ b t231 _ ?ah ?ai x.out).mono ?_);(case ah=>exact Kd.aw o.out zB);(case ai=>exact p.out);rintro e Q ⟨rfl,hb⟩;refine⟨_,rfl,?_⟩;replace i:=zb i hb;replace a:=zS a hb;(try clear hb);obtain⟨S,T,U,V⟩:=ax i)|((with_reducible refine aG (f:=89) rfl ?_);refine zL (some 11) Tryz.func89 #[.agg #[.int .i64 g,.slice j b.length l]] ?_;(with_reducible refine(ji.calls k g _ _ b t232 _ ?ah ?ai D.out).mono ?_);(case ah=>exact Kd.aw o.out zB);(case ai=>exact p.out);rintro e W ⟨v233,rfl,y,hb⟩;refine⟨_,rfl,?_⟩;have I:=zA (Kd.bj y (bu zB));replace i:=zb i hb;replace a:=zS a hb;(try clear hb);(try clear y)))
  go_ret2;exact⟨_,zE,by(with_reducible repeat(first|apply Kd.aR|apply Kd.bD|apply Kd.bq));exact I.out,zB⟩
 ·rw[if_neg c3] at H
  obtain⟨z,B⟩:=bI c3;simp only[Option.some.injEq,Prod.mk.injEq] at H;obtain⟨rfl,rfl⟩:=H;go_enter Tryz.func35,Tryz.ntmps35
  go_wp2_with (first|((with_reducible refine aJ (N:=1) rfl ?_);refine zX 1 #[.int .i64 g,.slice j b.length l] 24 ?_;intro E m X n hb;have i:=zA (n);have F:=zG a m;have G:=zG a m;replace a:=zS a hb;clear hb n m;obtain⟨Y,Z,aa,ab⟩:=ax i)|((with_reducible refine aG (f:=55) rfl ?_);refine zL (some 6) Tryz.func55 #[.agg #[.int .i64 g,.slice j b.length l]] ?_;(with_reducible refine(eh.calls k g _ _ b t231 _ ?ah ?ai x.out).mono ?_);(case ah=>exact Kd.aw o.out zB);(case ai=>exact p.out);rintro e ad ⟨rfl,hb⟩;refine⟨_,rfl,?_⟩;replace i:=zb i hb;replace a:=zS a hb;(try clear hb)))
  go_ret2;exact⟨_,zE,by first|exact Kd.dh _ _ _ _ _|exact Kd.gT _ _ _ _ _|exact Kd.V_nil _ _ _ _ _|exact Kd.Q_nil _ _ _ _ _|exact Kd.gw _ _ _ _ _,zB⟩
def dW.f (k:Nat) (b:Int) (g:List (S83)) (l1:List Int):Option (List Int×Int):=(eB.f k b g).bind fun a=>(if a.2=0 then((bs.f k l1 b).bind fun t240=>(if t240=0 then((iH.f k a.1 l1).bind fun e=>(some (e.1,e.2))) else(some (([]:List Int),t240)))) else(some (([]:List Int),a.2)))
theorem dW.mono:∀a0 a a2 k,al (dW.f k a0 a a2) (dW.f (k+1) a0 a a2):=by
 intro a0 a a2 k;unfold dW.f;with_reducible repeat' first|exact bs.mono _ _ _|exact iH.mono _ _ _|exact eB.mono _ _ _|exact al.refl _|exact al.none _|refine al.ite ?_ ?_|refine al.bind ?_ (fun _=>?_)
theorem dW.calls (k:Nat) (b:Int) (m:Option Addr) (n:Nat) (i:List (S83)) (q:Option Addr) (c1:Nat) (l1:List Int) (z:List Int) (B:Int) (w:World) (D:Kd.C aN w m i.length i) (E:i.length<=n) (F:Kd.C (Kd.int .i64) w q l1.length l1) (G:l1.length<=c1) (h:dW.f k b i l1=some (z,B)):
  Calls Tryz.prog 32 #[.agg #[.int .i64 b,.slice m i.length n],.slice q l1.length c1] w fun e w'=>∃I:Value,e= .returned (.tuple #[I,.int .i64 B])/\Kd.R (Kd.int .i64) 3 w' w.heap.size (fun _=>True) I z/\Below w.heap.size w w':=by
 have aa:=Tryz.underlying24;have s:=zA D;have u:=zA E;clear D E;have v:=zA F;have x:=zA G;clear F G;have a:=zA (aq w.heap.size w);unfold dW.f at h;have H:=h;clear h;obtain⟨⟨t236,t239⟩,y,H⟩:=zo H;dsimp only at H;by_cases c4:t239=0
 ·rw[if_pos c4] at H
  obtain⟨P,Q⟩:=bH c4;clear c4;obtain⟨t240,J,H⟩:=zo H;by_cases r:t240=0
  ·rw[if_pos r] at H
   obtain⟨S,T⟩:=bH r;clear r;obtain⟨⟨t241,t242⟩,U,H⟩:=zo H;dsimp only at H;simp only[Option.some.injEq,Prod.mk.injEq] at H;obtain⟨rfl,rfl⟩:=H;go_enter Tryz.func32,Tryz.ntmps32
   go_wp2_with (first|((with_reducible refine aJ (N:=2) rfl ?_);refine zX 2 #[.int .i64 b,.slice m i.length n] 24 ?_;intro K l w8 o hb;have g:=zA (o);have L:=zG a l;have M:=zG a l;replace a:=zS a hb;clear hb o l;obtain⟨ad,ag,ak,am⟩:=ax g)|((with_reducible refine aG (f:=35) rfl ?_);refine zL (some 11) Tryz.func35 #[.agg #[.int .i64 b,.slice m i.length n]] ?_;(with_reducible refine(eB.calls k b _ _ i t236 t239 _ ?ah ?ai y.out).mono ?_);(case ah=>exact Kd.aw s.out zB);(case ai=>exact u.out);rintro e an ⟨O,rfl,j,hb⟩;refine⟨_,rfl,?_⟩;have p:=zA (Kd.bj j (bu zB));replace g:=zb g hb;replace a:=zS a hb;(try clear hb);(try clear j);obtain⟨ap,ar,av,aB⟩:=ax g)|((with_reducible refine aG (f:=87) rfl ?_);refine zL (some 20) Tryz.func87 #[.slice q l1.length c1,.int .i64 b] ?_;(with_reducible refine(bs.calls k _ _ l1 b t240 _ ?ah ?ai J.out).mono ?_);(case ah=>exact Kd.aw v.out zB);(case ai=>exact x.out);rintro e w' ⟨rfl,⟨V,rfl⟩⟩;refine⟨_,rfl,?_⟩;obtain⟨W,X,Y⟩:=Kd.bm p.out;subst Y)|((with_reducible refine aG (f:=16) rfl ?_);refine zL (some 26) Tryz.func16 #[.slice W t236.length X,.slice q l1.length c1] ?_;(with_reducible refine(iH.calls k _ _ t236 _ _ l1 t241 t242 _ ?ah ?ai ?aW ?aX U.out).mono ?_);(case ah=>exact zC (Kd.aQ p.out).2.2);(case ai=>exact(Kd.aQ p.out).2.1);(case aW=>exact Kd.aw v.out zB);(case aX=>exact x.out);rintro e aF ⟨aL,rfl,j,hb⟩;refine⟨_,rfl,?_⟩;have Z:=zA (Kd.bj (Kd.bR j (Kd.a_ (zR p))) (bu zB));replace p:=bS p j hb;replace g:=zb g hb;replace a:=zS a hb;(try clear hb);(try clear j)))
   go_ret2;exact⟨_,zE,by(with_reducible repeat(first|apply Kd.aR|apply Kd.bD|apply Kd.bq));exact Kd.bb Z.out (fun _ hk=>trivial),zB⟩
  ·rw[if_neg r] at H
   obtain⟨S,T⟩:=bI r;simp only[Option.some.injEq,Prod.mk.injEq] at H;obtain⟨rfl,rfl⟩:=H;go_enter Tryz.func32,Tryz.ntmps32
   go_wp2_with (first|((with_reducible refine aJ (N:=2) rfl ?_);refine zX 2 #[.int .i64 b,.slice m i.length n] 24 ?_;intro K l aO o hb;have g:=zA (o);have L:=zG a l;have M:=zG a l;replace a:=zS a hb;clear hb o l;obtain⟨aP,aS,a0,a1⟩:=ax g)|((with_reducible refine aG (f:=35) rfl ?_);refine zL (some 11) Tryz.func35 #[.agg #[.int .i64 b,.slice m i.length n]] ?_;(with_reducible refine(eB.calls k b _ _ i t236 t239 _ ?ah ?ai y.out).mono ?_);(case ah=>exact Kd.aw s.out zB);(case ai=>exact u.out);rintro e a2 ⟨O,rfl,j,hb⟩;refine⟨_,rfl,?_⟩;have p:=zA (Kd.bj j (bu zB));replace g:=zb g hb;replace a:=zS a hb;(try clear hb);(try clear j);obtain⟨a3,a4,a5,a9⟩:=ax g)|((with_reducible refine aG (f:=87) rfl ?_);refine zL (some 20) Tryz.func87 #[.slice q l1.length c1,.int .i64 b] ?_;(with_reducible refine(bs.calls k _ _ l1 b t240 _ ?ah ?ai J.out).mono ?_);(case ah=>exact Kd.aw v.out zB);(case ai=>exact x.out);rintro e w' ⟨rfl,⟨V,rfl⟩⟩;refine⟨_,rfl,?_⟩))
   go_ret2;exact⟨_,zE,by first|exact Kd.dh _ _ _ _ _|exact Kd.gT _ _ _ _ _|exact Kd.V_nil _ _ _ _ _|exact Kd.Q_nil _ _ _ _ _|exact Kd.gw _ _ _ _ _,zB⟩
 ·rw[if_neg c4] at H
  obtain⟨P,Q⟩:=bI c4;simp only[Option.some.injEq,Prod.mk.injEq] at H;obtain⟨rfl,rfl⟩:=H;go_enter Tryz.func32,Tryz.ntmps32
  go_wp2_with (first|((with_reducible refine aJ (N:=2) rfl ?_);refine zX 2 #[.int .i64 b,.slice m i.length n] 24 ?_;intro K l bd o hb;have g:=zA (o);have L:=zG a l;have M:=zG a l;replace a:=zS a hb;clear hb o l;obtain⟨be,bf,bg,bi⟩:=ax g)|((with_reducible refine aG (f:=35) rfl ?_);refine zL (some 11) Tryz.func35 #[.agg #[.int .i64 b,.slice m i.length n]] ?_;(with_reducible refine(eB.calls k b _ _ i t236 t239 _ ?ah ?ai y.out).mono ?_);(case ah=>exact Kd.aw s.out zB);(case ai=>exact u.out);rintro e bk ⟨O,rfl,j,hb⟩;refine⟨_,rfl,?_⟩;have p:=zA (Kd.bj j (bu zB));replace g:=zb g hb;replace a:=zS a hb;(try clear hb);(try clear j)))
  go_ret2;exact⟨_,zE,by first|exact Kd.dh _ _ _ _ _|exact Kd.gT _ _ _ _ _|exact Kd.V_nil _ _ _ _ _|exact Kd.Q_nil _ _ _ _ _|exact Kd.gw _ _ _ _ _,zB⟩
noncomputable def iK.f (k:Nat) (a:Int) (b:List (S83)) (l1:List Int):Option (Int×Int):=(dW.f k a b l1).bind fun e=>(if e.2=0 then((eI.f k a b l1).bind fun g=>(if g.2=0 then((eI.f k a b e.1).bind fun h=>(if h.2=0 then(some (wrap64 (g.1-h.1),0)) else(some (0,h.2)))) else(some (0,g.2)))) else(some (0,e.2)))
theorem iK.calls (k:Nat) (i:Int) (l:Option Addr) (m:Nat) (g:List (S83)) (q:Option Addr) (c1:Nat) (l1:List Int) (O:Int) (P:Int) (w:World) (Q:Kd.C aN w l g.length g) (R:g.length<=m) (S:Kd.C (Kd.int .i64) w q l1.length l1) (T:l1.length<=c1) (h:iK.f k i g l1=some (O,P)):
  Calls Tryz.prog 27 #[.agg #[.int .i64 i,.slice l g.length m],.slice q l1.length c1] w fun e w'=>e= .returned (.tuple #[.int .i64 O,.int .i64 P])/\Below w.heap.size w w':=by
 have ar:=Tryz.underlying24;have r:=zA Q;have s:=zA R;clear Q R;have v:=zA S;have x:=zA T;clear S T;have a:=zA (aq w.heap.size w);unfold iK.f at h;have H:=h;clear h;obtain⟨⟨u,y⟩,D,H⟩:=zo H;dsimp only at H;by_cases c4:y=0
 ·rw[if_pos c4] at H
  obtain⟨W,X⟩:=bH c4;clear c4;obtain⟨⟨F,E⟩,G,H⟩:=zo H;dsimp only at H;by_cases z:E=0
  ·rw[if_pos z] at H
   obtain⟨Y,Z⟩:=bH z;clear z;obtain⟨⟨U,I⟩,V,H⟩:=zo H;dsimp only at H;by_cases B:I=0
   ·rw[if_pos B] at H
    obtain⟨aa,ab⟩:=bH B;clear B;simp only[Option.some.injEq,Prod.mk.injEq] at H;obtain⟨rfl,rfl⟩:=H;go_enter Tryz.func27,Tryz.ntmps27
    go_wp2_with (first|((with_reducible refine aJ (N:=2) rfl ?_);refine zX 2 #[.int .i64 i,.slice l g.length m] 24 ?_;intro J n w9 o hb;have b:=zA (o);have K:=zG a n;have L:=zG a n;replace a:=zS a hb;clear hb o n;obtain⟨aB,aF,aL,aO⟩:=ax b)|((with_reducible refine aG (f:=32) rfl ?_);refine zL (some 13) Tryz.func32 #[.agg #[.int .i64 i,.slice l g.length m],.slice q l1.length c1] ?_;(with_reducible refine(dW.calls k i _ _ g _ _ l1 u y _ ?ah ?ai ?aW ?aX D.out).mono ?_);(case ah=>exact Kd.aw r.out zB);(case ai=>exact s.out);(case aW=>exact Kd.aw v.out zB);(case aX=>exact x.out);rintro e iE ⟨M,rfl,p,hb⟩;refine⟨_,rfl,?_⟩;have j:=zA (Kd.bj p (bu zB));replace b:=zb b hb;replace a:=zS a hb;(try clear hb);(try clear p);obtain⟨aP,aS,a0,a1⟩:=ax b)|((with_reducible refine aG (f:=41) rfl ?_);refine zL (some 22) Tryz.func41 #[.agg #[.int .i64 i,.slice l g.length m],.slice q l1.length c1] ?_;(with_reducible refine(eI.calls k i _ _ g _ _ l1 F E _ ?ah ?ai ?aW ?aX G.out).mono ?_);(case ah=>exact Kd.aw r.out zB);(case ai=>exact s.out);(case aW=>exact Kd.aw v.out zB);(case aX=>exact x.out);rintro e a2 ⟨rfl,hb⟩;refine⟨_,rfl,?_⟩;replace j:=bz j hb;replace b:=zb b hb;replace a:=zS a hb;(try clear hb);obtain⟨a3,a4,a5,a9⟩:=ax b;obtain⟨ad,ag,ak⟩:=Kd.bm j.out;subst ak)|((with_reducible refine aG (f:=41) rfl ?_);refine zL (some 31) Tryz.func41 #[.agg #[.int .i64 i,.slice l g.length m],.slice ad u.length ag] ?_;(with_reducible refine(eI.calls k i _ _ g _ _ u U I _ ?ah ?ai ?aW ?aX V.out).mono ?_);(case ah=>exact Kd.aw r.out zB);(case ai=>exact s.out);(case aW=>exact zC (Kd.aQ j.out).2.2);(case aX=>exact(Kd.aQ j.out).2.1);rintro e bd ⟨rfl,hb⟩;refine⟨_,rfl,?_⟩;replace j:=bz j hb;replace b:=zb b hb;replace a:=zS a hb;(try clear hb)))
    go_ret2;exact⟨zE,zB⟩
   ·rw[if_neg B] at H
    obtain⟨aa,ab⟩:=bI B;simp only[Option.some.injEq,Prod.mk.injEq] at H;obtain⟨rfl,rfl⟩:=H;go_enter Tryz.func27,Tryz.ntmps27
    go_wp2_with (first|((with_reducible refine aJ (N:=2) rfl ?_);refine zX 2 #[.int .i64 i,.slice l g.length m] 24 ?_;intro J n be o hb;have b:=zA (o);have K:=zG a n;have L:=zG a n;replace a:=zS a hb;clear hb o n;obtain⟨bf,bg,bi,bk⟩:=ax b)|((with_reducible refine aG (f:=32) rfl ?_);refine zL (some 13) Tryz.func32 #[.agg #[.int .i64 i,.slice l g.length m],.slice q l1.length c1] ?_;(with_reducible refine(dW.calls k i _ _ g _ _ l1 u y _ ?ah ?ai ?aW ?aX D.out).mono ?_);(case ah=>exact Kd.aw r.out zB);(case ai=>exact s.out);(case aW=>exact Kd.aw v.out zB);(case aX=>exact x.out);rintro e bn ⟨M,rfl,p,hb⟩;refine⟨_,rfl,?_⟩;have j:=zA (Kd.bj p (bu zB));replace b:=zb b hb;replace a:=zS a hb;(try clear hb);(try clear p);obtain⟨bo,bv,bw,bx⟩:=ax b)|((with_reducible refine aG (f:=41) rfl ?_);refine zL (some 22) Tryz.func41 #[.agg #[.int .i64 i,.slice l g.length m],.slice q l1.length c1] ?_;(with_reducible refine(eI.calls k i _ _ g _ _ l1 F E _ ?ah ?ai ?aW ?aX G.out).mono ?_);(case ah=>exact Kd.aw r.out zB);(case ai=>exact s.out);(case aW=>exact Kd.aw v.out zB);(case aX=>exact x.out);rintro e b0 ⟨rfl,hb⟩;refine⟨_,rfl,?_⟩;replace j:=bz j hb;replace b:=zb b hb;replace a:=zS a hb;(try clear hb);obtain⟨b1,b2,b3,b4⟩:=ax b;obtain⟨am,an,ap⟩:=Kd.bm j.out;subst ap)|((with_reducible refine aG (f:=41) rfl ?_);refine zL (some 31) Tryz.func41 #[.agg #[.int .i64 i,.slice l g.length m],.slice am u.length an] ?_;(with_reducible refine(eI.calls k i _ _ g _ _ u U I _ ?ah ?ai ?aW ?aX V.out).mono ?_);(case ah=>exact Kd.aw r.out zB);(case ai=>exact s.out);(case aW=>exact zC (Kd.aQ j.out).2.2);(case aX=>exact(Kd.aQ j.out).2.1);rintro e b5 ⟨rfl,hb⟩;refine⟨_,rfl,?_⟩;replace j:=bz j hb;replace b:=zb b hb;replace a:=zS a hb;(try clear hb)))
    go_ret2;exact⟨zE,zB⟩
  ·rw[if_neg z] at H
   obtain⟨Y,Z⟩:=bI z;simp only[Option.some.injEq,Prod.mk.injEq] at H;obtain⟨rfl,rfl⟩:=H;go_enter Tryz.func27,Tryz.ntmps27
   go_wp2_with (first|((with_reducible refine aJ (N:=2) rfl ?_);refine zX 2 #[.int .i64 i,.slice l g.length m] 24 ?_;intro J n b6 o hb;have b:=zA (o);have K:=zG a n;have L:=zG a n;replace a:=zS a hb;clear hb o n;obtain⟨b_,b',ca,cb⟩:=ax b)|((with_reducible refine aG (f:=32) rfl ?_);refine zL (some 13) Tryz.func32 #[.agg #[.int .i64 i,.slice l g.length m],.slice q l1.length c1] ?_;(with_reducible refine(dW.calls k i _ _ g _ _ l1 u y _ ?ah ?ai ?aW ?aX D.out).mono ?_);(case ah=>exact Kd.aw r.out zB);(case ai=>exact s.out);(case aW=>exact Kd.aw v.out zB);(case aX=>exact x.out);rintro e cc ⟨M,rfl,p,hb⟩;refine⟨_,rfl,?_⟩;have j:=zA (Kd.bj p (bu zB));replace b:=zb b hb;replace a:=zS a hb;(try clear hb);(try clear p);obtain⟨cd,ce,cf,ch⟩:=ax b)|((with_reducible refine aG (f:=41) rfl ?_);refine zL (some 22) Tryz.func41 #[.agg #[.int .i64 i,.slice l g.length m],.slice q l1.length c1] ?_;(with_reducible refine(eI.calls k i _ _ g _ _ l1 F E _ ?ah ?ai ?aW ?aX G.out).mono ?_);(case ah=>exact Kd.aw r.out zB);(case ai=>exact s.out);(case aW=>exact Kd.aw v.out zB);(case aX=>exact x.out);rintro e ci ⟨rfl,hb⟩;refine⟨_,rfl,?_⟩;replace j:=bz j hb;replace b:=zb b hb;replace a:=zS a hb;(try clear hb)))
   go_ret2;exact⟨zE,zB⟩
 ·rw[if_neg c4] at H
  obtain⟨W,X⟩:=bI c4;simp only[Option.some.injEq,Prod.mk.injEq] at H;obtain⟨rfl,rfl⟩:=H;go_enter Tryz.func27,Tryz.ntmps27
  go_wp2_with (first|((with_reducible refine aJ (N:=2) rfl ?_);refine zX 2 #[.int .i64 i,.slice l g.length m] 24 ?_;intro J n cj o hb;have b:=zA (o);have K:=zG a n;have L:=zG a n;replace a:=zS a hb;clear hb o n;obtain⟨ck,cl,cn,co⟩:=ax b)|((with_reducible refine aG (f:=32) rfl ?_);refine zL (some 13) Tryz.func32 #[.agg #[.int .i64 i,.slice l g.length m],.slice q l1.length c1] ?_;(with_reducible refine(dW.calls k i _ _ g _ _ l1 u y _ ?ah ?ai ?aW ?aX D.out).mono ?_);(case ah=>exact Kd.aw r.out zB);(case ai=>exact s.out);(case aW=>exact Kd.aw v.out zB);(case aX=>exact x.out);rintro e cq ⟨M,rfl,p,hb⟩;refine⟨_,rfl,?_⟩;have j:=zA (Kd.bj p (bu zB));replace b:=zb b hb;replace a:=zS a hb;(try clear hb);(try clear p)))
  go_ret2;exact⟨zE,zB⟩
def bO.l0:Nat->List Int->List Int->Int->Int->Option (Bool)
 |0,_,_,_,_=>none
 |k+1,b,x1,e,a=>if a<e then(if 0<=a then(if a<(b.length:Int) then(if a<(x1.length:Int) then(if(rd b a)=(rd x1 a) then(bO.l0 k b x1 e (wrap64 (a+1))) else(some false)) else(none)) else(none)) else(none)) else(some true)
def bO.f (k:Nat) (l0:List Int) (l1:List Int):Option (Bool):=if(l0.length:Int)=(l1.length:Int) then(bO.l0 k l0 l1 (l0.length:Int) 0) else(some false)
theorem bO.cy:∀k,(∀a b e g,al (bO.l0 k a b e g) (bO.l0 (k+1) a b e g))
 |0=>fun _ _ _ _ r h=>by simp[bO.l0] at h
 |k+1=>by
  have i:=bO.cy k
  ·intro a b e g
   unfold bO.l0;with_reducible repeat' first|exact i _ _ _ _|exact al.refl _|exact al.none _|refine al.ite ?_ ?_|refine al.bind ?_ (fun _=>?_)
theorem bO.mono:∀a0 a k,al (bO.f k a0 a) (bO.f (k+1) a0 a):=by
 intro a0 a k;have b:=bO.cy k;unfold bO.f;with_reducible repeat' first|exact b _ _ _ _|exact al.refl _|exact al.none _|refine al.ite ?_ ?_|refine al.bind ?_ (fun _=>?_)
theorem bO.calls (k:Nat) (A0:Option Addr) (c0:Nat) (l0:List Int) (v:Option Addr) (c1:Nat) (l1:List Int) (r:Bool) (w:World) (x:Kd.C (Kd.int .i64) w A0 l0.length l0) (y:l0.length<=c0) (z:Kd.C (Kd.int .i64) w v l1.length l1) (B:l1.length<=c1) (h:bO.f k l0 l1=some r):
  Calls Tryz.prog 33 #[.slice A0 l0.length c0,.slice v l1.length c1] w fun e w'=>e= .returned (.bool r)/\aC w w':=by
 have D:=zA x;have U:=zA y;clear x y;have E:=zA z;have V:=zA B;clear z B;unfold bO.f at h;have H:=h;clear h;by_cases c3:(l0.length:Int)=(l1.length:Int)
 ·rw[if_pos c3] at H
  obtain⟨F,G⟩:=bH c3;have I:(l0.length==l1.length)=true:=by first|simpa using c3|(simp at c3⊢;omega)
  clear c3;have m:=zA H;clear H;go_enter Tryz.func33,Tryz.ntmps33
  go_wp2;repeat(go_quiet (fail);try go_wp2)
  go_loopg [13] k (fun J L w'=>∃(a:Int),L= .int .i64 a/\Aside0 (bO.l0 J l0 l1 (l0.length:Int) a=some r)/\Aside0 (J<=k)/\aC w w')
  case atStart=>exact⟨(0),zT,m,⟨aI _⟩,by repeat(first|exact aC.refl _|apply aC.step)⟩
  case round=>
   clear m;clear F G I;obtain⟨a,rfl,q,K,⟨m1,rfl⟩⟩:=hrel;cases gk with
   |zero=>exact absurd q.out (by simp[bO.l0])
   |succ M=>
    have H:=q.out;clear q;simp only[bO.l0] at H;by_cases c4:a<(l0.length:Int)
    ·rw[if_pos c4] at H
     have N:=az c4;clear c4;by_cases n:0<=a
     ·rw[if_pos n] at H
      have W:=az n;clear n;by_cases o:a<(l0.length:Int)
      ·rw[if_pos o] at H
       have X:=az o;clear o;by_cases p:a<(l1.length:Int)
       ·rw[if_pos p] at H
        have Y:=az p;clear p;by_cases l:(rd l0 a)=(rd l1 a)
        ·rw[if_pos l] at H
         obtain⟨O,P⟩:=bH l;clear l;have m:=zA H;clear H;have b:0<=(a:Int):=ay ‹_›;have g:a<(l0.length:Int):=ay ‹_›;obtain⟨Q,s,R⟩:=Kd.bU D.out a b g;cases s;replace b:=eq_true b;replace g:=eq_true g;have i:0<=(a:Int):=ay ‹_›;have j:a<(l1.length:Int):=ay ‹_›;obtain⟨S,u,T⟩:=Kd.bU E.out a i j;cases u;replace i:=eq_true i;replace j:=eq_true j;go_wp2;repeat(go_quiet (fail);try go_wp2)
         go_roundg M
         case measure=>have:=K.out;omega
         case rel=>exact⟨(wrap64 (a+1)),zT,m,⟨by have:=K.out;omega⟩,by repeat(first|exact aC.refl _|apply aC.step)⟩
        ·rw[if_neg l] at H
         obtain⟨O,P⟩:=bI l;obtain rfl:=aH H;have b:0<=(a:Int):=ay ‹_›;have g:a<(l0.length:Int):=ay ‹_›;obtain⟨Q,s,R⟩:=Kd.bU D.out a b g;cases s;replace b:=eq_true b;replace g:=eq_true g;have i:0<=(a:Int):=ay ‹_›;have j:a<(l1.length:Int):=ay ‹_›;obtain⟨S,u,T⟩:=Kd.bU E.out a i j;cases u;replace i:=eq_true i;replace j:=eq_true j;go_wp2;repeat(go_quiet (fail);try go_wp2)
         go_ret;exact⟨zT,by repeat(first|exact aC.refl _|apply aC.step)⟩
       ·rw[if_neg p] at H
        exact absurd H (by simp)
      ·rw[if_neg o] at H
       exact absurd H (by simp)
     ·rw[if_neg n] at H
      exact absurd H (by simp)
    ·rw[if_neg c4] at H
     have N:=a6 c4;clear c4;obtain rfl:=aH H;go_wp2;repeat(go_quiet (fail);try go_wp2)
     go_ret;exact⟨zT,by repeat(first|exact aC.refl _|apply aC.step)⟩
 ·rw[if_neg c3] at H
  obtain⟨F,G⟩:=bI c3;have I:(l0.length==l1.length)=false:=by first|simpa using c3|(simp at c3⊢;omega)
  obtain rfl:=aH H;go_enter Tryz.func33,Tryz.ntmps33
  go_wp2;repeat(go_quiet (fail);try go_wp2)
  go_ret;exact⟨zT,by repeat(first|exact aC.refl _|apply aC.step)⟩
theorem ya {n:Nat} {E:List S83} {d:List Int} (h:dU n 0 E d) (a:cz n E=0) {n' g:Int} {b:List S83} (i:Ev (fun k=>fT.f k n E) (n',b,(0:Int))) (j:Ev (fun k=>fc.f k n' b) (g,(0:Int))) (l:T.dF n (af E) g) {r:Int} (m:Rk n (af E) d r):
  Ev (fun k=>eI.f k n E d) (r,(0:Int)):=by
 unfold eI.f;refine Ev.bind (FC h a) ?_;have e:=h.ok a;simp only[if_true,aM];simp only[Int.ofNat_zero] at e;simp only[if_pos e];refine Ev.bind i ?_;simp only[if_true];refine Ev.bind j ?_;have o:T.sN (T.can n (af E)) n=2*g-2:=l;simp only[if_true,if_pos o,x_ h.n1 m];exact Ev.const _
mutual
def bT.j0:Nat->Int->Bool->Int->List (S83)->Option ((List (List Int))×Int)
 |0,_,_,_,_=>none
 |k+1,x1,b,e,g=>if b=true then(some (([]:List (List Int)),2)) else((ga.f k e g x1).bind fun a=>(if a.2=0 then(bT.l0 k x1 ([]:List (List Int)) a.1 (a.1.length:Int) 0) else(some (([]:List (List Int)),a.2))))
def bT.l0:Nat->Int->List (List Int)->List (List Int)->Int->Int->Option ((List (List Int))×Int)
 |0,_,_,_,_,_=>none
 |k+1,x1,b,e,g,a=>if a<g then(if 0<=a then(if a<(e.length:Int) then((fF.f (aV e a)).bind fun h=>(if 0<=x1 then(if x1<(h.length:Int) then(if b.length<5864062014805 then(bT.l0 k x1 (b++[(h.set (x1:Int).toNat (-1))]) e g (wrap64 (a+1))) else(none)) else(none)) else(none))) else(none)) else(none)) else(some (b,0))
end
def bT.f (k:Nat) (a:Int) (e:List (S83)) (b:Int):Option ((List (List Int))×Int):=(eh.f k a e).bind fun g=>(if g=0 then(if b<0 then(bT.j0 k b true a e) else(bT.j0 k b (decide (b>=a)) a e)) else(some (([]:List (List Int)),g)))
theorem bT.cy:∀k,(∀a b e g,al (bT.j0 k a b e g) (bT.j0 (k+1) a b e g))/\(∀a b e g i,al (bT.l0 k a b e g i) (bT.l0 (k+1) a b e g i))
 |0=>⟨fun _ _ _ _ r h=>by simp[bT.j0] at h,fun _ _ _ _ _ r h=>by simp[bT.l0] at h⟩
 |k+1=>by
  obtain⟨j,l⟩:=bT.cy k;refine⟨?_,?_⟩
  ·intro a b e g
   unfold bT.j0;with_reducible repeat' first|exact j _ _ _ _|exact l _ _ _ _ _|exact eh.mono _ _ _|exact ga.mono _ _ _ _|exact al.refl _|exact al.none _|refine al.ite ?_ ?_|refine al.bind ?_ (fun _=>?_)
  ·intro a b e g i
   unfold bT.l0;with_reducible repeat' first|exact j _ _ _ _|exact l _ _ _ _ _|exact eh.mono _ _ _|exact ga.mono _ _ _ _|exact al.refl _|exact al.none _|refine al.ite ?_ ?_|refine al.bind ?_ (fun _=>?_)
theorem bT.mono:∀a0 a a2 k,al (bT.f k a0 a a2) (bT.f (k+1) a0 a a2):=by
 intro a0 a a2 k;obtain⟨b,e⟩:=bT.cy k;unfold bT.f;with_reducible repeat' first|exact b _ _ _ _|exact e _ _ _ _ _|exact eh.mono _ _ _|exact ga.mono _ _ _ _|exact al.refl _|exact al.none _|refine al.ite ?_ ?_|refine al.bind ?_ (fun _=>?_)
theorem bT.calls (k:Nat) (n:Int) (z:Option Addr) (B:Nat) (m:List (S83)) (l:Int) (O:List (List Int)) (P:Int) (w:World) (b4:Kd.C aN w z m.length m) (b5:m.length<=B) (h:bT.f k n m l=some (O,P)):
  Calls Tryz.prog 15 #[.agg #[.int .i64 n,.slice z m.length B],.int .i64 l] w fun e w'=>∃b6:Value,e= .returned (.tuple #[b6,.int .i64 P])/\Kd.N (Kd.slice 3 (Kd.int .i64)) 26 w' w.heap.size (fun a=>(w.heap.size<=a)) b6 O/\Below w.heap.size w w':=by
 have ev:=Tryz.underlying24;have aa:=zA b4;have ab:=zA b5;clear b4 b5;have j:=zA (aq w.heap.size w);unfold bT.f at h;have H:=h;clear h;obtain⟨a9,A3,H⟩:=zo H;by_cases c4:a9=0
 ·rw[if_pos c4] at H
  obtain⟨b',ca⟩:=bH c4;clear c4;have bd:=zA H;clear H;go_enter Tryz.func15,Tryz.ntmps15
  go_upto_region 4 with (first|((with_reducible refine aJ (N:=2) rfl ?_);refine zX 2 #[.int .i64 n,.slice z m.length B] 24 ?_;intro o hg w6 U hb;have g:=zA (U);have c1:=zG j hg;have c2:=zG j hg;replace j:=zS j hb;clear hb U hg;obtain⟨c3,c5,c6,c7⟩:=ax g)|((with_reducible refine aG (f:=55) rfl ?_);refine zL (some 14) Tryz.func55 #[.agg #[.int .i64 n,.slice z m.length B]] ?_;(with_reducible refine(eh.calls k n _ _ m a9 _ ?ah ?ai A3.out).mono ?_);(case ah=>exact Kd.aw aa.out zB);(case ai=>exact ab.out);rintro e w8 ⟨rfl,hb⟩;refine⟨_,rfl,?_⟩;replace g:=zb g hb;replace j:=zS j hb;(try clear hb)))
  (try simp only[Act.put,List.setIfInBounds_toArray,List.set_cons_zero,List.set_cons_succ])
  go_cut [25] (fun v25 wc=>∃(J:Nat) (ad:Bool),v25= .bool ad/\Aside0 (bT.j0 J l ad n m=some (O,P))/\Aside0 (J<=k)/\Aside0 (wc.heap[o]? =some (.cells #[.int .i64 n,(.slice z m.length B)] 24 (0,0)))/\Aside0 (Below w.heap.size w wc))
  case first=>
   have H:=bd.out;clear bd;by_cases Q:l<0
   ·rw[if_pos Q] at H
    have W:=az Q;clear Q
    (first|rw[W]|(simp only[bG,bL];rw[W])|skip)
    have G:=zA H;clear H;go_wp2;go_meet
    case rel=>exact⟨_,(true),zT,G,⟨by first|omega|exact aI _⟩,⟨zK g⟩,⟨zB⟩⟩
   ·rw[if_neg Q] at H
    have W:=a6 Q;clear Q
    (first|rw[W]|(simp only[bG,bL];rw[W])|skip)
    have G:=zA H;clear H;obtain⟨ey,e0,e1,e2⟩:=ax g;go_wp2;go_meet
    case rel=>exact⟨_,(decide (l>=n)),zT,G,⟨by first|omega|exact aI _⟩,⟨zK g⟩,⟨zB⟩⟩
  case rest=>
   clear bd;clear b' ca c3 c5 c6 c7;obtain⟨J,ad,rfl,K,cb,g,j⟩:=hcut;cases J with
   |zero=>exact absurd K.out (by simp[bT.j0])
   |succ ag=>
    have H:=K.out;clear K;simp only[bT.j0] at H;by_cases ak:ad=true
    ·subst ak
     replace H:=zi H;simp only[Option.some.injEq,Prod.mk.injEq] at H;obtain⟨rfl,rfl⟩:=H;go_wp2;go_ret2;exact⟨_,zE,by first|exact Kd.gw _ _ _ _ _|exact Kd.gT _ _ _ _ _|exact Kd.V_nil _ _ _ _ _|exact Kd.Q_nil _ _ _ _ _|exact Kd.dh _ _ _ _ _,zB⟩
    ·replace ak:=Bool.eq_false_iff.mpr ak
     subst ak;replace H:=zj H;obtain⟨⟨i,be⟩,cc,H⟩:=zo H;dsimp only at H;by_cases X:be=0
     ·rw[if_pos X] at H
      obtain⟨cd,ce⟩:=bH X;clear X;have G:=zA H;clear H;obtain⟨c8,c',dd,dk⟩:=ax g;go_wp2_with (first|((with_reducible refine aG (f:=56) rfl ?_);refine zL (some 29) Tryz.func56 #[.agg #[.int .i64 n,.slice z m.length B],.int .i64 l] ?_;(with_reducible refine(ga.calls ag n _ _ m l i be _ ?ah ?ai cc.out).mono ?_);(case ah=>exact Kd.aw aa.out zB);(case ai=>exact ab.out);rintro e e3 ⟨dl,rfl,y,hb⟩;refine⟨_,rfl,?_⟩;have bf:=zA (Kd.mS (Kd.eK (ok':=fun a=>(w.heap.size<=a)/\a≠o) y (fun a Y=>⟨(Nat.le_trans (bu zB) Y),(Kd.lT (zK g) a Y)⟩)) (bu zB));replace g:=zb g hb;replace j:=zS j hb;(try clear hb);(try clear y);obtain⟨cf,F,ds⟩:=Kd.mU bf.out;subst ds))
      go_loopg [9,37] ag (fun J v9 v37 w'=>∃(I:List (List Int)) (q:Int),v37= .int .i64 q/\Aside0 (bT.l0 J l I i (i.length:Int) q=some (O,P))/\Aside0 (J<=ag)/\Aside0 (Kd.N (Kd.slice 3 (Kd.int .i64)) 26 w' w.heap.size (fun a=>(w.heap.size<=a)/\some a≠((.slice cf i.length F):Value).ownBlock/\a≠o) v9 I)/\Aside0 (Kd.N (Kd.slice 3 (Kd.int .i64)) 26 w' w.heap.size (fun a=>(w.heap.size<=a)/\some a≠(v9:Value).ownBlock/\a≠o) (.slice cf i.length F) i)/\Aside0 (w'.heap[o]? =some (.cells #[.int .i64 n,(.slice z m.length B)] 24 (0,0)))/\Aside0 (Below w.heap.size w w'))
      case atStart=>exact⟨(([]:List (List Int))),(0),zT,G,⟨aI _⟩,⟨by first|exact Kd.gw _ _ _ _ _|exact Kd.gT _ _ _ _ _|exact Kd.V_nil _ _ _ _ _|exact Kd.Q_nil _ _ _ _ _|exact Kd.dh _ _ _ _ _⟩,⟨by(with_reducible repeat(first|apply Kd.eW|apply Kd.gA|apply Kd.gz));exact Kd.eK bf.out (fun _ hk=>⟨hk.1,⟨(by simp[Value.ownBlock]),hk.2⟩⟩)⟩,⟨zK g⟩,⟨zB⟩⟩
      case round=>
       clear G;clear cd ce c8 c' dd dk;obtain⟨I,q,rfl,K,ch,D,s,g,j⟩:=hrel;cases gk with
       |zero=>exact absurd K.out (by simp[bT.l0])
       |succ k2=>
        have H:=K.out;clear K;simp only[bT.l0] at H;by_cases S:q<(i.length:Int)
        ·rw[if_pos S] at H
         have dv:=az S;clear S;by_cases am:0<=q
         ·rw[if_pos am] at H
          have e4:=az am;clear am;by_cases an:q<(i.length:Int)
          ·rw[if_pos an] at H
           have e5:=az an;clear an;obtain⟨r,d0,H⟩:=zo H;by_cases ap:0<=l
           ·rw[if_pos ap] at H
            have e6:=az ap;clear ap;by_cases ar:l<(r.length:Int)
            ·rw[if_pos ar] at H
             have e':=az ar;clear ar;obtain⟨av,bi⟩:∃y_:List Int,y_=(r.set (l:Int).toNat (-1)):=⟨_,rfl⟩;replace H:(if I.length<5864062014805 then(bT.l0 k2 l (I++[av]) i (i.length:Int) (wrap64 (q+1))) else(none))=some (O,P):=zh bi H;have d1:=zA bi;clear bi;by_cases a0:I.length<5864062014805
             ·rw[if_pos a0] at H
              have d2:=zA a0;clear a0;obtain⟨ci,bn⟩:∃y_:List (List Int),y_=(I++[av]):=⟨_,rfl⟩;replace H:(bT.l0 k2 l ci i (i.length:Int) (wrap64 (q+1)))=some (O,P):=zh bn H;have d3:=zA bn;clear bn;have G:=zA H;clear H;have a2:0<=(q:Int):=ay ‹_›;have a3:q<(i.length:Int):=ay ‹_›;obtain⟨L,d4,d5,d6,d7,cj,ck⟩:=gC (Kd.jo s.out).2.2 q a2 a3;cases d6;obtain⟨fb,d8,d9,cl⟩:=Kd.oE s.out [] q a2 (by first|exact a3|exact ay ‹_› |(have e_:=(Kd.jo s.out).1;omega));obtain⟨fn,fo,rfl,bo,bv⟩:=Kd.kU d9;have a4:=cl 0 _ rfl;rw[Nat.add_zero,show ((Kd.slice 3 (Kd.int .i64))).sz=1 from rfl,Nat.mul_one] at a4;replace a4:=aH (a4.symm.trans d7);injection a4 with cn ea co
              rw[cn] at bv;rw[co] at bo;have T:=zA (show Kd.V (Kd.int .i64) 3 _ w.heap.size _ _ (aV i q) from Kd.qd bo bv);clear cn ea co bv bo;clear cl d8;have Z:=zA ck;have eb:=zA cj;clear ck cj;replace a2:=eq_true a2;replace a3:=eq_true a3;go_wp2_with (first|((with_reducible refine aG (f:=57) rfl ?_);refine zL (some 42) Tryz.func57 #[.slice d4 (aV i q).length d5] ?_;(with_reducible refine(fF.calls _ _ (aV i q) r _ ?ah ?ai d0.out).mono ?_);(case ah=>repeat(first|exact(by repeat(first|(with_reducible exact Z.out)|(with_reducible refine Kd.bp ?_ _)|(with_reducible refine Kd.fV ?_ _)|(with_reducible refine Kd.fC ?_)|exact Z.out))|(with_reducible refine Kd.bp ?_ _)|(with_reducible refine Kd.fV ?_ _)|(with_reducible refine Kd.fC ?_)));(case ai=>exact eb.out);rintro e cq ⟨fq,rfl,y,hb⟩;refine⟨_,rfl,?_⟩;replace D:=gU D y hb;replace s:=gU s y hb;replace T:=zA (Kd.oG (by(with_reducible repeat(first|apply Kd.V_alloc|apply Kd.l8|apply Kd.V_drew));exact T.out) (Kd.dY y) hb);have u:=zA (Kd.bj (Kd.AY (M:=fun a=>(w.heap.size<=a)) y (bu zB) (fun a h_=>h_)) (bu zB));replace g:=zb g hb;replace Z:=zA (Kd.aw (by repeat(first|(with_reducible exact Z.out)|(with_reducible refine Kd.bp ?_ _)|(with_reducible refine Kd.fV ?_ _)|(with_reducible refine Kd.fC ?_)|exact Z.out)) hb);replace j:=zS j hb;(try clear hb);(try clear y);have bw:0<=(l:Int):=ay ‹_›;have bx:(l:Int)<((r.length:Int):Int):=ay ‹_›;obtain⟨x,E,cr,cs,eg,fr,cv⟩:=Kd.fK u.out (by omega);(first|cases cr|(injection cr with a5 ek el;(first|subst a5|(injection a5 with a5;subst a5));subst el;clear ek));have em:=zA cs;have ft:=zA cv;clear cs eg cv;obtain⟨fv,f0⟩:=Kd.b7 0 u.out (l:Int) bw bx;replace bw:=eq_true bw;replace bx:=eq_true bx;have n_:=zA (Kd.bb (ok':=(fun a=>(w.heap.size<=a))) u.out (fun a hk=>hk.1));clear u;have u:=n_;clear n_;obtain⟨f1,f2⟩:=Kd.b7 0 u.out (l:Int) (ay ‹_›) (ay ‹_›);have b0:=Kd.dt u.out (l:Int) (-1))|((with_reducible refine ki (t:=3) (p:=45) rfl ?_);refine kh (t:=3) (p:=45) (v:=?IK) (w1:=(cq.setCell ⟨x,(l:Int).toNat,none⟩ (.int .i64 (-1)))) ?hg ?ho ?hn ?hr ?_;(case ho=>rfl);(case hg=>rfl);(case hn=>rfl);(case hr=>first|(go_simp;done)|(go_simp;rfl));intro b1 hw;have hg:cq.grownBy b1 (some x):=(by rw[hw];exact b0.2);have c0:Kd.R (Kd.int .i64) 3 b1 w.heap.size (fun a=>(w.heap.size<=a)) (.slice (some ⟨x,0,none⟩) r.length E) av:=(by rw[hw,d1.out];exact b0.1);clear b0;replace D:=zA (Kd.qe (v:=(.slice (some ⟨x,0,none⟩) r.length E)) (v1:=(.slice (some ⟨x,0,none⟩) r.length E)) (ok:=(fun a=>(w.heap.size<=a)/\some a≠(.slice (some L) i.length F:Value).ownBlock/\a≠o)) (zN D) hg (.inl rfl));replace s:=zA (Kd.qe (v:=(.slice (some ⟨x,0,none⟩) r.length E)) (v1:=(.slice (some ⟨x,0,none⟩) r.length E)) (ok:=(fun a=>(w.heap.size<=a)/\some a≠(u9:Value).ownBlock/\a≠o)) (zN s) hg (.inl rfl));replace g:=zA (da (zK g) hg (Kd.dj u.out g.out (by decide)));replace T:=zA (Kd.tC (v:=(.slice (some ⟨x,0,none⟩) r.length E)) (v1:=(.slice (some ⟨x,0,none⟩) r.length E)) (ok:=(fun a=>(w.heap.size<=a)/\some a≠(u9:Value).ownBlock/\some a≠(.slice (some L) i.length F:Value).ownBlock/\a≠o)) (by(with_reducible repeat(first|apply Kd.V_alloc|apply Kd.l8|apply Kd.V_drew));exact Kd.tB T.out (fun _ hk=>⟨⟨hk.1.1.1,⟨hk.1.1.2.1,⟨hk.1.2,hk.1.1.2.2⟩⟩⟩,hk.2⟩)) hg (.inl rfl));replace u:=zA (c0);replace j:=zA ((by rw[hw];exact dN (j.out) em.out:Below w.heap.size w b1));clear hg hw c0)|((with_reducible refine qc (b:=.append) (xs:=#[.tmp 46,.tmp 48]) rfl ?_);at_builtin;refine Kd.AU (Kd.slice 3 (Kd.int .i64)) (w0:=w) w.heap.size rfl (.tmp 46) (.tmp 48) 33 26 (.slice none 0 0) 24 rfl Tryz.underlying33 qk rfl (by decide) (by omega) u9 I av [.slice (some ⟨x,0,none⟩) r.length E] (fun a=>(w.heap.size<=a)/\some a≠(.slice (some L) i.length F:Value).ownBlock/\a≠o) (fun a=>((fun a=>(w.heap.size<=a)/\some a≠(.slice (some L) i.length F:Value).ownBlock/\a≠o)) a/\some a≠(u9:Value).ownBlock) rfl rfl ?aP (fun _ hk=>hk) ?aF ?aO ?aB ?aS ?aL ?_;(case aP=>have er:=(Kd.aQ u.out).1;have b2:=zA u.out;rw[er] at b2⊢;exact(Kd.AW (Kd.aQ (Kd.bb (ok':=(fun a=>((fun a=>(w.heap.size<=a)/\some a≠(.slice (some L) i.length F:Value).ownBlock/\a≠o)) a/\some a≠(u9:Value).ownBlock)) (Kd.ij (Kd.oa (Kd.oa (b2.out) (Kd.oD s.out) (by decide)) (Kd.oD D.out) (by decide)) g.out (by decide)) (fun a hk=>⟨⟨hk.1.1.1,⟨hk.1.1.2,hk.2⟩⟩,hk.1.2⟩))).2.1 (Kd.AG (Kd.bb (ok':=(fun a=>((fun a=>(w.heap.size<=a)/\some a≠(.slice (some L) i.length F:Value).ownBlock/\a≠o)) a/\some a≠(u9:Value).ownBlock)) (Kd.ij (Kd.oa (Kd.oa (b2.out) (Kd.oD s.out) (by decide)) (Kd.oD D.out) (by decide)) g.out (by decide)) (fun a hk=>⟨⟨hk.1.1.1,⟨hk.1.1.2,hk.2⟩⟩,hk.1.2⟩)))));(case aB=>exact zB);(case aF=>exact(fun a hk=>⟨(Nat.le_trans (bu zB) hk),Kd.kM (Kd.tw (zN s)) a hk,Kd.lT (zK g) a hk⟩));(case aO=>exact(by(with_reducible repeat(first|apply Kd.eW|apply Kd.gA|apply Kd.gz));exact Kd.eK D.out (fun _ hk=>⟨hk.1.1,⟨hk.1.2.1,hk.1.2.2⟩⟩)));(case aS=>exact(bu zB));(case aL=>have:=d2.out;omega);intro f3 f4 ho hb hg b3;rw[<-d3.out] at ho;replace s:=zA (Kd.qe (ok:=(fun a=>(w.heap.size<=a)/\some a≠(.slice (some ⟨x,0,none⟩) r.length E:Value).ownBlock/\a≠o)) (by(with_reducible repeat(first|apply Kd.eW|apply Kd.gA|apply Kd.gz));exact Kd.eK s.out (fun _ hk=>⟨⟨hk.1.1,⟨hk.2,hk.1.2.2⟩⟩,hk.1.2.1⟩)) hg b3);replace g:=zA (da (zK g) hg (Kd.AL D.out g.out (by decide)));replace T:=zA (Kd.tC (ok:=(fun a=>(w.heap.size<=a)/\some a≠(.slice (some L) i.length F:Value).ownBlock/\some a≠(.slice (some ⟨x,0,none⟩) r.length E:Value).ownBlock/\a≠o)) (by(with_reducible repeat(first|apply Kd.V_alloc|apply Kd.l8|apply Kd.V_drew));exact Kd.tB T.out (fun _ hk=>⟨⟨hk.1.1,⟨hk.1.2.2.1,⟨hk.2,hk.1.2.2.2⟩⟩⟩,hk.1.2.1⟩)) hg b3);replace j:=zA (hb);have es:=zA (ho);clear D u;clear ho hb hg b3))
              go_roundg k2
              case measure=>have:=cb.out;have:=ch.out;omega
              case rel=>exact⟨(ci),(wrap64 (q+1)),zT,G,⟨by have:=cb.out;have:=ch.out;omega⟩,⟨zN es⟩,⟨by(with_reducible repeat(first|apply Kd.eW|apply Kd.gA|apply Kd.gz));exact Kd.eK s.out (fun _ hk=>⟨hk.1.1,⟨hk.2,hk.1.2.2⟩⟩)⟩,⟨zK g⟩,⟨zB⟩⟩
             ·rw[if_neg a0] at H
              exact absurd H (by simp)
            ·rw[if_neg ar] at H
             exact absurd H (by simp)
           ·rw[if_neg ap] at H
            exact absurd H (by simp)
          ·rw[if_neg an] at H
           exact absurd H (by simp)
         ·rw[if_neg am] at H
          exact absurd H (by simp)
        ·rw[if_neg S] at H
         have dv:=a6 S;clear S;simp only[Option.some.injEq,Prod.mk.injEq] at H;obtain⟨rfl,rfl⟩:=H;go_wp2;go_ret2;exact⟨_,zE,by(with_reducible repeat(first|apply Kd.eW|apply Kd.gA|apply Kd.gz));exact Kd.eK D.out (fun _ hk=>hk.1),zB⟩
     ·rw[if_neg X] at H
      obtain⟨cd,ce⟩:=bI X;simp only[Option.some.injEq,Prod.mk.injEq] at H;obtain⟨rfl,rfl⟩:=H;obtain⟨f5,f6,f7,f8⟩:=ax g;go_wp2_with (first|((with_reducible refine aG (f:=56) rfl ?_);refine zL (some 29) Tryz.func56 #[.agg #[.int .i64 n,.slice z m.length B],.int .i64 l] ?_;(with_reducible refine(ga.calls ag n _ _ m l i be _ ?ah ?ai cc.out).mono ?_);(case ah=>exact Kd.aw aa.out zB);(case ai=>exact ab.out);rintro e f9 ⟨dl,rfl,y,hb⟩;refine⟨_,rfl,?_⟩;have bf:=zA (Kd.mS (Kd.eK (ok':=fun a=>(w.heap.size<=a)/\a≠o) y (fun a Y=>⟨(Nat.le_trans (bu zB) Y),(Kd.lT (zK g) a Y)⟩)) (bu zB));replace g:=zb g hb;replace j:=zS j hb;(try clear hb);(try clear y)))
      go_ret2;exact⟨_,zE,by first|exact Kd.gw _ _ _ _ _|exact Kd.gT _ _ _ _ _|exact Kd.V_nil _ _ _ _ _|exact Kd.Q_nil _ _ _ _ _|exact Kd.dh _ _ _ _ _,zB⟩
 ·rw[if_neg c4] at H
  obtain⟨b',ca⟩:=bI c4;simp only[Option.some.injEq,Prod.mk.injEq] at H;obtain⟨rfl,rfl⟩:=H;go_enter Tryz.func15,Tryz.ntmps15
  go_wp2_with (first|((with_reducible refine aJ (N:=2) rfl ?_);refine zX 2 #[.int .i64 n,.slice z m.length B] 24 ?_;intro o hg f' U hb;have g:=zA (U);have c1:=zG j hg;have c2:=zG j hg;replace j:=zS j hb;clear hb U hg;obtain⟨gb,gc,gd,ge⟩:=ax g)|((with_reducible refine aG (f:=55) rfl ?_);refine zL (some 14) Tryz.func55 #[.agg #[.int .i64 n,.slice z m.length B]] ?_;(with_reducible refine(eh.calls k n _ _ m a9 _ ?ah ?ai A3.out).mono ?_);(case ah=>exact Kd.aw aa.out zB);(case ai=>exact ab.out);rintro e gf ⟨rfl,hb⟩;refine⟨_,rfl,?_⟩;replace g:=zb g hb;replace j:=zS j hb;(try clear hb)))
  go_ret2;exact⟨_,zE,by first|exact Kd.gw _ _ _ _ _|exact Kd.gT _ _ _ _ _|exact Kd.V_nil _ _ _ _ _|exact Kd.Q_nil _ _ _ _ _|exact Kd.dh _ _ _ _ _,zB⟩
theorem Gt {l:List (List Int)} {i:Nat} (h:i<l.length):l.drop i=aV l i::l.drop (i+1):=by
 rw[List.drop_eq_getElem_cons h];simp[aV,a7,bK h]
theorem yb {n:Nat} {E:List S83} (a:E.length<=1000) (b:cz n E=0) (hp:partsOf E n=1):Ev (fun k=>eh.f k n E) 0:=by
 unfold eh.f;refine Ev.bind (r7 a b hp) ?_;simp only[if_true];exact Ev.const _
theorem yc {n q:Nat} (b:q<n) (hn:n<=12) (l:List (List Int)) (e:l.length<=100000) (a:∀x∈l,x.length=n):∀(m i:Nat) (o:List (List Int)),i+m=l.length->o.length<=i->Ev (fun k=>bT.l0 k q o l l.length i) (o++(l.drop i).map (fun c=>c.set q (-1)),(0:Int))
 |0,i,o,hi,g=>by
  refine Ev.of_succ ?_;simp only[bT.l0,if_neg (show ¬((i:Int)<(l.length:Int)) by omega)];rw[List.drop_eq_nil_of_le (by omega),List.map_nil,List.append_nil];exact Ev.const _
 |m+1,i,o,hi,g=>by
  have h:aV l i∈l:=by
   have:aV l i=l[i]:=by simp[aV,a7,bK (show i<l.length by omega)]
   rw[this];exact List.getElem_mem _
  have hlen:=a _ h;have j:=yc b hn l e a m (i+1) (o++[(aV l i).set q (-1)]) (by omega) (by simp;omega);refine Ev.of_succ ?_;have p:fF.f (aV l i)=some (aV l i):=if_pos (by omega);simp only[bT.l0,if_pos (show (i:Int)<(l.length:Int) by omega),if_pos (show (0:Int)<=(i:Int) by omega),p,Option.bind_some,if_pos (show (0:Int)<=(q:Int) by omega),if_pos (show (q:Int)<((aV l i).length:Int) by omega),if_pos (show o.length<5864062014805 by omega),aM,d_ (show i<=1000000 by omega)];rw[Gt (show i<l.length by omega),List.map_cons];simpa using j
theorem Gu {n q:Nat} {E:List S83} (h:Small n q E) (a:cz n E=0):Ev (fun k=>bT.f k n E q) ((Small.kG n q E).map (fun c=>c.set q (-1)),(0:Int)):=by
 unfold bT.f;have b:=h.q;have g:=h.n5;have i:=h.len;refine Ev.bind (yb (by omega) a ((jz h.n1 h.right).2 h.conn)) ?_;simp only[if_true,if_neg (show ¬(q:Int)<0 by omega)];refine Ev.of_succ ?_;simp only[bT.j0,a6 (show ¬(q:Int)>=(n:Int) by omega),Bool.false_eq_true,if_false];refine Ev.bind (h.FD (h.DT a)) ?_;simp only[if_true];have j:=h.rB;have hle:(Small.kG n q E).length<=100000:=Nat.le_trans (List.length_filter_le _ _) (by omega);have:=yc b (by omega) (Small.kG n q E) hle (fun x e=>(h.nC (List.mem_filter.1 e).1).1) (Small.kG n q E).length 0 [] (by omega) (by simp);rw[List.drop_zero,List.nil_append] at this;exact this
theorem Curve.gu {n:Nat} {E:List S83} {d:List Int} (h:Curve n E d) (hn:1<=n) {c:List Int} (b:c.length=n) (hb:∀v:Nat,v<n-> -200<=rd c v/\rd c v<=200):dU n 0 E c:=by
 have a:=h.small 0 (by omega);have e:=a.n5;have g:=a.len;have i:=h.val;exact⟨hn,by omega,by omega,by omega,a.right,a.conn,by omega,b,hb⟩
end Go.Proofs.YtffdiakgjakngaaGreat.P


namespace Go.Proofs.YtffdiakgjakngaaGreat.P
open Go.RowKit Go.Proofs.YtffdiakgjakngaaGreatW.PrintWords Go.Proofs.YtffdiakgjakngaaGreatW.PrintLast Go.Proofs.YtffdiakgjakngaaGreatW.PrintMore
set_option linter.unusedVariables false
set_option linter.unusedSimpArgs false
set_option maxHeartbeats 8000000
set_option maxRecDepth 100000
def nU (v:Int) (x:S83):Int:=if x.f0≠x.f1/\(x.f0=v\/x.f1=v) then x.f2 else 0
theorem yd {v:Int} {x:S83} (e:x.f0=x.f1):nU v x=0:=if_neg (fun h=>h.1 e)
theorem ye {v:Int} {x:S83} (e:¬x.f0=x.f1) (h:x.f0=v\/x.f1=v):nU v x=x.f2:=if_pos ⟨e,h⟩
theorem Gv {v:Int} {x:S83} (a:¬x.f0=v) (h1:¬x.f1=v):nU v x=0:=if_neg (fun h=>h.2.elim a h1)
def j9 (v:Nat):List S83->Int
 |[]=>0
 |x::E=>nU v x+j9 v E
theorem sn {n:Nat} {u:Nat} (hu:u<n):∀(E:List S83) (f:Nat->Nat->Int),(∀x∈E,bX n x=true/\x.f0<=x.f1/\(x.f0≠x.f1->f x.f0.toNat x.f1.toNat=0/\f x.f1.toNat x.f0.toNat=0))->E.Pairwise ix->T.val n (E.foldl cV f) u=T.val n f u+j9 u E
 |[],f,_,_=>by simp[j9]
 |x::E,f,h,hp=>by
  obtain⟨l,g⟩:=List.pairwise_cons.1 hp;obtain⟨h1,s,b⟩:=h x (List.mem_cons_self ..);simp[bX] at h1;by_cases e:x.f0=x.f1
  ·rw[List.foldl_cons,show cV f x=f from if_pos e,j9,yd e,Int.zero_add]
   exact sn hu E f (fun y a=>h y (List.mem_cons_of_mem _ a)) g
  ·obtain⟨b,m⟩:=b e
   have o:=val_step_eq (n:=n) (f:=f) (x:=x) (by omega) (by omega) e b m hu;have p:=sn hu E (cV f x) (fun y a=>by
    obtain⟨i,q,j⟩:=h y (List.mem_cons_of_mem _ a);have hb:=l y a;unfold ix at hb;have r:=i;simp[bX] at r;refine⟨i,q,fun k=>?_⟩;unfold cV;rw[if_neg e];refine⟨?_,?_⟩
    ·show (if _ then _ else _)=_
     rw[if_neg (by omega),if_neg (by omega)];exact(j k).1
    ·show (if _ then _ else _)=_
     rw[if_neg (by omega),if_neg (by omega)];exact(j k).2) g
   rw[List.foldl_cons,p,o,j9];unfold nU T.one;by_cases c0:u=x.f0.toNat
   ·rw[if_neg (show ¬u=x.f1.toNat by omega),if_pos c0,if_pos ⟨e,.inl (by omega)⟩];omega
   ·by_cases c1:u=x.f1.toNat
    ·rw[if_pos c1,if_neg c0,if_pos ⟨e,.inr (by omega)⟩];omega
    ·rw[if_neg c1,if_neg c0,if_neg (fun h=>by rcases h.2 with h|h<;>omega)];omega
theorem Gw {n:Nat} {E:List S83} (a:br n E) {v:Nat} (e:v<n):T.val n (af E) v=j9 v E:=by
 have h:=sn e E (fun _ _=>0) (fun x b=>⟨a.ok x b,a.le x b,fun _=>⟨rfl,rfl⟩⟩) a.order;have g:T.val n (fun _ _=>0) v=0:=T.jx n;rw[g,Int.zero_add] at h;exact h
theorem yf {E:List S83} {i:Nat} (h:i<E.length):ae E i∈E:=by
 have e:ae E i=E[i]:=by simp[ae,a7,bK h]
 rw[e];exact List.getElem_mem h
theorem yg {n:Nat} {E:List S83} (h:br n E) (l:E.length<=1000) (v:Nat):∀(m i:Nat) (s:Int),i+m=E.length->0<=s->s<=50*i->Ev (fun k=>cF.l0 k v s E E.length i) (s+j9 v (E.drop i),(0:Int))
 |0,i,s,hi,o,h1=>by
  refine Ev.of_succ ?_;simp only[cF.l0,if_neg (show ¬(i:Int)<E.length by omega),List.drop_of_length_le (show E.length<=i by omega),j9,Int.add_zero];exact Ev.const _
 |m+1,i,s,hi,o,h1=>by
  have b:=fun s=>yg h l v m (i+1) s (by omega)
  have j:=h.ok _ (yf (E:=E) (i:=i) (by omega));simp[bX] at j;refine Ev.of_succ ?_;simp only[cF.l0,if_pos (show (i:Int)<E.length by omega),if_pos (show (0:Int)<=i by omega),d_ (show i<=1000000 by omega)];rw[ng (show i<E.length by omega),j9];generalize ae E i=x at j⊢;have hw:wrap64 (s+x.f2)=s+x.f2:=gX (by omega);by_cases e:x.f0=x.f1
  ·have:=b s (by omega) (by omega)
   rw[yd e,Int.zero_add];simp only[if_pos e];exact this
  ·by_cases a:x.f0=v
   ·have:=b (s+x.f2) (by omega) (by omega)
    rw[ye e (.inl a),<-Int.add_assoc];simp only[if_neg e,if_pos a,hw];exact this
   ·by_cases g:x.f1=v
    ·have:=b (s+x.f2) (by omega) (by omega)
     rw[ye e (.inr g),<-Int.add_assoc];simp only[if_neg e,if_neg a,if_pos g,hw];exact this
    ·have:=b s (by omega) (by omega)
     rw[Gv a g,Int.zero_add];simp only[if_neg e,if_neg a,if_neg g];exact this
theorem Gx {n:Nat} {E:List S83} (b:br n E) (e:E.length<=1000) (g:cz n E=0) {v:Nat} (h:v<n):Ev (fun k=>cF.f k n E v) (T.val n (af E) v,(0:Int)):=by
 unfold cF.f;refine Ev.bind (a:=(0:Int)) ?_ ?_
 ·unfold dq.f
  have h1:=nh n E e;rw[g] at h1;refine Ev.bind h1 ?_;simp only[if_true];refine Ev.of_succ ?_;simp only[dq.l0,List.length_cons,List.length_nil,Nat.zero_add,Int.natCast_one,Int.ofNat_one,if_pos (show (0:Int)<1 by decide),if_pos (show (0:Int)<=0 by decide),show rd [(v:Int)] 0=v from rfl,t_,Option.bind_some,az (show (0:Int)<=v/\(v:Int)<n by omega),if_true];refine Ev.of_succ ?_;rw[show wrap64 (0+1)=1 from gX (x:=1) (by decide)];simp only[dq.l0,if_neg (show ¬(1:Int)<1 by decide)];exact Ev.const _
 ·simp only[if_true]
  have:=yg b e v E.length 0 0 (by omega) (by omega) (by omega);rw[List.drop_zero,Int.zero_add,<-Gw b h] at this;exact this
theorem yh {n:Nat} {E:List S83} (a:br n E) (b:E.length<=1000) (e:cz n E=0):∀v,v<=n->Ev (fun k=>lM k n E v) ((List.range v).map fun u=>T.val n (af E) u)
 |0,_=>Ev.const _
 |v+1,h=>by
  have g:=yh a b e v (by omega);have i:=Gx a b e (v:=v) (by omega);simp only[lM];refine Ev.bind g ?_;refine Ev.bind i ?_;rw[List.range_succ,List.map_append];exact Ev.const _
def ff (n:Nat) (E:List S83):List Int:=(List.range n).map fun u=>T.can n (af E) u
theorem so {n:Nat} {E:List S83} {v:Nat} (a:v<n):rd (ff n E) (v:Int)=T.can n (af E) v:=by
 simp[ff,rd,a7,a]
theorem Gy {n:Nat} {E:List S83} (hn:1<=n) (i:n<=12) (e:E.length<=1000) (b:cz n E=0) (hp:partsOf E n=1) (g:∀v:Nat,v<n->0<=T.val n (af E) v/\T.val n (af E) v<=1000):Ev (fun k=>eB.f k n E) (ff n E,(0:Int)):=by
 unfold eB.f;refine Ev.bind (yb e b hp) ?_;simp only[if_true];refine Ev.bind (a:=ff n E) ?_ (Ev.const _);unfold ji.f;simp only[if_pos (show (1:Int)<=n/\(n:Int)<=1000 by omega),aM];refine Ev.bind (yh (gE b).2.2 e b n (aI _)) ?_;rw[show j8 ((List.range n).map fun u=>T.val n (af E) u) n n=ff n E from by
  unfold j8 ff;refine List.map_congr_left fun u hu=>?_
  have hu:=List.mem_range.1 hu;have h:=g u hu;rw[if_pos hu,show rd ((List.range n).map fun u=>T.val n (af E) u) (u:Int)=T.val n (af E) u by simp[rd,a7,hu]];unfold T.can;exact gX (by omega)]
 exact Ev.const _
def jk.f (k:Nat) (a:Int) (b:List (S83)) (l1:List Int):Option (Bool):=(ie.f k a b).bind fun e=>(if e=0 then((c_.f k l1 a).bind fun g=>(if g=0 then((fa.f k a b l1 5).bind fun h=>(some h)) else(some false))) else(some false))
theorem jk.calls (k:Nat) (i:Int) (l:Option Addr) (m:Nat) (b:List (S83)) (z:Option Addr) (c1:Nat) (l1:List Int) (r:Bool) (w:World) (B:Kd.C aN w l b.length b) (D:b.length<=m) (E:Kd.C (Kd.int .i64) w z l1.length l1) (F:l1.length<=c1) (h:jk.f k i b l1=some r):
  Calls Tryz.prog 29 #[.agg #[.int .i64 i,.slice l b.length m],.slice z l1.length c1] w fun e w'=>e= .returned (.bool r)/\Below w.heap.size w w':=by
 have T:=Tryz.underlying24;have p:=zA B;have q:=zA D;clear B D;have u:=zA E;have v:=zA F;clear E F;have a:=zA (aq w.heap.size w);unfold jk.f at h;have H:=h;clear h;obtain⟨s,x,H⟩:=zo H;by_cases c4:s=0
 ·rw[if_pos c4] at H
  obtain⟨L,M⟩:=bH c4;clear c4;obtain⟨y,G,H⟩:=zo H;by_cases o:y=0
  ·rw[if_pos o] at H
   obtain⟨O,P⟩:=bH o;clear o;obtain⟨Q,R,H⟩:=zo H;obtain rfl:=aH H;go_enter Tryz.func29,Tryz.ntmps29
   go_wp2_with (first|((with_reducible refine aJ (N:=2) rfl ?_);refine zX 2 #[.int .i64 i,.slice l b.length m] 24 ?_;intro I j U n hb;have g:=zA (n);have J:=zG a j;have K:=zG a j;replace a:=zS a hb;clear hb n j;obtain⟨V,W,X,Y⟩:=ax g)|((with_reducible refine aG (f:=48) rfl ?_);refine zL (some 6) Tryz.func48 #[.agg #[.int .i64 i,.slice l b.length m]] ?_;(with_reducible refine(ie.calls k i _ _ b s _ ?ah ?ai x.out).mono ?_);(case ah=>exact Kd.aw p.out zB);(case ai=>exact q.out);rintro e Z ⟨rfl,hb⟩;refine⟨_,rfl,?_⟩;replace g:=zb g hb;replace a:=zS a hb;(try clear hb);obtain⟨aa,ab,ad,ag⟩:=ax g)|(go_at_call 42;(with_reducible refine(c_.calls k _ _ l1 i y _ ?ah ?ai G.out).mono ?_);(case ah=>exact Kd.aw u.out zB);(case ai=>exact v.out);rintro e w' ⟨rfl,⟨S,rfl⟩⟩)|(go_at_call 25;(with_reducible refine(fa.calls k i _ _ b _ _ l1 5 Q _ ?ah ?ai ?aW ?aX R.out).mono ?_);(case ah=>exact Kd.aw p.out zB);(case ai=>exact q.out);(case aW=>exact Kd.aw u.out zB);(case aX=>exact v.out);rintro e ak ⟨rfl,hb⟩;replace g:=zb g hb;replace a:=zS a hb;(try clear hb)))
   go_ret;exact⟨zE,zB⟩
  ·rw[if_neg o] at H
   obtain⟨O,P⟩:=bI o;obtain rfl:=aH H;go_enter Tryz.func29,Tryz.ntmps29
   go_wp2_with (first|((with_reducible refine aJ (N:=2) rfl ?_);refine zX 2 #[.int .i64 i,.slice l b.length m] 24 ?_;intro I j am n hb;have g:=zA (n);have J:=zG a j;have K:=zG a j;replace a:=zS a hb;clear hb n j;obtain⟨an,ap,ar,av⟩:=ax g)|((with_reducible refine aG (f:=48) rfl ?_);refine zL (some 6) Tryz.func48 #[.agg #[.int .i64 i,.slice l b.length m]] ?_;(with_reducible refine(ie.calls k i _ _ b s _ ?ah ?ai x.out).mono ?_);(case ah=>exact Kd.aw p.out zB);(case ai=>exact q.out);rintro e aB ⟨rfl,hb⟩;refine⟨_,rfl,?_⟩;replace g:=zb g hb;replace a:=zS a hb;(try clear hb);obtain⟨aF,aL,aO,aP⟩:=ax g)|(go_at_call 42;(with_reducible refine(c_.calls k _ _ l1 i y _ ?ah ?ai G.out).mono ?_);(case ah=>exact Kd.aw u.out zB);(case ai=>exact v.out);rintro e w' ⟨rfl,⟨S,rfl⟩⟩))
   go_ret;exact⟨zE,zB⟩
 ·rw[if_neg c4] at H
  obtain⟨L,M⟩:=bI c4;obtain rfl:=aH H;go_enter Tryz.func29,Tryz.ntmps29
  go_wp2_with (first|((with_reducible refine aJ (N:=2) rfl ?_);refine zX 2 #[.int .i64 i,.slice l b.length m] 24 ?_;intro I j aS n hb;have g:=zA (n);have J:=zG a j;have K:=zG a j;replace a:=zS a hb;clear hb n j;obtain⟨a0,a1,a2,a3⟩:=ax g)|((with_reducible refine aG (f:=48) rfl ?_);refine zL (some 6) Tryz.func48 #[.agg #[.int .i64 i,.slice l b.length m]] ?_;(with_reducible refine(ie.calls k i _ _ b s _ ?ah ?ai x.out).mono ?_);(case ah=>exact Kd.aw p.out zB);(case ai=>exact q.out);rintro e a4 ⟨rfl,hb⟩;refine⟨_,rfl,?_⟩;replace g:=zb g hb;replace a:=zS a hb;(try clear hb)))
  go_ret;exact⟨zE,zB⟩
section
theorem Gz {n:Nat} (h1:1<=n) (hn:n<=12) {x d:List Int} (h:x.length=n) (hd:d.length=n) (i:∀v:Nat,v<n-> -2000<=rd x v/\rd x v<=2000) (j:∀v:Nat,v<n-> -2000<=rd d v/\rd d v<=2000):Ev (fun k=>iH.f k x d) (dz x d,(0:Int)):=by
 have l:∀c:List Int,c.length=n->(∀v:Nat,v<n-> -4000<=rd c v/\rd c v<=4000)->c.all cI=true:=fun c w hb=>by
  refine List.all_eq_true.2 fun y o=>?_
  obtain⟨v,g,rfl⟩:=List.getElem_of_mem o;have p:=hb v (by omega);have e:rd c (v:Int)=c[v]:=by simp[rd,a7,bK g]
  rw[e] at p;unfold cI;exact az (by omega)
 have q:gj x x.length=0:=by rw[h];exact nP h1 hn h (fun v g=>by have:=i v g;omega)
 have e2:gj d d.length=0:=by rw[hd];exact nP h1 hn hd (fun v g=>by have:=j v g;omega)
 have m:=E4 x d (by omega) (by omega);have r:pD x d=0:=by unfold pD;rw[if_pos q,if_pos e2,if_pos (by omega)]
 rw[r] at m;unfold iH.f;refine Ev.bind m ?_;have s:nO x d=true:=by
  unfold nO;rw[l x h (fun v g=>by have:=i v g;omega),l d hd (fun v g=>by have:=j v g;omega),az ⟨by omega,by omega,by omega⟩];rfl
 have u:(dz x d).all cI=true:=l _ (by unfold dz;rw[pG];exact h) (fun v g=>by
  rw[pH (by omega)];have a:=i v g;have b:=j v g;omega)
 simp only[if_true,if_pos s,if_pos u];exact Ev.const _
theorem yi (c:List Int) (b:c.length<=12) (hb:∀v:Nat,v<c.length-> -2000<=rd c v/\rd c v<=2000):∀(m i:Nat),i+m=c.length->Ev (fun k=>eu.l0 k c (T.sN (fun v=>rd c (v:Nat)) i) i) (T.sN (fun v=>rd c (v:Nat)) c.length)
 |0,i,hi=>by
  obtain rfl:i=c.length:=by omega
  refine Ev.of_succ ?_;simp only[eu.l0,if_neg (show ¬((c.length:Int)<(c.length:Int)) by omega)];exact Ev.const _
 |m+1,i,hi=>by
  have a:=yi c b hb m (i+1) (by omega);have e:∀j,j<=c.length-> -(2000*j:Int)<=T.sN (fun v=>rd c (v:Nat)) j/\T.sN (fun v=>rd c (v:Nat)) j<=2000*j:=fun j=>by
   induction j with
   |zero=>intro _;simp[T.sN]
   |succ j g=>
    intro l;have h1:=g (by omega);have h:=hb j (by omega);rw[T.eN];omega
  have h1:=e i (by omega);have h:=hb i (by omega);refine Ev.of_succ ?_;simp only[eu.l0,if_pos (show (i:Int)<(c.length:Int) by omega),if_pos (show (0:Int)<=(i:Int) by omega),d_ (show i<=1000000 by omega),gX (show -1000000000<=T.sN (fun v=>rd c (v:Nat)) i+rd c i/\T.sN (fun v=>rd c (v:Nat)) i+rd c i<=1000000000 by omega)];rw[T.eN] at a;exact a
theorem GA (c:List Int) (a:c.length<=12) (hb:∀v:Nat,v<c.length-> -2000<=rd c v/\rd c v<=2000):Ev (fun k=>eu.f k c) (T.sN (fun v=>rd c (v:Nat)) c.length):=by
 unfold eu.f;exact yi c a hb c.length 0 (by omega)
theorem Curve.yj {n:Nat} {E:List S83} {d:List Int} (h:Curve n E d) (hn:1<=n) {c:List Int} (v:Nat) (a:v<n):rd (dz (ff n E) c) (v:Int)=T.can n (af E) v-rd c v:=by
 rw[pH (by simpa [ff] using a),so a]
theorem Curve.GB {n:Nat} {E:List S83} {d:List Int} (h:Curve n E d) (hn:1<=n) {c:List Int}:(dz (ff n E) c).length=n:=by unfold dz;rw[pG];simp[ff]
namespace Curve
variable {n:Nat} {E:List S83} {d:List Int} (h:Curve n E d) (hn:1<=n)
include h hn
theorem facts:n<=5/\E.length<=40/\br n E/\fl n E/\partsOf E n=1:=by
 have a:=h.small 0 (by omega);exact⟨a.n5,a.len,a.right,a.conn,(jz hn a.right).2 a.conn⟩
theorem yk:∀v:Nat,v<n->0<=T.val n (af E) v/\T.val n (af E) v<=14:=fun v a=>by
 have e:=(h.facts hn).2.2.1.wt;have b:∀u,u<n->0<=T.val n (af E) u:=fun u hu=>T.dy fun w _=>e.pos _ _
 have h1:=T.gD a b;have g:=h.val;exact⟨b v a,by omega⟩
theorem yl:∀v:Nat,v<n-> -2<=rd (ff n E) v/\rd (ff n E) v<=12:=fun v a=>by
 have h1:=h.yk hn v a;rw[so a];unfold T.can;omega
theorem GC:Ev (fun k=>eB.f k n E) (ff n E,(0:Int)):=by
 obtain⟨f1,f2,f3,f4,f5⟩:=h.facts hn;exact Gy hn (by omega) (by omega) h.check f5 (fun v a=>by have:=h.yk hn v a;omega)
theorem GD {c:List Int} (b:c.length=n) (hb:∀v:Nat,v<n-> -1000<=rd c v/\rd c v<=1000):Ev (fun k=>dW.f k n E c) (dz (ff n E) c,(0:Int)):=by
 obtain⟨f1,f2,f3,f4,f5⟩:=h.facts hn;unfold dW.f;refine Ev.bind (h.GC hn) ?_;simp only[if_true];have hk:=lE c n (by omega);rw[nP hn (by omega) b (fun v a=>by have:=hb v a;omega)] at hk;refine Ev.bind hk ?_;simp only[if_true];refine Ev.bind (Gz hn (by omega) (x:=ff n E) (d:=c) (by simp[ff]) b (fun v a=>by have:=h.yl hn v a;omega) (fun v a=>by have:=hb v a;omega)) ?_;exact Ev.const _
theorem GF:∃g:Nat,Ev (fun k=>fc.f k n (dD E)) ((g:Int),(0:Int))/\T.dF n (af E) g:=by
 obtain⟨f1,f2,f3,f4,f5⟩:=h.facts hn;exact Gd hn (by omega) f2 h.check f4
end Curve
theorem GG (N:Int) (E:List S83) (a:E.length<=9223372036854775807) (d:List Int):∃b,Ev (fun k=>jk.f k N E d) b/\(b=true->∃n:Nat,N=n/\1<=n/\Curve n E d):=by
 unfold jk.f;exact F4 N E a d 5
end
section
attribute [local go_sem] Oper.semAt_some
theorem GH (A:Option Addr) (n c:Nat) (ba:Int) (w:World):Calls Tryz.prog 182 #[.slice A n c,.int .i64 ba] w fun e w'=>e= .returned (.func (.func 202) #[] #[.pointer (some ⟨w.heap.size,0,none⟩),.pointer (some ⟨w.heap.size+1,0,none⟩)])/\w'=(w.alloc (.cells #[.slice A n c] 33)).alloc (.cells #[.int .i64 ba] 3):=by
 go_enter Tryz.func182,Tryz.ntmps182
 go_wp2;go_ret;exact⟨rfl,rfl⟩
def ka (ba:Int) (c:List Int):Int:=c.foldl (fun s x=>wrap64 (s-x)) ba
def cS (ba:Int) (c:List Int):List Int:=c.set 0 (ka ba (c.drop 1))
theorem GI (ba:Int) (c:List Int) (x:Int):ka ba (c++[x])=wrap64 (ka ba c-x):=by simp[ka,List.foldl_append]
theorem GJ (ba:Int) {c:List Int} {j:Nat} (h:j<c.length-1):ka ba ((c.drop 1).take (j+1))=wrap64 (ka ba ((c.drop 1).take j)-c.getD (j+1) 0):=by
 rw[List.take_succ_eq_append_getElem (by simpa using h),GI,List.getElem_drop,a7,bK (show j+1<c.length by omega)];simp[Nat.add_comm]
theorem sr {W:World} {e base:Nat} {ok:Nat->Prop} {A:Option Addr} {cap:Nat} {L:List (List Int)} (h:Kd.N (Kd.slice 3 (Kd.int .i64)) e W base ok (.slice A L.length cap) L) (i:Nat) (hi:i<L.length):
  ∃g a cc,A=some ⟨g,0,none⟩/\W.cell? ⟨g,i,none⟩=some (.slice a (L.getD i []).length cc)/\(L.getD i []).length<=cc/\Kd.F (Kd.int .i64) W ok a (L.getD i []).length (L.getD i []):=by
 have hC:=(Kd.jo h).2.2;obtain⟨ad,he,_⟩:=hC.2.2 (by omega);subst he;obtain⟨g,rfl⟩:∃g,ad=⟨g,0,none⟩:=by
  obtain⟨_,rows,_,j,_⟩:=h;exact Kd.lV j
 obtain⟨ce,o,k,l⟩:=Kd.oE h [] (i:Int) (by omega) (by omega);obtain⟨m,n,rfl,ul,ge⟩:=Kd.kU k;have b:=l 0 _ rfl;rw[Nat.add_zero,show ((Kd.slice 3 (Kd.int .i64))).sz=1 from rfl,Nat.mul_one,aM,add_plain] at b;rw[aM] at ul ge;exact⟨g,m,n,rfl,b,ul,Kd.oA ge (fun _ hk=>hk.1)⟩
theorem GK {W:World} {e base:Nat} {ok:Nat->Prop} {v:Value} {xs:List Int} (h:(Kd.int .i64).R e W base ok v xs) (hp:0<xs.length):∃g c,v= .slice (some ⟨g,0,none⟩) xs.length c:=by
 obtain⟨A,c,rfl⟩:=Kd.bm h;obtain⟨ad,he,_⟩:=(Kd.aQ h).2.2.2.2 hp;subst he;obtain⟨g,rfl⟩:=Kd.lV h;exact⟨g,c,rfl⟩
theorem GL {c:List Int} {x:Int} (h:0<c.length):bW 0 (c.set 0 x) 0=x:=by
 cases c with
 |nil=>simp at h
 |cons a c=>rfl
theorem GM {W:World} {ok:Nat->Prop} {A:Option Addr} {c:List Int} (h:Kd.F (Kd.int .i64) W ok A c.length c) (hp:0<c.length):∃ad,A=some ad:=by
 obtain⟨ad,he,_⟩:=(Kd.il h).2.2 hp;exact⟨ad,he⟩
theorem GN {W:World} {ad:Addr} {c:List Int} (h:(Kd.int .i64).C W (some ad) c.length c) {j:Nat} (a:j<c.length-1):W.cell? ⟨ad.block,ad.off+1+j,none⟩=some (.int .i64 (c.getD (j+1) 0)):=by
 have h1:=Kd.AX h ((j+1:Nat):Int) (by omega) (by omega);rw[aM] at h1;have e:ad.add (j+1)=⟨ad.block,ad.off+1+j,none⟩:=by unfold Addr.add;rw[if_neg (by omega)];simp only[Addr.mk.injEq,and_true,true_and];omega
 rw[e] at h1;simpa [rd] using h1
def GO (b0 b1 a gd:Nat) (X Y:World):Prop:=∀k,(b0<=k/\k<b1\/k=a\/k=gd)->k<X.heap.size->Y.heap[k]? =X.heap[k]?
theorem GQ (a gd b0 b1 n:Nat) (s:Option Addr) (cl base:Nat) (L:List (List Int)) (ba:Int) (W:World) (b6:b1<=a) (hg:a<gd) (hn:2<=n) (b':n<=12) (hL:∀c∈L,c.length=n) (ca:L.length<=16384)
  (hR:Kd.N (Kd.slice 3 (Kd.int .i64)) 26 W base (fun k=>b0<=k/\k<b1) (.slice s L.length cl) L)
  (H:W.heap[a]? =some (.cells #[.slice s L.length cl] 33 (0,0))) (ag:W.heap[gd]? =some (.cells #[.int .i64 ba] 3 (0,0))):
  iV (σ:=Unit) Fence.wide 9 Tryz.prog 202 #[.pointer (some ⟨a,0,none⟩),.pointer (some ⟨gd,0,none⟩)] (fun x:List Int×Value=>#[x.2]) (fun _ W W1=>W1=W) (fun _ A B=>Below A.heap.size A B) (fun _ x A B=>(∃c,c∈L/\x.1=cS ba c)/\(Kd.int .i64).R 3 B A.heap.size (fun _=>True) x.2 x.1/\Below A.heap.size A B)
   (fun _ X Y=>GO b0 b1 a gd X Y)
   (fun _ xs W'=>xs.map Prod.fst=L.map (cS ba)) (fun _ _ _=>True) (fun pre=>pre.length<L.length) W:=by
 intro lp J Jx ak am an ap;have be:=zA ak;have cd:=zA am;have hY:=zA ap;have HL:=zA hL;have ar:=an () W rfl;clear ak am an ap hL;refine callsIn_of_wp Tryz.func202 rfl trivial ?_ rfl;simp only[Tryz.ntmps202,List.size_toArray,List.length_cons,List.length_nil,Nat.reduceAdd,Nat.reduceSub,Array.replicate_succ,Array.replicate_zero,List.push_toArray,List.append_toArray,List.nil_append,List.cons_append];have x0:W.cell? ⟨a,0,none⟩=some (.slice s L.length cl):=(aj H 0).trans rfl;have b:=zA H;have o:=zA ag;have h:=zA hR;have ce:L.length<=9223372036854775807:=by omega
 clear H ag hR;gi_wp2;clear x0;gi_loopg [11] (L.length) (fun I i wr=>∃(v:Nat) (xs:List (List Int×Value)),i= .int .i64 v/\v<=L.length/\Aside0 (J () xs wr)/\Aside0 (xs.map Prod.fst=(L.take v).map (cS ba))/\Aside0 (wr.heap[a]? =some (.cells #[.slice s L.length cl] 33 (0,0)))/\Aside0 (wr.heap[gd]? =some (.cells #[.int .i64 ba] 3 (0,0)))/\Aside0 (Kd.N (Kd.slice 3 (Kd.int .i64)) 26 wr base (fun k=>b0<=k/\k<b1) (.slice s L.length cl) L)/\Aside0 (I=L.length-v))
 case atStart=>exact⟨0,[],rfl,Nat.zero_le _,⟨ar⟩,⟨rfl⟩,b,o,h,⟨rfl⟩⟩
 case round=>
  clear ar b o h;obtain⟨v,xs,rfl,hv,y,K,b,o,h,HK⟩:=hrel;by_cases l:v<L.length
  ·have ch:(0:Int)<=(v:Int):=by omega
   have ci:(v:Int)<(L.length:Int):=by omega
   obtain⟨g,Ac,cc,rfl,y1,y2,u⟩:=sr h.out v l;have aF:=HL.out (L.getD v []) (by rw[a7,bK l];exact List.getElem_mem l);have aL:=zA (show (L.take (v+1)).map (cS ba)=(L.take v).map (cS ba)++[cS ba (L.getD v [])] by rw[List.take_succ_eq_append_getElem l,List.map_append,a7,bK l];rfl);have aO:=zA (show L.getD v []∈L by rw[a7,bK l];exact List.getElem_mem l);generalize L.getD v []=c at y1 y2 u aF aL aO;subst aF;obtain⟨ad,rfl⟩:=GM u (by omega);have M:=zA u;have ck:=Kd.AD u;have bn:Aside0 (∀W,(Kd.int .i64).C W (some ad) c.length c->Calls Tryz.prog 57 #[.slice (some ad) c.length cc] W fun e w'=>∃aP:Value,e= .returned (aP)/\Kd.R (Kd.int .i64) 3 w' W.heap.size (fun _=>True) aP c/\Below W.heap.size W w'):=⟨fun W hC=>fF.calls (some ad) cc c c W hC y2 (by unfold fF.f clone.f;rw[if_pos (by omega)])⟩;clear u;have cn:(0:Int)<(c.length:Int):=by omega
   have co:(1:Int)<=(c.length:Int):=by omega
   have cq:¬cc=1:=by omega
   gi_wp2_with (refine⟨trivial,?_⟩;gi_at_call 57;refine(callsIn_wide.2 (bn.out _ (Kd.il M.out))).mono ?_;rintro e w3 ⟨vd,rfl,z,m⟩;obtain⟨g0,c0,rfl⟩:=GK z (by omega);have O:=zA z;have P:=zA (be.out () _ _ _ y.out m);have Q:=zA (aE b.out m);have D:=zA (aE o.out m);have S:=zA (Kd.gy h.out m);have bo:=zA (Kd.lX M.out m);have aS:=zA m;have z1:w3.cell? ⟨gd,0,none⟩=some (.int .i64 ba):=(aj D.out 0).trans rfl;obtain⟨z2,z3⟩:=Kd.b7 0 z (0:Int) (by omega) (by omega);simp only[Int.toNat_zero] at z2 z3;clear z m y1)
   have a0:=zA (show wr.heap.size<=g0 from Kd.dY O.out g0 rfl);have cs:=zA (aA b.out);have E:=zA (Kd.dt O.out 0 ba).1;have T:=zA (Below.setCell (p:=⟨g0,0,none⟩) aS.out a0.out (.int .i64 ba));simp only[Int.toNat_zero] at E;clear P Q D S bo aS O z1 z2 z3;generalize w3.setCell ⟨g0,0,none⟩ (.int .i64 ba)=w4 at E T⊢;obtain⟨q,rfl⟩:∃q:World,q=wr:=⟨_,rfl⟩;gi_loopg [23] (c.length-1) (fun I i wi=>∃j:Nat,i= .int .i64 j/\j<=c.length-1/\Aside0 (Kd.R (Kd.int .i64) 3 wi q.heap.size (fun _=>True) (.slice (some ⟨g0,0,none⟩) c.length c0) (c.set 0 (ka ba ((c.drop 1).take j))))/\Aside0 (Below q.heap.size q wi)/\Aside0 (I=c.length-1-j))
   case atStart=>exact⟨0,rfl,Nat.zero_le _,E,T,⟨rfl⟩⟩
   case round=>
    clear E T;obtain⟨j,rfl,hj,w,r,bv⟩:=hrel;by_cases a1:j<c.length-1
    ·have c1:(0:Int)<=(j:Int):=by omega
     have c2:(j:Int)<((c.length-1:Nat):Int):=by omega
     have z1:=GN (Kd.il (Kd.lX M.out r.out)) a1;obtain⟨z2,z3⟩:=Kd.b7 0 w.out (0:Int) (by omega) (by simp;omega);rw[GL (by omega)] at z2;simp only[Int.toNat_zero] at z2 z3;have U:=zA (GJ ba a1);have F:=zA (Kd.dt w.out 0 (wrap64 (ka ba ((c.drop 1).take j)-c.getD (j+1) 0))).1;have V:=zA (Below.setCell (p:=⟨g0,0,none⟩) r.out a0.out (.int .i64 (wrap64 (ka ba ((c.drop 1).take j)-c.getD (j+1) 0))));simp only[Int.toNat_zero,List.set_set] at F;rw[<-U.out] at F;rw[<-U.out] at V;gi_wp2;gi_roundg (c.length-1- (j+1))
     case measure=>rw[bv.out];omega
     case rel=>
      have e:=U.out;rw[List.drop_one,a7] at e;rw[List.drop_one] at F V;rw[<-e];exact⟨j+1,by go_num,by omega,by rw[List.drop_one];exact F,V,⟨rfl⟩⟩
    ·obtain rfl:j=c.length-1:=by omega
     rw[List.take_of_length_le (by simp)] at w;have a2:Aside0 (Kd.R (Kd.int .i64) 3 wr q.heap.size (fun _=>True) (.slice (some ⟨g0,0,none⟩) c.length c0) (cS ba c)):=w;have c3:xs.length=v:=by have:=congrArg List.length K.out;simp at this;omega
     obtain⟨fn,tmps,c4,c5,Z,a3⟩:=hY.out () xs (cS ba c,.slice (some ⟨g0,0,none⟩) c.length c0) _ _ y.out ⟨⟨c,aO.out,rfl⟩,a2.out,r.out⟩ (by omega);have bw:=zA a3;have a4:=zA (aE b.out r.out);have a5:=zA (aE o.out r.out);have bx:=zA (Kd.gy h.out r.out);have b2:=zA (aA a5.out);have b3:=zA (aA a4.out);simp only at Z;clear a3 y b o h w a2;gi_wp2;refine bw.out.mono ?_;rintro e W3 (⟨rfl,a9,G⟩|⟨rfl,bd⟩)
     ·have P:=zA a9
      have Q:=zA ((G a (.inr (.inl rfl)) b3.out).trans a4.out);have D:=zA ((G gd (.inr (.inr rfl)) b2.out).trans a5.out);have S:=zA (Kd.mT bx.out (fun k hk b4=>G k (.inl hk) b4));clear a9 G Z;gi_wp2;gi_roundg (L.length- (v+1))
      case measure=>rw[HK.out];omega
      case rel=>exact⟨v+1,xs++[(cS ba c,.slice (some ⟨g0,0,none⟩) c.length c0)],by go_num,by omega,P,⟨by rw[aL.out,List.map_append,K.out];rfl⟩,Q,D,S,⟨rfl⟩⟩
     ·have b5:=zA bd
      clear bd Z;gi_wp2;refine bodyPost_ret (results_none rfl _ _ _) rfl ?_;exact⟨⟨_,rfl⟩,.inr ⟨(),_,trivial,b5.out⟩⟩
  ·obtain rfl:v=L.length:=by omega
   gi_wp2;go_end0;exact⟨⟨_,rfl⟩,.inl ⟨(),xs,by rw[K.out,List.take_length],y.out⟩⟩
end
def dx.l0:Nat->List Int->List Int->List Int->Int->Int->Option (Int)
 |0,_,_,_,_,_=>none
 |k+1,e,x1,b,g,a=>if a<g then(if 0<=a then(if a<(b.length:Int) then(if a>=(x1.length:Int) then(some 1) else(if a<(x1.length:Int) then((iw.f (rd b a) (rd x1 a)).bind fun h=>(if h=0 then(dx.l0 k e x1 b g (wrap64 (a+1))) else(some h))) else(none))) else(none)) else(none)) else(if(e.length:Int)<(x1.length:Int) then(some (-1)) else(some 0))
def dx.f (k:Nat) (l0:List Int) (l1:List Int):Option (Int):=dx.l0 k l0 l1 l0 (l0.length:Int) 0
theorem dx.cy:∀k,(∀a b e g i,al (dx.l0 k a b e g i) (dx.l0 (k+1) a b e g i))
 |0=>fun _ _ _ _ _ r h=>by simp[dx.l0] at h
 |k+1=>by
  have j:=dx.cy k
  ·intro a b e g i
   unfold dx.l0;with_reducible repeat' first|exact j _ _ _ _ _|exact al.refl _|exact al.none _|refine al.ite ?_ ?_|refine al.bind ?_ (fun _=>?_)
theorem dx.mono:∀a0 a k,al (dx.f k a0 a) (dx.f (k+1) a0 a):=by
 intro a0 a k;have b:=dx.cy k;unfold dx.f;with_reducible repeat' first|exact b _ _ _ _ _|exact al.refl _|exact al.none _|refine al.ite ?_ ?_|refine al.bind ?_ (fun _=>?_)
theorem dx.calls (k:Nat) (A0:Option Addr) (c0:Nat) (l0:List Int) (z:Option Addr) (c1:Nat) (l1:List Int) (r:Int) (w:World) (B:Kd.C (Kd.int .i64) w A0 l0.length l0) (D:l0.length<=c0) (E:Kd.C (Kd.int .i64) w z l1.length l1) (F:l1.length<=c1) (h:dx.f k l0 l1=some r):
  Calls Tryz.prog 51 #[.slice A0 l0.length c0,.slice z l1.length c1] w fun e w'=>e= .returned (.int .i64 r)/\aC w w':=by
 have u:=zA B;have X:=zA D;clear B D;have G:=zA E;have Y:=zA F;clear E F;have H:(dx.l0 k l0 l1 l0 (l0.length:Int) 0)=some r:=h;clear h;have p:=zA H;clear H;go_enter Tryz.func51,Tryz.ntmps51
 go_wp2;go_loopg [11] k (fun I v11 w'=>∃(a:Int),v11= .int .i64 a/\Aside0 (dx.l0 I l0 l1 l0 (l0.length:Int) a=some r)/\Aside0 (I<=k)/\aC w w')
 case atStart=>exact⟨(0),zT,p,⟨aI _⟩,by repeat(first|exact aC.refl _|apply aC.step)⟩
 case round=>
  clear p;obtain⟨a,rfl,v,J,⟨m1,rfl⟩⟩:=hrel;cases gk with
  |zero=>exact absurd v.out (by simp[dx.l0])
  |succ N=>
   have H:=v.out;clear v;simp only[dx.l0] at H;by_cases c3:a<(l0.length:Int)
   ·rw[if_pos c3] at H
    have O:=az c3;clear c3;by_cases c4:0<=a
    ·rw[if_pos c4] at H
     have Z:=az c4;clear c4;by_cases q:a<(l0.length:Int)
     ·rw[if_pos q] at H
      have aa:=az q;clear q;by_cases m:a>=(l1.length:Int)
      ·rw[if_pos m] at H
       have P:=az m;clear m;obtain rfl:=aH H;have b:0<=(a:Int):=ay ‹_›;have g:a<(l0.length:Int):=ay ‹_›;obtain⟨K,n,L⟩:=Kd.bU u.out a b g;cases n;replace b:=eq_true b;replace g:=eq_true g;go_wp2;go_ret;exact⟨zT,by repeat(first|exact aC.refl _|apply aC.step)⟩
      ·rw[if_neg m] at H
       have P:=a6 m;clear m;by_cases s:a<(l1.length:Int)
       ·rw[if_pos s] at H
        have ab:=az s;clear s;obtain⟨x,M,H⟩:=zo H;by_cases o:x=0
        ·rw[if_pos o] at H
         obtain⟨Q,R⟩:=bH o;clear o;have p:=zA H;clear H;have b:0<=(a:Int):=ay ‹_›;have g:a<(l0.length:Int):=ay ‹_›;obtain⟨K,n,L⟩:=Kd.bU u.out a b g;cases n;replace b:=eq_true b;replace g:=eq_true g;have j:0<=(a:Int):=ay ‹_›;have l:a<(l1.length:Int):=ay ‹_›;obtain⟨S,y,T⟩:=Kd.bU G.out a j l;cases y;replace j:=eq_true j;replace l:=eq_true l;go_wp2_with (first|((with_reducible refine aG (f:=107) rfl ?_);refine zL (some 26) Tryz.func107 #[.int .i64 (rd l0 a),.int .i64 (rd l1 a)] ?_;(with_reducible refine(iw.calls (rd l0 a) (rd l1 a) x _ M.out).mono ?_);rintro e w' ⟨rfl,⟨U,rfl⟩⟩;refine⟨_,rfl,?_⟩))
         go_roundg N
         case measure=>have:=J.out;omega
         case rel=>exact⟨(wrap64 (a+1)),zT,p,⟨by have:=J.out;omega⟩,by repeat(first|exact aC.refl _|apply aC.step)⟩
        ·rw[if_neg o] at H
         obtain⟨Q,R⟩:=bI o;obtain rfl:=aH H;have b:0<=(a:Int):=ay ‹_›;have g:a<(l0.length:Int):=ay ‹_›;obtain⟨K,n,L⟩:=Kd.bU u.out a b g;cases n;replace b:=eq_true b;replace g:=eq_true g;have j:0<=(a:Int):=ay ‹_›;have l:a<(l1.length:Int):=ay ‹_›;obtain⟨S,y,T⟩:=Kd.bU G.out a j l;cases y;replace j:=eq_true j;replace l:=eq_true l;go_wp2_with (first|((with_reducible refine aG (f:=107) rfl ?_);refine zL (some 26) Tryz.func107 #[.int .i64 (rd l0 a),.int .i64 (rd l1 a)] ?_;(with_reducible refine(iw.calls (rd l0 a) (rd l1 a) x _ M.out).mono ?_);rintro e w' ⟨rfl,⟨U,rfl⟩⟩;refine⟨_,rfl,?_⟩))
         go_ret;exact⟨zT,by repeat(first|exact aC.refl _|apply aC.step)⟩
       ·rw[if_neg s] at H
        exact absurd H (by simp)
     ·rw[if_neg q] at H
      exact absurd H (by simp)
    ·rw[if_neg c4] at H
     exact absurd H (by simp)
   ·rw[if_neg c3] at H
    have O:=a6 c3;clear c3;by_cases i:(l0.length:Int)<(l1.length:Int)
    ·rw[if_pos i] at H
     have V:=az i;have W:decide (l0.length<l1.length)=true:=az (Int.ofNat_lt.mp i);clear i;obtain rfl:=aH H;go_wp2;go_ret;exact⟨zT,by repeat(first|exact aC.refl _|apply aC.step)⟩
    ·rw[if_neg i] at H
     have V:=a6 i;have W:decide (l0.length<l1.length)=false:=a6 (fun h=>i (Int.ofNat_lt.mpr h));clear i;obtain rfl:=aH H;go_wp2;go_ret;exact⟨zT,by repeat(first|exact aC.refl _|apply aC.step)⟩
end Go.Proofs.YtffdiakgjakngaaGreat.P
namespace Go.Proofs.YtffdiakgjakngaaGreat.P
open Go.RowKit Go.Proofs.YtffdiakgjakngaaGreatW.PrintWords Go.Proofs.YtffdiakgjakngaaGreatW.PrintLast Go.Proofs.YtffdiakgjakngaaGreatW.PrintMore
open Go.Sort Go.Shelf
set_option linter.unusedVariables false
set_option linter.unusedSimpArgs false
set_option maxHeartbeats 8000000
set_option maxRecDepth 100000
section
def GR:Go.Shelf.Ren:=⟨fun|6=>49|15=>106|14=>105|28=>162|29=>163|20=>154|21=>155|22=>156|23=>157|24=>158|25=>159|26=>160|27=>161|46=>188|47=>189|48=>190|49=>191|50=>192|57=>205|n=>n,fun|22=>33|24=>26|25=>79|3=>3|39=>133|0=>0|53=>184|55=>186|4=>4|46=>178|45=>177|50=>173|5=>5|9=>9|66=>209|70=>213|76=>222|77=>55|n=>n,fun|n=>n⟩
theorem GU:SlLaysF.n6 Tryz.prog GR:={
 mixed:=by kernel_rfl,
 f6:=⟨Tryz.f49.name,by decide,Tryz.func49.trans (congrArg some (by kernel_rfl))⟩,
 f14:=⟨Tryz.f105.name,by decide,Tryz.func105.trans (congrArg some (by kernel_rfl))⟩,
 f15:=Tryz.func106.trans (congrArg some (by kernel_rfl)),
 f20:=⟨Tryz.f154.name,by decide,Tryz.func154.trans (congrArg some (by kernel_rfl))⟩,
 f21:=⟨Tryz.f155.name,by decide,Tryz.func155.trans (congrArg some (by kernel_rfl))⟩,
 f22:=⟨Tryz.f156.name,by decide,Tryz.func156.trans (congrArg some (by kernel_rfl))⟩,
 f23:=⟨Tryz.f157.name,by decide,Tryz.func157.trans (congrArg some (by kernel_rfl))⟩,
 f24:=⟨Tryz.f158.name,by decide,Tryz.func158.trans (congrArg some (by kernel_rfl))⟩,
 f25:=⟨Tryz.f159.name,by decide,Tryz.func159.trans (congrArg some (by kernel_rfl))⟩,
 f26:=⟨Tryz.f160.name,by decide,Tryz.func160.trans (congrArg some (by kernel_rfl))⟩,
 f27:=⟨Tryz.f161.name,by decide,Tryz.func161.trans (congrArg some (by kernel_rfl))⟩,
 f28:=Tryz.func162.trans (congrArg some (by kernel_rfl)),
 f29:=Tryz.func163.trans (congrArg some (by kernel_rfl)),
 f46:=⟨Tryz.f188.name,by decide,Tryz.func188.trans (congrArg some (by kernel_rfl))⟩,
 f47:=Tryz.func189.trans (congrArg some (by kernel_rfl)),
 f48:=Tryz.func190.trans (congrArg some (by kernel_rfl)),
 f49:=⟨Tryz.f191.name,by decide,Tryz.func191.trans (congrArg some (by kernel_rfl))⟩,
 f50:=⟨Tryz.f192.name,by decide,Tryz.func192.trans (congrArg some (by kernel_rfl))⟩,
 f57:=⟨Tryz.f205.name,by decide,Tryz.func205.trans (congrArg some (by kernel_rfl))⟩,
 t0:=Tryz.underlying0,
 a0:=Tryz.isAgg0,
 z0:=Tryz.sizeOf0,
 v0:=Tryz.zeroValue0,
 t3:=Tryz.underlying3,
 a3:=Tryz.isAgg3,
 z3:=Tryz.sizeOf3,
 v3:=Tryz.zeroValue3,
 t4:=Tryz.underlying4,
 a4:=Tryz.isAgg4,
 z4:=Tryz.sizeOf4,
 v4:=Tryz.zeroValue4,
 t5:=Tryz.underlying5,
 a5:=Tryz.isAgg5,
 z5:=Tryz.sizeOf5,
 v5:=Tryz.zeroValue5,
 t9:=Tryz.underlying9,
 a9:=Tryz.isAgg9,
 z9:=Tryz.sizeOf9,
 v9:=Tryz.zeroValue9,
 t22:=Tryz.underlying33,
 a22:=Tryz.isAgg33,
 z22:=Tryz.sizeOf33,
 v22:=Tryz.zeroValue33,
 a24:=Tryz.isAgg26,
 z24:=Tryz.sizeOf26,
 t25:=Tryz.underlying79,
 a25:=Tryz.isAgg79,
 z25:=Tryz.sizeOf79,
 v25:=Tryz.zeroValue79,
 t39:=Tryz.underlying133,
 a39:=Tryz.isAgg133,
 z39:=Tryz.sizeOf133,
 v39:=Tryz.zeroValue133,
 t45:=Tryz.underlying177,
 a45:=Tryz.isAgg177,
 z45:=Tryz.sizeOf177,
 v45:=Tryz.zeroValue177,
 t46:=Tryz.underlying178,
 a46:=Tryz.isAgg178,
 z46:=Tryz.sizeOf178,
 v46:=Tryz.zeroValue178,
 t50:=Tryz.underlying173,
 a50:=Tryz.isAgg173,
 z50:=Tryz.sizeOf173,
 v50:=Tryz.zeroValue173,
 t53:=Tryz.underlying184,
 a53:=Tryz.isAgg184,
 z53:=Tryz.sizeOf184,
 v53:=Tryz.zeroValue184,
 t55:=Tryz.underlying186,
 a55:=Tryz.isAgg186,
 z55:=Tryz.sizeOf186,
 v55:=Tryz.zeroValue186,
 t66:=Tryz.underlying209,
 a66:=Tryz.isAgg209,
 z66:=Tryz.sizeOf209,
 v66:=Tryz.zeroValue209,
 t70:=Tryz.underlying213,
 a70:=Tryz.isAgg213,
 z70:=Tryz.sizeOf213,
 v70:=Tryz.zeroValue213,
 t76:=Tryz.underlying222,
 a76:=Tryz.isAgg222,
 z76:=Tryz.sizeOf222,
 v76:=Tryz.zeroValue222,
 t77:=Tryz.underlying55,
 a77:=Tryz.isAgg55,
 z77:=Tryz.sizeOf55,
 v77:=Tryz.zeroValue55}
def ym (G:Nat):Prop:=∀(k:Nat) (A B:Option Addr) (c d:Nat) (a lb:List Int) (r:Int) (W:World),(Kd.int .i64).C W A a.length a->a.length<=c->(Kd.int .i64).C W B lb.length lb->lb.length<=d->dx.f k a lb=some r->
  Calls Tryz.prog G #[.slice A a.length c,.slice B lb.length d] W fun e w'=>e= .returned (.int .i64 r)/\aC W w'
theorem GV:ym 183:=fun k A B c d b lb r W a g hb i h=>by
 have H:=zA (dx.calls k A c b B d lb r W a g hb i h);clear h a hb;go_enter Tryz.func183,Tryz.ntmps183
 go_wp2_with (go_at_call 51;refine H.out.mono ?_;rintro e w' ⟨rfl,hd⟩;have j:=zA hd;clear hd)
 go_ret;exact⟨rfl,j.out⟩
section
variable {α:Type} [Inhabited α] {enc:α->Value}
theorem GX {w:World} {g n:Nat} {os:Array Obj} {cur:Array Value} {e:TypeId} {fr:Nat×Nat} (d:Array α) (hb:w.heap[g]? =some (.cells cur e fr)):
  (Go.Sort.grow (putRow enc (Sort.ahead w n) g 0 d) os).heap[g]? =some (.cells (putCells enc 0 d cur) e fr):=by
 have a:g<w.heap.size:=(Array.getElem?_eq_some_iff.1 hb).1;rw[heap_grow_old _ _ (by simpa using a)];simp[putRow,mapBlock,Sort.ahead,Array.getElem?_modify,hb,onCells]
theorem yn {w:World} {g n:Nat} {os:Array Obj} (d:Array α):w.grownBy (Go.Sort.grow (putRow enc (Sort.ahead w n) g 0 d) os) (some g):=by
 refine⟨rfl,rfl,rfl,by simp,fun k hk a=>?_⟩;rw[heap_grow_old _ _ (by simpa using hk)];have:g≠k:=fun e=>a (by rw[e])
 simp[putRow,mapBlock,Sort.ahead,Array.getElem?_modify,this]
theorem GY (cur:Array Value) (a:List α) (h:a.length<=cur.size):(putCells enc 0 a.toArray cur).toList.take a.length=a.map enc:=by
 apply List.ext_getElem?
 intro j;by_cases b:j<a.length
 ·rw[List.getElem?_take_of_lt b,Array.getElem?_toList]
  simp[putCells,b,show j<cur.size by omega]
 ·rw[List.getElem?_take_eq_none (by omega),List.getElem?_eq_none (by simp;omega)]
end
theorem GZ {G:Nat} (HG:ym G) (eg:∀args w,(callFunc G args).run Tryz.prog w= .ok (.enter G args) w) {k m g cap base:Nat} {ok:Nat->Prop} {L:List (List Int)} (a:Fin (m+1)->Fin (m+1)->Int) {W:World} (R:L.length=m+1) (hm:m<4000000)
  (hR:Kd.N (Kd.slice 3 (Kd.int .i64)) 26 W base ok (.slice (some ⟨g,0,none⟩) L.length cap) L) (am:∀i j:Fin (m+1),dx.f k (L.getD i.1 []) (L.getD j.1 [])=some (a i j)) (hO:SWO (Go.Proofs.ltOf a)):
  Calls Tryz.prog 49 #[.slice (some ⟨g,0,none⟩) L.length cap,.func (.func G) #[] #[]] W fun e w'=>e= .returned (.tuple #[])/\∃idx:List (Fin (m+1)),idx.Perm (List.finRange (m+1))/\idx.Pairwise (fun i j=>Go.Proofs.ltOf a j i=false)/\Kd.N (Kd.slice 3 (Kd.int .i64)) 26 w' base ok (.slice (some ⟨g,0,none⟩) L.length cap) (idx.map fun i=>L.getD i.1 [])/\W.grownBy w' (some g):=by
 obtain⟨S,rows,a9,⟨h1,inner,F,H⟩,hf⟩:=hR;have an:=F;obtain⟨T,F⟩:=an;rcases F with⟨I,_⟩|⟨g2,bd,cur,I,ap,z,hn,ar,J,K⟩
 ·cases I
 injection I with r be av
 injection r with r
 injection r with r
 subst r av;have aY:(Kd.raw (Kd.slice 3 (Kd.int .i64)).sz).sz=1:=rfl;rw[aY] at T J K H;rw[Nat.mul_one] at T J K;have U:∀i,i<m+1->rows[i]? =some [inner.getD i undef]:=fun i hi=>by
  have V:rows[i]? =some rows[i]:=bK (by omega);have C:=(H.2 i _ V).1;rw[V,<-C,Nat.mul_one,List.take_one,List.head?_drop,a7,bK (show i<inner.length by omega)];rfl
 have X:∀i,i<m+1->(inner.getD i undef).oneCell'=true:=fun i hi=>by
  have h:=H.2 i _ (U i hi);exact h.2.2 _ (by rw[h.1];simp)
 obtain⟨enc,D⟩:∃enc:Fin (m+1)->Value,enc=fun i=>inner.getD i.1 undef:=⟨_,rfl⟩
 have M:∀i:Fin (m+1),Kd.FK (Kd.slice 3 (Kd.int .i64)) W (fun k=>ok k/\some k≠(Value.slice (some ⟨g,0,none⟩) L.length cap).ownBlock) (L.getD i.1 []) [enc i]:=fun i=>by
  have E:L[i.1]? =some (L.getD i.1 []):=by rw[a7,bK (show i.1<L.length by omega)];rfl
  rw[D];exact hf i.1 _ _ E (U i.1 i.2)
 have hlen:(List.finRange (m+1)).toArray.size=m+1:=by simp
 have Y:∀(l:Nat) (os:Array Obj) (o:Array (Fin (m+1))) (b:Nat),b≠g->b<W.heap.size->(sortWorld enc W g 0 l o os).heap[b]? =W.heap[b]? :=fun l os o b hb s=>by
  unfold sortWorld;exact(yn (enc:=enc) (w:=W) (g:=g) (n:=l) (os:=os) o).block b s (fun e=>hb (aH e))
 have aB:CmpReads Tryz.prog G #[] enc a g 0 (List.finRange (m+1)).toArray.size W:=fun l os o bf x y=>by
  obtain⟨A,c,ex,aF,aL⟩:=Kd.kU (M x);obtain⟨B,d,O,aO,aP⟩:=Kd.kU (M y);injection ex with ex
  injection O with O
  rw[ex,O];have Z:∀b,(ok b/\some b≠(Value.slice (some ⟨g,0,none⟩) L.length cap).ownBlock)->b<W.heap.size->(sortWorld enc W g 0 l o os).heap[b]? =W.heap[b]? :=fun b hb s=>Y l os o b (fun e=>hb.2 (by rw[e];rfl)) s
  refine(HG k A B c d _ _ (a x y) _ (Kd.il (Kd.p_ aL Z)) aF (Kd.il (Kd.p_ aP Z)) aO (am x y)).mono ?_;rintro e w' ⟨rfl,hd⟩;exact⟨rfl,hd.out⟩
 have aS:Holds enc W g 0 (List.finRange (m+1)).toArray:=fun j q=>by
  rw[hlen] at q;refine⟨?_,by simp[World.frozen?,z]⟩;have C:(cur.toList.take rows.length)[j]? =inner[j]? :=by rw[K]
  rw[List.getElem?_take_of_lt (by omega),Array.getElem?_toList] at C;simp only[World.cell?,z,Nat.zero_add,Option.isSome_none,Bool.false_eq_true,if_false];rw[C,bK (by omega),D];simp[show j<m+1 from q,show j<inner.length by omega]
 have aa:=Any.slices_SortFunc GU enc (fun i=>by rw[D];exact X i.1 i.2) a hO G #[] g 0 cap (List.finRange (m+1)).toArray W eg aB.lays aS ((Array.getElem?_eq_some_iff.1 z).1) (by rw[hlen];omega);rw[hlen] at aa;rw[R];have a0:Calls Tryz.prog 49 _ _ _:=aa;refine a0.mono ?_;rintro e w' ⟨rfl,d',n,os,hp,hs,rfl⟩;obtain⟨P,_,ab⟩:=hp;rw[hlen] at P;have Q:d'.toList.length=m+1:=by simpa using P
 refine⟨rfl,d'.toList,?_,?_,?_,yn (enc:=enc) (n:=n) (os:=os) d'⟩
 ·have e1:d'.extract 0 (m+1)=d':=Array.extract_eq_self_of_le (by omega)
  rw[e1,Array.extract_eq_self_of_le (by simp)] at ab;exact ab
 ·refine List.pairwise_iff_getElem.2 fun i j hi q a3=>?_
  have h:=hs i j (Nat.zero_le _) a3 (by omega);rw[getElem!_pos d' i (by omega),getElem!_pos d' j (by omega)] at h;simpa using h
 ·have a4:(Go.Sort.grow (putRow enc (Sort.ahead W n) g 0 d') os).heap[g]? =some (.cells (putCells enc 0 d' cur) 26 (0,0)):=GX d' z
  have a5:(putCells enc 0 d' cur).toList.take (m+1)=d'.toList.map enc:=by
   have h:=GY (enc:=enc) cur d'.toList (by rw[Q];omega);rw[Q] at h;exact h
  refine⟨by rw[R] at S;exact S,d'.toList.map fun i=>[enc i],by simp,⟨fun k hk=>hk.symm,d'.toList.map enc,⟨by rw[aY];simp,.inr ⟨g,cap,_,?_,ap,a4,?_,ar,?_,?_⟩⟩,?_⟩,?_⟩
  ·simp[P]
  ·simp;omega
  ·rw[aY];simp[putCells,J]
  ·rw[aY];simp only[List.length_map,Nat.mul_one,Q];exact a5
  ·refine⟨by rw[aY];simp,fun j p q=>?_⟩
   rw[List.getElem?_map] at q;obtain⟨i,hi,rfl⟩:=Option.map_eq_some_iff.1 q;have bg:=(List.getElem?_eq_some_iff.1 hi).1;have e2:((d'.toList.map enc).drop (j*(Kd.raw (Kd.slice 3 (Kd.int .i64)).sz).sz)).take (Kd.raw (Kd.slice 3 (Kd.int .i64)).sz).sz=[enc i]:=by
    rw[aY,Nat.mul_one,List.take_one,List.head?_drop,List.getElem?_map,hi];rfl
   rw[e2];refine⟨rfl,rfl,fun u hu=>?_⟩;rw[List.mem_singleton.1 hu,D];exact X i.1 i.2
  ·intro j x c E v
   rw[List.getElem?_map] at E v;obtain⟨i,hi,rfl⟩:=Option.map_eq_some_iff.1 E;rw[hi] at v;injection v with v
   subst v;refine Kd.lZ (Kd.kT (M i) (fun k hk=>⟨hk.1,hk.2⟩)) (fun b hb s=>Y n os d' b (fun e=>hb.2 (by rw[e];rfl)) s)
end
end Go.Proofs.YtffdiakgjakngaaGreat.P
namespace Go.Proofs.YtffdiakgjakngaaGreat.P
open Go.RowKit Go.Proofs.YtffdiakgjakngaaGreatW.PrintWords Go.Proofs.YtffdiakgjakngaaGreatW.PrintLast Go.Proofs.YtffdiakgjakngaaGreatW.PrintMore
set_option linter.unusedVariables false
set_option linter.unusedSimpArgs false
set_option maxHeartbeats 8000000
set_option maxRecDepth 100000
def dM.l0:Nat->List (List Int)->Int->Int->Int->List (S83)->Option (Int)
 |0,_,_,_,_,_=>none
 |k+1,b,e,a,g,i=>if a<e then(if 0<=a then(if a<(b.length:Int) then((bs.f k (aV b a) g).bind fun h=>(if h=0 then(dM.l0 k b e (wrap64 (a+1)) g i) else(some h))) else(none)) else(none)) else(some 0)
def dM.f (k:Nat) (b:Int) (e:List (S83)) (l1:List (List Int)):Option (Int):=(cB.f k b e).bind fun a=>(if a.2=0 then(if a.1=true then(dM.l0 k l1 (l1.length:Int) 0 b e) else(some 13)) else(some a.2))
theorem dM.cy:∀k,(∀a b e g i,al (dM.l0 k a b e g i) (dM.l0 (k+1) a b e g i))
 |0=>fun _ _ _ _ _ r h=>by simp[dM.l0] at h
 |k+1=>by
  have j:=dM.cy k
  ·intro a b e g i
   unfold dM.l0;with_reducible repeat' first|exact j _ _ _ _ _|exact bs.mono _ _ _|exact cB.mono _ _ _|exact al.refl _|exact al.none _|refine al.ite ?_ ?_|refine al.bind ?_ (fun _=>?_)
theorem dM.mono:∀a0 a a2 k,al (dM.f k a0 a a2) (dM.f (k+1) a0 a a2):=by
 intro a0 a a2 k;have b:=dM.cy k;unfold dM.f;with_reducible repeat' first|exact b _ _ _ _ _|exact bs.mono _ _ _|exact cB.mono _ _ _|exact al.refl _|exact al.none _|refine al.ite ?_ ?_|refine al.bind ?_ (fun _=>?_)
theorem dM.calls (k:Nat) (b:Int) (m:Option Addr) (n:Nat) (i:List (S83)) (U:Option Addr) (c1:Nat) (l1:List (List Int)) (r:Int) (w:World) (V:Kd.C aN w m i.length i) (W:i.length<=n) (X:Kd.C (Kd.slice 3 (Kd.int .i64)) w U l1.length l1) (Y:l1.length<=c1) (h:dM.f k b i l1=some r):
  Calls Tryz.prog 75 #[.agg #[.int .i64 b,.slice m i.length n],.slice U l1.length c1] w fun e w'=>e= .returned (.int .i64 r)/\Below w.heap.size w w':=by
 have a1:=Tryz.underlying24;have G:=zA V;have I:=zA W;clear V W;have Z:=zA X;have a2:=zA Y;clear X Y;have a:=zA (aq w.heap.size w);unfold dM.f at h;have H:=h;clear h;obtain⟨⟨aa,z⟩,J,H⟩:=zo H;dsimp only at H;by_cases c4:z=0
 ·rw[if_pos c4] at H
  obtain⟨ab,ad⟩:=bH c4;clear c4;by_cases B:aa=true
  ·subst B
   replace H:=zi H;have D:=zA H;clear H;go_enter Tryz.func75,Tryz.ntmps75
   go_wp2_with (first|((with_reducible refine aJ (N:=2) rfl ?_);refine zX 2 #[.int .i64 b,.slice m i.length n] 24 ?_;intro K l w6 o hb;have j:=zA (o);have ag:=zG a l;have ak:=zG a l;replace a:=zS a hb;clear hb o l;obtain⟨ar,av,aB,aF⟩:=ax j)|((with_reducible refine aG (f:=113) rfl ?_);refine zL (some 12) Tryz.func113 #[.agg #[.int .i64 b,.slice m i.length n]] ?_;(with_reducible refine(cB.calls k b _ _ i true z _ ?ah ?ai J.out).mono ?_);(case ah=>exact Kd.aw G.out zB);(case ai=>exact I.out);rintro e w8 ⟨rfl,hb⟩;refine⟨_,rfl,?_⟩;replace j:=zb j hb;replace a:=zS a hb;(try clear hb)))
   go_loopg [22] k (fun kq v22 w'=>∃(g:Int),v22= .int .i64 g/\Aside0 (dM.l0 kq l1 (l1.length:Int) g b i=some r)/\Aside0 (kq<=k)/\Aside0 (w'.heap[K]? =some (.cells #[.int .i64 b,(.slice m i.length n)] 24 (0,0)))/\Aside0 (Below w.heap.size w w'))
   case atStart=>exact⟨(0),zT,D,⟨aI _⟩,⟨zK j⟩,⟨zB⟩⟩
   case round=>
    clear D;clear ab ad ar av aB aF;obtain⟨g,rfl,L,an,j,a⟩:=hrel;cases gk with
    |zero=>exact absurd L.out (by simp[dM.l0])
    |succ M=>
     have H:=L.out;clear L;simp only[dM.l0] at H;by_cases u:g<(l1.length:Int)
     ·rw[if_pos u] at H
      have aL:=az u;clear u;by_cases E:0<=g
      ·rw[if_pos E] at H
       have a5:=az E;clear E;by_cases F:g<(l1.length:Int)
       ·rw[if_pos F] at H
        have a9:=az F;clear F;obtain⟨O,ap,H⟩:=zo H;by_cases v:O=0
        ·rw[if_pos v] at H
         obtain⟨aO,aP⟩:=bH v;clear v;have D:=zA H;clear H;have p:0<=(g:Int):=ay ‹_›;have q:g<(l1.length:Int):=ay ‹_›;obtain⟨aS,P,Q,R,s,x,y⟩:=gC Z.out g p q;cases R;replace s:=(a.out.cell (a8 w _ s)).trans s;have S:=zA y;have T:=zA x;clear y x;replace p:=eq_true p;replace q:=eq_true q;obtain⟨bd,be,bf,bg⟩:=ax j;go_wp2_with (first|((with_reducible refine aG (f:=87) rfl ?_);refine zL (some 29) Tryz.func87 #[.slice P (aV l1 g).length Q,.int .i64 b] ?_;(with_reducible refine(bs.calls M _ _ (aV l1 g) b O _ ?ah ?ai ap.out).mono ?_);(case ah=>exact Kd.aw S.out zB);(case ai=>exact T.out);rintro e w' ⟨rfl,⟨nd,rfl⟩⟩;refine⟨_,rfl,?_⟩))
         go_roundg M
         case measure=>have:=an.out;omega
         case rel=>exact⟨(wrap64 (g+1)),zT,D,⟨by have:=an.out;omega⟩,⟨zK j⟩,⟨zB⟩⟩
        ·rw[if_neg v] at H
         obtain⟨aO,aP⟩:=bI v;obtain rfl:=aH H;have p:0<=(g:Int):=ay ‹_›;have q:g<(l1.length:Int):=ay ‹_›;obtain⟨aS,P,Q,R,s,x,y⟩:=gC Z.out g p q;cases R;replace s:=(a.out.cell (a8 w _ s)).trans s;have S:=zA y;have T:=zA x;clear y x;replace p:=eq_true p;replace q:=eq_true q;obtain⟨bi,bk,bn,bo⟩:=ax j;go_wp2_with (first|((with_reducible refine aG (f:=87) rfl ?_);refine zL (some 29) Tryz.func87 #[.slice P (aV l1 g).length Q,.int .i64 b] ?_;(with_reducible refine(bs.calls M _ _ (aV l1 g) b O _ ?ah ?ai ap.out).mono ?_);(case ah=>exact Kd.aw S.out zB);(case ai=>exact T.out);rintro e w' ⟨rfl,⟨nd,rfl⟩⟩;refine⟨_,rfl,?_⟩))
         go_ret;exact⟨zE,zB⟩
       ·rw[if_neg F] at H
        exact absurd H (by simp)
      ·rw[if_neg E] at H
       exact absurd H (by simp)
     ·rw[if_neg u] at H
      have aL:=a6 u;clear u;obtain rfl:=aH H;go_wp2;go_ret;exact⟨zE,zB⟩
  ·replace B:=Bool.eq_false_iff.mpr B
   subst B;replace H:=zj H;obtain rfl:=aH H;go_enter Tryz.func75,Tryz.ntmps75
   go_wp2_with (first|((with_reducible refine aJ (N:=2) rfl ?_);refine zX 2 #[.int .i64 b,.slice m i.length n] 24 ?_;intro K l bv o hb;have j:=zA (o);have ag:=zG a l;have ak:=zG a l;replace a:=zS a hb;clear hb o l;obtain⟨bw,bx,b0,b1⟩:=ax j)|((with_reducible refine aG (f:=113) rfl ?_);refine zL (some 12) Tryz.func113 #[.agg #[.int .i64 b,.slice m i.length n]] ?_;(with_reducible refine(cB.calls k b _ _ i false z _ ?ah ?ai J.out).mono ?_);(case ah=>exact Kd.aw G.out zB);(case ai=>exact I.out);rintro e b2 ⟨rfl,hb⟩;refine⟨_,rfl,?_⟩;replace j:=zb j hb;replace a:=zS a hb;(try clear hb)))
   go_ret;exact⟨zE,zB⟩
 ·rw[if_neg c4] at H
  obtain⟨ab,ad⟩:=bI c4;obtain rfl:=aH H;go_enter Tryz.func75,Tryz.ntmps75
  go_wp2_with (first|((with_reducible refine aJ (N:=2) rfl ?_);refine zX 2 #[.int .i64 b,.slice m i.length n] 24 ?_;intro K l b3 o hb;have j:=zA (o);have ag:=zG a l;have ak:=zG a l;replace a:=zS a hb;clear hb o l;obtain⟨b4,b5,b6,b_⟩:=ax j)|((with_reducible refine aG (f:=113) rfl ?_);refine zL (some 12) Tryz.func113 #[.agg #[.int .i64 b,.slice m i.length n]] ?_;(with_reducible refine(cB.calls k b _ _ i aa z _ ?ah ?ai J.out).mono ?_);(case ah=>exact Kd.aw G.out zB);(case ai=>exact I.out);rintro e b' ⟨rfl,hb⟩;refine⟨_,rfl,?_⟩;replace j:=zb j hb;replace a:=zS a hb;(try clear hb)))
  go_ret;exact⟨zE,zB⟩
section
attribute [local go_sem] Oper.semAt_some
theorem yo {α:Type} {d:Kd α} {W:World} {e base:Nat} {ok:Nat->Prop} {v:Value} {xs:List α} (h:d.R e W base ok v xs) (hp:0<xs.length):∃g c,v= .slice (some ⟨g,0,none⟩) xs.length c:=by
 obtain⟨A,c,rfl⟩:=Kd.bm h;obtain⟨ad,he,_⟩:=(Kd.aQ h).2.2.2.2 hp;subst he;obtain⟨g,rfl⟩:=Kd.lV h;exact⟨g,c,rfl⟩
theorem G0 {W W1:World} {q:Nat} {r:Option Nat} (h:(W.drewN q).grownBy W1 r):W.grownBy W1 r:=⟨h.os,h.tape,h.output,h.size,h.block⟩
theorem G1 (k n m:Nat) (A0:Option Addr) (c0:Nat) (E:List S83) (ba:Int) (C:List (List Int)) (cf:Fin (m+1)->Fin (m+1)->Int) (w:World) (bn:Kd.C aN w A0 E.length E) (bv:E.length<=c0) (hn:2<=n) (d6:n<=12) (gg: -1048576<=ba) (gi:ba<=1048576)
  (bw:dM.f k n E []=some 0) (b_:eQ.f k n E 0=some (C,0)) (b':∀c∈C,c.length=n) (ca:C.length=m+1) (d7:C.length<=16384) (cb:∀c∈C,bs.f k (cS ba c) n=some 0)
  (cc:∀i j:Fin (m+1),dx.f k ((C.map (cS ba)).getD i.1 []) ((C.map (cS ba)).getD j.1 [])=some (cf i j)) (hO:Go.Sort.SWO (ltOf cf)):
  Calls Tryz.prog 136 #[.agg #[.int .i64 n,.slice A0 E.length c0],.int .i64 ba] w fun e w'=>∃v,∃idx:List (Fin (m+1)),e= .returned (.tuple #[v,.int .i64 0])/\idx.Perm (List.finRange (m+1))/\idx.Pairwise (fun i j=>ltOf cf j i=false)/\Kd.N (Kd.slice 3 (Kd.int .i64)) 26 w' w.heap.size (fun k_=>w.heap.size<=k_) v (idx.map fun i=>(C.map (cS ba)).getD i.1 [])/\Below w.heap.size w w':=by
 have hu:=Tryz.underlying24;have Hg:=zA bw;have Ha:=zA b_;have ea:=zA b';have eb:=zA cb;have ed:=zA cc;have eg:=zA hO;have gl:¬ba< -1048576:=by omega
 have gm:¬1048576<ba:=by omega
 have G:=zA (lx w (.cells #[.int .i64 n,.slice A0 E.length c0] 24) (.cells #[.slice none 0 0] 33) (.cells #[.int .i64 0] 30));have ek:(((w.alloc (.cells #[.int .i64 n,.slice A0 E.length c0] 24)).alloc (.cells #[.slice none 0 0] 33)).alloc (.cells #[.int .i64 0] 30)).cell? ⟨w.heap.size,0,none⟩=some (.int .i64 n):=(aj G.out.1 0).trans rfl;have el:(((w.alloc (.cells #[.int .i64 n,.slice A0 E.length c0] 24)).alloc (.cells #[.slice none 0 0] 33)).alloc (.cells #[.int .i64 0] 30)).cell? ⟨w.heap.size,1,none⟩=some (.slice A0 E.length c0):=(aj G.out.1 1).trans rfl;have cd:=zA ca;clear bw b_ b' cb cc hO ca;refine(callsIn_wide (n:=10)).1 ?_;refine callsIn_of_wp_marks Tryz.func136 rfl trivial ?_ rfl;simp only[Tryz.ntmps136,List.size_toArray,List.length_cons,List.length_nil,Nat.reduceAdd,Nat.reduceSub,Array.replicate_succ,Array.replicate_zero,List.push_toArray,List.append_toArray,List.nil_append,List.cons_append];gi_wp2_with (first|(refine⟨trivial,?_⟩;gi_at_call 75;refine(callsIn_wide.2 (dM.calls k n A0 c0 E none 0 [] 0 _ (Kd.bp (Kd.bp (Kd.bp bn _) _) _) bv (Kd.nY _ _) (Nat.zero_le _) Hg.out)).mono ?_;rintro e w1 ⟨rfl,hb⟩;have HB:=zA ((ao (ao (ao (aq w.heap.size w) _) _) _).trans (hb.mono (by simp;omega)));have X0:=zA (aE G.out.1 hb);have y:=zA (aE G.out.2.1 hb);have X2:=zA (aE G.out.2.2 hb);have y0:w1.cell? ⟨w.heap.size,0,none⟩=some (.int .i64 n):=(aj X0.out 0).trans rfl;have y1:w1.cell? ⟨w.heap.size,1,none⟩=some (.slice A0 E.length c0):=(aj X0.out 1).trans rfl;clear hb)|(refine⟨trivial,?_⟩;gi_at_call 114;refine(callsIn_wide.2 (eQ.calls k n A0 c0 E 0 C 0 _ (Kd.aw bn HB.out) bv Ha.out)).mono ?_;rintro e w2 ⟨v,rfl,H,I⟩;obtain⟨U,cl,rfl, -⟩:=Kd.tz H;have HN:=zA (Kd.qa H);have ch:=zA (aZ HB.out I);have Z0:=zA (aE X0.out I);have Z1:=zA (aE y.out I);have Z2:=zA (aE X2.out I);have es:=zA I.size;clear H I)|(refine⟨trivial,?_⟩;gi_at_call 182;refine(callsIn_wide.2 (GH _ _ _ _ _)).mono ?_;rintro e w3 ⟨rfl,rfl⟩))
 have ev:w.heap.size+1+1<w2.heap.size:=aA Z2.out;have ck:w1.heap.size<=w2.heap.size:=es.out;have ew:=HB.out.size;obtain⟨J,cn⟩:∃o:Obj,o= .cells #[.slice U C.length cl] 33:=⟨_,rfl⟩;obtain⟨L,co⟩:∃o:Obj,o= .cells #[.int .i64 ba] 3:=⟨_,rfl⟩;obtain⟨M,cq⟩:∃o:Obj,o= .cells #[.slice none 0 0] 33:=⟨_,rfl⟩;obtain⟨V0,V1,V2⟩:=lx w2 M J L;have ak:=zA (V0.trans (by rw[cq]:_=some (.cells #[.slice none 0 0] 33 (0,0))));have aO:=zA (V1.trans (by rw[cn]:_=some (.cells #[.slice U C.length cl] 33 (0,0))));have aP:=zA (V2.trans (by rw[co]:_=some (.cells #[.int .i64 ba] 3 (0,0))));have aS:=zA (ao (ao (ao ch.out M) J) L);have c4:=zA (au (au (au Z0.out M) J) L);have c5:=zA (au (au (au Z1.out M) J) L);have c6:=zA (au (au (au Z2.out M) J) L);have am:=zA (Kd.eW (Kd.eW (Kd.eW (Kd.eK HN.out (ok':=fun k=>w1.heap.size<=k/\k<w2.heap.size) (fun k hk=>hk)) M) J) L);clear V0 V1 V2;subst cn co cq;clear y0 y1 ek el X0 y X2 Z0 Z1 Z2 HB ch G HN;have a0:(((w2.alloc (.cells #[.slice none 0 0] 33)).alloc (.cells #[.slice U C.length cl] 33)).alloc (.cells #[.int .i64 ba] 3)).heap.size=w2.heap.size+3:=by simp
 generalize ((w2.alloc (.cells #[.slice none 0 0] 33)).alloc (.cells #[.slice U C.length cl] 33)).alloc (.cells #[.int .i64 ba] 3)=b at ak aO aP aS c4 c5 c6 am a0⊢;have ex:=zA a0;have ey:w2.heap.size<b.heap.size:=by omega
 have e0:w2.heap.size+1<b.heap.size:=by omega
 have e1:w2.heap.size+1+1<b.heap.size:=by omega
 clear a0;generalize e4:w2.heap.size+1+1=qx at aP e1⊢;generalize e5:w2.heap.size+1=gx at aO e0 e4⊢;generalize w2.heap.size=bo at ak ex ev ck ey e5 am⊢;generalize w1.heap.size=b0 at am ck ew⊢;have gn:=aS.out.size;refine iz (σ:=Unit) (α:=List Int×Value) (F:=Fence.wide) (n:=10) rfl (by decide) (gf:=202) (lb:=#[.pointer (some ⟨gx,0,none⟩),.pointer (some ⟨qx,0,none⟩)]) rfl trivial (enters_of Tryz.func202 (by kernel_rfl) rfl)
  (fun o=>GQ gx qx b0 bo n U cl _ C ba _ (by omega) (by omega) hn d6 ea.out d7 (Kd.eW (Kd.eW am.out _) _) (au (au aO.out _) _) (au (au aP.out _) _)) (fun _=>rfl)
  (fun _=>True) ?en ?st ?ar
  (fun _ pre W=>b.heap.size+2<=W.heap.size/\(∃v,W.heap[bo]? =some (.cells #[v] 33 (0,0))/\(Kd.slice 3 (Kd.int .i64)).R 26 W w.heap.size (fun k=>b.heap.size+2<=k) v (pre.map Prod.fst))/\W.heap[w.heap.size+1]? =some (.cells #[.slice none 0 0] 33 (0,0))/\W.heap[w.heap.size+1+1]? =some (.cells #[.int .i64 0] 30 (0,0))/\W.heap[w.heap.size]? =some (.cells #[.int .i64 n,.slice A0 E.length c0] 24 (0,0))/\Below w.heap.size w W) (fun _ _ _ _=>False)
  ?is (fun _ _ _ _ _ _ h _=>h) ?ib (fun _ _ _ _ _ h _=>h) ?kt ?h0 ?a1 ?assign ?body ?done (fun _ _ _ _ _ _ _ h=>h.elim)
 case assign=>
  intro l x W K hK;gi_wp2;exact hK
 case en=>
  intro o s W1 h;exact⟨trivial,by rw[h];exact ct.refl _ _⟩
 case st=>intro s A B _ h;exact cZ h
 case ar=>intro s x A B _ h;exact cZ h.2.2
 case is=>
  rintro s pre A B _ ⟨V,⟨v,h1,h4⟩,h2,h3,h6,h5⟩ z;exact⟨Nat.le_trans V z.size,⟨v,aE h1 z,Kd.cT h4 z⟩,aE h2 z,aE h3 z,aE h6 z,aZ h5 z⟩
 case ib=>
  rintro s pre A B ⟨V,⟨v,h1,h4⟩,h2,h3,h6,h5⟩ hb;exact⟨by rw[hb.size];exact V,⟨v,hb.cells h1,df h4 hb⟩,hb.cells h2,hb.cells h3,hb.cells h6,h5.trans (hb.below w.heap.size (by omega))⟩
 case kt=>
  intro s A B C' D c7 e_ e' k hk an;have c8:k≠b.heap.size+1:=by rcases hk with hk|rfl|rfl<;>omega
  exact(e'.heap k c8).trans ((e_ k hk (by rw[c7.size];exact an)).trans (c7.heap k c8))
 case h0=>
  rintro o s W1 rfl;exact⟨by simp,⟨_,au (au ak.out _) _,Kd.dh _ _ _ _ _⟩,au (au c5.out _) _,au (au c6.out _) _,au (au c4.out _) _,ao (ao aS.out _) _⟩
 case body=>
  rintro l s pre ⟨xl,xv⟩ X W1 W _ ⟨V,⟨v,i1,i4⟩,i2,i3,i6,i5⟩ ⟨⟨c,c9,be⟩,O,r⟩ ap a;simp only at O be;obtain⟨Ax,cx,rfl⟩:=Kd.bm O;have gq:X.heap.size<=W.heap.size:=by have:=a.size;have:=r.size;omega
  have b1:=zA (a.cells (aE i1 r));have P:=zA (a.cells (aE i2 r));have b3:=zA (a.cells (aE i3 r));have b6:=zA (a.cells (aE i6 r));have b4:=zA (df (Kd.cT i4 r) a);have Y:=zA ((aZ i5 r).trans (a.below w.heap.size (by omega)));have bx:=zA ((Kd.bj (Kd.bb (ok':=fun k=>X.heap.size<=k) (Kd.eV (df O a)) (fun k hk=>hk.2.1)) i5.size));have dk:∀k,v.ownBlock=some k->k<X.heap.size:=fun k hk=>Kd.a_ i4 k hk
  have dl:=zA dk;have fd:=zA (Kd.gQ i4);have fn:=zA (fun W2 hC=>bs.calls k Ax cx xl n 0 W2 hC (Kd.aQ O).2.1 (by rw[be];exact eb.out c c9));have fo:=zA (Kd.aQ (df O a)).2.2;have gr:pre.length<16384:=by have:pre.length<C.length:=ap;omega
  clear i1 i2 i3 i4 i5 i6 r O a dk ap be c9;obtain⟨Ar,cr,rfl⟩:=Kd.bm b4.out;have ds:(pre.map Prod.fst).length=pre.length:=by simp
  rw[ds] at b1 b4 dl fd;have gt:W.cell? ⟨w.heap.size,0,none⟩=some (.int .i64 n):=(aj b6.out 0).trans rfl;have LN:Aside0 (((pre.map Prod.fst).length+1)*24<=140737488355328):=⟨by rw[ds];omega⟩;have fr:Aside0 (∀k,X.heap.size<=k->(b.heap.size+2<=k)/\some k≠(Value.slice Ar pre.length cr).ownBlock):=⟨fun k hk=>⟨by omega,fun e=>by have:=dl.out k e.symm;omega⟩⟩;have ft:Aside0 (∀k,W.heap.size<=k->b.heap.size+2<=k):=⟨fun k hk=>by omega⟩;gi_wp2_with (first|(refine⟨trivial,?_⟩;gi_at_call 87;refine(callsIn_wide.2 (fn.out _ fo.out)).mono ?_;rintro e w4 ⟨rfl,⟨q,rfl⟩⟩;have g1:(W.drewN q).cell? ⟨bo,0,none⟩=some (.slice Ar pre.length cr):=cY (iM b1.out q);have g2:(W.drewN q).frozen? ⟨bo,0,none⟩=false:=bt (iM b1.out q) 0)|(gi_at_builtin;go_loud (refine ny (Kd.slice 3 (Kd.int .i64)) (w0:=w) w.heap.size rfl (.tmp 39) (.tmp 41) 33 26 (.slice none 0 0) 24 rfl Tryz.underlying33 qk rfl (by decide) (by omega) (.slice Ar pre.length cr) (pre.map Prod.fst) xl [.slice Ax xl.length cx] (fun k=>b.heap.size+2<=k) (fun k=>X.heap.size<=k) rfl rfl (Kd.mL (Kd.bD bx.out _)) fr.out ft.out (Kd.bD b4.out _) (bY Y.out _) Y.out.size LN.out ?_;intro v1 g3 bg hb Q fv;obtain⟨A1,c1,rfl⟩:=Kd.bm bg;have f0:=zA bg;have f1:=zA hb;have S:=zA Q;have y:=zA ((Q.block bo (aA b1.out) (Kd.dj b4.out b1.out (by decide))).trans b1.out);have g4:=cY y.out;have g5:=bt y.out 0;clear bg hb Q fv)))
  have X2:=zA ((S.out.block _ (aA P.out) (Kd.dj b4.out P.out (by decide))).trans P.out);have X3:=zA ((S.out.block _ (aA b3.out) (Kd.dj b4.out b3.out (by decide))).trans b3.out);have X6:=zA ((S.out.block _ (aA b6.out) (Kd.dj b4.out b6.out (by decide))).trans b6.out);have f4:=zA (G0 S.out);refine⟨(nz b4.out f4.out).trans (eO _ _ (aA ak.out)),fun k hk an=>?_,by have:=S.out.size;simp at this⊢;omega,⟨.slice A1 (pre.length+1) c1,by simpa using bQ y.out 0 (.slice A1 (pre.length+1) c1),?_⟩,aD X2.out (by show w.heap.size+1≠bo;omega) _,aD X3.out (by show w.heap.size+1+1≠bo;omega) _,aD X6.out (by show w.heap.size≠bo;omega) _,dN f1.out (by show w.heap.size<=bo;omega)⟩
  ·have f5:k≠bo:=by rcases hk with hk|rfl|rfl<;>omega
   rw[Below.heap_setCell _ _ _ _ f5];exact S.out.block k an (fun e=>by have h:=b4.out.1 k e.symm;rcases hk with hk|rfl|rfl<;>omega)
  ·have h:=Kd.fg f0.out y.out (by decide) 0 (.slice A1 (pre.length+1) c1)
   simpa using h
 case done=>
  rintro s xs W W' _ dv ⟨V,⟨v,i1,i4⟩,i2,i3,i6,i5⟩ a d0;have d1:xs.map Prod.fst=C.map (cS ba):=dv;rw[d1] at i4;have aB:(C.map (cS ba)).length=m+1:=by rw[List.length_map];exact cd.out
  have b4:=df i4 a;obtain⟨gs,g,rfl⟩:=yo b4 (by omega);have g6:b.heap.size+2<=gs:=b4.1 gs rfl;have g7:=Kd.a_ b4 gs rfl;have b1:=zA (a.cells i1);have P:=zA (a.cells i2);have b3:=zA (a.cells i3);have Y:=zA (i5.trans (a.below w.heap.size (by omega)));have d2:=zA d0;have d3:=zA (GZ GV (enters_of Tryz.func183 (by kernel_rfl) rfl) cf aB (by have:=cd.out;omega) (Kd.oC b4) ed.out eg.out);clear i1 i2 i3 i4 i5 i6 d0 dv d1 a b4;rw[aB] at b1 d3;have g8:=zA aB;clear aB;have hc:=cY b1.out;gi_wp2_with (refine⟨trivial,?_⟩;gi_at_call 49;(with_reducible refine(callsIn_wide.2 d3.out).mono ?_);rintro e T ⟨rfl,idx,hp,d4,H,Q⟩;have HP:=zA hp;have f7:=zA d4;have f8:=zA H;have Z:=zA Q;clear hp d4 H Q;have c1:=cY ((Z.out.block bo (aA b1.out) (fun e=>by injection e;omega)).trans b1.out);have e2:=zA ((Z.out.block _ (aA P.out) (fun e=>by injection e;omega)).trans P.out);have e3:=zA ((Z.out.block _ (aA b3.out) (fun e=>by injection e;omega)).trans b3.out);have q1:T.cell? ⟨w.heap.size+1,0,none⟩=some (.slice none 0 0):=(aj e2.out 0).trans rfl;have q2:T.frozen? ⟨w.heap.size+1,0,none⟩=false:=bt e2.out 0;have Y3:=zA (aD (p:=⟨w.heap.size+1,0,none⟩) e3.out (by show w.heap.size+1+1≠w.heap.size+1;omega) (.slice (some ⟨gs,0,none⟩) (m+1) g));have q3:(T.setCell ⟨w.heap.size+1,0,none⟩ (.slice (some ⟨gs,0,none⟩) (m+1) g)).cell? ⟨w.heap.size+1+1,0,none⟩=some (.int .i64 0):=(aj Y3.out 0).trans rfl;have q4:=bt Y3.out 0)
  have Y1:=zA (aD (p:=⟨w.heap.size+1+1,0,none⟩) (bQ e2.out 0 (.slice (some ⟨gs,0,none⟩) (m+1) g)) (by show w.heap.size+1≠w.heap.size+1+1;omega) (.int .i64 0));have Y2:=zA (bQ Y3.out 0 (.int .i64 0));have ap:w.heap.size+1≠b.heap.size:=by omega
  have gc:w.heap.size+1+1≠b.heap.size:=by omega
  have Y4:=zA (show ((T.setCell ⟨w.heap.size+1,0,none⟩ (.slice (some ⟨gs,0,none⟩) (m+1) g)).setCell ⟨w.heap.size+1+1,0,none⟩ (.int .i64 0)).heap[b.heap.size]? =some (.deferred (some [])) from by rw[Below.heap_setCell _ _ _ _ (fun e=>gc e.symm),Below.heap_setCell _ _ _ _ (fun e=>ap e.symm)];exact(Z.out.block _ (aA d2.out) (fun e=>by injection e;omega)).trans d2.out);have Y5:=zA (Kd.tx (p:=⟨w.heap.size+1+1,0,none⟩) (Kd.tx (p:=⟨w.heap.size+1,0,none⟩) f8.out (fun k hk=>by show k≠w.heap.size+1;omega) (.slice (some ⟨gs,0,none⟩) (m+1) g)) (fun k hk=>by show k≠w.heap.size+1+1;omega) (.int .i64 0));have Y6:=zA (((kc Y.out _ Y.out.size Z.out (fun k e=>by injection e;omega)).setCell (p:=⟨w.heap.size+1,0,none⟩) (by show w.heap.size<=w.heap.size+1;omega) (.slice (some ⟨gs,0,none⟩) (m+1) g)).setCell (p:=⟨w.heap.size+1+1,0,none⟩) (by show w.heap.size<=w.heap.size+1+1;omega) (.int .i64 0));have aF:Bk b.heap.size ((T.setCell ⟨w.heap.size+1,0,none⟩ (.slice (some ⟨gs,0,none⟩) (m+1) g)).setCell ⟨w.heap.size+1+1,0,none⟩ (.int .i64 0)) (((T.setCell ⟨w.heap.size+1,0,none⟩ (.slice (some ⟨gs,0,none⟩) (m+1) g)).setCell ⟨w.heap.size+1+1,0,none⟩ (.int .i64 0)).putObj b.heap.size (.deferred none)):=⟨_,_,Y4.out,rfl,rfl⟩;refine iW (D:=b.heap.size) rfl Y4.out (o5 (p:=4) (u:=5) rfl _ _ ⟨w.heap.size+1,0,none⟩ ⟨w.heap.size+1+1,0,none⟩ (.slice (some ⟨gs,0,none⟩) (m+1) g) (.int .i64 0) rfl rfl Tryz.underlying33 Tryz.underlying30 rfl rfl ((aj (aF.cells Y1.out) 0).trans (by simp)) ((aj (aF.cells Y2.out) 0).trans (by simp))) ⟨_,idx,rfl,HP.out,f7.out,?_,Y6.out.trans (aF.below w.heap.size (by omega))⟩;exact Kd.eK (Kd.mT Y5.out (fun k hk an=>aF.heap k (by omega))) (fun k hk=>by omega)
end
section
attribute [local go_sem] jq jr js jt l4 l5 l6 l7
def gM.f (k:Nat) (b:Int) (e:List (S83)) (l1:List Int) (a2:Int):Option (Int×Int):=(jf.f k b e a2 l1).bind fun a=>(if a.2.2=0 then(if 0<=a2 then(if a2<(a.1.length:Int) then(some (mx 0 (wrap64 (-(rd a.1 a2))),0)) else(none)) else(none)) else(some (0,a.2.2)))
theorem gM.calls (k:Nat) (g:Int) (m:Option Addr) (n:Nat) (b:List (S83)) (u:Option Addr) (c1:Nat) (l1:List Int) (a2:Int) (z:Int) (B:Int) (w:World) (J:Kd.C aN w m b.length b) (K:b.length<=n) (L:Kd.C (Kd.int .i64) w u l1.length l1) (M:l1.length<=c1) (h:gM.f k g b l1 a2=some (z,B)):
  Calls Tryz.prog 129 #[.agg #[.int .i64 g,.slice m b.length n],.slice u l1.length c1,.int .i64 a2] w fun e w'=>e= .returned (.tuple #[.int .i64 z,.int .i64 B])/\Below w.heap.size w w':=by
 have ak:=Tryz.underlying24;have O:=zA J;have P:=zA K;clear J K;have Q:=zA L;have R:=zA M;clear L M;have a:=zA (aq w.heap.size w);unfold gM.f at h;have H:=h;clear h;obtain⟨⟨i,S,D⟩,E,H⟩:=zo H;dsimp only at H;by_cases p:D=0
 ·rw[if_pos p] at H
  obtain⟨T,U⟩:=bH p;clear p;by_cases v:0<=a2
  ·rw[if_pos v] at H
   have am:=az v;clear v;by_cases x:a2<(i.length:Int)
   ·rw[if_pos x] at H
    have an:=az x;clear x;obtain⟨y,o⟩:∃V:Int,(mx 0 (wrap64 (-(rd i a2))))=V:=⟨_,rfl⟩;replace H:(some (y,0))=some (z,B):=by first|(rw[o] at H;exact H)|(simp only[o] at H⊢;exact H)
    (try rw[o] at E)
    (try(have ap:0<=y:=by(rw[<-o];unfold mx;(repeat' split)<;>omega)))
    (try(have ar:0<=y:=by omega))
    have av:(if 0<(wrap64 (-(rd i a2))) then(wrap64 (-(rd i a2))) else 0)=y:=o;simp only[Option.some.injEq,Prod.mk.injEq] at H;obtain⟨rfl,rfl⟩:=H;go_enter Tryz.func129,Tryz.ntmps129
    go_wp2_with (first|((with_reducible refine aJ (N:=3) rfl ?_);refine zX 3 #[.int .i64 g,.slice m b.length n] 24 ?_;intro W j w9 q hb;have l:=zA (q);have X:=zG a j;have Y:=zG a j;replace a:=zS a hb;clear hb q j;obtain⟨aF,aL,aO,aP⟩:=ax l)|((with_reducible refine aG (f:=54) rfl ?_);refine zL (some 15) Tryz.func54 #[.agg #[.int .i64 g,.slice m b.length n],.int .i64 a2,.slice u l1.length c1] ?_;(with_reducible refine(jf.calls k g _ _ b a2 _ _ l1 i S D _ ?ah ?ai ?aW ?aX E.out).mono ?_);(case ah=>exact Kd.aw O.out zB);(case ai=>exact P.out);(case aW=>exact Kd.aw Q.out zB);(case aX=>exact R.out);rintro e iE ⟨Z,aa,rfl,r,s,hb⟩;refine⟨_,rfl,?_⟩;have F:=zA (Kd.bj r (bu zB));have ab:=zA (Kd.bj s (bu zB));replace l:=zb l hb;replace a:=zS a hb;(try clear hb);(try clear r);(try clear s);obtain⟨aS,a0,ad⟩:=Kd.bm F.out;subst ad;have G:0<=(a2:Int):=ay ‹_›;have I:a2<(i.length:Int):=ay ‹_›;obtain⟨a1,ag,a3⟩:=Kd.bU (Kd.aQ F.out).2.2 a2 G I;cases ag;replace G:=eq_true G;replace I:=eq_true I))
    go_ret2;exact⟨by first|rfl|(simp[eL,eM]<;>rfl)|(simp only[<-o];first|rfl|(simp[eL,eM]<;>rfl))|(simp[*,eL,eM]<;>rfl),zB⟩
   ·rw[if_neg x] at H
    exact absurd H (by simp)
  ·rw[if_neg v] at H
   exact absurd H (by simp)
 ·rw[if_neg p] at H
  obtain⟨T,U⟩:=bI p;simp only[Option.some.injEq,Prod.mk.injEq] at H;obtain⟨rfl,rfl⟩:=H;go_enter Tryz.func129,Tryz.ntmps129
  go_wp2_with (first|((with_reducible refine aJ (N:=3) rfl ?_);refine zX 3 #[.int .i64 g,.slice m b.length n] 24 ?_;intro W j a4 q hb;have l:=zA (q);have X:=zG a j;have Y:=zG a j;replace a:=zS a hb;clear hb q j;obtain⟨a5,a9,bd,be⟩:=ax l)|((with_reducible refine aG (f:=54) rfl ?_);refine zL (some 15) Tryz.func54 #[.agg #[.int .i64 g,.slice m b.length n],.int .i64 a2,.slice u l1.length c1] ?_;(with_reducible refine(jf.calls k g _ _ b a2 _ _ l1 i S D _ ?ah ?ai ?aW ?aX E.out).mono ?_);(case ah=>exact Kd.aw O.out zB);(case ai=>exact P.out);(case aW=>exact Kd.aw Q.out zB);(case aX=>exact R.out);rintro e bf ⟨Z,aa,rfl,r,s,hb⟩;refine⟨_,rfl,?_⟩;have F:=zA (Kd.bj r (bu zB));have ab:=zA (Kd.bj s (bu zB));replace l:=zb l hb;replace a:=zS a hb;(try clear hb);(try clear r);(try clear s)))
  go_ret2;exact⟨zE,zB⟩
end
end Go.Proofs.YtffdiakgjakngaaGreat.P


namespace Go.Proofs.YtffdiakgjakngaaGreat.P
open Go.RowKit Go.Proofs.YtffdiakgjakngaaGreatW.PrintWords Go.Proofs.YtffdiakgjakngaaGreatW.PrintLast Go.Proofs.YtffdiakgjakngaaGreatW.PrintMore
set_option linter.unusedVariables false
set_option linter.unusedSimpArgs false
set_option maxHeartbeats 8000000
set_option maxRecDepth 100000
section
attribute [local go_sem] Oper.semAt_some
theorem G2 (N:Int) (ev:Value) (A:Option Addr) (m c:Nat) (w:World):Calls Tryz.prog 72 #[.agg #[.int .i64 N,ev],.slice A m c] w fun e w'=>e= .returned (.func (.func 128) #[] #[.pointer (some ⟨w.heap.size,0,none⟩),.pointer (some ⟨w.heap.size+1,0,none⟩)])/\w'=(w.alloc (.cells #[.int .i64 N,ev] 24)).alloc (.cells #[.slice A m c] 26):=by
 go_enter Tryz.func72,Tryz.ntmps72
 go_wp2;go_ret;exact⟨rfl,rfl⟩
def eC (L:List Int) (v:Nat):List Int:=(List.range v).map fun u:Nat=>rd L u
theorem G3 (L:List Int) (v:Nat):eC L (v+1)=eC L v++[rd L v]:=by simp[eC,List.range_succ]
def G4 (base a b:Nat) (X Y:World):Prop:=(base<=X.heap.size->Below base X Y)/\(a<X.heap.size->Y.heap[a]? =X.heap[a]?)/\(b<X.heap.size->Y.heap[b]? =X.heap[b]?)
theorem G5 (a h k n:Nat) (A0:Option Addr) (c0:Nat) (E:List S83) (j:Option Addr) (c1:Nat) (d:List Int) (L:List Int) (w0 W:World) (Q:Kd.C aN w0 A0 E.length E) (R:E.length<=c0) (S:Kd.C (Kd.int .i64) w0 j d.length d) (T:d.length<=c1) (hn:n<=1000) (s:∀u:Nat,u<n->gM.f k n E d (u:Nat)=some (rd L u,0)) (w:Below w0.heap.size w0 W)
  (p:W.heap[a]? =some (.cells #[.int .i64 n,.slice A0 E.length c0] 24 (0,0))) (y:W.heap[h]? =some (.cells #[.slice j d.length c1] 26 (0,0))):
  iV (σ:=Unit) Fence.wide 9 Tryz.prog 128 #[.pointer (some ⟨a,0,none⟩),.pointer (some ⟨h,0,none⟩)] (fun x:Int=>#[.int .i64 x,.int .i64 0]) (fun _ W W1=>W1=W) (fun _ A B=>Below A.heap.size A B) (fun _ x A B=>Below A.heap.size A B)
   (fun _ X Y=>G4 w0.heap.size a h X Y)
   (fun _ xs W'=>xs=eC L n) (fun _ _ _=>True) (fun pre=>pre.length<=n) W:=by
 intro lp J Jx z D F G;have U:=zA z;have aP:=zA D;have V:=zA G;have Z:=zA s;have H:=F () W rfl;clear z D F G s;have hu:=Tryz.underlying24;refine callsIn_of_wp Tryz.func128 rfl trivial ?_ rfl;simp only[Tryz.ntmps128,List.size_toArray,List.length_cons,List.length_nil,Nat.reduceAdd,Nat.reduceSub,Array.replicate_succ,Array.replicate_zero,List.push_toArray,List.append_toArray,List.nil_append,List.cons_append];have b0:W.cell? ⟨a,0,none⟩=some (.int .i64 n):=(aj p 0).trans rfl;have b:=zA p;have g:=zA y;clear p y;gi_wp2;clear b0;gi_loopg [9] (n) (fun kq i wr=>∃v:Nat,i= .int .i64 v/\v<=n/\Aside0 (J () (eC L v) wr)/\Aside0 (wr.heap[a]? =some (.cells #[.int .i64 n,.slice A0 E.length c0] 24 (0,0)))/\Aside0 (wr.heap[h]? =some (.cells #[.slice j d.length c1] 26 (0,0)))/\Aside0 (Below w0.heap.size w0 wr)/\Aside0 (kq=n-v))
 case atStart=>exact⟨0,rfl,Nat.zero_le _,⟨H⟩,b,g,⟨w⟩,⟨rfl⟩⟩
 case round=>
  clear H w b g;obtain⟨v,rfl,hv,q,b,g,m,HK⟩:=hrel;by_cases ad:v<n
  ·have a0:(0:Int)<=(v:Int):=by omega
   have a1:(v:Int)<(n:Int):=by omega
   have HV:=zA (Z.out v ad);have ak:=zA (G3 L v);have b0:wr.cell? ⟨a,0,none⟩=some (.int .i64 n):=(aj b.out 0).trans rfl;have b1:wr.cell? ⟨a,1,none⟩=some (.slice A0 E.length c0):=(aj b.out 1).trans rfl;have b2:wr.cell? ⟨h,0,none⟩=some (.slice j d.length c1):=(aj g.out 0).trans rfl;gi_wp2_with (refine⟨trivial,?_⟩;gi_at_call 129;go_loud (refine(callsIn_wide.2 (gM.calls k n A0 c0 E j c1 d v (rd L v) 0 _ (Kd.aw Q m.out) R (Kd.aw S m.out) T HV.out)).mono ?_;rintro e w3 ⟨rfl,l⟩;have an:=zA (U.out () _ _ _ q.out l);have I:=zA (aZ m.out l);have K:=zA (aE b.out l);have M:=zA (aE g.out l);obtain⟨fn,tmps,a2,a3,r,N⟩:=V.out () (eC L v) (rd L v) _ _ an.out (aq _ _) (by show (eC L v).length<=n;simp[eC];omega);have ap:=zA N;try(simp only at r);clear N l q m b g b0 b1 b2))
   refine ap.out.mono ?_;rintro e W3 (⟨rfl,O,o⟩|⟨rfl,P⟩)
   ·have ar:=zA O
    have av:=zA ((o.2.1 (aA K.out)).trans K.out);have aB:=zA ((o.2.2 (aA M.out)).trans M.out);have aF:=zA (I.out.trans (o.1 I.out.size));clear O o r;gi_wp2;gi_roundg (n- (v+1))
    case measure=>rw[HK.out];omega
    case rel=>exact⟨v+1,by go_num,by omega,⟨by rw[ak.out];exact ar.out⟩,av,aB,aF,⟨rfl⟩⟩
   ·have aL:=zA P
    clear P r;gi_wp2;refine bodyPost_ret (results_none rfl _ _ _) rfl ?_;exact⟨⟨_,rfl⟩,.inr ⟨(),_,trivial,aL.out⟩⟩
  ·obtain rfl:n=v:=by omega
   gi_wp2;go_end0;exact⟨⟨_,rfl⟩,.inl ⟨(),_,rfl,q.out⟩⟩
def eD (pre:List Int):List Int×Int:=pre.foldl (fun s x=>(if x=1 then s.1++[s.2] else s.1,wrap64 (s.2+1))) ([],0)
theorem G6 (pre:List Int) (x:Int):eD (pre++[x])=(if x=1 then(eD pre).1++[(eD pre).2] else(eD pre).1,wrap64 ((eD pre).2+1)):=by simp[eD,List.foldl_append]
theorem G7 (pre:List Int):(eD pre).1.length<=pre.length:=by
 have key:∀(pre:List Int) (s:List Int×Int),(pre.foldl (fun s x=>(if x=1 then s.1++[s.2] else s.1,wrap64 (s.2+1))) s).1.length<=s.1.length+pre.length:=fun pre=>by
  induction pre with
  |nil=>intro s;simp
  |cons x pre a=>
   intro s;rw[List.foldl_cons];refine Nat.le_trans (a _) ?_;rw[List.length_cons];split<;>simp<;>omega
 have:=key pre ([],0);simpa [eD] using this
theorem yp (k n:Nat) (A0:Option Addr) (c0:Nat) (E:List S83) (m:Option Addr) (c1:Nat) (d:List Int) (L r2 r3:List Int) (w:World) (bf:Kd.C aN w A0 E.length E) (bg:E.length<=c0) (bi:Kd.C (Kd.int .i64) w m d.length d) (ak:d.length<=c1) (hn:n<=1000) (hw:fu.f k n E d=some (false,r2,r3,0)) (hL:∀u:Nat,u<n->gM.f k n E d (u:Nat)=some (rd L u,0)):
  Calls Tryz.prog 21 #[.agg #[.int .i64 n,.slice A0 E.length c0],.slice m d.length c1] w fun e w'=>∃v,e= .returned (.tuple #[v,.int .i64 0])/\(Kd.int .i64).R 3 w' w.heap.size (fun _=>True) v (eD (eC L n)).1/\Below w.heap.size w w':=by
 have hu:=Tryz.underlying24;have Hw:=zA hw;have HL:=zA hL;have M:=zA (lx w (.cells #[.int .i64 n,.slice A0 E.length c0] 24) (.cells #[.slice none 0 0] 25) (.cells #[.int .i64 0] 30));have cx:(((w.alloc (.cells #[.int .i64 n,.slice A0 E.length c0] 24)).alloc (.cells #[.slice none 0 0] 25)).alloc (.cells #[.int .i64 0] 30)).cell? ⟨w.heap.size,0,none⟩=some (.int .i64 n):=(aj M.out.1 0).trans rfl;have c3:(((w.alloc (.cells #[.int .i64 n,.slice A0 E.length c0] 24)).alloc (.cells #[.slice none 0 0] 25)).alloc (.cells #[.int .i64 0] 30)).cell? ⟨w.heap.size,1,none⟩=some (.slice A0 E.length c0):=(aj M.out.1 1).trans rfl;clear hw hL;refine(callsIn_wide (n:=10)).1 ?_;refine callsIn_of_wp_marks Tryz.func21 rfl trivial ?_ rfl;simp only[Tryz.ntmps21,List.size_toArray,List.length_cons,List.length_nil,Nat.reduceAdd,Nat.reduceSub,Array.replicate_succ,Array.replicate_zero,List.push_toArray,List.append_toArray,List.nil_append,List.cons_append];gi_wp2_with (first|(refine⟨trivial,?_⟩;gi_at_call 14;refine(callsIn_wide.2 (fu.calls k n A0 c0 E m c1 d false r2 r3 0 _ (Kd.bp (Kd.bp (Kd.bp bf _) _) _) bg (Kd.bp (Kd.bp (Kd.bp bi _) _) _) ak Hw.out)).mono ?_;rintro e w1 ⟨v1,v2,rfl, -, -,hb⟩;have HB:=zA ((ao (ao (ao (aq w.heap.size w) _) _) _).trans (hb.mono (by simp;omega)));have X0:=zA (aE M.out.1 hb);have N:=zA (aE M.out.2.1 hb);have z:=zA (aE M.out.2.2 hb);have y0:((w1.alloc (.cells #[.slice none 0 0] 25)).alloc (.cells #[.int .i64 0] 3)).cell? ⟨w.heap.size,0,none⟩=some (.int .i64 n):=(aj (au (au X0.out _) _) 0).trans rfl;have y1:((w1.alloc (.cells #[.slice none 0 0] 25)).alloc (.cells #[.int .i64 0] 3)).cell? ⟨w.heap.size,1,none⟩=some (.slice A0 E.length c0):=(aj (au (au X0.out _) _) 1).trans rfl;clear hb cx c3)|(refine⟨trivial,?_⟩;gi_at_call 72;refine(callsIn_wide.2 (G2 _ _ _ _ _ _)).mono ?_;rintro e w3 ⟨rfl,rfl⟩))
 have c6:=HB.out.size;have c7:w.heap.size+1+1<w1.heap.size:=aA z.out;obtain⟨S,bw⟩:∃o:Obj,o= .cells #[.slice none 0 0] 25:=⟨_,rfl⟩;obtain⟨T,bx⟩:∃o:Obj,o= .cells #[.int .i64 0] 3:=⟨_,rfl⟩;obtain⟨U,b0⟩:∃o:Obj,o= .cells #[.int .i64 n,.slice A0 E.length c0] 24:=⟨_,rfl⟩;obtain⟨G,b_⟩:∃o:Obj,o= .cells #[.slice m d.length c1] 26:=⟨_,rfl⟩;obtain⟨V0,V1,V2⟩:=lx w1 S T U;have V3:=bc (((w1.alloc S).alloc T).alloc U) G;simp only[World.size_alloc] at V3;have Z:=zA (au (V0.trans (by rw[bw]:_=some (.cells #[.slice none 0 0] 25 (0,0)))) G);have V:=zA (au (V1.trans (by rw[bx]:_=some (.cells #[.int .i64 0] 3 (0,0)))) G);have av:=zA (au (V2.trans (by rw[b0]:_=some (.cells #[.int .i64 n,.slice A0 E.length c0] 24 (0,0)))) G);have aB:=zA (V3.trans (by rw[b_]:_=some (.cells #[.slice m d.length c1] 26 (0,0))));have aF:=zA (ao (ao (ao (ao HB.out S) T) U) G);have cc:=zA (au (au (au (au N.out S) T) U) G);have cd:=zA (au (au (au (au z.out S) T) U) G);clear V0 V1 V2 V3;subst bw bx b0 b_;clear y0 y1 X0 N z HB M Hw;have aa:((((w1.alloc (.cells #[.slice none 0 0] 25)).alloc (.cells #[.int .i64 0] 3)).alloc (.cells #[.int .i64 n,.slice A0 E.length c0] 24)).alloc (.cells #[.slice m d.length c1] 26)).heap.size=w1.heap.size+4:=by simp
 generalize (((w1.alloc (.cells #[.slice none 0 0] 25)).alloc (.cells #[.int .i64 0] 3)).alloc (.cells #[.int .i64 n,.slice A0 E.length c0] 24)).alloc (.cells #[.slice m d.length c1] 26)=a at Z V av aB aF cc cd aa⊢;have ce:=Nat.le_of_eq aa;have cf:=Nat.le_of_eq aa.symm;clear aa;generalize ch:w1.heap.size+1+1+1=qx at aB⊢;generalize ci:w1.heap.size+1+1=gx at av ch⊢;generalize cj:w1.heap.size+1=bv at V ci⊢;generalize w1.heap.size=bo at Z ce cf c7 c6 cj⊢;have e1:bo+1<=bv:=by omega
 have e2:bv+1<=gx:=by omega
 have e3:gx+1<=qx:=by omega
 have e4:qx+1<=a.heap.size:=by omega
 clear ch ci cj ce cf;refine iz (σ:=Unit) (α:=Int) (F:=Fence.wide) (n:=10) rfl (by decide) (gf:=128) (lb:=#[.pointer (some ⟨gx,0,none⟩),.pointer (some ⟨qx,0,none⟩)]) rfl trivial (enters_of Tryz.func128 (by kernel_rfl) rfl)
  (fun o=>G5 gx qx k n A0 c0 E m c1 d L w _ bf bg bi ak hn HL.out (ao (ao aF.out _) _) (au (au av.out _) _) (au (au aB.out _) _)) (fun _=>rfl)
  (fun _=>True) ?en ?st ?ar
  (fun _ pre W=>a.heap.size+2<=W.heap.size/\(∃v,W.heap[bo]? =some (.cells #[v] 25 (0,0))/\(Kd.int .i64).R 3 W w.heap.size (fun k=>a.heap.size+2<=k) v (eD pre).1)/\W.heap[bv]? =some (.cells #[.int .i64 (eD pre).2] 3 (0,0))/\W.heap[w.heap.size+1]? =some (.cells #[.slice none 0 0] 25 (0,0))/\W.heap[w.heap.size+1+1]? =some (.cells #[.int .i64 0] 30 (0,0))/\Below w.heap.size w W) (fun _ _ _ _=>False)
  ?is (fun _ _ _ _ _ _ h _=>h) ?ib (fun _ _ _ _ _ h _=>h) ?kt ?h0 ?a1 ?assign ?body ?done (fun _ _ _ _ _ _ _ h=>h.elim)
 case assign=>
  intro l x W K hK;gi_wp2;exact hK
 case en=>
  intro o s W1 h;exact⟨trivial,by rw[h];exact ct.refl _ _⟩
 case st=>intro s A B _ h;exact cZ h
 case ar=>intro s x A B _ h;exact cZ h
 case is=>
  rintro s pre A B _ ⟨X,⟨v,h1,h4⟩,h2,h3,h6,h5⟩ H;exact⟨Nat.le_trans X H.size,⟨v,aE h1 H,Kd.cT h4 H⟩,aE h2 H,aE h3 H,aE h6 H,aZ h5 H⟩
 case ib=>
  rintro s pre A B ⟨X,⟨v,h1,h4⟩,h2,h3,h6,h5⟩ hb;exact⟨by rw[hb.size];exact X,⟨v,hb.cells h1,df h4 hb⟩,hb.cells h2,hb.cells h3,hb.cells h6,h5.trans (hb.below w.heap.size (by omega))⟩
 case kt=>
  intro s A B C D O a2 a3;refine⟨fun aY=>((O.below w.heap.size (by omega)).trans (a2.1 (by rw[O.size];exact aY))).trans (a3.below w.heap.size (by omega)),fun i=>?_,fun i=>?_⟩
  ·have Y:gx≠a.heap.size+1:=by omega
   exact(a3.heap _ Y).trans ((a2.2.1 (by rw[O.size];exact i)).trans (O.heap _ Y))
  ·have Y:qx≠a.heap.size+1:=by omega
   exact(a3.heap _ Y).trans ((a2.2.2 (by rw[O.size];exact i)).trans (O.heap _ Y))
 case h0=>
  rintro o s W1 rfl;exact⟨by simp,⟨_,au (au Z.out _) _,Kd.dh _ _ _ _ _⟩,au (au V.out _) _,au (au cc.out _) _,au (au cd.out _) _,ao (ao aF.out _) _⟩
 case body=>
  rintro l s pre x Wb W1 W _ ⟨X,⟨v,i1,i4⟩,i2,i3,i6,i5⟩ q ab b;have ek:Wb.heap.size<=W.heap.size:=by have:=b.size;have:=q.size;omega
  have b1:=zA (b.cells (aE i1 q));have P:=zA (b.cells (aE i2 q));have b3:=zA (b.cells (aE i3 q));have r:=zA (b.cells (aE i6 q));have b4:=zA (df (Kd.cT i4 q) b);have Q:=zA ((aZ i5 q).trans (b.below w.heap.size (by omega)));have y:=zA (G6 pre x);have ck:=zA (Nat.le_trans (G7 pre) (show pre.length<=n from ab));clear i1 i2 i3 i4 i5 i6 q b ab;generalize (eD pre).1=o at b4 y ck;generalize (eD pre).2=j at P y;obtain⟨g,cr,rfl⟩:=Kd.bm b4.out;have c':a.heap.size+2<=W.heap.size:=by omega
  have z2:=cY P.out;have z3:=bt P.out 0;by_cases hx:x=1
  ·subst hx
   rw[if_pos rfl] at y;have z1:=cY b1.out;have LN:Aside0 ((o.length+1)*8<=140737488355328):=⟨by have:=ck.out;omega⟩;have dk:Aside0 (∀k,W.heap.size<=k->a.heap.size+2<=k):=⟨fun k hk=>by omega⟩;gi_wp2_with (gi_at_builtin;go_loud (refine ny (Kd.int .i64) (w0:=w) w.heap.size rfl (.tmp 38) (.tmp 40) 25 3 (.int .i64 0) 8 rfl Tryz.underlying25 gB rfl (by decide) (by omega) (.slice g o.length cr) o j [.int .i64 j] (fun k=>a.heap.size+2<=k) (fun _=>False) rfl rfl rfl (fun _ hk=>hk.elim) dk.out b4.out Q.out Q.out.size LN.out ?_;intro v1 el I hb ad dl;obtain⟨A2,c2,rfl⟩:=Kd.bm I;have ds:=zA I;have dv:=zA hb;have J:=zA ad;have N:=zA ((ad.block bo (aA b1.out) (Kd.dj b4.out b1.out (by decide))).trans b1.out);have ak:=cY N.out;have em:=bt N.out 0;have z:=zA ((ad.block bv (aA P.out) (fun e=>by have h:a.heap.size+2<=bv:=b4.out.1 bv e.symm;omega)).trans P.out);have er:=cY z.out;have es:=bt z.out 0;clear I hb ad dl))
   have X3:=zA ((J.out.block _ (aA b3.out) (Kd.dj b4.out b3.out (by decide))).trans b3.out);have X6:=zA ((J.out.block _ (aA r.out) (Kd.dj b4.out r.out (by decide))).trans r.out);have I:∀k,(Value.slice g o.length cr).ownBlock=some k->a.heap.size+2<=k:=fun k e=>b4.out.1 k e
   have d2:w.heap.size<=W.heap.size:=Q.out.size;refine⟨((nz b4.out J.out).trans (eO _ _ (aA Z.out))).trans (eO _ _ (aA V.out)),⟨fun _=>?_,fun i=>?_,fun i=>?_⟩,by have:=J.out.size;simp at this⊢;omega,⟨.slice A2 (o.length+1) c2,?_,?_⟩,?_,?_,?_,?_⟩
   ·exact(((aq w.heap.size W).grown J.out d2 (fun k e=>by have:=I k e;omega)).setCell (p:=⟨bo,0,none⟩) (by show w.heap.size<=bo;omega) _).setCell (p:=⟨bv,0,none⟩) (by show w.heap.size<=bv;omega) _
   ·rw[Below.heap_setCell _ _ _ _ (by show gx≠bv;omega),Below.heap_setCell _ _ _ _ (by show gx≠bo;omega)]
    exact J.out.block gx i (fun e=>by have:=I gx e.symm;omega)
   ·rw[Below.heap_setCell _ _ _ _ (by show qx≠bv;omega),Below.heap_setCell _ _ _ _ (by show qx≠bo;omega)]
    exact J.out.block qx i (fun e=>by have:=I qx e.symm;omega)
   ·exact aD (bQ N.out 0 (.slice A2 (o.length+1) c2)) (by show bo≠bv;omega) _
   ·rw[y.out]
    have h:=Kd.dr (p:=⟨bv,0,none⟩) (Kd.dr (p:=⟨bo,0,none⟩) ds.out (fun k hk=>by show k≠bo;omega) (.slice A2 (o.length+1) c2)) (fun k hk=>by show k≠bv;omega) (.int .i64 (wrap64 (j+1)));simpa using h
   ·rw[y.out]
    exact bB (cs:=#[.int .i64 j]) (aD z.out (by show bv≠bo;omega) _) 0 _ rfl
   ·exact aD (aD X3.out (by show w.heap.size+1≠bo;omega) _) (by show w.heap.size+1≠bv;omega) _
   ·exact aD (aD X6.out (by show w.heap.size+1+1≠bo;omega) _) (by show w.heap.size+1+1≠bv;omega) _
   ·exact dN (dN dv.out (by show w.heap.size<=bo;omega)) (by show w.heap.size<=bv;omega)
  ·rw[if_neg hx] at y
   gi_wp2;refine⟨eO _ _ (aA V.out),⟨fun _=>?_,fun i=>?_,fun i=>?_⟩,by simpa using c',⟨_,aD b1.out (by show bo≠bv;omega) _,?_⟩,?_,aD b3.out (by show w.heap.size+1≠bv;omega) _,aD r.out (by show w.heap.size+1+1≠bv;omega) _,dN Q.out (by show w.heap.size<=bv;omega)⟩
   ·exact(aq w.heap.size W).setCell (p:=⟨bv,0,none⟩) (by show w.heap.size<=bv;omega) _
   ·exact Below.heap_setCell _ _ _ _ (by show gx≠bv;omega)
   ·exact Below.heap_setCell _ _ _ _ (by show qx≠bv;omega)
   ·rw[y.out]
    exact Kd.dr (p:=⟨bv,0,none⟩) b4.out (fun k hk=>by show k≠bv;omega) _
   ·rw[y.out]
    exact bB (cs:=#[.int .i64 j]) P.out 0 _ rfl
 case done=>
  rintro s xs W W' _ cn ⟨X,⟨v,i1,i4⟩,i2,i3,i6,i5⟩ b co;have d3:xs=eC L n:=cn;subst d3;have b1:=zA (b.cells i1);have b3:=zA (b.cells i3);have r:=zA (b.cells i6);have b4:=zA (df i4 b);have Q:=zA (i5.trans (b.below w.heap.size (by omega)));have d4:=zA co;clear i1 i2 i3 i4 i5 i6 co cn b;obtain⟨o,ho⟩:∃o,o=(eD (eC L n)).1:=⟨_,rfl⟩;have d5:=zA ho;rw[<-ho] at b4;clear ho;obtain⟨g,cr,rfl⟩:=Kd.bm b4.out;have z1:=cY b1.out;have z3:=cY b3.out;have z4:=bt b3.out 0;have z6:=cY r.out;have z7:=bt r.out 0;have Y3:=zA (aD (p:=⟨w.heap.size+1,0,none⟩) r.out (by show w.heap.size+1+1≠w.heap.size+1;omega) (.slice g o.length cr));have q3:(W'.setCell ⟨w.heap.size+1,0,none⟩ (.slice g o.length cr)).cell? ⟨w.heap.size+1+1,0,none⟩=some (.int .i64 0):=cY Y3.out;have q4:=bt Y3.out 0;gi_wp2;have ab:w.heap.size+1≠a.heap.size:=by omega
  have d6:w.heap.size+1+1≠a.heap.size:=by omega
  have Y1:=zA (aD (p:=⟨w.heap.size+1+1,0,none⟩) (bQ b3.out 0 (.slice g o.length cr)) (by show w.heap.size+1≠w.heap.size+1+1;omega) (.int .i64 0));have Y2:=zA (bQ Y3.out 0 (.int .i64 0));have Y4:=zA (show ((W'.setCell ⟨w.heap.size+1,0,none⟩ (.slice g o.length cr)).setCell ⟨w.heap.size+1+1,0,none⟩ (.int .i64 0)).heap[a.heap.size]? =some (.deferred (some [])) from by rw[Below.heap_setCell _ _ _ _ (fun e=>d6 e.symm),Below.heap_setCell _ _ _ _ (fun e=>ab e.symm)];exact d4.out);have Y5:=zA (Kd.dr (p:=⟨w.heap.size+1+1,0,none⟩) (Kd.dr (p:=⟨w.heap.size+1,0,none⟩) b4.out (fun k hk=>by show k≠w.heap.size+1;omega) (.slice g o.length cr)) (fun k hk=>by show k≠w.heap.size+1+1;omega) (.int .i64 0));have Y6:=zA ((Q.out.setCell (p:=⟨w.heap.size+1,0,none⟩) (by show w.heap.size<=w.heap.size+1;omega) (.slice g o.length cr)).setCell (p:=⟨w.heap.size+1+1,0,none⟩) (by show w.heap.size<=w.heap.size+1+1;omega) (.int .i64 0));have ag:Bk a.heap.size ((W'.setCell ⟨w.heap.size+1,0,none⟩ (.slice g o.length cr)).setCell ⟨w.heap.size+1+1,0,none⟩ (.int .i64 0)) (((W'.setCell ⟨w.heap.size+1,0,none⟩ (.slice g o.length cr)).setCell ⟨w.heap.size+1+1,0,none⟩ (.int .i64 0)).putObj a.heap.size (.deferred none)):=⟨_,_,Y4.out,rfl,rfl⟩;refine iW (D:=a.heap.size) rfl Y4.out (o5 (p:=4) (u:=5) rfl _ _ ⟨w.heap.size+1,0,none⟩ ⟨w.heap.size+1+1,0,none⟩ (.slice g o.length cr) (.int .i64 0) rfl rfl Tryz.underlying25 Tryz.underlying30 rfl rfl ((aj (ag.cells Y1.out) 0).trans (by simp)) ((aj (ag.cells Y2.out) 0).trans (by simp))) ⟨_,rfl,?_,Y6.out.trans (ag.below w.heap.size (by omega))⟩;rw[<-d5.out];exact Kd.bb (df Y5.out ag) (fun _ _=>trivial)
end
section
def dg (P:Nat->Prop):Prop:=∃B,∀K,B<=K->P K
theorem dg.kb {α:Type} {f:Nat->Option α} {r:α} (h:Ev f r):dg fun k=>f k=some r:=h
theorem dg.and {P Q:Nat->Prop} (h:dg P) (a:dg Q):dg fun k=>P k/\Q k:=by
 obtain⟨B,h⟩:=h;obtain⟨C,a⟩:=a;exact⟨max B C,fun K b=>⟨h K (by omega),a K (by omega)⟩⟩
theorem dg.imp {P Q:Nat->Prop} (h:dg P) (hi:∀k,P k->Q k):dg Q:=by
 obtain⟨B,h⟩:=h;exact⟨B,fun K a=>hi K (h K a)⟩
theorem dg.mem {α:Type} {P:α->Nat->Prop}:∀{l:List α},(∀x∈l,dg (P x))->dg fun k=>∀x∈l,P x k
 |[],_=>⟨0,fun _ _ x b=>by simp at b⟩
 |x::l,h=>by
  refine((h x (List.mem_cons_self ..)).and (dg.mem fun y a=>h y (List.mem_cons_of_mem _ a))).imp fun k hk y a=>?_
  rcases List.mem_cons.1 a with rfl|a
  ·exact hk.1
  ·exact hk.2 y a
theorem dg.below {P:Nat->Nat->Prop} {n:Nat} (h:∀v,v<n->dg (P v)):dg fun k=>∀v,v<n->P v k:=
 (dg.mem (l:=List.range n) fun v a=>h v (List.mem_range.1 a)).imp fun k hk v a=>hk v (List.mem_range.2 a)
theorem yq (pre:List Int):(eD pre).1.length=pre.countP fun x=>decide (x=1):=by
 have key:∀(pre:List Int) (s:List Int×Int),(pre.foldl (fun s x=>(if x=1 then s.1++[s.2] else s.1,wrap64 (s.2+1))) s).1.length=s.1.length+pre.countP fun x=>decide (x=1):=fun pre=>by
  induction pre with
  |nil=>intro s;simp
  |cons x pre a=>
   intro s;rw[List.foldl_cons,a,List.countP_cons];by_cases e:x=1
   ·simp[e];omega
   ·simp[e]
 have:=key pre ([],0);simpa [eD] using this
theorem G8 {L:List Int} {n:Nat} (h:∀u:Nat,u<n->rd L u=1):(eD (eC L n)).1.length=n:=by
 have a:(eC L n).length=n:=by simp[eC]
 rw[yq,List.countP_eq_length.2,a];intro x b;obtain⟨u,hu,rfl⟩:=List.mem_map.1 b;exact az (h u (List.mem_range.1 hu))
theorem G9 {L:List Int} {n v:Nat} (a:v<n) (h:rd L v≠1):(eD (eC L n)).1.length<n:=by
 have b:(eC L n).length=n:=by simp[eC]
 rw[yq];refine Nat.lt_of_le_of_ne (by have:=List.countP_le_length (p:=fun x=>decide (x=1)) (l:=eC L n);omega) fun e=>h ?_
 have h1:=List.countP_eq_length.1 (e.trans b.symm) (rd L v) (List.mem_map.2 ⟨v,List.mem_range.2 a,rfl⟩);exact ay h1
namespace Curve
variable {n:Nat} {E:List S83} {d:List Int} (h:Curve n E d) (hn:1<=n)
include h hn
theorem G_ {c:List Int} (b:c.length=n) (hb:∀v:Nat,v<n-> -200<=rd c v/\rd c v<=200) {q:Nat} (e:q<n):dU n q E c:=by
 have a:=h.gu hn b hb;exact⟨a.n1,a.n12,e,a.len,a.right,a.conn,a.val,a.dl,a.d⟩
theorem G' {c:List Int} (o:c.length=n) (hb:∀v:Nat,v<n-> -200<=rd c v/\rd c v<=200) {v:Nat} (i:v<n):∃p,Ev (fun k=>gM.f k n E c v) (p,(0:Int))/\(p=1↔¬T.bE n (af E) (fun u=>rd c (u:Nat))/\T.bE n (af E) (fun u=>rd c (u:Nat)+T.one v u)):=by
 have j:=h.G_ hn o hb i;have y:=(h.facts hn).1;have e:=j.right.wt;obtain⟨s,h1,C,g⟩:=xc j h.check;have he:T.bM n (af E) (fun u=>rd c (u:Nat)) (fun u=>rd (cN n E c s) (u:Nat)):=⟨_,g.eq⟩;have q:=T.BE e i he g.red;have D:=he.ba e;have F:=T.nE (f:=fun u=>rd c (u:Nat)) (n:=n) (B:=200) hb;have l:=T.vV (f:=fun u=>rd (cN n E c s) (u:Nat)) i (a:=0) (b:=19) (by omega) (by omega) (fun u hu m=>by
  have r:=g.red.1 u hu m;have a2:=T.nD e g.red.2 hu m;have a3:=T.gD hu (f:=T.val n (af E)) (fun w _=>T.dy fun z _=>e.pos _ _);have a4:=j.val;have x:0<=rd (cN n E c s) (u:Nat):=r;have G:rd (cN n E c s) (u:Nat)<T.val n (af E) u:=a2;exact⟨x,by show rd (cN n E c s) (u:Nat)<=19;omega⟩)
 have H:T.sN (fun u=>rd (cN n E c s) (u:Nat)) n-n*19<=rd (cN n E c s) (v:Nat):=l.1;have I:rd (cN n E c s) (v:Nat)<=T.sN (fun u=>rd (cN n E c s) (u:Nat)) n-n*0:=l.2;refine⟨mx 0 (wrap64 (-(rd (cN n E c s) (v:Nat)))),?_,?_⟩
 ·unfold gM.f
  refine Ev.bind h1 ?_;simp only[if_true,if_pos (show (0:Int)<=(v:Int) by omega),if_pos (show (v:Int)<((cN n E c s).length:Int) by rw[pB];omega)];exact Ev.const _
 ·rw[gX (by omega)]
  refine Iff.trans ?_ q;show _↔rd (cN n E c s) (v:Nat)= -1
  unfold mx;split<;>omega
theorem yr {c:List Int} (b:c.length=n) (hb:∀v:Nat,v<n-> -200<=rd c v/\rd c v<=200):∃L:List Int,(dg fun k=>∀u:Nat,u<n->gM.f k n E c (u:Nat)=some (rd L u,0))/\∀u:Nat,u<n->(rd L u=1↔¬T.bE n (af E) (fun x=>rd c (x:Nat))/\T.bE n (af E) (fun x=>rd c (x:Nat)+T.one u x)):=by
 have hex:∀v:Nat,∃p:Int,v<n->Ev (fun k=>gM.f k n E c v) (p,(0:Int))/\(p=1↔¬T.bE n (af E) (fun u=>rd c (u:Nat))/\T.bE n (af E) (fun u=>rd c (u:Nat)+T.one v u)):=fun v=>by
  by_cases a:v<n
  ·obtain⟨p,h1⟩:=h.G' hn b hb a
   exact⟨p,fun _=>h1⟩
  ·exact⟨0,fun e=>absurd e a⟩
 refine⟨(List.range n).map fun v=>(hex v).choose,dg.below fun u hu=>?_,fun u hu=>?_⟩
 ·rw[pA _ hu]
  exact((hex u).choose_spec hu).1
 ·rw[pA _ hu]
  exact((hex u).choose_spec hu).2
end Curve
end
def fy.l0:Nat->Int->Int->Int->List (S83)->Option (Int)
 |0,_,_,_,_=>none
 |k+1,x3,x4,b,a=>if x4<(a.length:Int) then(if 0<=x4 then(if((ae a x4).f0)=((ae a x4).f1) then(fy.l0 k x3 (wrap64 (x4+1)) b a) else(fy.l0 k (wrap64 (x3+((ae a x4).f2))) (wrap64 (x4+1)) b a)) else(none)) else(some x3)
def fy.f (k:Nat) (a:Int) (b:List (S83)):Option (Int):=fy.l0 k (wrap64 (1-a)) 0 a b
theorem fy.calls (k:Nat) (l:Int) (B:Option Addr) (D:Nat) (g:List (S83)) (r:Int) (w:World) (ab:Kd.C aN w B g.length g) (ad:g.length<=D) (h:fy.f k l g=some r):
  Calls Tryz.prog 43 #[.agg #[.int .i64 l,.slice B g.length D]] w fun e w'=>e= .returned (.int .i64 r)/\Below w.heap.size w w':=by
 have aL:=Tryz.underlying24;have F:=zA ab;have aO:=zA ad;clear ab ad;have a:=zA (aq w.heap.size w);have H:(fy.l0 k (wrap64 (1-l)) 0 l g)=some r:=h;clear h;have E:=zA H;clear H;go_enter Tryz.func43,Tryz.ntmps43
 go_wp2_with (first|((with_reducible refine aJ (N:=1) rfl ?_);refine zX 1 #[.int .i64 l,.slice B g.length D] 24 ?_;intro M j w2 m hb;have i:=zA (m);have ag:=zG a j;have ak:=zG a j;replace a:=zS a hb;clear hb m j;obtain⟨O,P,Q,R⟩:=ax i))
 repeat(go_quiet (first|((with_reducible refine aJ (N:=1) rfl ?_);refine zX 1 #[.int .i64 l,.slice B g.length D] 24 ?_;intro M j w2 m hb;have i:=zA (m);have ag:=zG a j;have ak:=zG a j;replace a:=zS a hb;clear hb m j;obtain⟨O,P,Q,R⟩:=ax i));try go_wp2_with (first|((with_reducible refine aJ (N:=1) rfl ?_);refine zX 1 #[.int .i64 l,.slice B g.length D] 24 ?_;intro M j w2 m hb;have i:=zA (m);have ag:=zG a j;have ak:=zG a j;replace a:=zS a hb;clear hb m j;obtain⟨O,P,Q,R⟩:=ax i)))
 go_loopg [3,4] k (fun kq v3 v4 w'=>∃(G:Int) (b:Int),v3= .int .i64 G/\v4= .int .i64 b/\Aside0 (fy.l0 kq G b l g=some r)/\Aside0 (kq<=k)/\Aside0 (w'.heap[M]? =some (.cells #[.int .i64 l,(.slice B g.length D)] 24 (0,0)))/\Aside0 (Below w.heap.size w w'))
 case atStart=>exact⟨(wrap64 (1-l)),(0),zT,zT,E,⟨aI _⟩,⟨zK i⟩,⟨zB⟩⟩
 case round=>
  clear E;clear O P Q R;obtain⟨G,b,rfl,rfl,S,J,i,a⟩:=hrel;cases gk with
  |zero=>exact absurd S.out (by simp[fy.l0])
  |succ k1=>
   have H:=S.out;clear S;simp only[fy.l0] at H;by_cases c4:b<(g.length:Int)
   ·rw[if_pos c4] at H
    have ap:=az c4;clear c4;by_cases K:0<=b
    ·rw[if_pos K] at H
     have aP:=az K;clear K;by_cases I:((ae g b).f0)=((ae g b).f1)
     ·rw[if_pos I] at H
      obtain⟨ar,av⟩:=bH I;clear I;have E:=zA H;clear H;obtain⟨aS,a0,a1,a2⟩:=ax i;have n:0<=(b:Int):=ay ‹_›;have o:b<(g.length:Int):=ay ‹_›;obtain⟨L,T,p,q,s⟩:=dE F.out b n o;cases T;replace p:=(a.out.cell (a8 w _ p)).trans p;replace q:=(a.out.cell (a8 w _ q)).trans q;replace s:=(a.out.cell (a8 w _ s)).trans s;replace n:=eq_true n;replace o:=eq_true o;have u:0<=(b:Int):=ay ‹_›;have v:b<(g.length:Int):=ay ‹_›;obtain⟨U,V,x,y,z⟩:=dE F.out b u v;obtain rfl:L=U:=(by injection V);replace x:=(a.out.cell (a8 w _ x)).trans x;replace y:=(a.out.cell (a8 w _ y)).trans y;replace z:=(a.out.cell (a8 w _ z)).trans z;replace u:=eq_true u;replace v:=eq_true v;go_wp2;repeat(go_quiet (fail);try go_wp2)
      go_roundg k1
      case measure=>have:=J.out;omega
      case rel=>exact⟨(G),(wrap64 (b+1)),zT,zT,E,⟨by have:=J.out;omega⟩,⟨zK i⟩,⟨zB⟩⟩
     ·rw[if_neg I] at H
      obtain⟨ar,av⟩:=bI I;have E:=zA H;clear H;obtain⟨a3,a4,a5,a9⟩:=ax i;have n:0<=(b:Int):=ay ‹_›;have o:b<(g.length:Int):=ay ‹_›;obtain⟨L,T,p,q,s⟩:=dE F.out b n o;cases T;replace p:=(a.out.cell (a8 w _ p)).trans p;replace q:=(a.out.cell (a8 w _ q)).trans q;replace s:=(a.out.cell (a8 w _ s)).trans s;replace n:=eq_true n;replace o:=eq_true o;have u:0<=(b:Int):=ay ‹_›;have v:b<(g.length:Int):=ay ‹_›;obtain⟨U,V,x,y,z⟩:=dE F.out b u v;obtain rfl:L=U:=(by injection V);replace x:=(a.out.cell (a8 w _ x)).trans x;replace y:=(a.out.cell (a8 w _ y)).trans y;replace z:=(a.out.cell (a8 w _ z)).trans z;replace u:=eq_true u;replace v:=eq_true v;have W:0<=(b:Int):=ay ‹_›;have X:b<(g.length:Int):=ay ‹_›;obtain⟨aB,aF,Y,Z,aa⟩:=dE F.out b W X;obtain rfl:L=aB:=(by injection aF);replace Y:=(a.out.cell (a8 w _ Y)).trans Y;replace Z:=(a.out.cell (a8 w _ Z)).trans Z;replace aa:=(a.out.cell (a8 w _ aa)).trans aa;replace W:=eq_true W;replace X:=eq_true X;go_wp2;repeat(go_quiet (fail);try go_wp2)
      go_roundg k1
      case measure=>have:=J.out;omega
      case rel=>exact⟨(wrap64 (G+((ae g b).f2))),(wrap64 (b+1)),zT,zT,E,⟨by have:=J.out;omega⟩,⟨zK i⟩,⟨zB⟩⟩
    ·rw[if_neg K] at H
     exact absurd H (by simp)
   ·rw[if_neg c4] at H
    have ap:=a6 c4;clear c4;obtain rfl:=aH H;obtain⟨bd,be,bf,bg⟩:=ax i;go_wp2;repeat(go_quiet (fail);try go_wp2)
    go_ret;exact⟨zE,zB⟩
def kI:List S83->Int
 |[]=>0
 |x::E=>(if x.f0=x.f1 then 0 else x.f2)+kI E
theorem ss:∀E:List S83,kI E=eS (dD E)
 |[]=>rfl
 |x::E=>by
  by_cases e:x.f0=x.f1
  ·rw[show dD (x::E)=dD E from List.filter_cons_of_neg (by simp[e]),kI,if_pos e,ss E];omega
  ·rw[show dD (x::E)=x::dD E from List.filter_cons_of_pos (by simp[e]),kI,eS,if_neg e,ss E]
theorem yt {n:Nat} {E:List S83} (hn:n<=12) (a:br n E) (h:E.length<=1000):∀(m i:Nat) (s:Int),i+m=E.length-> -12<=s->s<=50*i+1->Ev (fun k=>fy.l0 k s i n E) (s+kI (E.drop i))
 |0,i,s,hi,j,h1=>by
  refine Ev.of_succ ?_;simp only[fy.l0,if_neg (show ¬(i:Int)<E.length by omega),List.drop_of_length_le (show E.length<=i by omega),kI,Int.add_zero];exact Ev.const _
 |m+1,i,s,hi,j,h1=>by
  have b:=fun s=>yt hn a h m (i+1) s (by omega)
  have g:=a.ok _ (yf (E:=E) (i:=i) (by omega));simp[bX] at g;refine Ev.of_succ ?_;simp only[fy.l0,if_pos (show (i:Int)<E.length by omega),if_pos (show (0:Int)<=i by omega),d_ (show i<=1000000 by omega)];rw[ng (show i<E.length by omega),kI];generalize ae E i=x at g⊢;by_cases e:x.f0=x.f1
  ·have:=b s (by omega) (by omega)
   rw[if_pos e,Int.zero_add];simp only[if_pos e];exact this
  ·have:=b (s+x.f2) (by omega) (by omega)
   rw[if_neg e,<-Int.add_assoc];simp only[if_neg e,gX (show -1000000000<=s+x.f2/\s+x.f2<=1000000000 by omega)];exact this
theorem Hc {n:Nat} {E:List S83} (hn:1<=n) (b:n<=12) (i:E.length<=1000) (j:cz n E=0) {g:Int} (l:T.dF n (af E) g):Ev (fun k=>fy.f k n E) g:=by
 have a:=(gE j).2.2;unfold fy.f;have h:=yt b a i E.length 0 (1-n) (by omega) (by omega) (by omega);rw[List.drop_zero] at h;simp only[gX (show -1000000000<=(1:Int)-n/\(1:Int)-n<=1000000000 by omega)];have h1:=xM a.dD (fun x m=>(nS.1 m).2);rw[xC] at h1;have o:T.sN (T.can n (af E)) n=2*g-2:=l;rw[show T.can n (af E)=fun v=>T.val n (af E) v-2 from rfl,T.de,T.iq,h1] at o;have p:=nB a.dD (dD E).length (aI _);rw[List.take_length,<-ss] at p;have e:g=1-n+kI E:=by omega
 rw[e];exact h
section
attribute [local go_sem] Oper.semAt_some
theorem Hd (k:Nat) (N:Int) (A0:Option Addr) (c0:Nat) (E:List S83) (b:Option Addr) (c1:Nat) (d:List Int) (a:Int) (w:World) (i:Kd.C aN w A0 E.length E) (j:E.length<=c0) (l:Kd.C (Kd.int .i64) w b d.length d) (m:d.length<=c1) (h:jk.f k N E d=some false) (g:∀w,Calls Tryz.prog 26 #[] w fun e w'=>e= .returned (.bool true)/\Below w.heap.size w w'):
  Calls Tryz.prog 10 #[.agg #[.int .i64 N,.slice A0 E.length c0],.slice b d.length c1,.int .u8 a] w fun e w'=>e= .returned (.bool true)/\Below w.heap.size w w':=by
 have hu:=Tryz.underlying24;have n:=zA h;have o:=zA g;clear h g;have b0:(w.alloc (.cells #[.int .i64 N,.slice A0 E.length c0] 24)).cell? ⟨w.heap.size,0,none⟩=some (.int .i64 N):=(aj (bc _ _) 0).trans rfl;go_enter Tryz.func10,Tryz.ntmps10
 go_wp2_with (first|(go_at_call 29;refine(jk.calls k N A0 c0 E b c1 d false _ (Kd.bp i _) j (Kd.bp l _) m n.out).mono ?_;rintro e w1 ⟨rfl,hb⟩;have p:=zA (aZ (ao (aq w.heap.size w) _) hb);clear hb)|(go_at_call 26;refine(o.out _).mono ?_;rintro e w2 ⟨rfl,hb⟩;have q:=zA (aZ p.out hb);clear hb))
 go_ret;exact⟨rfl,q.out⟩
structure pL (k n:Nat) (E:List S83) (x:List Int):Prop where
 len:x.length=n
 JA:c_.f k x n=some 0
 sk:∃a b,fu.f k n E x=some (false,a,b,0)
 JB:∃L,(∀u:Nat,u<n->gM.f k n E x (u:Nat)=some (rd L u,0))/\(eD (eC L n)).1.length=n
 res:∃c,dW.f k n E x=some (c,0)/\∃a b,fu.f k n E c=some (false,a,b,0)
structure LW (n:Nat) (A0:Option Addr) (c0:Nat) (E:List S83) (v:Value) (l:List (List Int)) (base:Nat) (w W:World):Prop where
 rows:Kd.N (Kd.slice 3 (Kd.int .i64)) 26 W base (fun k=>base<=k) v l
 box:W.heap[w.heap.size]? =some (.cells #[.int .i64 n,.slice A0 E.length c0] 24 (0,0))
 fs:Below w.heap.size w W
theorem LW.step {n:Nat} {A0:Option Addr} {c0:Nat} {E:List S83} {v:Value} {l:List (List Int)} {base:Nat} {w W W':World} (h:LW n A0 c0 E v l base w W) (hb:Below W.heap.size W W'):LW n A0 c0 E v l base w W':=⟨Kd.gy h.rows hb,aE h.box hb,aZ h.fs hb⟩
theorem LW.b0 {n:Nat} {A0:Option Addr} {c0:Nat} {E:List S83} {v:Value} {l:List (List Int)} {base:Nat} {w W:World} (h:LW n A0 c0 E v l base w W):W.cell? ⟨w.heap.size,0,none⟩=some (.int .i64 n):=(aj h.box 0).trans rfl
theorem LW.b1 {n:Nat} {A0:Option Addr} {c0:Nat} {E:List S83} {v:Value} {l:List (List Int)} {base:Nat} {w W:World} (h:LW n A0 c0 E v l base w W):W.cell? ⟨w.heap.size,1,none⟩=some (.slice A0 E.length c0):=(aj h.box 1).trans rfl
theorem su (W:World) (m:Nat):Below W.heap.size W (W.drewN m):=bY (aq _ _) m
theorem He (k n:Nat) (A0:Option Addr) (c0:Nat) (E:List S83) (o:Option Addr) (c1:Nat) (d:List Int) (a:Int) (l:List (List Int)) (K:Bool) (s2 V:List Int) (T G:Int) (w:World) (q:Kd.C aN w A0 E.length E) (r:E.length<=c0) (P:Kd.C (Kd.int .i64) w o d.length d) (Q:d.length<=c1)
  (an:∀w,Calls Tryz.prog 26 #[] w fun e w'=>e= .returned (.bool true)/\Below w.heap.size w w') (c2:1<=n) (hn:n<=1000) (c3:0<=a) (c4:a<=255)
  (h:jk.f k n E d=some true) (hu:bT.f k n E (a%n)=some (l,0)) (c5:l.length<=1000000) (ap:∀x∈l,pL k n E x) (hd:fu.f k n E d=some (K,s2,V,0)) (hT:eu.f k d=some T) (hG:fy.f k n E=some G)
  (aB:K=true\/wrap64 (G-1)<=T\/K=false/\T<wrap64 (G-1)/\∃L,(∀u:Nat,u<n->gM.f k n E d (u:Nat)=some (rd L u,0))/\(eD (eC L n)).1.length<n):
  Calls Tryz.prog 10 #[.agg #[.int .i64 n,.slice A0 E.length c0],.slice o d.length c1,.int .u8 a] w fun e w'=>e= .returned (.bool true)/\Below w.heap.size w w':=by
 have c6:=Tryz.underlying24;have Hh:=zA h;have X:=zA an;have HU:=zA hu;have aF:=zA ap;have HD:=zA hd;have HT:=zA hT;have HG:=zA hG;have bv:=zA aB;have c7:¬(n:Int)=0:=by omega
 clear h an hu ap hd hT hG aB;have b0:(w.alloc (.cells #[.int .i64 n,.slice A0 E.length c0] 24)).cell? ⟨w.heap.size,0,none⟩=some (.int .i64 n):=(aj (bc _ _) 0).trans rfl;go_enter Tryz.func10,Tryz.ntmps10
 go_wp2_with (first|(go_at_call 29;refine(jk.calls k n A0 c0 E o c1 d true _ (Kd.bp q _) r (Kd.bp P _) Q Hh.out).mono ?_;rintro e w1 ⟨rfl,hb⟩;have Y:=zA (aZ (ao (aq w.heap.size w) _) hb);have R:=zA (aE (bc w (.cells #[.int .i64 n,.slice A0 E.length c0] 24)) hb);have y0:w1.cell? ⟨w.heap.size,0,none⟩=some (.int .i64 n):=(aj R.out 0).trans rfl;have y1:w1.cell? ⟨w.heap.size,1,none⟩=some (.slice A0 E.length c0):=(aj R.out 1).trans rfl;clear hb b0)|(go_at_call 15;refine(bT.calls k n A0 c0 E (a%n) l 0 _ (Kd.aw q Y.out) r HU.out).mono ?_;rintro e w2 ⟨vl,rfl,Z,hb⟩;obtain⟨Al,cl,b3, -⟩:=Kd.tz Z;subst b3;have b:=zA (LW.mk Z (aE R.out hb) (aZ Y.out hb));clear Z hb Y R y0 y1))
 generalize w1.heap.size=base at b⊢;go_loopg [48] (l.length) (fun kq i wr=>∃v:Nat,i= .int .i64 v/\v<=l.length/\Aside0 (LW n A0 c0 E (.slice Al l.length cl) l base w wr)/\Aside0 (kq=l.length-v))
 case atStart=>exact⟨0,rfl,Nat.zero_le _,b,⟨rfl⟩⟩
 case round=>
  clear b;obtain⟨v,rfl,D,b,HK⟩:=hrel;by_cases aa:v<l.length
  ·have c8:(0:Int)<=(v:Int):=by omega
   have c9:(v:Int)<(l.length:Int):=by omega
   obtain⟨g,j,cc,rfl,r1,H,r3⟩:=sr b.out.rows v aa;have ad:l.getD v []∈l:=by rw[a7,bK aa];exact List.getElem_mem aa
   have hR:=aF.out _ ad;generalize l.getD v []=x at r1 H r3 hR ad;clear ad;obtain⟨x1,x2,⟨p2,p3,x3⟩,⟨L,x4,x5⟩,⟨c,x6,u2,u3,x7⟩⟩:=hR;have b5:Aside0 (∀W,(Kd.int .i64).C W j x.length x->Calls Tryz.prog 42 #[.slice j n cc,.int .i64 n] W fun e w'=>e= .returned (.int .i64 0)/\aC W w'):=⟨fun W hC=>by have:=c_.calls k j cc x n 0 W hC H x2;rw[x1] at this;exact this⟩;have X2:=zA x2;have X3:=zA x3;have X4:=zA x4;have X5:=zA x5;have X6:=zA x6;have X7:=zA x7;have p:=zA r3;have R2:=zA H;have z0:=b.out.b0;have z1:=b.out.b1;clear x2 x3 x4 x5 x6 x7 r3;have cb:Aside0 (∀W,Kd.C aN W A0 E.length E->(Kd.int .i64).C W j x.length x->Calls Tryz.prog 14 #[.agg #[.int .i64 n,.slice A0 E.length c0],.slice j n cc] W fun e w'=>∃cd ce:Value,e= .returned (.tuple #[.bool false,cd,ce,.int .i64 0])/\Below W.heap.size W w'):=⟨fun W h1 s=>by have:=fu.calls k n A0 c0 E j cc x false p2 p3 0 W h1 r s H X3.out;rw[x1] at this;exact this.mono fun e w' ⟨v1,v2,F,_,_,y⟩=>⟨v1,v2,F,y⟩⟩;have ag:Aside0 (∀W,Kd.C aN W A0 E.length E->(Kd.int .i64).C W j x.length x->Calls Tryz.prog 21 #[.agg #[.int .i64 n,.slice A0 E.length c0],.slice j n cc] W fun e w'=>∃z B,e= .returned (.tuple #[.slice z n B,.int .i64 0])/\Below W.heap.size W w'):=⟨fun W h1 s=>by have:=yp k n A0 c0 E j cc x L p2 p3 W h1 r s H hn X3.out X4.out;rw[x1] at this;exact this.mono fun e w' ⟨v,F,y,M⟩=>by obtain⟨z,B,D⟩:=Kd.bm y;rw[X5.out] at D;exact⟨z,B,by rw[F,D],M⟩⟩;have cf:Aside0 (∀W,Kd.C aN W A0 E.length E->(Kd.int .i64).C W j x.length x->Calls Tryz.prog 32 #[.agg #[.int .i64 n,.slice A0 E.length c0],.slice j n cc] W fun e w'=>∃I J,e= .returned (.tuple #[.slice I c.length J,.int .i64 0])/\c.length<=J/\(Kd.int .i64).C w' I c.length c/\Below W.heap.size W w'):=⟨fun W h1 s=>by have:=dW.calls k n A0 c0 E j cc x c 0 W h1 r s H X6.out;rw[x1] at this;exact this.mono fun e w' ⟨v,F,y,M⟩=>by obtain⟨I,J,D⟩:=Kd.bm y;subst D;exact⟨I,J,F,(Kd.aQ y).2.1,(Kd.aQ y).2.2,M⟩⟩;rw[x1] at r1;clear x1;go_wp2_with (first|(go_at_call 42;refine(b5.out _ (Kd.il p.out)).mono ?_;rintro e w3 ⟨rfl,⟨nd,rfl⟩⟩;replace b:=zA (b.out.step (su _ nd));replace p:=zA (Kd.lX p.out (su _ nd));replace z0:=b.out.b0;replace z1:=b.out.b1)|(go_at_call 14;with_reducible refine(cb.out _ (Kd.aw q b.out.fs) (Kd.il p.out)).mono ?_;rintro e w4 ⟨v4,v5,rfl,hb⟩;replace b:=zA (b.out.step hb);replace p:=zA (Kd.lX p.out hb);replace z0:=b.out.b0;replace z1:=b.out.b1;clear hb)|(go_at_call 21;refine(ag.out _ (Kd.aw q b.out.fs) (Kd.il p.out)).mono ?_;rintro e w5 ⟨z,B,rfl,hb⟩;replace b:=zA (b.out.step hb);replace p:=zA (Kd.lX p.out hb);replace z0:=b.out.b0;replace z1:=b.out.b1;clear hb)|(go_at_call 32;refine(cf.out _ (Kd.aw q b.out.fs) (Kd.il p.out)).mono ?_;rintro e w6 ⟨I,J,rfl,bd,be,hb⟩;replace b:=zA (b.out.step hb);have ch:=zA be;have ci:=zA bd;replace z0:=b.out.b0;replace z1:=b.out.b1;clear hb be bd)|(go_at_call 14;refine(fu.calls k n A0 c0 E I J c false u2 u3 0 _ (Kd.aw q b.out.fs) r ch.out ci.out X7.out).mono ?_;rintro e w7 ⟨v6,v7,rfl, -, -,hb⟩;replace b:=zA (b.out.step hb);replace z0:=b.out.b0;replace z1:=b.out.b1;clear hb))
   go_roundg (l.length- (v+1))
   case measure=>rw[HK.out];omega
   case rel=>exact⟨v+1,by go_num,by omega,b,⟨rfl⟩⟩
  ·obtain rfl:v=l.length:=by omega
   have z0:=b.out.b0;have z1:=b.out.b1;clear HK aF;go_upto_region 20 with (first|(go_at_call 14;refine(fu.calls k n A0 c0 E o c1 d K s2 V 0 _ (Kd.aw q b.out.fs) r (Kd.aw P b.out.fs) Q HD.out).mono ?_;rintro e w7 ⟨v6,v7,rfl, -, -,hb⟩;replace b:=zA (b.out.step hb);replace z0:=b.out.b0;replace z1:=b.out.b1;clear hb))
   have cq:Aside0 (∀W,(Kd.int .i64).C W o d.length d->Calls Tryz.prog 22 #[.slice o d.length c1] W fun e w'=>e= .returned (.int .i64 T)/\Below W.heap.size W w'):=⟨fun W hC=>(eu.calls k o c1 d T W hC Q HT.out).mono fun e w' ⟨h1,m,s⟩=>⟨h1,by rw[s];exact su W m⟩⟩;cases K with
   |true=>
    go_quiet (fail)
    go_wp2_with (go_at_call 26;refine(X.out _).mono ?_;rintro e w9 ⟨rfl,hb⟩;have N:=zA (aZ (bY b.out.fs _) hb);clear hb)
    go_ret;exact⟨rfl,N.out⟩
   |false=>
    go_region_held3 (fun w'=>w'.heap[w.heap.size]? =some (.cells #[.int .i64 n,.slice A0 E.length c0] 24 (0,0))/\w'.cell? ⟨w.heap.size,0,none⟩=some (.int .i64 n)/\w'.cell? ⟨w.heap.size,1,none⟩=some (.slice A0 E.length c0)/\Below w.heap.size w w')
     (first|exact Hg.of (fA b.out.box) (bZ b.out.fs)|((try go_split_ands);refine⟨by assumption,by assumption,by assumption,by assumption⟩)|((try go_split_ands);exact Hg.below (by assumption) (by assumption) (by assumption))|fail)
     ((first|(go_at_call 22;refine(cq.out _ (Kd.aw P (by go_split_ands;assumption))).mono ?_;rintro e O ⟨rfl,hB⟩)|(go_at_call 43;refine(fy.calls k n A0 c0 E G _ (Kd.aw q (by go_split_ands;assumption)) r HG.out).mono ?_;rintro e O ⟨rfl,hB⟩)))
    rename_i hHeld;have S:Aside0 (Below w.heap.size w O):=by first|exact⟨hHeld.2.2.2⟩|exact⟨(by go_split_ands;assumption)⟩
    have am:Aside0 (O.heap[w.heap.size]? =some (.cells #[.int .i64 n,.slice A0 E.length c0] 24 (0,0))):=by first|exact⟨hHeld.1⟩|exact⟨(by go_split_ands;assumption)⟩
    clear hHeld hB z0 z1;have z0:O.cell? ⟨w.heap.size,0,none⟩=some (.int .i64 n):=(aj am.out 0).trans rfl;have z1:O.cell? ⟨w.heap.size,1,none⟩=some (.slice A0 E.length c0):=(aj am.out 1).trans rfl;by_cases hle:wrap64 (G-1)<=T
    ·have U:decide (IntKind.i64.wrap (G-1)<=T)=true:=by rw[bG];exact az hle
     rw[U];go_wp2_with (go_at_call 26;refine(X.out _).mono ?_;rintro e w9 ⟨rfl,hb⟩;have N:=zA (aZ S.out hb);clear hb)
     go_ret;exact⟨rfl,N.out⟩
    ·have U:decide (IntKind.i64.wrap (G-1)<=T)=false:=by rw[bG];exact a6 hle
     rw[U];clear U;have hex:∃L,(∀u:Nat,u<n->gM.f k n E d (u:Nat)=some (rd L u,0))/\(eD (eC L n)).1.length<n:=by
      rcases bv.out with h|h|h
      ·cases h
      ·exact absurd h hle
      ·exact h.2.2
     obtain⟨L,bg,cr⟩:=hex;have cs:=zA bg;have ag:Aside0 (∀W,Kd.C aN W A0 E.length E->(Kd.int .i64).C W o d.length d->Calls Tryz.prog 21 #[.agg #[.int .i64 n,.slice A0 E.length c0],.slice o d.length c1] W fun e w'=>∃z B m,m<n/\e= .returned (.tuple #[.slice z m B,.int .i64 0])/\Below W.heap.size W w'):=⟨fun W h1 s=>(yp k n A0 c0 E o c1 d L s2 V W h1 r s Q hn HD.out cs.out).mono fun e w' ⟨v,F,y,M⟩=>by obtain⟨z,B,D⟩:=Kd.bm y;exact⟨z,B,_,cr,by rw[F,D],M⟩⟩;clear bg hle;go_wp2_with (first|(go_at_call 21;refine(ag.out _ (Kd.aw q S.out) (Kd.aw P S.out)).mono ?_;rintro e w9 ⟨z,B,m,dv,rfl,hb⟩;have cv:=zA (aZ S.out hb);have cx:=zA (aE am.out hb);have d0:decide ((m:Int)<(n:Int))=true:=az (by omega);replace z0:w9.cell? ⟨w.heap.size,0,none⟩=some (.int .i64 n):=(aj cx.out 0).trans rfl;clear hb z1)|(go_at_call 26;refine(X.out _).mono ?_;rintro e d1 ⟨rfl,hb⟩;have N:=zA (aZ cv.out hb);clear hb))
     go_ret;exact⟨rfl,N.out⟩
end
section
attribute [local go_sem] Oper.semAt_some
def kJ (pre:List (Int×Int)):Int:=pre.foldl (fun s x=>wrap64 (s+x.2)) 0
theorem Hi (pre:List (Int×Int)) (x:Int×Int):kJ (pre++[x])=wrap64 (kJ pre+x.2):=by simp[kJ,List.foldl_append]
theorem Hk (k n d:Nat) (A0:Option Addr) (c0:Nat) (E:List S83) (L:List Int) (w:World) (R:Kd.C aN w A0 E.length E) (S:E.length<=c0) (aL:1<=n) (hn:n<=1000) (I:∀u:Nat,u<n->∃e,cF.f k n E (u:Nat)=some (rd L u,e)) (hd:kJ (gK L n)=d) (aO:d<=100000):
  Calls Tryz.prog 135 #[.agg #[.int .i64 n,.slice A0 E.length c0]] w fun e w'=>e= .returned (.int .i64 (((d/2:Nat):Int)-n+1))/\Below w.heap.size w w':=by
 have hu:=Tryz.underlying24;have T:=zA I;have U:=zA hd;have aP:(0:Int)<=(n:Int):=by omega
 clear I hd;refine(callsIn_wide (n:=10)).1 ?_;refine callsIn_of_wp_marks Tryz.func135 rfl trivial ?_ rfl;simp only[Tryz.ntmps135,List.size_toArray,List.length_cons,List.length_nil,Nat.reduceAdd,Nat.reduceSub,Array.replicate_succ,Array.replicate_zero,List.push_toArray,List.append_toArray,List.nil_append,List.cons_append];gi_wp2_with (first|(refine⟨trivial,?_⟩;gi_at_call 143;refine(callsIn_wide.2 (xN n _ _)).mono ?_;rintro e w3 ⟨rfl,rfl⟩))
 have q:=zA (bc ((w.alloc (.cells #[.int .i64 n,.slice A0 E.length c0] 24)).alloc (.cells #[.int .i64 0] 3)) (.cells #[.int .i64 n,.slice A0 E.length c0] 24));have r:=zA (au (bc (w.alloc (.cells #[.int .i64 n,.slice A0 E.length c0] 24)) (.cells #[.int .i64 0] 3)) (.cells #[.int .i64 n,.slice A0 E.length c0] 24));have J:=zA (au (au (bc w (.cells #[.int .i64 n,.slice A0 E.length c0] 24)) (.cells #[.int .i64 0] 3)) (.cells #[.int .i64 n,.slice A0 E.length c0] 24));have y:=zA (ao (ao (ao (aq w.heap.size w) (.cells #[.int .i64 n,.slice A0 E.length c0] 24)) (.cells #[.int .i64 0] 3)) (.cells #[.int .i64 n,.slice A0 E.length c0] 24));simp only[World.size_alloc] at q r;have V:=Nat.le_of_eq (show (((w.alloc (.cells #[.int .i64 n,.slice A0 E.length c0] 24)).alloc (.cells #[.int .i64 0] 3)).alloc (.cells #[.int .i64 n,.slice A0 E.length c0] 24)).heap.size=w.heap.size+3 by simp);have X:=Nat.le_of_eq (show w.heap.size+3=(((w.alloc (.cells #[.int .i64 n,.slice A0 E.length c0] 24)).alloc (.cells #[.int .i64 0] 3)).alloc (.cells #[.int .i64 n,.slice A0 E.length c0] 24)).heap.size by simp);generalize ((w.alloc (.cells #[.int .i64 n,.slice A0 E.length c0] 24)).alloc (.cells #[.int .i64 0] 3)).alloc (.cells #[.int .i64 n,.slice A0 E.length c0] 24)=b at q r J y V X⊢;refine iz (σ:=Unit) (α:=Int×Int) (F:=Fence.wide) (n:=10) rfl (by decide) (gf:=185) (lb:=#[.pointer (some ⟨w.heap.size+1+1,0,none⟩)]) rfl trivial (enters_of Tryz.func185 (by kernel_rfl) rfl)
  (fun o=>xR (w.heap.size+1+1) k n A0 c0 E L w _ R S hn T.out (ao (ao y.out _) _) (au (au q.out _) _)) (fun _=>rfl)
  (fun _=>True) ?en ?st ?ar
  (fun _ pre W=>b.heap.size<=W.heap.size/\W.heap[w.heap.size+1]? =some (.cells #[.int .i64 (kJ pre)] 3 (0,0))/\W.heap[w.heap.size]? =some (.cells #[.int .i64 n,.slice A0 E.length c0] 24 (0,0))/\Below w.heap.size w W) (fun _ _ _ _=>False)
  ?is (fun _ _ _ _ _ _ h _=>h) ?ib (fun _ _ _ _ _ h _=>h) ?kt ?h0 ?a1 ?assign ?body ?done (fun _ _ _ _ _ _ _ h=>h.elim)
 case assign=>
  intro l x W K Y;gi_wp2;exact Y
 case en=>
  intro o s W1 h;exact⟨trivial,by rw[h];exact ct.refl _ _⟩
 case st=>intro s A B _ h;exact cZ h
 case ar=>intro s x A B _ h;exact cZ h.2
 case is=>
  rintro s pre A B _ ⟨g,h1,z,G⟩ j;exact⟨Nat.le_trans g j.size,aE h1 j,aE z j,aZ G j⟩
 case ib=>
  rintro s pre A B ⟨g,h1,z,G⟩ hb;exact⟨by rw[hb.size];exact g,hb.cells h1,hb.cells z,G.trans (hb.below w.heap.size (by omega))⟩
 case kt=>
  intro s A B C D m M N;refine⟨fun aY=>((m.below w.heap.size (by omega)).trans (M.1 (by rw[m.size];exact aY))).trans (N.below w.heap.size (by omega)),fun Z=>?_⟩;have O:w.heap.size+1+1≠b.heap.size+1:=by omega
  exact(N.heap _ O).trans ((M.2 (by rw[m.size];exact Z)).trans (m.heap _ O))
 case h0=>
  rintro o s W1 rfl;exact⟨by simp;omega,au (au r.out _) _,au (au J.out _) _,ao (ao y.out _) _⟩
 case body=>
  rintro l s' pre ⟨xv,xy⟩ Wb Wc W _ ⟨g,i1,i2,i3⟩ ⟨⟨v,a3,hx⟩,i⟩ ad a;injection hx with ag ak
  subst ag;have H:=zA (a.cells (aE i1 i));have I2:=zA (a.cells (aE i2 i));have I3:=zA ((aZ i3 i).trans (a.below w.heap.size (by omega)));have ap:b.heap.size<=W.heap.size:=by have:=a.size;have:=i.size;omega
  have av:=zA (Hi pre ((v:Int),xy));clear i1 i2 i3 i a ad g ak;have z1:=cY H.out;have z2:=bt H.out 0;gi_wp2;refine⟨eO _ _ (by omega),⟨fun _=>Below.setCell (p:=⟨w.heap.size+1,0,none⟩) (aq _ _) (by show w.heap.size<=w.heap.size+1;omega) _,fun _=>Below.heap_setCell _ _ _ _ (by show w.heap.size+1+1≠w.heap.size+1;omega)⟩,by simpa using ap,?_,aD I2.out (by show w.heap.size≠w.heap.size+1;omega) _,Below.setCell (p:=⟨w.heap.size+1,0,none⟩) I3.out (by show w.heap.size<=w.heap.size+1;omega) _⟩;rw[av.out];exact bB (cs:=#[.int .i64 (kJ pre)]) H.out 0 _ rfl
 case done=>
  rintro s' xs W W' _ rfl ⟨g,i1,i2,i3⟩ a P;have b1:=zA (a.cells i1);have b2:=zA (a.cells i2);have b3:=zA (i3.trans (a.below w.heap.size (by omega)));have Q:=zA P;clear i1 i2 i3 P;rw[U.out] at b1;have y1:=(aj b1.out 0).trans rfl;have y2:=(aj b2.out 0).trans rfl;have a9:(0:Int)<=(d:Int):=by omega
  gi_wp2;have aF:Bk b.heap.size W' (W'.putObj b.heap.size (.deferred none)):=⟨_,_,Q.out,rfl,rfl⟩;exact iW (D:=b.heap.size) rfl Q.out (results_tmp rfl _ _ _) ⟨by simp,b3.out.trans (aF.below w.heap.size (by omega))⟩
end
section
attribute [local go_sem] Oper.semAt_some jq jr js jt
theorem Hl (k n gb:Nat) (A0:Option Addr) (c0:Nat) (E:List S83) (a:Option Addr) (c1:Nat) (d:List Int) (r:Int) (w:World) (b:Kd.C aN w A0 E.length E) (i:E.length<=c0) (g:Kd.C (Kd.int .i64) w a d.length d) (j:d.length<=c1) (hb:w.heap[gb]? =some (.cells #[.int .i64 n,.slice A0 E.length c0] 24 (0,0))) (h:eI.f k n E d=some (r,0)):
  Calls Tryz.prog 138 #[.slice a d.length c1,.pointer (some ⟨gb,0,none⟩)] w fun e w'=>e= .returned (.tuple #[.int .i64 r,.int .i64 0])/\Below w.heap.size w w':=by
 have hu:=Tryz.underlying24;have H:=zA (eI.calls k n A0 c0 E a c1 d r 0 w b i g j h);have b0:w.cell? ⟨gb,0,none⟩=some (.int .i64 n):=(aj hb 0).trans rfl;have b1:w.cell? ⟨gb,1,none⟩=some (.slice A0 E.length c0):=(aj hb 1).trans rfl;clear h b g hb;go_enter Tryz.func138,Tryz.ntmps138
 go_wp2_with (go_at_call 41;refine H.out.mono ?_;rintro e w1 ⟨rfl,hb⟩;have l:=zA hb;clear hb b0 b1)
 go_ret2;exact⟨rfl,l.out⟩
def jl (a:List Int->Int) (L:List (List Int)):Int:=L.foldl (fun b d=>max b (a d)) (-1)
theorem Hm (a:List Int->Int) (L:List (List Int)) (d:List Int):jl a (L++[d])=max (jl a L) (a d):=by simp[jl,List.foldl_append]
theorem Hn (k n gb g cap base:Nat) (ok:Nat->Prop) (A0:Option Addr) (c0:Nat) (E:List S83) (L:List (List Int)) (a:List Int->Int) (w:World) (p:Kd.C aN w A0 E.length E) (x:E.length<=c0) (hb:w.heap[gb]? =some (.cells #[.int .i64 n,.slice A0 E.length c0] 24 (0,0))) (K:L.length<=16384)
  (q:Kd.N (Kd.slice 3 (Kd.int .i64)) 26 w base ok (.slice (some ⟨g,0,none⟩) L.length cap) L) (h:∀d∈L,eI.f k n E d=some (a d,0)):
  Calls Tryz.prog 137 #[.slice (some ⟨g,0,none⟩) L.length cap,.func (.func 138) #[] #[.pointer (some ⟨gb,0,none⟩)]] w fun e w'=>e= .returned (.tuple #[.int .i64 (jl a L),.int .i64 0])/\Below w.heap.size w w':=by
 have y:=zA hb;have z:=zA q;have B:=zA h;have D:=zA p;clear hb q h p;go_enter Tryz.func137,Tryz.ntmps137
 go_wp2;go_loopg [6,13] (L.length) (fun F b i wr=>∃v:Nat,v<=L.length/\i= .int .i64 v/\b= .int .i64 (jl a (L.take v))/\Aside0 (Below w.heap.size w wr)/\Aside0 (F=L.length-v))
 case atStart=>exact⟨0,Nat.zero_le _,rfl,rfl,⟨aq _ _⟩,⟨rfl⟩⟩
 case round=>
  obtain⟨v,M,rfl,rfl,j,G⟩:=hrel;by_cases l:v<L.length
  ·have O:(0:Int)<=(v:Int):=by omega
   have P:(v:Int)<(L.length:Int):=by omega
   obtain⟨g2,H,cc,he,r,m,o⟩:=sr (Kd.gy z.out j.out) v l;injection he with he
   injection he with he
   subst he;have s:=zA (show jl a (L.take (v+1))=max (jl a (L.take v)) (a (L.getD v [])) by rw[List.take_succ_eq_append_getElem l,Hm,a7,bK l];rfl);have u:=zA (B.out (L.getD v []) (by rw[a7,bK l];exact List.getElem_mem l));generalize L.getD v []=d at r m o s u;have I:=zA (Hl k n gb A0 c0 E H cc d (a d) wr (Kd.aw D.out j.out) x (Kd.il o) m (aE y.out j.out) u.out);clear o m;go_wp2_with (go_at_call 138;refine I.out.mono ?_;rintro e w1 ⟨rfl,hb⟩;have J:=zA (aZ j.out hb);clear hb r)
   all_goals
    go_roundg (L.length- (v+1))
    case measure=>rw[G.out];omega
    case rel=>exact⟨v+1,by omega,by go_num,by rw[s.out];exact congrArg _ (by omega),J,⟨rfl⟩⟩
  ·obtain rfl:v=L.length:=by omega
   go_wp2;go_ret2;exact⟨by rw[List.take_length];rfl,j.out⟩
theorem Ho {α:Type} {d:Kd α} {W:World} {e base:Nat} {ok:Nat->Prop} {v:Value} {xs:List α} (h:Kd.N d e W base ok v xs) (hp:0<xs.length):∃g c,v= .slice (some ⟨g,0,none⟩) xs.length c:=by
 obtain⟨_,rows,a,b,_⟩:=h;rw[<-a] at hp⊢;exact yo b hp
theorem yu {m:Nat} {idx:List (Fin (m+1))} {f:List Int->List Int} {C:List (List Int)} (hp:idx.Perm (List.finRange (m+1))) (hC:C.length=m+1):(idx.map fun i=>(C.map f).getD i.1 []).Perm (C.map f):=by
 refine(hp.map _).trans (List.Perm.of_eq ?_);refine List.ext_getElem (by simp[hC]) fun i h1 a=>?_
 simp only[List.length_map] at a;simp[bK a]
theorem Hp {m k:Nat} {n:Int} {E:List S83} {a:List Int->Int} {idx:List (Fin (m+1))} {f:List Int->List Int} {C:List (List Int)} (hp:idx.Perm (List.finRange (m+1))) (hC:C.length=m+1) (h:∀c∈C,eI.f k n E (f c)=some (a (f c),0)):∀d∈idx.map fun i=>(C.map f).getD i.1 [],eI.f k n E d=some (a d,0):=fun d hd=>by
 obtain⟨c,b,rfl⟩:=List.mem_map.1 ((yu hp hC).mem_iff.1 hd);exact h c b
theorem Hq (k n m d:Nat) (A0:Option Addr) (c0:Nat) (E:List S83) (ba:Int) (q:List Int) (C:List (List Int)) (r:List Int->Int) (s:Fin (m+1)->Fin (m+1)->Int) (w:World) (G:Kd.C aN w A0 E.length E) (a:E.length<=c0) (hn:2<=n) (Y:n<=12) (a1:0<=ba) (Z:ba<=1048576)
  (H:eh.f k n E=some 0) (I:∀u:Nat,u<n->∃e,cF.f k n E (u:Nat)=some (rd q u,e)) (hd:kJ (gK q n)=d) (J:d<=100000) (aa:ba<=2*(((d/2:Nat):Int)-n+1)-2)
  (K:dM.f k n E []=some 0) (M:eQ.f k n E 0=some (C,0)) (N:∀c∈C,c.length=n) (x:C.length=m+1) (y:C.length<=16384) (O:∀c∈C,bs.f k (cS ba c) n=some 0)
  (P:∀i j:Fin (m+1),dx.f k ((C.map (cS ba)).getD i.1 []) ((C.map (cS ba)).getD j.1 [])=some (s i j)) (hO:Go.Sort.SWO (ltOf s)) (Q:∀c∈C,eI.f k n E (cS ba c)=some (r (cS ba c),0)):
  Calls Tryz.prog 82 #[.agg #[.int .i64 n,.slice A0 E.length c0],.int .i64 ba] w fun e w'=>∃L:List (List Int),L.Perm (C.map (cS ba))/\e= .returned (.tuple #[.int .i64 (jl r L),.int .i64 0])/\Below w.heap.size w w':=by
 have hu:=Tryz.underlying24;have z:=zA (bc w (.cells #[.int .i64 n,.slice A0 E.length c0] 24));have H1:=zA (fun W h=>eh.calls k n A0 c0 E 0 W h a H);have R:=zA (fun W h=>Hk k n d A0 c0 E q W h a (by omega) (by omega) I hd J);have H3:=zA (fun W h=>G1 k n m A0 c0 E ba C s W h a hn Y (by omega) Z K M N x y O P hO);have H4:=zA (fun gb g cap base ok L W h1 h2 h3 h4 S=>Hn k n gb g cap base ok A0 c0 E L r W h1 a h2 h3 h4 S);have an:=zA Q;have b:=zA x;have ap:=zA y;have S:¬ba< -1048576:=by omega
 have h6:¬1048576<ba:=by omega
 have h7:¬ba<0:=by omega
 have ar:((d/2:Nat):Int)-n+1<=100000:=by omega
 generalize ((d/2:Nat):Int)-n+1=T at R aa ar;have a4:1<=T:=by omega
 have h8:¬2*T-2<ba:=by omega
 have b0:(w.alloc (.cells #[.int .i64 n,.slice A0 E.length c0] 24)).cell? ⟨w.heap.size,0,none⟩=some (.int .i64 n):=(aj z.out 0).trans rfl;have b1:(w.alloc (.cells #[.int .i64 n,.slice A0 E.length c0] 24)).cell? ⟨w.heap.size,1,none⟩=some (.slice A0 E.length c0):=(aj z.out 1).trans rfl;have l:=zA G;clear H I hd J K M N x y O P hO Q G;go_enter Tryz.func82,Tryz.ntmps82
 go_wp2_with (first|(go_at_call 55;refine(H1.out _ (Kd.bp l.out _)).mono ?_;rintro e w1 ⟨rfl,hb⟩;have U:=zA (aZ (ao (aq w.heap.size w) _) hb);have B:=zA (aE z.out hb);clear hb;have y0:w1.cell? ⟨w.heap.size,0,none⟩=some (.int .i64 n):=(aj B.out 0).trans rfl;have y1:w1.cell? ⟨w.heap.size,1,none⟩=some (.slice A0 E.length c0):=(aj B.out 1).trans rfl)|(go_at_call 135;refine(R.out _ (Kd.aw l.out U.out)).mono ?_;rintro e w2 ⟨rfl,hb⟩;have V:=zA (aZ U.out hb);have D:=zA (aE B.out hb);clear hb;have z0:w2.cell? ⟨w.heap.size,0,none⟩=some (.int .i64 n):=(aj D.out 0).trans rfl;have z1:w2.cell? ⟨w.heap.size,1,none⟩=some (.slice A0 E.length c0):=(aj D.out 1).trans rfl)|(go_at_call 136;refine(H3.out _ (Kd.aw l.out V.out)).mono ?_;rintro e w3 ⟨v,idx,rfl,hp,av,o,hb⟩;have X:=zA (aZ V.out hb);have X3:=zA (aE D.out hb);have p:=yu (f:=cS ba) hp b.out;have F:=Hp hp b.out an.out;generalize (idx.map fun i=>(C.map (cS ba)).getD i.1 [])=L2 at o p F;have hlen:=p.length_eq;rw[List.length_map,b.out] at hlen;have aL:=zA (show L2.length<=16384 by have:=ap.out;have:=b.out;omega);obtain⟨gs,cs,rfl⟩:=Ho o (by omega);have HN:=zA o;have HP:=zA p;have aS:=zA F;clear hb o hp av p F hlen)|(go_at_call 137;(with_reducible refine(H4.out _ _ _ _ _ _ _ (Kd.aw l.out X.out) X3.out aL.out HN.out aS.out).mono ?_);rintro e w4 ⟨rfl,hb⟩;have a0:=zA (aZ X.out hb);clear hb))
 go_ret2;exact⟨_,HP.out,rfl,a0.out⟩
end
def cG:List S83:=[⟨0,1,1⟩,⟨0,2,1⟩,⟨1,2,1⟩]
def jH:List (List Int):=[[0,0,0],[0,0,1],[0,1,0]]
theorem Hu:eh.f 60 3 cG=some 0:=by decide+kernel
theorem Hv:∀u:Nat,u<3->∃e,cF.f 60 3 cG (u:Nat)=some (rd [2,2,2] u,e)
 |0,_=>⟨0,by decide+kernel⟩
 |1,_=>⟨0,by decide+kernel⟩
 |2,_=>⟨0,by decide+kernel⟩
theorem Hx:kJ (gK [2,2,2] 3)=((6:Nat):Int):=by decide+kernel
theorem Hy:dM.f 60 3 cG []=some 0:=by decide+kernel
theorem Hz:eQ.f 60 3 cG 0=some (jH,0):=by decide+kernel
theorem H7:∀c∈jH,bs.f 60 (cS 0 c) 3=some 0:=by decide+kernel
def sw (i j:Fin 3):Int:=(dx.f 60 ((jH.map (cS 0)).getD i.1 []) ((jH.map (cS 0)).getD j.1 [])).getD 0
theorem H8:∀i j:Fin 3,dx.f 60 ((jH.map (cS 0)).getD i.1 []) ((jH.map (cS 0)).getD j.1 [])=some (sw i j):=by decide+kernel
theorem H9:Go.Sort.SWO (ltOf sw):=⟨by decide+kernel,by decide+kernel,by decide+kernel⟩
theorem sx {d:List Int} (h:gu 3 cG 0 d=true):dU 3 0 cG d:=by
 obtain⟨n,q,hn,a,h1⟩:=pC h;obtain rfl:n=3:=by omega
 obtain rfl:q=0:=by omega
 exact h1
theorem H_:cz ((3:Nat):Int) cG=0:=by decide+kernel
theorem Ia:T.dF 3 (af cG) 1:=show T.sN (T.can 3 (af cG)) 3=2*1-2 from by decide+kernel
theorem Ib:Ev (fun k=>fT.f k 3 cG) ((3:Int),cG,(0:Int)):=Ev.at_ (fT.mono _ _) (k:=60) (by kernel_rfl)
theorem Ic:Ev (fun k=>fc.f k 3 cG) ((1:Int),(0:Int)):=Ev.at_ (fc.mono _ _) (k:=60) (by decide+kernel)
theorem yv:dU 3 0 cG [0,0,0]:=sx (by decide+kernel)
theorem Ie:dU 3 0 cG [-1,0,1]:=sx (by decide+kernel)
theorem Ig:dU 3 0 cG [-1,1,0]:=sx (by decide+kernel)
theorem pM:T.Wt 3 (af cG):=yv.right.wt
theorem Ih {c:Nat->Int} (h:(c 1=0/\c 2=1)\/(c 1=1/\c 2=0)):T.ir 3 (af cG) 0 c:=fun S hS e=>by
 have t10:af cG 1 0=1:=by decide+kernel
 have t12:af cG 1 2=1:=by decide+kernel
 have t20:af cG 2 0=1:=by decide+kernel
 have t21:af cG 2 1=1:=by decide+kernel
 cases h1:S 1 with
 |true=>
  cases a:S 2 with
  |true=>
   rcases h with h|h
   ·exact⟨1,by omega,h1,by simp[T.sN,e,h1,a,t10,h.1]⟩
   ·exact⟨2,by omega,a,by simp[T.sN,e,h1,a,t20,h.2]⟩
  |false=>exact⟨1,by omega,h1,by simp[T.sN,e,h1,a,t10,t12];omega⟩
 |false=>
  cases a:S 2 with
  |true=>exact⟨2,by omega,a,by simp[T.sN,e,h1,a,t20,t21];omega⟩
  |false=>
   obtain⟨v,g,b⟩:=hS;match v,g with
   |0,_=>rw[e] at b;cases b
   |1,_=>rw[h1] at b;cases b
   |2,_=>rw[a] at b;cases b
theorem Ii:T.cg 3 (af cG) (fun _=>0) 0:=by
 obtain⟨r,a⟩:=T.jO pM (by decide) (fun _=>(0:Int));have h1:r≠ -1:=fun e=>by
  subst e;exact(T.cg.mf (by decide) a).1 rfl (T.bE.qo fun _ _=>Int.le_refl _)
 have g:=a.1;have b:=a.qA pM (by decide) (by omega);rw[T.jx] at b;obtain rfl:r=0:=by omega
 exact a
theorem Ij:Rk 3 (af cG) [0,0,0] 0:=r_ (fun v a=>by
  match v,a with
  |0,_=>rfl
  |1,_=>rfl
  |2,_=>rfl) Ii
theorem yw {d:List Int} (h:(rd d 1=0/\rd d 2=1)\/(rd d 1=1/\rd d 2=0)) (g:rd d 0= -1):Rk 3 (af cG) d (-1):=by
 obtain⟨r,a⟩:=T.jO pM (by decide) (fun v=>rd d (v:Nat));have hw:¬T.bE 3 (af cG) (fun v=>rd d (v:Nat)):=fun hw=>by
  have a:=(T.lf pM (q:=0) (by decide) ⟨fun v b e=>by
   match v,b with
   |0,_=>exact absurd rfl e
   |1,_=>rcases h with h|h<;>(show 0<=rd d 1;omega)
   |2,_=>rcases h with h|h<;>(show 0<=rd d 2;omega),Ih h⟩).1 hw
  have:(0:Int)<=rd d 0:=a;omega
 obtain rfl:=(T.cg.mf (by decide) a).2 hw;exact a
theorem sy {d:List Int} (h:dU 3 0 cG d) {r:Int} (a:Rk 3 (af cG) d r):Ev (fun k=>eI.f k 3 cG d) (r,(0:Int)):=
 ya (n:=3) h H_ Ib Ic Ia a
def kK (d:List Int):Int:=if d=[0,0,0] then 0 else -1
theorem Ik:∃K,60<=K/\∀c∈jH,eI.f K 3 cG (cS 0 c)=some (kK (cS 0 c),0):=by
 obtain⟨b,g⟩:=sy yv Ij;obtain⟨B1,h1⟩:=sy Ie (yw (.inl ⟨rfl,rfl⟩) rfl);obtain⟨e,h⟩:=sy Ig (yw (.inr ⟨rfl,rfl⟩) rfl);refine⟨60+b+B1+e,by omega,fun c a=>?_⟩;rcases List.mem_cons.1 a with rfl|a
 ·rw[show cS 0 [0,0,0]=[0,0,0] by decide+kernel,show kK [0,0,0]=0 by decide+kernel]
  exact g (60+b+B1+e) (by omega)
 rcases List.mem_cons.1 a with rfl|a
 ·rw[show cS 0 [0,0,1]=[-1,0,1] by decide+kernel,show kK [-1,0,1]= -1 by decide+kernel]
  exact h1 (60+b+B1+e) (by omega)
 rcases List.mem_cons.1 a with rfl|a
 ·rw[show cS 0 [0,1,0]=[-1,1,0] by decide+kernel,show kK [-1,1,0]= -1 by decide+kernel]
  exact h (60+b+B1+e) (by omega)
 ·cases a
open Classical in
noncomputable def fU.f (k:Nat) (a:Int) (b:List (S83)) (e:Int):Option (Int×Int):=if a=3/\b=cG/\e=0 then some (0,0) else none
theorem fU.mono:∀a b e k,al (fU.f k a b e) (fU.f (k+1) a b e):=fun _ _ _ _=>al.refl _
theorem Il (A0:Option Addr) (c0:Nat) (w:World) (b:Kd.C aN w A0 cG.length cG) (g:cG.length<=c0):
  Calls Tryz.prog 82 #[.agg #[.int .i64 3,.slice A0 cG.length c0],.int .i64 0] w fun e w'=>e= .returned (.tuple #[.int .i64 0,.int .i64 0])/\Below w.heap.size w w':=by
 obtain⟨K,a,h⟩:=Ik;refine(Hq K 3 2 6 A0 c0 cG 0 [2,2,2] jH kK sw w b g (by decide) (by decide) (by decide) (by decide)
  (lO (eh.mono _ _) a Hu) (fun u hu=>by obtain⟨e,he⟩:=Hv u hu;exact⟨e,lO (cF.mono _ _ _) a he⟩) Hx (by decide) (by decide)
  (lO (dM.mono _ _ _) a Hy) (lO (eQ.mono _ _ _) a Hz) (by decide+kernel) rfl (by decide) (fun c k=>lO (bs.mono _ _) a (H7 c k)) (fun i j=>lO (dx.mono _ _) a (H8 i j)) H9 h).mono ?_
 rintro e w' ⟨L,hp,rfl,hb⟩;have h1:jl kK L=jl kK (jH.map (cS 0)):=hp.foldl_eq' (fun x _ y _ z=>by omega) _;have l:jl kK (jH.map (cS 0))=0:=by decide+kernel
 rw[h1,l];exact⟨rfl,hb⟩
theorem fU.calls (k:Nat) (b:Int) (g:Option Addr) (i:Nat) (a:List (S83)) (j:Int) (m:Int) (n:Int) (w:World) (o:Kd.C aN w g a.length a) (p:a.length<=i) (h:fU.f k b a j=some (m,n)):
  Calls Tryz.prog 82 #[.agg #[.int .i64 b,.slice g a.length i],.int .i64 j] w fun e w'=>e= .returned (.tuple #[.int .i64 m,.int .i64 n])/\Below w.heap.size w w':=by
 unfold fU.f at h;by_cases l:b=3/\a=cG/\j=0
 ·rw[if_pos l] at h
  obtain⟨rfl,rfl,rfl⟩:=l;injection h with h
  injection h with h1 q
  subst h1 q;exact Il g i w o p
 ·rw[if_neg l] at h;cases h
theorem Im:Ev (fun k=>fU.f k 3 cG 0) ((0:Int),(0:Int)):=Ev.at_ (fU.mono _ _ _) (k:=0) (by unfold fU.f;rw[if_pos ⟨rfl,rfl,rfl⟩])
end Go.Proofs.YtffdiakgjakngaaGreat.P


namespace Go.Proofs.YtffdiakgjakngaaGreat.P
open Go.RowKit Go.Proofs.YtffdiakgjakngaaGreatW.PrintWords Go.Proofs.YtffdiakgjakngaaGreatW.PrintLast Go.Proofs.YtffdiakgjakngaaGreatW.PrintMore
set_option linter.unusedVariables false
set_option linter.unusedSimpArgs false
set_option maxHeartbeats 8000000
set_option maxRecDepth 100000
section
attribute [local go_sem] jq jr js jt l4 l5 l6 l7
noncomputable def bJ.j0:Nat->List (List Int)->Bool->Option (Bool)
 |0,_,_=>none
 |k+1,a,b=>if b=true then(some false) else(if 0<(a.length:Int) then((bO.f k (aV a 0) (([(-1),0,1]:List Int))).bind fun t259=>(if t259=true then(if 1<(a.length:Int) then((bO.f k (aV a 1) (([(-1),1,0]:List Int))).bind fun t264=>(some t264)) else(none)) else(some false))) else(none))
noncomputable def bJ.f (k:Nat):Option (Bool):=(some (([(⟨0,1,1⟩:S83),(⟨0,2,1⟩:S83),(⟨0,3,1⟩:S83),(⟨1,2,1⟩:S83),(⟨1,3,1⟩:S83),(⟨2,3,1⟩:S83)]:List (S83)):List (S83))).bind fun b=>((some (([(⟨0,1,1⟩:S83),(⟨0,2,1⟩:S83),(⟨1,2,1⟩:S83)]:List (S83)):List (S83))).bind fun e=>((eB.f k 4 b).bind fun g=>((dW.f k 4 b (([1,1,1,0]:List Int))).bind fun h=>((iK.f k 4 b (([1,1,1,0]:List Int))).bind fun i=>((bT.f k 3 e 0).bind fun a=>((fU.f k 3 e 0).bind fun j=>(if(wrap64 ((wrap64 ((wrap64 ((wrap64 (g.2+h.2))+i.2))+a.2))+j.2))=0 then((bO.f k g.1 (([1,1,1,1]:List Int))).bind fun t250=>(if t250=true then((bO.f k h.1 (([0,0,0,1]:List Int))).bind fun t254=>(if t254=true then(if i.1=1 then(if j.1=0 then(bJ.j0 k a.1 ((a.1.length:Int) != 2)) else(bJ.j0 k a.1 true)) else(bJ.j0 k a.1 true)) else(bJ.j0 k a.1 true))) else(bJ.j0 k a.1 true))) else(bJ.j0 k a.1 true))))))))
theorem bJ.cy:∀k,(∀a b,al (bJ.j0 k a b) (bJ.j0 (k+1) a b))
 |0=>fun _ _ r h=>by simp[bJ.j0] at h
 |k+1=>by
  have e:=bJ.cy k
  ·intro a b
   unfold bJ.j0;with_reducible repeat' first|exact e _ _|exact bO.mono _ _ _|exact iK.mono _ _ _ _|exact fU.mono _ _ _ _|exact eB.mono _ _ _|exact dW.mono _ _ _ _|exact bT.mono _ _ _ _|exact al.refl _|exact al.none _|refine al.ite ?_ ?_|refine al.bind ?_ (fun _=>?_)
theorem bJ.calls (k:Nat)  (r:Bool) (hr:Aside0 (r=true)) (w:World) (h:bJ.f k=some r):
  Calls Tryz.prog 26 #[] w fun e w'=>e= .returned (.bool r)/\Below w.heap.size w w':=by
 have hG:=Tryz.underlying83;have hH:=Tryz.underlying24;have l:=zA (aq w.heap.size w);unfold bJ.f at h;have H:=h;clear h;obtain⟨B,cn⟩:∃F:List (S83),F=(([(⟨0,1,1⟩:S83),(⟨0,2,1⟩:S83),(⟨0,3,1⟩:S83),(⟨1,2,1⟩:S83),(⟨1,3,1⟩:S83),(⟨2,3,1⟩:S83)]:List (S83))):=⟨_,rfl⟩;replace H:((some (([(⟨0,1,1⟩:S83),(⟨0,2,1⟩:S83),(⟨1,2,1⟩:S83)]:List (S83)):List (S83))).bind fun E=>((eB.f k 4 B).bind fun a4=>((dW.f k 4 B (([1,1,1,0]:List Int))).bind fun aB=>((iK.f k 4 B (([1,1,1,0]:List Int))).bind fun Q=>((bT.f k 3 E 0).bind fun v=>((fU.f k 3 E 0).bind fun S=>(if(wrap64 ((wrap64 ((wrap64 ((wrap64 (a4.2+aB.2))+Q.2))+v.2))+S.2))=0 then((bO.f k a4.1 (([1,1,1,1]:List Int))).bind fun t250=>(if t250=true then((bO.f k aB.1 (([0,0,0,1]:List Int))).bind fun t254=>(if t254=true then(if Q.1=1 then(if S.1=0 then(bJ.j0 k v.1 ((v.1.length:Int) != 2)) else(bJ.j0 k v.1 true)) else(bJ.j0 k v.1 true)) else(bJ.j0 k v.1 true))) else(bJ.j0 k v.1 true))) else(bJ.j0 k v.1 true))))))))=some r:=zh cn H;have d0:=zA cn;clear cn;obtain⟨E,co⟩:∃F:List (S83),F=(([(⟨0,1,1⟩:S83),(⟨0,2,1⟩:S83),(⟨1,2,1⟩:S83)]:List (S83))):=⟨_,rfl⟩;replace H:((eB.f k 4 B).bind fun a4=>((dW.f k 4 B (([1,1,1,0]:List Int))).bind fun aB=>((iK.f k 4 B (([1,1,1,0]:List Int))).bind fun Q=>((bT.f k 3 E 0).bind fun v=>((fU.f k 3 E 0).bind fun S=>(if(wrap64 ((wrap64 ((wrap64 ((wrap64 (a4.2+aB.2))+Q.2))+v.2))+S.2))=0 then((bO.f k a4.1 (([1,1,1,1]:List Int))).bind fun t250=>(if t250=true then((bO.f k aB.1 (([0,0,0,1]:List Int))).bind fun t254=>(if t254=true then(if Q.1=1 then(if S.1=0 then(bJ.j0 k v.1 ((v.1.length:Int) != 2)) else(bJ.j0 k v.1 true)) else(bJ.j0 k v.1 true)) else(bJ.j0 k v.1 true))) else(bJ.j0 k v.1 true))) else(bJ.j0 k v.1 true)))))))=some r:=zh co H;have d1:=zA co;clear co;obtain⟨⟨t225,t228⟩,A1,H⟩:=zo H;dsimp only at H;obtain⟨bx,cq⟩:∃F:List Int,F=(([1,1,1,0]:List Int)):=⟨_,rfl⟩;replace H:((dW.f k 4 B bx).bind fun aB=>((iK.f k 4 B (([1,1,1,0]:List Int))).bind fun Q=>((bT.f k 3 E 0).bind fun v=>((fU.f k 3 E 0).bind fun S=>(if(wrap64 ((wrap64 ((wrap64 ((wrap64 (t228+aB.2))+Q.2))+v.2))+S.2))=0 then((bO.f k t225 (([1,1,1,1]:List Int))).bind fun t250=>(if t250=true then((bO.f k aB.1 (([0,0,0,1]:List Int))).bind fun t254=>(if t254=true then(if Q.1=1 then(if S.1=0 then(bJ.j0 k v.1 ((v.1.length:Int) != 2)) else(bJ.j0 k v.1 true)) else(bJ.j0 k v.1 true)) else(bJ.j0 k v.1 true))) else(bJ.j0 k v.1 true))) else(bJ.j0 k v.1 true))))))=some r:=zh cq H;have d2:=zA cq;clear cq;obtain⟨⟨t232,t235⟩,A2,H⟩:=zo H;dsimp only at H;obtain⟨b0,cr⟩:∃F:List Int,F=(([1,1,1,0]:List Int)):=⟨_,rfl⟩;replace H:((iK.f k 4 B b0).bind fun Q=>((bT.f k 3 E 0).bind fun v=>((fU.f k 3 E 0).bind fun S=>(if(wrap64 ((wrap64 ((wrap64 ((wrap64 (t228+t235))+Q.2))+v.2))+S.2))=0 then((bO.f k t225 (([1,1,1,1]:List Int))).bind fun t250=>(if t250=true then((bO.f k t232 (([0,0,0,1]:List Int))).bind fun t254=>(if t254=true then(if Q.1=1 then(if S.1=0 then(bJ.j0 k v.1 ((v.1.length:Int) != 2)) else(bJ.j0 k v.1 true)) else(bJ.j0 k v.1 true)) else(bJ.j0 k v.1 true))) else(bJ.j0 k v.1 true))) else(bJ.j0 k v.1 true)))))=some r:=zh cr H
 have d3:=zA cr;clear cr;obtain⟨⟨t239,t240⟩,A3,H⟩:=zo H;dsimp only at H;obtain⟨⟨t241,t244⟩,A4,H⟩:=zo H;dsimp only at H;obtain⟨⟨t245,t246⟩,A5,H⟩:=zo H;dsimp only at H;have cv:=zA H;clear H;go_enter Tryz.func26,Tryz.ntmps26
 go_upto_region 8 with (first|((with_reducible refine aJ (N:=19) rfl ?_);(try(refine dP (by rfl) ?_;dsimp only));refine Kd.fh aN _ 83 ?hg (N:=19) ?hd (xs:=([(⟨0,1,1⟩:S83),(⟨0,2,1⟩:S83),(⟨0,3,1⟩:S83),(⟨1,2,1⟩:S83),(⟨1,3,1⟩:S83),(⟨2,3,1⟩:S83)]:List (S83))) (inner:=[.int .i64 0,.int .i64 1,.int .i64 1,.int .i64 0,.int .i64 2,.int .i64 1,.int .i64 0,.int .i64 3,.int .i64 1,.int .i64 1,.int .i64 2,.int .i64 1,.int .i64 1,.int .i64 3,.int .i64 1,.int .i64 2,.int .i64 3,.int .i64 1]) (ok:=fun _=>True) (okp:=fun _=>True) ?hr ?hp (fun _ hk=>hk) trivial (aq _ _) (aI _) (by simp) ?_;(case hd=>rfl);(case hg=>rfl);(case hr=>first|(go_simp;done)|(go_simp;rfl));(case hp=>exact(aT.c3 (show Kd.M aN _ _ _ (⟨0,1,1⟩:S83) [.int .i64 0,.int .i64 1,.int .i64 1] from(jw _ _ _ (⟨0,1,1⟩:S83))) (aT.c3 (show Kd.M aN _ _ _ (⟨0,2,1⟩:S83) [.int .i64 0,.int .i64 2,.int .i64 1] from(jw _ _ _ (⟨0,2,1⟩:S83))) (aT.c3 (show Kd.M aN _ _ _ (⟨0,3,1⟩:S83) [.int .i64 0,.int .i64 3,.int .i64 1] from(jw _ _ _ (⟨0,3,1⟩:S83))) (aT.c3 (show Kd.M aN _ _ _ (⟨1,2,1⟩:S83) [.int .i64 1,.int .i64 2,.int .i64 1] from(jw _ _ _ (⟨1,2,1⟩:S83))) (aT.c3 (show Kd.M aN _ _ _ (⟨1,3,1⟩:S83) [.int .i64 1,.int .i64 3,.int .i64 1] from(jw _ _ _ (⟨1,3,1⟩:S83))) (aT.c3 (show Kd.M aN _ _ _ (⟨2,3,1⟩:S83) [.int .i64 2,.int .i64 3,.int .i64 1] from(jw _ _ _ (⟨2,3,1⟩:S83))) (aT.none _ _))))))));intro v218 w7 a5 hb y z;clear y z;(first|rw[<-d0.out] at a5|(simp only[Int.reduceToNat] at a5;rw[<-d0.out] at a5));have i:=zA (Kd.bj a5 (bu zB));replace l:=zS l hb;clear hb a5;obtain⟨J,G,e0⟩:=Kd.bm i.out;subst e0)|((with_reducible refine aJ (N:=1) rfl ?_);(try(refine dP (by rfl) ?_;dsimp only));refine zX 1 #[.int .i64 0,.slice none 0 0] 24 ?_;intro K hg hJ a9 hb;replace i:=bz i hb;have b:=zA (a9);have hK:=zG l hg;have hL:=zG l hg;replace l:=zS l hb;clear hb a9 hg;obtain⟨e1,e2,e3,e4⟩:=ax b)|((with_reducible refine aJ (N:=24) rfl ?_);(try(refine dP (by rfl) ?_;dsimp only));refine Kd.fh aN _ 83 ?hg (N:=24) ?hd (xs:=([(⟨0,1,1⟩:S83),(⟨0,2,1⟩:S83),(⟨1,2,1⟩:S83)]:List (S83))) (inner:=[.int .i64 0,.int .i64 1,.int .i64 1,.int .i64 0,.int .i64 2,.int .i64 1,.int .i64 1,.int .i64 2,.int .i64 1]) (ok:=fun _=>True) (okp:=fun _=>True) ?hr ?hp (fun _ hk=>hk) trivial (aq _ _) (aI _) (by simp) ?_;(case hd=>rfl);(case hg=>rfl);(case hr=>first|(go_simp;done)|(go_simp;rfl));(case hp=>exact(aT.c3 (show Kd.M aN _ _ _ (⟨0,1,1⟩:S83) [.int .i64 0,.int .i64 1,.int .i64 1] from(jw _ _ _ (⟨0,1,1⟩:S83))) (aT.c3 (show Kd.M aN _ _ _ (⟨0,2,1⟩:S83) [.int .i64 0,.int .i64 2,.int .i64 1] from(jw _ _ _ (⟨0,2,1⟩:S83))) (aT.c3 (show Kd.M aN _ _ _ (⟨1,2,1⟩:S83) [.int .i64 1,.int .i64 2,.int .i64 1] from(jw _ _ _ (⟨1,2,1⟩:S83))) (aT.none _ _)))));intro v222 hM a0 hb y z;clear y z;(first|rw[<-d1.out] at a0|(simp only[Int.reduceToNat] at a0;rw[<-d1.out] at a0));have q:=zA (Kd.bj (Kd.bR a0 (Kd.a_ (by(with_reducible repeat(first|apply Kd.aR|apply Kd.bD|apply Kd.bq));exact(Kd.bb (Kd.dr (p:=⟨K,1,none⟩) (Kd.dr (p:=⟨K,0,none⟩) (Kd.ij i.out b.out (by decide)) (fun _ hk=>hk.2) (.int .i64 4)) (fun _ hk=>hk.2) (.slice J B.length G)) (fun _ h_=>h_.1))))) (bu zB));replace i:=zA (Kd.s6 (by(with_reducible repeat(first|apply Kd.aR|apply Kd.bD|apply Kd.bq));exact(Kd.bb (Kd.dr (p:=⟨K,1,none⟩) (Kd.dr (p:=⟨K,0,none⟩) (Kd.ij i.out b.out (by decide)) (fun _ hk=>hk.2) (.int .i64 4)) (fun _ hk=>hk.2) (.slice J B.length G)) (fun _ h_=>h_.1))) (Kd.dY a0) hb);replace b:=zA (aE (g:=K) (o:=.cells #[.int .i64 4,.slice J B.length G] 24 (0,0)) (by refine zk ?_;refine bB (cs:=#[.int .i64 4,.slice none 0 0]) ?_ 1 _ rfl;refine zk ?_;refine bB (cs:=#[.int .i64 0,.slice none 0 0]) ?_ 0 _ rfl;exact zK b) hb);replace l:=zS l hb;clear hb a0;obtain⟨L,O,e5⟩:=Kd.bm q.out;subst e5)|((with_reducible refine aJ (N:=2) rfl ?_);(try(refine dP (by rfl) ?_;dsimp only));refine zX 2 #[.int .i64 0,.slice none 0 0] 24 ?_;intro P hg hN a9 hb;replace i:=bz i hb;replace q:=bz q hb;have j:=zA (a9);have hO:=zG l hg;have hP:=zG l hg;replace l:=zS l hb;have cx:=zA ((by rw[hg];exact Nat.ne_of_lt (aA (g:=K) (o:=.cells #[.int .i64 4,.slice J B.length G] 24 (0,0)) (zK b)):K≠P));have e6:=zA ((by rw[hg];exact Nat.ne_of_gt (aA (g:=K) (o:=.cells #[.int .i64 4,.slice J B.length G] 24 (0,0)) (zK b)):P≠K));replace b:=zb b hb;clear hb a9 hg;have hQ:=e6.out;have hR:=cx.out;obtain⟨e',fb,fd,fn⟩:=ax j;obtain⟨fo,fq,fr,ft⟩:=ax b)|((with_reducible refine aG (f:=35) rfl ?_);refine zL (some 28) Tryz.func35 #[.agg #[.int .i64 4,.slice J B.length G]] ?_;(with_reducible refine(eB.calls k 4 _ _ B t225 t228 _ ?ah ?ai A1.out).mono ?_);(case ah=>refine(Kd.aQ (e:=83) (base:=w.heap.size) (ok:=fun C=>(True/\some C≠(.slice L E.length O:Value).ownBlock)) (n:=B.length) (c:=G) ?_).2.2;exact(by(with_reducible repeat(first|apply Kd.aR|apply Kd.bD|apply Kd.bq));exact(Kd.bb (Kd.dr (p:=⟨P,1,none⟩) (Kd.dr (p:=⟨P,0,none⟩) (Kd.ij i.out j.out (by decide)) (fun _ hk=>hk.2) (.int .i64 3)) (fun _ hk=>hk.2) (.slice L E.length O)) (fun _ h_=>h_.1))));(case ai=>exact(Kd.aQ i.out).2.1);rintro e hT ⟨v226,rfl,aa,hb⟩;refine⟨_,rfl,?_⟩;replace i:=zA (Kd.cT (by(with_reducible repeat(first|apply Kd.aR|apply Kd.bD|apply Kd.bq));exact(Kd.bb (Kd.dr (p:=⟨P,1,none⟩) (Kd.dr (p:=⟨P,0,none⟩) (Kd.ij i.out j.out (by decide)) (fun _ hk=>hk.2) (.int .i64 3)) (fun _ hk=>hk.2) (.slice L E.length O)) (fun _ h_=>h_.1))) hb);replace q:=zA (Kd.cT (by(with_reducible repeat(first|apply Kd.aR|apply Kd.bD|apply Kd.bq));exact(Kd.bb (Kd.dr (p:=⟨P,1,none⟩) (Kd.dr (p:=⟨P,0,none⟩) (Kd.ij q.out j.out (by decide)) (fun _ hk=>hk.2) (.int .i64 3)) (fun _ hk=>hk.2) (.slice L E.length O)) (fun _ h_=>h_.1))) hb);have a:=zA (Kd.bj aa (bu zB));replace b:=zA (aE (g:=K) (o:=.cells #[.int .i64 4,.slice J B.length G] 24 (0,0)) (by refine zk ?_;refine aD ?_ cx.out _;refine zk ?_;refine aD ?_ cx.out _;exact zK b) hb);replace j:=zA (aE (g:=P) (o:=.cells #[.int .i64 3,.slice L E.length O] 24 (0,0)) (by refine zk ?_;refine bB (cs:=#[.int .i64 3,.slice none 0 0]) ?_ 1 _ rfl;refine zk ?_;refine bB (cs:=#[.int .i64 0,.slice none 0 0]) ?_ 0 _ rfl;exact zK j) hb);replace l:=zS l hb;(try clear hb);(try clear aa);obtain⟨fv,f0,f1,f2⟩:=ax b)|((with_reducible refine aJ (N:=33) rfl ?_);(try(refine dP (by rfl) ?_;dsimp only));refine Kd.fh (Kd.int .i64) _ 3 ?hg (N:=33) ?hd (xs:=([1,1,1,0]:List Int)) (inner:=[.int .i64 1,.int .i64 1,.int .i64 1,.int .i64 0]) (ok:=fun _=>True) (okp:=fun _=>True) ?hr ?hp (fun _ hk=>hk) trivial (aq _ _) (aI _) (by simp) ?_;(case hd=>rfl);(case hg=>rfl);(case hr=>first|(go_simp;done)|(go_simp;rfl));(case hp=>exact(aT.one (show Kd.M (Kd.int .i64) _ _ _ 1 [.int .i64 1] from rfl) (aT.one (show Kd.M (Kd.int .i64) _ _ _ 1 [.int .i64 1] from rfl) (aT.one (show Kd.M (Kd.int .i64) _ _ _ 1 [.int .i64 1] from rfl) (aT.one (show Kd.M (Kd.int .i64) _ _ _ 0 [.int .i64 0] from rfl) (aT.none _ _))))));intro hV hW a1 hb y z;clear y z;(first|rw[<-d2.out] at a1|(simp only[Int.reduceToNat] at a1;rw[<-d2.out] at a1));replace i:=bz i hb;replace q:=bz q hb;have s:=zA (Kd.bj (Kd.bR a1 (Kd.a_ (zR a))) (bu zB));replace a:=bS a a1 hb;replace b:=zb b hb;replace j:=zb j hb;replace l:=zS l hb;clear hb a1;obtain⟨d4,d5,f3⟩:=Kd.bm s.out;subst f3)|((with_reducible refine aG (f:=32) rfl ?_);refine zL (some 34) Tryz.func32 #[.agg #[.int .i64 4,.slice J B.length G],.slice d4 bx.length d5] ?_;(with_reducible refine(dW.calls k 4 _ _ B _ _ bx t232 t235 _ ?ah ?ai ?aW ?aX A2.out).mono ?_);(case ah=>exact zC (Kd.aQ i.out).2.2);(case ai=>exact(Kd.aQ i.out).2.1);(case aW=>exact zC (Kd.aQ s.out).2.2);(case aX=>exact(Kd.aQ s.out).2.1);rintro e hX ⟨v233,rfl,aa,hb⟩;refine⟨_,rfl,?_⟩;replace i:=bz i hb;replace q:=bz q hb;have m:=zA (Kd.bj (Kd.bR (Kd.bR aa (Kd.a_ (zR a))) (Kd.a_ (zR s))) (bu zB));replace a:=bS a aa hb;replace s:=bS s aa hb;replace b:=zb b hb;replace j:=zb j hb;replace l:=zS l hb;(try clear hb);(try clear aa);obtain⟨f4,f5,f6,f7⟩:=ax b)|((with_reducible refine aJ (N:=39) rfl ?_);(try(refine dP (by rfl) ?_;dsimp only));refine Kd.fh (Kd.int .i64) _ 3 ?hg (N:=39) ?hd (xs:=([1,1,1,0]:List Int)) (inner:=[.int .i64 1,.int .i64 1,.int .i64 1,.int .i64 0]) (ok:=fun _=>True) (okp:=fun _=>True) ?hr ?hp (fun _ hk=>hk) trivial (aq _ _) (aI _) (by simp) ?_;(case hd=>rfl);(case hg=>rfl);(case hr=>first|(go_simp;done)|(go_simp;rfl));(case hp=>exact(aT.one (show Kd.M (Kd.int .i64) _ _ _ 1 [.int .i64 1] from rfl) (aT.one (show Kd.M (Kd.int .i64) _ _ _ 1 [.int .i64 1] from rfl) (aT.one (show Kd.M (Kd.int .i64) _ _ _ 1 [.int .i64 1] from rfl) (aT.one (show Kd.M (Kd.int .i64) _ _ _ 0 [.int .i64 0] from rfl) (aT.none _ _))))));intro hY h0 aF hb y z;clear y z;(first|rw[<-d3.out] at aF|(simp only[Int.reduceToNat] at aF;rw[<-d3.out] at aF));replace i:=bz i hb;replace q:=bz q hb;have u:=zA (Kd.bj (Kd.bR (Kd.bR (Kd.bR aF (Kd.a_ (zR a))) (Kd.a_ (zR s))) (Kd.a_ (zR m))) (bu zB));replace a:=bS a aF hb;replace s:=bS s aF hb;replace m:=bS m aF hb;replace b:=zb b hb;replace j:=zb j hb;replace l:=zS l hb;clear hb aF;obtain⟨d6,d7,f8⟩:=Kd.bm u.out;subst f8)|((with_reducible refine aG (f:=27) rfl ?_);refine zL (some 40) Tryz.func27 #[.agg #[.int .i64 4,.slice J B.length G],.slice d6 b0.length d7] ?_;(with_reducible refine(iK.calls k 4 _ _ B _ _ b0 t239 t240 _ ?ah ?ai ?aW ?aX A3.out).mono ?_);(case ah=>exact zC (Kd.aQ i.out).2.2);(case ai=>exact(Kd.aQ i.out).2.1);(case aW=>exact zC (Kd.aQ u.out).2.2);(case aX=>exact(Kd.aQ u.out).2.1);rintro e h1 ⟨rfl,hb⟩;refine⟨_,rfl,?_⟩;replace i:=bz i hb;replace q:=bz q hb;replace a:=bz a hb;replace s:=bz s hb;replace m:=bz m hb;replace u:=bz u hb;replace b:=zb b hb;replace j:=zb j hb;replace l:=zS l hb;(try clear hb);obtain⟨f9,f',gb,gc⟩:=ax j)|((with_reducible refine aG (f:=15) rfl ?_);refine zL (some 45) Tryz.func15 #[.agg #[.int .i64 3,.slice L E.length O],.int .i64 0] ?_;(with_reducible refine(bT.calls k 3 _ _ E 0 t241 t244 _ ?ah ?ai A4.out).mono ?_);(case ah=>exact zC (Kd.aQ q.out).2.2);(case ai=>exact(Kd.aQ q.out).2.1);rintro e h2 ⟨gd,rfl,aa,hb⟩;refine⟨_,rfl,?_⟩;have D:=zA (Kd.mS (Kd.eK (ok':=fun C=>some C≠(.slice J B.length G:Value).ownBlock/\some C≠(.slice L E.length O:Value).ownBlock/\some C≠(v226:Value).ownBlock/\some C≠(.slice d4 bx.length d5:Value).ownBlock/\some C≠(v233:Value).ownBlock/\some C≠(.slice d6 b0.length d7:Value).ownBlock/\C≠K/\C≠P) aa (fun C aL=>⟨(Kd.kM (Kd.a_ (zR i)) C aL),(Kd.kM (Kd.a_ (zR q)) C aL),(Kd.kM (Kd.a_ (zR a)) C aL),(Kd.kM (Kd.a_ (zR s)) C aL),(Kd.kM (Kd.a_ (zR m)) C aL),(Kd.kM (Kd.a_ (zR u)) C aL),(Kd.lT (zK b) C aL),(Kd.lT (zK j) C aL)⟩)) (bu zB));replace i:=bz i hb;replace q:=bz q hb;replace a:=bz a hb;replace s:=bz s hb;replace m:=bz m hb;replace u:=bz u hb;replace b:=zb b hb;replace j:=zb j hb;replace l:=zS l hb;(try clear hb);(try clear aa);obtain⟨ge,gf,gg,gi⟩:=ax j)|((with_reducible refine aG (f:=82) rfl ?_);refine zL (some 50) Tryz.func82 #[.agg #[.int .i64 3,.slice L E.length O],.int .i64 0] ?_;(with_reducible refine(fU.calls k 3 _ _ E 0 t245 t246 _ ?ah ?ai A5.out).mono ?_);(case ah=>exact zC (Kd.aQ q.out).2.2);(case ai=>exact(Kd.aQ q.out).2.1);rintro e h3 ⟨rfl,hb⟩;refine⟨_,rfl,?_⟩;replace i:=bz i hb;replace q:=bz q hb;replace a:=bz a hb;replace s:=bz s hb;replace m:=bz m hb;replace u:=bz u hb;replace D:=Be D hb;replace b:=zb b hb;replace j:=zb j hb;replace l:=zS l hb;(try clear hb)))
 (try simp only[Act.put,List.setIfInBounds_toArray,List.set_cons_zero,List.set_cons_succ])
 go_cut [87] (fun v87 wc=>∃(kq:Nat) (b2:Bool),v87= .bool b2/\Aside0 (bJ.j0 kq t241 b2=some r)/\Aside0 (kq<=k)/\Aside0 (Kd.N (Kd.slice 3 (Kd.int .i64)) 26 wc w.heap.size (fun C=>some C≠((.slice J B.length G):Value).ownBlock/\some C≠((.slice L E.length O):Value).ownBlock/\C≠K/\C≠P) gd t241)/\Aside0 (Kd.R aN 83 wc w.heap.size (fun C=>some C≠((.slice L E.length O):Value).ownBlock) (.slice J B.length G) B)/\Aside0 (Kd.R aN 83 wc w.heap.size (fun C=>some C≠((.slice J B.length G):Value).ownBlock) (.slice L E.length O) E)/\Aside0 (wc.heap[K]? =some (.cells #[.int .i64 4,(.slice J B.length G)] 24 (0,0)))/\Aside0 (wc.heap[P]? =some (.cells #[.int .i64 3,(.slice L E.length O)] 24 (0,0)))/\Aside0 (Below w.heap.size w wc))
 case first=>
  have H:=cv.out;clear cv;by_cases bd:(wrap64 ((wrap64 ((wrap64 ((wrap64 (t228+t235))+t240))+t244))+t246))=0
  ·rw[if_pos bd] at H
   obtain⟨be,gl⟩:=bH bd;clear bd
   (first|rw[be]|(simp only[bG,bL];rw[be])|skip)
   obtain⟨a2,c0⟩:∃F:List Int,F=(([1,1,1,1]:List Int)):=⟨_,rfl⟩;replace H:((bO.f k t225 a2).bind fun t250=>(if t250=true then((bO.f k t232 (([0,0,0,1]:List Int))).bind fun t254=>(if t254=true then(if t239=1 then(if t245=0 then(bJ.j0 k t241 ((t241.length:Int) != 2)) else(bJ.j0 k t241 true)) else(bJ.j0 k t241 true)) else(bJ.j0 k t241 true))) else(bJ.j0 k t241 true)))=some r:=zh c0 H;have ab:=zA c0;clear c0;obtain⟨t250,bf,H⟩:=zo H;by_cases b3:t250=true
   ·subst b3
    replace H:=zi H;obtain⟨bg,c1⟩:∃F:List Int,F=(([0,0,0,1]:List Int)):=⟨_,rfl⟩;replace H:((bO.f k t232 bg).bind fun t254=>(if t254=true then(if t239=1 then(if t245=0 then(bJ.j0 k t241 ((t241.length:Int) != 2)) else(bJ.j0 k t241 true)) else(bJ.j0 k t241 true)) else(bJ.j0 k t241 true)))=some r:=zh c1 H;have aO:=zA c1;clear c1;obtain⟨t254,b4,H⟩:=zo H;by_cases b5:t254=true
    ·subst b5
     replace H:=zi H;by_cases bi:t239=1
     ·rw[if_pos bi] at H
      obtain⟨gm,gn⟩:=bH bi;clear bi;by_cases bk:t245=0
      ·rw[if_pos bk] at H
       obtain⟨go,gp⟩:=bH bk;clear bk;have T:=zA H;clear H;go_wp2_with (first|((with_reducible refine aJ (N:=65) rfl ?_);(try(refine dP (by rfl) ?_;dsimp only));refine Kd.fh (Kd.int .i64) _ 3 ?hg (N:=65) ?hd (xs:=([1,1,1,1]:List Int)) (inner:=[.int .i64 1,.int .i64 1,.int .i64 1,.int .i64 1]) (ok:=fun _=>True) (okp:=fun _=>True) ?hr ?hp (fun _ hk=>hk) trivial (aq _ _) (aI _) (by simp) ?_;(case hd=>rfl);(case hg=>rfl);(case hr=>first|(go_simp;done)|(go_simp;rfl));(case hp=>exact(aT.one (show Kd.M (Kd.int .i64) _ _ _ 1 [.int .i64 1] from rfl) (aT.one (show Kd.M (Kd.int .i64) _ _ _ 1 [.int .i64 1] from rfl) (aT.one (show Kd.M (Kd.int .i64) _ _ _ 1 [.int .i64 1] from rfl) (aT.one (show Kd.M (Kd.int .i64) _ _ _ 1 [.int .i64 1] from rfl) (aT.none _ _))))));intro b6 h4 ad hb y z;clear y z;(first|rw[<-ab.out] at ad|(simp only[Int.reduceToNat] at ad;rw[<-ab.out] at ad));replace i:=bz i hb;replace q:=bz q hb;replace D:=gU D ad hb;have x:=zA (Kd.bj (Kd.bR (Kd.bR (Kd.bR (Kd.bR ad (Kd.a_ (zR a))) (Kd.a_ (zR s))) (Kd.a_ (zR m))) (Kd.a_ (zR u))) (bu zB));replace a:=bS a ad hb;replace s:=bS s ad hb;replace m:=bS m ad hb;replace u:=bS u ad hb;replace b:=zb b hb;replace j:=zb j hb;replace l:=zS l hb;clear hb ad;obtain⟨h5,h6,gq⟩:=Kd.bm a.out;subst gq;obtain⟨h7,h8,gr⟩:=Kd.bm x.out;subst gr)|(go_at_call 33;(with_reducible refine(bO.calls k _ _ t225 _ _ a2 true _ ?ah ?ai ?aW ?aX bf.out).mono ?_);(case ah=>exact zC (Kd.aQ a.out).2.2);(case ai=>exact(Kd.aQ a.out).2.1);(case aW=>exact zC (Kd.aQ x.out).2.2);(case aX=>exact(Kd.aQ x.out).2.1);rintro e w' ⟨rfl,⟨nd,rfl⟩⟩)|((with_reducible refine aJ (N:=71) rfl ?_);(try(refine dP (by rfl) ?_;dsimp only));refine Kd.fh (Kd.int .i64) _ 3 ?hg (N:=71) ?hd (xs:=([0,0,0,1]:List Int)) (inner:=[.int .i64 0,.int .i64 0,.int .i64 0,.int .i64 1]) (ok:=fun _=>True) (okp:=fun _=>True) ?hr ?hp (fun _ hk=>hk) trivial (aq _ _) (aI _) (by simp) ?_;(case hd=>rfl);(case hg=>rfl);(case hr=>first|(go_simp;done)|(go_simp;rfl));(case hp=>exact(aT.one (show Kd.M (Kd.int .i64) _ _ _ 0 [.int .i64 0] from rfl) (aT.one (show Kd.M (Kd.int .i64) _ _ _ 0 [.int .i64 0] from rfl) (aT.one (show Kd.M (Kd.int .i64) _ _ _ 0 [.int .i64 0] from rfl) (aT.one (show Kd.M (Kd.int .i64) _ _ _ 1 [.int .i64 1] from rfl) (aT.none _ _))))));intro c2 h9 U hb y z;clear y z;(first|rw[<-aO.out] at U|(simp only[Int.reduceToNat] at U;rw[<-aO.out] at U));replace i:=bz i hb;replace q:=bz q hb;replace D:=gU D U hb;have I:=zA (Kd.bj (Kd.bR (Kd.bR (Kd.bR (Kd.bR (Kd.bR U (Kd.a_ (zR a))) (Kd.a_ (zR s))) (Kd.a_ (zR m))) (Kd.a_ (zR u))) (Kd.a_ (zR x))) (bu zB));replace a:=bS a U hb;replace s:=bS s U hb;replace m:=bS m U hb;replace u:=bS u U hb;replace x:=bS x U hb;replace b:=zb b hb;replace j:=zb j hb;replace l:=zS l hb;clear hb U;obtain⟨h',ib,gs⟩:=Kd.bm m.out;subst gs;obtain⟨id,ih,gt⟩:=Kd.bm I.out;subst gt)|(go_at_call 33;(with_reducible refine(bO.calls k _ _ t232 _ _ bg true _ ?ah ?ai ?aW ?aX b4.out).mono ?_);(case ah=>exact zC (Kd.aQ m.out).2.2);(case ai=>exact(Kd.aQ m.out).2.1);(case aW=>exact zC (Kd.aQ I.out).2.2);(case aX=>exact(Kd.aQ I.out).2.1);rintro e w' ⟨rfl,⟨nd,rfl⟩⟩;obtain⟨ii,im,gx⟩:=Kd.mU D.out;subst gx))
       go_meet
       case rel=>exact⟨_,(((t241.length:Int) != 2)),zT,T,⟨by first|omega|exact aI _⟩,⟨by(with_reducible repeat(first|apply Kd.eW|apply Kd.gA|apply Kd.gz));exact Kd.eK D.out (fun _ hk=>⟨hk.1.1.1,⟨hk.1.1.2.1,⟨hk.1.1.2.2.2.2.2.2.1,hk.1.1.2.2.2.2.2.2.2⟩⟩⟩)⟩,⟨by(with_reducible repeat(first|apply Kd.aR|apply Kd.bD|apply Kd.bq));exact Kd.bb i.out (fun _ hk=>hk.2)⟩,⟨by(with_reducible repeat(first|apply Kd.aR|apply Kd.bD|apply Kd.bq));exact Kd.bb q.out (fun _ hk=>hk.2)⟩,⟨zK b⟩,⟨zK j⟩,⟨zB⟩⟩
      ·rw[if_neg bk] at H
       obtain⟨go,gp⟩:=bI bk;have T:=zA H;clear H;go_wp2_with (first|((with_reducible refine aJ (N:=65) rfl ?_);(try(refine dP (by rfl) ?_;dsimp only));refine Kd.fh (Kd.int .i64) _ 3 ?hg (N:=65) ?hd (xs:=([1,1,1,1]:List Int)) (inner:=[.int .i64 1,.int .i64 1,.int .i64 1,.int .i64 1]) (ok:=fun _=>True) (okp:=fun _=>True) ?hr ?hp (fun _ hk=>hk) trivial (aq _ _) (aI _) (by simp) ?_;(case hd=>rfl);(case hg=>rfl);(case hr=>first|(go_simp;done)|(go_simp;rfl));(case hp=>exact(aT.one (show Kd.M (Kd.int .i64) _ _ _ 1 [.int .i64 1] from rfl) (aT.one (show Kd.M (Kd.int .i64) _ _ _ 1 [.int .i64 1] from rfl) (aT.one (show Kd.M (Kd.int .i64) _ _ _ 1 [.int .i64 1] from rfl) (aT.one (show Kd.M (Kd.int .i64) _ _ _ 1 [.int .i64 1] from rfl) (aT.none _ _))))));intro b6 io ak hb y z;clear y z;(first|rw[<-ab.out] at ak|(simp only[Int.reduceToNat] at ak;rw[<-ab.out] at ak));replace i:=bz i hb;replace q:=bz q hb;replace D:=gU D ak hb;have x:=zA (Kd.bj (Kd.bR (Kd.bR (Kd.bR (Kd.bR ak (Kd.a_ (zR a))) (Kd.a_ (zR s))) (Kd.a_ (zR m))) (Kd.a_ (zR u))) (bu zB));replace a:=bS a ak hb;replace s:=bS s ak hb;replace m:=bS m ak hb;replace u:=bS u ak hb;replace b:=zb b hb;replace j:=zb j hb;replace l:=zS l hb;clear hb ak;obtain⟨ip,it,g0⟩:=Kd.bm a.out;subst g0;obtain⟨iv,i0,g1⟩:=Kd.bm x.out;subst g1)|(go_at_call 33;(with_reducible refine(bO.calls k _ _ t225 _ _ a2 true _ ?ah ?ai ?aW ?aX bf.out).mono ?_);(case ah=>exact zC (Kd.aQ a.out).2.2);(case ai=>exact(Kd.aQ a.out).2.1);(case aW=>exact zC (Kd.aQ x.out).2.2);(case aX=>exact(Kd.aQ x.out).2.1);rintro e w' ⟨rfl,⟨nd,rfl⟩⟩)|((with_reducible refine aJ (N:=71) rfl ?_);(try(refine dP (by rfl) ?_;dsimp only));refine Kd.fh (Kd.int .i64) _ 3 ?hg (N:=71) ?hd (xs:=([0,0,0,1]:List Int)) (inner:=[.int .i64 0,.int .i64 0,.int .i64 0,.int .i64 1]) (ok:=fun _=>True) (okp:=fun _=>True) ?hr ?hp (fun _ hk=>hk) trivial (aq _ _) (aI _) (by simp) ?_;(case hd=>rfl);(case hg=>rfl);(case hr=>first|(go_simp;done)|(go_simp;rfl));(case hp=>exact(aT.one (show Kd.M (Kd.int .i64) _ _ _ 0 [.int .i64 0] from rfl) (aT.one (show Kd.M (Kd.int .i64) _ _ _ 0 [.int .i64 0] from rfl) (aT.one (show Kd.M (Kd.int .i64) _ _ _ 0 [.int .i64 0] from rfl) (aT.one (show Kd.M (Kd.int .i64) _ _ _ 1 [.int .i64 1] from rfl) (aT.none _ _))))));intro c2 i1 W hb y z;clear y z;(first|rw[<-aO.out] at W|(simp only[Int.reduceToNat] at W;rw[<-aO.out] at W));replace i:=bz i hb;replace q:=bz q hb;replace D:=gU D W hb;have I:=zA (Kd.bj (Kd.bR (Kd.bR (Kd.bR (Kd.bR (Kd.bR W (Kd.a_ (zR a))) (Kd.a_ (zR s))) (Kd.a_ (zR m))) (Kd.a_ (zR u))) (Kd.a_ (zR x))) (bu zB));replace a:=bS a W hb;replace s:=bS s W hb;replace m:=bS m W hb;replace u:=bS u W hb;replace x:=bS x W hb;replace b:=zb b hb;replace j:=zb j hb;replace l:=zS l hb;clear hb W;obtain⟨i2,i3,g2⟩:=Kd.bm m.out;subst g2;obtain⟨i4,i5,g3⟩:=Kd.bm I.out;subst g3)|(go_at_call 33;(with_reducible refine(bO.calls k _ _ t232 _ _ bg true _ ?ah ?ai ?aW ?aX b4.out).mono ?_);(case ah=>exact zC (Kd.aQ m.out).2.2);(case ai=>exact(Kd.aQ m.out).2.1);(case aW=>exact zC (Kd.aQ I.out).2.2);(case aX=>exact(Kd.aQ I.out).2.1);rintro e w' ⟨rfl,⟨nd,rfl⟩⟩))
       go_meet
       case rel=>exact⟨_,(true),zT,T,⟨by first|omega|exact aI _⟩,⟨by(with_reducible repeat(first|apply Kd.eW|apply Kd.gA|apply Kd.gz));exact Kd.eK D.out (fun _ hk=>⟨hk.1.1.1,⟨hk.1.1.2.1,⟨hk.1.1.2.2.2.2.2.2.1,hk.1.1.2.2.2.2.2.2.2⟩⟩⟩)⟩,⟨by(with_reducible repeat(first|apply Kd.aR|apply Kd.bD|apply Kd.bq));exact Kd.bb i.out (fun _ hk=>hk.2)⟩,⟨by(with_reducible repeat(first|apply Kd.aR|apply Kd.bD|apply Kd.bq));exact Kd.bb q.out (fun _ hk=>hk.2)⟩,⟨zK b⟩,⟨zK j⟩,⟨zB⟩⟩
     ·rw[if_neg bi] at H
      obtain⟨gm,gn⟩:=bI bi;have T:=zA H;clear H;go_wp2_with (first|((with_reducible refine aJ (N:=65) rfl ?_);(try(refine dP (by rfl) ?_;dsimp only));refine Kd.fh (Kd.int .i64) _ 3 ?hg (N:=65) ?hd (xs:=([1,1,1,1]:List Int)) (inner:=[.int .i64 1,.int .i64 1,.int .i64 1,.int .i64 1]) (ok:=fun _=>True) (okp:=fun _=>True) ?hr ?hp (fun _ hk=>hk) trivial (aq _ _) (aI _) (by simp) ?_;(case hd=>rfl);(case hg=>rfl);(case hr=>first|(go_simp;done)|(go_simp;rfl));(case hp=>exact(aT.one (show Kd.M (Kd.int .i64) _ _ _ 1 [.int .i64 1] from rfl) (aT.one (show Kd.M (Kd.int .i64) _ _ _ 1 [.int .i64 1] from rfl) (aT.one (show Kd.M (Kd.int .i64) _ _ _ 1 [.int .i64 1] from rfl) (aT.one (show Kd.M (Kd.int .i64) _ _ _ 1 [.int .i64 1] from rfl) (aT.none _ _))))));intro b6 i6 am hb y z;clear y z;(first|rw[<-ab.out] at am|(simp only[Int.reduceToNat] at am;rw[<-ab.out] at am));replace i:=bz i hb;replace q:=bz q hb;replace D:=gU D am hb;have x:=zA (Kd.bj (Kd.bR (Kd.bR (Kd.bR (Kd.bR am (Kd.a_ (zR a))) (Kd.a_ (zR s))) (Kd.a_ (zR m))) (Kd.a_ (zR u))) (bu zB));replace a:=bS a am hb;replace s:=bS s am hb;replace m:=bS m am hb;replace u:=bS u am hb;replace b:=zb b hb;replace j:=zb j hb;replace l:=zS l hb;clear hb am;obtain⟨i7,i8,g4⟩:=Kd.bm a.out;subst g4;obtain⟨i9,jj,g5⟩:=Kd.bm x.out;subst g5)|(go_at_call 33;(with_reducible refine(bO.calls k _ _ t225 _ _ a2 true _ ?ah ?ai ?aW ?aX bf.out).mono ?_);(case ah=>exact zC (Kd.aQ a.out).2.2);(case ai=>exact(Kd.aQ a.out).2.1);(case aW=>exact zC (Kd.aQ x.out).2.2);(case aX=>exact(Kd.aQ x.out).2.1);rintro e w' ⟨rfl,⟨nd,rfl⟩⟩)|((with_reducible refine aJ (N:=71) rfl ?_);(try(refine dP (by rfl) ?_;dsimp only));refine Kd.fh (Kd.int .i64) _ 3 ?hg (N:=71) ?hd (xs:=([0,0,0,1]:List Int)) (inner:=[.int .i64 0,.int .i64 0,.int .i64 0,.int .i64 1]) (ok:=fun _=>True) (okp:=fun _=>True) ?hr ?hp (fun _ hk=>hk) trivial (aq _ _) (aI _) (by simp) ?_;(case hd=>rfl);(case hg=>rfl);(case hr=>first|(go_simp;done)|(go_simp;rfl));(case hp=>exact(aT.one (show Kd.M (Kd.int .i64) _ _ _ 0 [.int .i64 0] from rfl) (aT.one (show Kd.M (Kd.int .i64) _ _ _ 0 [.int .i64 0] from rfl) (aT.one (show Kd.M (Kd.int .i64) _ _ _ 0 [.int .i64 0] from rfl) (aT.one (show Kd.M (Kd.int .i64) _ _ _ 1 [.int .i64 1] from rfl) (aT.none _ _))))));intro c2 jp X hb y z;clear y z;(first|rw[<-aO.out] at X|(simp only[Int.reduceToNat] at X;rw[<-aO.out] at X));replace i:=bz i hb;replace q:=bz q hb;replace D:=gU D X hb;have I:=zA (Kd.bj (Kd.bR (Kd.bR (Kd.bR (Kd.bR (Kd.bR X (Kd.a_ (zR a))) (Kd.a_ (zR s))) (Kd.a_ (zR m))) (Kd.a_ (zR u))) (Kd.a_ (zR x))) (bu zB));replace a:=bS a X hb;replace s:=bS s X hb;replace m:=bS m X hb;replace u:=bS u X hb;replace x:=bS x X hb;replace b:=zb b hb;replace j:=zb j hb;replace l:=zS l hb;clear hb X;obtain⟨j1,j2,g6⟩:=Kd.bm m.out;subst g6;obtain⟨j3,j_,g7⟩:=Kd.bm I.out;subst g7)|(go_at_call 33;(with_reducible refine(bO.calls k _ _ t232 _ _ bg true _ ?ah ?ai ?aW ?aX b4.out).mono ?_);(case ah=>exact zC (Kd.aQ m.out).2.2);(case ai=>exact(Kd.aQ m.out).2.1);(case aW=>exact zC (Kd.aQ I.out).2.2);(case aX=>exact(Kd.aQ I.out).2.1);rintro e w' ⟨rfl,⟨nd,rfl⟩⟩))
      go_meet
      case rel=>exact⟨_,(true),zT,T,⟨by first|omega|exact aI _⟩,⟨by(with_reducible repeat(first|apply Kd.eW|apply Kd.gA|apply Kd.gz));exact Kd.eK D.out (fun _ hk=>⟨hk.1.1.1,⟨hk.1.1.2.1,⟨hk.1.1.2.2.2.2.2.2.1,hk.1.1.2.2.2.2.2.2.2⟩⟩⟩)⟩,⟨by(with_reducible repeat(first|apply Kd.aR|apply Kd.bD|apply Kd.bq));exact Kd.bb i.out (fun _ hk=>hk.2)⟩,⟨by(with_reducible repeat(first|apply Kd.aR|apply Kd.bD|apply Kd.bq));exact Kd.bb q.out (fun _ hk=>hk.2)⟩,⟨zK b⟩,⟨zK j⟩,⟨zB⟩⟩
    ·replace b5:=Bool.eq_false_iff.mpr b5
     subst b5;replace H:=zj H;have T:=zA H;clear H;go_wp2_with (first|((with_reducible refine aJ (N:=65) rfl ?_);(try(refine dP (by rfl) ?_;dsimp only));refine Kd.fh (Kd.int .i64) _ 3 ?hg (N:=65) ?hd (xs:=([1,1,1,1]:List Int)) (inner:=[.int .i64 1,.int .i64 1,.int .i64 1,.int .i64 1]) (ok:=fun _=>True) (okp:=fun _=>True) ?hr ?hp (fun _ hk=>hk) trivial (aq _ _) (aI _) (by simp) ?_;(case hd=>rfl);(case hg=>rfl);(case hr=>first|(go_simp;done)|(go_simp;rfl));(case hp=>exact(aT.one (show Kd.M (Kd.int .i64) _ _ _ 1 [.int .i64 1] from rfl) (aT.one (show Kd.M (Kd.int .i64) _ _ _ 1 [.int .i64 1] from rfl) (aT.one (show Kd.M (Kd.int .i64) _ _ _ 1 [.int .i64 1] from rfl) (aT.one (show Kd.M (Kd.int .i64) _ _ _ 1 [.int .i64 1] from rfl) (aT.none _ _))))));intro b6 j' an hb y z;clear y z;(first|rw[<-ab.out] at an|(simp only[Int.reduceToNat] at an;rw[<-ab.out] at an));replace i:=bz i hb;replace q:=bz q hb;replace D:=gU D an hb;have x:=zA (Kd.bj (Kd.bR (Kd.bR (Kd.bR (Kd.bR an (Kd.a_ (zR a))) (Kd.a_ (zR s))) (Kd.a_ (zR m))) (Kd.a_ (zR u))) (bu zB));replace a:=bS a an hb;replace s:=bS s an hb;replace m:=bS m an hb;replace u:=bS u an hb;replace b:=zb b hb;replace j:=zb j hb;replace l:=zS l hb;clear hb an;obtain⟨kd,kk,g8⟩:=Kd.bm a.out;subst g8;obtain⟨km,ks,g9⟩:=Kd.bm x.out;subst g9)|(go_at_call 33;(with_reducible refine(bO.calls k _ _ t225 _ _ a2 true _ ?ah ?ai ?aW ?aX bf.out).mono ?_);(case ah=>exact zC (Kd.aQ a.out).2.2);(case ai=>exact(Kd.aQ a.out).2.1);(case aW=>exact zC (Kd.aQ x.out).2.2);(case aX=>exact(Kd.aQ x.out).2.1);rintro e w' ⟨rfl,⟨nd,rfl⟩⟩)|((with_reducible refine aJ (N:=71) rfl ?_);(try(refine dP (by rfl) ?_;dsimp only));refine Kd.fh (Kd.int .i64) _ 3 ?hg (N:=71) ?hd (xs:=([0,0,0,1]:List Int)) (inner:=[.int .i64 0,.int .i64 0,.int .i64 0,.int .i64 1]) (ok:=fun _=>True) (okp:=fun _=>True) ?hr ?hp (fun _ hk=>hk) trivial (aq _ _) (aI _) (by simp) ?_;(case hd=>rfl);(case hg=>rfl);(case hr=>first|(go_simp;done)|(go_simp;rfl));(case hp=>exact(aT.one (show Kd.M (Kd.int .i64) _ _ _ 0 [.int .i64 0] from rfl) (aT.one (show Kd.M (Kd.int .i64) _ _ _ 0 [.int .i64 0] from rfl) (aT.one (show Kd.M (Kd.int .i64) _ _ _ 0 [.int .i64 0] from rfl) (aT.one (show Kd.M (Kd.int .i64) _ _ _ 1 [.int .i64 1] from rfl) (aT.none _ _))))));intro c2 kt Y hb y z;clear y z;(first|rw[<-aO.out] at Y|(simp only[Int.reduceToNat] at Y;rw[<-aO.out] at Y));replace i:=bz i hb;replace q:=bz q hb;replace D:=gU D Y hb;have I:=zA (Kd.bj (Kd.bR (Kd.bR (Kd.bR (Kd.bR (Kd.bR Y (Kd.a_ (zR a))) (Kd.a_ (zR s))) (Kd.a_ (zR m))) (Kd.a_ (zR u))) (Kd.a_ (zR x))) (bu zB));replace a:=bS a Y hb;replace s:=bS s Y hb;replace m:=bS m Y hb;replace u:=bS u Y hb;replace x:=bS x Y hb;replace b:=zb b hb;replace j:=zb j hb;replace l:=zS l hb;clear hb Y;obtain⟨kv,kw,g'⟩:=Kd.bm m.out;subst g';obtain⟨kW,k0,ha⟩:=Kd.bm I.out;subst ha)|(go_at_call 33;(with_reducible refine(bO.calls k _ _ t232 _ _ bg false _ ?ah ?ai ?aW ?aX b4.out).mono ?_);(case ah=>exact zC (Kd.aQ m.out).2.2);(case ai=>exact(Kd.aQ m.out).2.1);(case aW=>exact zC (Kd.aQ I.out).2.2);(case aX=>exact(Kd.aQ I.out).2.1);rintro e w' ⟨rfl,⟨nd,rfl⟩⟩))
     go_meet
     case rel=>exact⟨_,(true),zT,T,⟨by first|omega|exact aI _⟩,⟨by(with_reducible repeat(first|apply Kd.eW|apply Kd.gA|apply Kd.gz));exact Kd.eK D.out (fun _ hk=>⟨hk.1.1.1,⟨hk.1.1.2.1,⟨hk.1.1.2.2.2.2.2.2.1,hk.1.1.2.2.2.2.2.2.2⟩⟩⟩)⟩,⟨by(with_reducible repeat(first|apply Kd.aR|apply Kd.bD|apply Kd.bq));exact Kd.bb i.out (fun _ hk=>hk.2)⟩,⟨by(with_reducible repeat(first|apply Kd.aR|apply Kd.bD|apply Kd.bq));exact Kd.bb q.out (fun _ hk=>hk.2)⟩,⟨zK b⟩,⟨zK j⟩,⟨zB⟩⟩
   ·replace b3:=Bool.eq_false_iff.mpr b3
    subst b3;replace H:=zj H;have T:=zA H;clear H;go_wp2_with (first|((with_reducible refine aJ (N:=65) rfl ?_);(try(refine dP (by rfl) ?_;dsimp only));refine Kd.fh (Kd.int .i64) _ 3 ?hg (N:=65) ?hd (xs:=([1,1,1,1]:List Int)) (inner:=[.int .i64 1,.int .i64 1,.int .i64 1,.int .i64 1]) (ok:=fun _=>True) (okp:=fun _=>True) ?hr ?hp (fun _ hk=>hk) trivial (aq _ _) (aI _) (by simp) ?_;(case hd=>rfl);(case hg=>rfl);(case hr=>first|(go_simp;done)|(go_simp;rfl));(case hp=>exact(aT.one (show Kd.M (Kd.int .i64) _ _ _ 1 [.int .i64 1] from rfl) (aT.one (show Kd.M (Kd.int .i64) _ _ _ 1 [.int .i64 1] from rfl) (aT.one (show Kd.M (Kd.int .i64) _ _ _ 1 [.int .i64 1] from rfl) (aT.one (show Kd.M (Kd.int .i64) _ _ _ 1 [.int .i64 1] from rfl) (aT.none _ _))))));intro b6 k1 ap hb y z;clear y z;(first|rw[<-ab.out] at ap|(simp only[Int.reduceToNat] at ap;rw[<-ab.out] at ap));replace i:=bz i hb;replace q:=bz q hb;replace D:=gU D ap hb;have x:=zA (Kd.bj (Kd.bR (Kd.bR (Kd.bR (Kd.bR ap (Kd.a_ (zR a))) (Kd.a_ (zR s))) (Kd.a_ (zR m))) (Kd.a_ (zR u))) (bu zB));replace a:=bS a ap hb;replace s:=bS s ap hb;replace m:=bS m ap hb;replace u:=bS u ap hb;replace b:=zb b hb;replace j:=zb j hb;replace l:=zS l hb;clear hb ap;obtain⟨k2,k3,hc⟩:=Kd.bm a.out;subst hc;obtain⟨k4,k5,he⟩:=Kd.bm x.out;subst he)|(go_at_call 33;(with_reducible refine(bO.calls k _ _ t225 _ _ a2 false _ ?ah ?ai ?aW ?aX bf.out).mono ?_);(case ah=>exact zC (Kd.aQ a.out).2.2);(case ai=>exact(Kd.aQ a.out).2.1);(case aW=>exact zC (Kd.aQ x.out).2.2);(case aX=>exact(Kd.aQ x.out).2.1);rintro e w' ⟨rfl,⟨nd,rfl⟩⟩))
    go_meet
    case rel=>exact⟨_,(true),zT,T,⟨by first|omega|exact aI _⟩,⟨by(with_reducible repeat(first|apply Kd.eW|apply Kd.gA|apply Kd.gz));exact Kd.eK D.out (fun _ hk=>⟨hk.1.1,⟨hk.1.2.1,⟨hk.1.2.2.2.2.2.2.1,hk.1.2.2.2.2.2.2.2⟩⟩⟩)⟩,⟨by(with_reducible repeat(first|apply Kd.aR|apply Kd.bD|apply Kd.bq));exact Kd.bb i.out (fun _ hk=>hk.2)⟩,⟨by(with_reducible repeat(first|apply Kd.aR|apply Kd.bD|apply Kd.bq));exact Kd.bb q.out (fun _ hk=>hk.2)⟩,⟨zK b⟩,⟨zK j⟩,⟨zB⟩⟩
  ·rw[if_neg bd] at H
   obtain⟨be,gl⟩:=bI bd
   (first|rw[be]|(simp only[bG,bL];rw[be])|skip)
   have T:=zA H;clear H;go_wp2;go_meet
   case rel=>exact⟨_,(true),zT,T,⟨by first|omega|exact aI _⟩,⟨by(with_reducible repeat(first|apply Kd.eW|apply Kd.gA|apply Kd.gz));exact Kd.eK D.out (fun _ hk=>⟨hk.1,⟨hk.2.1,⟨hk.2.2.2.2.2.2.1,hk.2.2.2.2.2.2.2⟩⟩⟩)⟩,⟨by(with_reducible repeat(first|apply Kd.aR|apply Kd.bD|apply Kd.bq));exact Kd.bb i.out (fun _ hk=>hk.2)⟩,⟨by(with_reducible repeat(first|apply Kd.aR|apply Kd.bD|apply Kd.bq));exact Kd.bb q.out (fun _ hk=>hk.2)⟩,⟨zK b⟩,⟨zK j⟩,⟨zB⟩⟩
 case rest=>
  clear cv;clear e1 e2 e' fb fo fq fv f0 f4 f5 f9 f' ge gf e3 e4 fd fn fr ft f1 f2 f6 f7 gb gc gg gi;obtain⟨kq,b2,rfl,HA,k6,Z,b_,b',b,j,l⟩:=hcut;cases kq with
  |zero=>exact absurd HA.out (by simp[bJ.j0])
  |succ bn=>
   have H:=HA.out;clear HA;simp only[bJ.j0] at H;by_cases ca:b2=true
   ·subst ca
    replace H:=zi H;exact absurd ((aH H).trans hr.out) (by decide)
   ·replace ca:=Bool.eq_false_iff.mpr ca
    subst ca;replace H:=zj H;by_cases cb:0<(t241.length:Int)
    ·rw[if_pos cb] at H
     have k7:=az cb;have k8:decide (0<t241.length)=true:=az (by omega);clear cb;obtain⟨c5,c6⟩:∃F:List Int,F=(([(-1),0,1]:List Int)):=⟨_,rfl⟩;replace H:((bO.f bn (aV t241 0) c5).bind fun t259=>(if t259=true then(if 1<(t241.length:Int) then((bO.f bn (aV t241 1) (([(-1),1,0]:List Int))).bind fun t264=>(some t264)) else(none)) else(some false)))=some r:=zh c6 H;have d8:=zA c6;clear c6;obtain⟨t259,hf,H⟩:=zo H;by_cases cc:t259=true
     ·subst cc
      replace H:=zi H;by_cases cd:1<(t241.length:Int)
      ·rw[if_pos cd] at H
       have k9:=az cd;have la:decide (1<t241.length)=true:=az (by omega);clear cd;obtain⟨d9,c7⟩:∃F:List Int,F=(([(-1),1,0]:List Int)):=⟨_,rfl⟩;replace H:((bO.f bn (aV t241 1) d9).bind fun t264=>(some t264))=some r:=zh c7 H;have ea:=zA c7;clear c7;obtain⟨t264,hh,H⟩:=zo H;obtain rfl:=aH H;obtain⟨lb,lc,hj⟩:=Kd.mU Z.out;subst hj;have ce:0<=(0:Int):=(by omega);have cf:0<(t241.length:Int):=ay ‹_›;obtain⟨hl,hm,hn,ho,c8,eb,ed⟩:=gC (Kd.jo Z.out).2.2 0 ce cf;cases ho;obtain⟨ld,hq,hs,eg⟩:=Kd.oE Z.out [] 0 ce (by first|exact cf|exact ay ‹_› |(have e_:=(Kd.jo Z.out).1;omega));obtain⟨le,lg,rfl,c9,c'⟩:=Kd.kU hs;have ch:=eg 0 _ rfl;rw[Nat.add_zero,show ((Kd.slice 3 (Kd.int .i64))).sz=1 from rfl,Nat.mul_one] at ch;replace ch:=aH (ch.symm.trans c8);injection ch with bo dd bv
       rw[bo] at c';rw[bv] at c9;have ci:=zA (show Kd.V (Kd.int .i64) 3 _ w.heap.size _ _ (aV t241 0) from Kd.qd c9 c');clear bo dd bv c' c9;clear eg hq;have li:(0<t241.length)=True:=eq_true (by omega)
       (try rw[show ((0:Int)).toNat=0 from rfl] at c8)
       (try rw[Addr.add_zero'] at c8)
       have aP:=zA ed;have hv:=zA eb;clear ed eb;replace ce:=eq_true ce;replace cf:=eq_true cf;go_wp2_with (first|((with_reducible refine aJ (N:=91) rfl ?_);(try(refine dP (by rfl) ?_;dsimp only));refine Kd.fh (Kd.int .i64) _ 3 ?hg (N:=91) ?hd (xs:=([(-1),0,1]:List Int)) (inner:=[.int .i64 (-1),.int .i64 0,.int .i64 1]) (ok:=fun _=>True) (okp:=fun _=>True) ?hr ?hp (fun _ hk=>hk) trivial (aq _ _) (aI _) (by simp) ?_;(case hd=>rfl);(case hg=>rfl);(case hr=>first|(go_simp;done)|(go_simp;rfl));(case hp=>exact(aT.one (show Kd.M (Kd.int .i64) _ _ _ (-1) [.int .i64 (-1)] from rfl) (aT.one (show Kd.M (Kd.int .i64) _ _ _ 0 [.int .i64 0] from rfl) (aT.one (show Kd.M (Kd.int .i64) _ _ _ 1 [.int .i64 1] from rfl) (aT.none _ _)))));intro lj lk aS hb y z;clear y z;(first|rw[<-d8.out] at aS|(simp only[Int.reduceToNat] at aS;rw[<-d8.out] at aS));replace Z:=gU Z aS hb;replace b_:=bz b_ hb;replace b':=bz b' hb;replace ci:=zA (Kd.oG (by(with_reducible repeat(first|apply Kd.V_alloc|apply Kd.l8|apply Kd.V_drew));exact ci.out) (Kd.dY aS) hb);have a3:=zA (Kd.bj aS (bu zB));replace b:=zb b hb;replace j:=zb j hb;replace aP:=zA (Kd.aw (by repeat(first|(with_reducible exact aP.out)|(with_reducible refine Kd.bp ?_ _)|(with_reducible refine Kd.fV ?_ _)|(with_reducible refine Kd.fC ?_)|exact aP.out)) hb);replace l:=zS l hb;clear hb aS;obtain⟨hw,hx,hy⟩:=Kd.bm a3.out;subst hy)|((with_reducible refine aG (f:=33) rfl ?_);refine zL (some 92) Tryz.func33 #[.slice hm (aV t241 0).length hn,.slice hw c5.length hx] ?_;(with_reducible refine(bO.calls bn _ _ (aV t241 0) _ _ c5 true _ ?ah ?ai ?aW ?aX hf.out).mono ?_);(case ah=>repeat(first|exact(by repeat(first|(with_reducible exact aP.out)|(with_reducible refine Kd.bp ?_ _)|(with_reducible refine Kd.fV ?_ _)|(with_reducible refine Kd.fC ?_)|exact aP.out))|(with_reducible refine Kd.bp ?_ _)|(with_reducible refine Kd.fV ?_ _)|(with_reducible refine Kd.fC ?_)));(case ai=>exact hv.out);(case aW=>exact zC (Kd.aQ a3.out).2.2);(case aX=>exact(Kd.aQ a3.out).2.1);rintro e w' ⟨rfl,⟨nd,rfl⟩⟩;refine⟨_,rfl,?_⟩;have cj:0<=(1:Int):=(by omega);have ck:1<(t241.length:Int):=ay ‹_›;obtain⟨hz,lm,lo,hA,dk,ek,el⟩:=gC (Kd.jo Z.out).2.2 1 cj ck;obtain rfl:hl=hz:=(by injection hA);obtain⟨lp,hB,hC,em⟩:=Kd.oE Z.out [] 1 cj (by first|exact ck|exact ay ‹_› |(have e_:=(Kd.jo Z.out).1;omega));obtain⟨ls,lt,rfl,dl,ds⟩:=Kd.kU hC;have cl:=em 0 _ rfl;rw[Nat.add_zero,show ((Kd.slice 3 (Kd.int .i64))).sz=1 from rfl,Nat.mul_one] at cl;replace cl:=aH (cl.symm.trans dk);injection cl with bo dd bv;rw[bo] at ds;rw[bv] at dl;have er:=zA (show Kd.V (Kd.int .i64) 3 _ w.heap.size _ _ (aV t241 1) from Kd.qd dl ds);clear bo dd bv ds dl;clear em hB;(try simp only[show (1:Int).toNat=1 from rfl,Nat.reduceMul,Nat.reduceEqDiff,Go.Addr.add,↓reduceIte] at dk);have lv:(1<t241.length)=True:=eq_true (by omega);(try rw[show ((1:Int)).toNat=1 from rfl] at dk);have bw:=zA el;have hD:=zA ek;clear el ek;replace cj:=eq_true cj;replace ck:=eq_true ck)|((with_reducible refine aJ (N:=97) rfl ?_);(try(refine dP (by rfl) ?_;dsimp only));refine Kd.fh (Kd.int .i64) _ 3 ?hg (N:=97) ?hd (xs:=([(-1),1,0]:List Int)) (inner:=[.int .i64 (-1),.int .i64 1,.int .i64 0]) (ok:=fun _=>True) (okp:=fun _=>True) ?hr ?hp (fun _ hk=>hk) trivial (aq _ _) (aI _) (by simp) ?_;(case hd=>rfl);(case hg=>rfl);(case hr=>first|(go_simp;done)|(go_simp;rfl));(case hp=>exact(aT.one (show Kd.M (Kd.int .i64) _ _ _ (-1) [.int .i64 (-1)] from rfl) (aT.one (show Kd.M (Kd.int .i64) _ _ _ 1 [.int .i64 1] from rfl) (aT.one (show Kd.M (Kd.int .i64) _ _ _ 0 [.int .i64 0] from rfl) (aT.none _ _)))));intro lw l0 av hb y z;clear y z;(first|rw[<-ea.out] at av|(simp only[Int.reduceToNat] at av;rw[<-ea.out] at av));replace Z:=gU Z av hb;replace b_:=bz b_ hb;replace b':=bz b' hb;replace ci:=zA (Kd.oG (by(with_reducible repeat(first|apply Kd.V_alloc|apply Kd.l8|apply Kd.V_drew));exact ci.out) (Kd.dY av) hb);replace er:=zA (Kd.oG (by(with_reducible repeat(first|apply Kd.V_alloc|apply Kd.l8|apply Kd.V_drew));exact er.out) (Kd.dY av) hb);have dv:=zA (Kd.bj (Kd.bR av (Kd.a_ (zR a3))) (bu zB));replace a3:=bS a3 av hb;replace b:=zb b hb;replace j:=zb j hb;replace aP:=zA (Kd.aw (by repeat(first|(with_reducible exact aP.out)|(with_reducible refine Kd.bp ?_ _)|(with_reducible refine Kd.fV ?_ _)|(with_reducible refine Kd.fC ?_)|exact aP.out)) hb);replace bw:=zA (Kd.aw (by repeat(first|(with_reducible exact bw.out)|(with_reducible refine Kd.bp ?_ _)|(with_reducible refine Kd.fV ?_ _)|(with_reducible refine Kd.fC ?_)|exact bw.out)) hb);replace l:=zS l hb;clear hb av;obtain⟨l1,l2,hE⟩:=Kd.bm dv.out;subst hE)|(go_at_call 33;(with_reducible refine(bO.calls bn _ _ (aV t241 1) _ _ d9 t264 _ ?ah ?ai ?aW ?aX hh.out).mono ?_);(case ah=>repeat(first|exact(by repeat(first|(with_reducible exact bw.out)|(with_reducible refine Kd.bp ?_ _)|(with_reducible refine Kd.fV ?_ _)|(with_reducible refine Kd.fC ?_)|exact bw.out))|(with_reducible refine Kd.bp ?_ _)|(with_reducible refine Kd.fV ?_ _)|(with_reducible refine Kd.fC ?_)));(case ai=>exact hD.out);(case aW=>exact zC (Kd.aQ dv.out).2.2);(case aX=>exact(Kd.aQ dv.out).2.1);rintro e w' ⟨rfl,⟨nd,rfl⟩⟩))
       go_ret;exact⟨zE,zB⟩
      ·rw[if_neg cd] at H
       exact absurd H (by simp)
     ·replace cc:=Bool.eq_false_iff.mpr cc
      subst cc;replace H:=zj H;exact absurd ((aH H).trans hr.out) (by decide)
    ·rw[if_neg cb] at H
     exact absurd H (by simp)
end
def ej:List S83:=[⟨0,1,1⟩,⟨0,2,1⟩,⟨0,3,1⟩,⟨1,2,1⟩,⟨1,3,1⟩,⟨2,3,1⟩]
theorem Io:Ev (fun k=>eB.f k 4 ej) (([1,1,1,1]:List Int),(0:Int)):=Ev.at_ (eB.mono _ _) (k:=60) (by decide+kernel)
theorem Ip:Ev (fun k=>fT.f k 4 ej) ((4:Int),ej,(0:Int)):=Ev.at_ (fT.mono _ _) (k:=60) (by kernel_rfl)
theorem Iq:Ev (fun k=>fc.f k 4 ej) ((3:Int),(0:Int)):=Ev.at_ (fc.mono _ _) (k:=60) (by decide+kernel)
theorem yx:Ev (fun k=>dW.f k 4 ej [1,1,1,0]) (([0,0,0,1]:List Int),(0:Int)):=Ev.at_ (dW.mono _ _ _) (k:=60) (by decide+kernel)
theorem yy {d:List Int} (h:gu 4 ej 0 d=true):dU 4 0 ej d:=by
 obtain⟨n,q,hn,a,h1⟩:=pC h;obtain rfl:n=4:=by omega
 obtain rfl:q=0:=by omega
 exact h1
theorem Ir:cz ((4:Nat):Int) ej=0:=by decide+kernel
theorem yz:T.dF 4 (af ej) 3:=show T.sN (T.can 4 (af ej)) 4=2*3-2 from by decide+kernel
theorem pN:dU 4 0 ej [1,1,1,0]:=yy (by decide+kernel)
theorem Is:dU 4 0 ej [0,0,0,1]:=yy (by decide+kernel)
theorem yA {d:List Int} (h:dU 4 0 ej d) {r:Int} (a:Rk 4 (af ej) d r):Ev (fun k=>eI.f k 4 ej d) (r,(0:Int)):=
 ya (n:=4) h Ir Ip Iq yz a
theorem sA:T.Wt 4 (af ej):=pN.right.wt
theorem It:T.du 4 (af ej):=pN.right.conn pN.conn
theorem Iu:∃a b:Int,Rk 4 (af ej) [1,1,1,0] a/\Rk 4 (af ej) [0,0,0,1] b/\a-b=1:=by
 obtain⟨a,e⟩:=T.jO sA (by decide) (fun v=>rd [1,1,1,0] (v:Nat));obtain⟨b,hb⟩:=T.jO sA (by decide) (fun v=>rd [0,0,0,1] (v:Nat));have g:T.cg 4 (af ej) (fun v=>T.can 4 (af ej) v-rd [1,1,1,0] (v:Nat)) b:=r_ (fun v i=>by
  match v,i with
  |0,_=>decide+kernel
  |1,_=>decide+kernel
  |2,_=>decide+kernel
  |3,_=>decide+kernel) hb
 have h:=T.tZ sA It (by decide) yz e g;have j:T.sN (fun v=>rd [1,1,1,0] (v:Nat)) 4=3:=by decide+kernel
 rw[j] at h;exact⟨a,b,e,hb,by omega⟩
theorem Iv:Ev (fun k=>iK.f k 4 ej [1,1,1,0]) ((1:Int),(0:Int)):=by
 obtain⟨a,b,e,hb,g⟩:=Iu;unfold iK.f;refine Ev.bind yx ?_;simp only[if_true];refine Ev.bind (yA pN e) ?_;simp only[if_true];refine Ev.bind (yA Is hb) ?_;simp only[if_true,g,show wrap64 1=1 from by unfold wrap64;omega];exact Ev.const _
theorem Iw:Ev (fun k=>bT.f k 3 cG 0) (([[-1,0,1],[-1,1,0]]:List (List Int)),(0:Int)):=Ev.at_ (bT.mono _ _ _) (k:=60) (by decide+kernel)
theorem yB {a b:List Int} {r:Bool} (h:bO.f 60 a b=some r):Ev (fun k=>bO.f k a b) r:=Ev.at_ (bO.mono _ _) (k:=60) h
theorem Iy:Ev (fun k=>bJ.f k) true:=by
 unfold bJ.f;refine Ev.bind (a:=ej) (Ev.const _) ?_;refine Ev.bind (a:=cG) (Ev.const _) ?_;refine Ev.bind Io ?_;refine Ev.bind yx ?_;refine Ev.bind Iv ?_;refine Ev.bind Iw ?_;refine Ev.bind Im ?_;simp only[show wrap64 (wrap64 (wrap64 (wrap64 (0+0)+0)+0)+0)=0 from by unfold wrap64;omega,if_true];refine Ev.bind (yB (r:=true) (by decide+kernel)) ?_;simp only[if_true];refine Ev.bind (yB (r:=true) (by decide+kernel)) ?_;simp only[if_true];exact Ev.at_ (fun k=>bJ.cy k _ _) (k:=60) (by decide+kernel)
def sB.f:Option (Bool):=some true
theorem sB.calls (r:Bool) (w:World) (h:sB.f=some r):
  Calls Tryz.prog 26 #[] w fun e w'=>e= .returned (.bool r)/\Below w.heap.size w w':=by
 obtain rfl:=aH h;obtain⟨k,hk⟩:=Iy.get;exact bJ.calls k true ⟨rfl⟩ w hk
section
theorem yC:∀{c:List Int},(∀x∈c, -1048576<=x/\x<=1048576)->dK c=0
 |[],_=>rfl
 |x::c,h=>by
  have h1:=h x (List.mem_cons_self ..);have a:=yC (c:=c) fun y b=>h y (List.mem_cons_of_mem _ b)
  rw[dK,if_pos (by simp[ja];omega)];exact a
namespace Curve
variable {n:Nat} {E:List S83} {d:List Int} (h:Curve n E d) (hn:1<=n)
include h hn
theorem Iz {c:List Int} (i:c.length=n) (hb:∀v:Nat,v<n-> -200<=rd c v/\rd c v<=200):Ev (fun k=>c_.f k c n) 0:=by
 have j:=(h.facts hn).1;have hk:=mC c n ⟨by omega,by omega⟩;rw[if_pos (by omega),yC (fun x a=>by
  obtain⟨v,b,rfl⟩:=List.getElem_of_mem a;have g:=hb v (by omega);have e:rd c (v:Int)=c[v]:=by simp[rd,a7,bK b]
  rw[e] at g;omega)] at hk
 exact hk
theorem yD {c:List Int} (b:c.length=n) (hb:∀v:Nat,v<n-> -200<=rd c v/\rd c v<=200) (g:¬T.bE n (af E) (fun v=>rd c (v:Nat))):∃i j,Ev (fun k=>fu.f k n E c) (false,i,j,(0:Int)):=by
 have a:=h.gu hn b hb;obtain⟨s,w1,w2,w3⟩:=r8 a h.check;have l:=xd a w3;rw[a6 (fun e=>g (l.1 e))] at w1;exact⟨_,_,w1⟩
theorem IA {q:Nat} (s:q<n) {g:Int} (w:T.dF n (af E) g) {c:List Int} (o:c∈Small.kG n q E):dg fun k=>pL k n E (c.set q (-1)):=by
 have hS:=h.small q s;have j:=hS.right.wt;have y:=hS.right.conn hS.conn;obtain⟨c1,c2⟩:=hS.nC (List.mem_filter.1 o).1;obtain⟨pos,p,K,l⟩:=hS.FE o;have b:(c.set q (-1)).length=n:=by rw[List.length_set];exact c1
 have i:∀v:Nat,v<n-> -8<=rd (c.set q (-1)) v/\rd (c.set q (-1)) v<=8:=fun v a=>by
  by_cases e:v=q
  ·subst e;rw[jc (by omega)];omega
  ·rw[lA (fun k=>e k.symm)];have:=c2 v;omega
 generalize c.set q (-1)=x at b i l;have r:¬T.bE n (af E) (fun v=>rd x (v:Nat)):=fun hw=>T.na j hn pos (hw.eY (T.bM.of_eq fun v a=>(l v a).symm))
 obtain⟨L,z,B⟩:=h.yr hn b (fun v a=>by have:=i v a;omega);have C:∀u:Nat,u<n->rd L u=1:=fun u hu=>(B u hu).2 ⟨r,(T.BG j y hn w p hu).eY (T.bM.of_eq fun v a=>by show rd x (v:Nat)+T.one u v=_;rw[l v a])⟩
 obtain⟨M,N,hw⟩:=h.yD hn b (fun v a=>by have:=i v a;omega) r;have D:=h.GD hn b (fun v a=>by have:=i v a;omega);have F:(dz (ff n E) x).length=n:=h.GB hn;obtain⟨pos',G⟩:=T.qp n pos;have H:¬T.bE n (af E) (fun v=>rd (dz (ff n E) x) (v:Nat)):=fun hw=>T.na j hn pos' (hw.eY (T.bM.of_eq fun v a=>by
  have h1:=h.yj hn (c:=x) v a;have m:=T.tQ j p G a;show T.nu n (af E) pos' v=rd (dz (ff n E) x) (v:Nat)
  rw[h1,l v a,<-m];rfl))
 obtain⟨u2,u3,I⟩:=h.yD hn F (fun v a=>by
  rw[h.yj hn v a];have h1:=i v a;have m:=h.yl hn v a;rw[so a] at m;omega) H
 have J:=h.Iz hn b (fun v a=>by have:=i v a;omega);refine(((dg.kb J).and (dg.kb hw)).and (z.and ((dg.kb D).and (dg.kb I)))).imp fun k hk=>?_
 exact⟨b,hk.1.1,⟨_,_,hk.1.2⟩,⟨L,hk.2.1,G8 C⟩,⟨_,hk.2.2.1,_,_,hk.2.2.2⟩⟩
end Curve
theorem IB (N:Int) (E:List S83) (w:E.length<=9223372036854775807) (d:List Int) (a:Int) (ha:0<=a/\a<=255):
  ∃k,jk.f k N E d=some false\/∃n:Nat,N=n/\1<=n/\n<=1000/\jk.f k n E d=some true/\∃l j s2 y T G,bT.f k n E (a%n)=some (l,0)/\l.length<=1000000/\(∀x∈l,pL k n E x)/\fu.f k n E d=some (j,s2,y,0)/\eu.f k d=some T/\fy.f k n E=some G/\
   (j=true\/wrap64 (G-1)<=T\/j=false/\T<wrap64 (G-1)/\∃L,(∀u:Nat,u<n->gM.f k n E d (u:Nat)=some (rd L u,0))/\(eD (eC L n)).1.length<n):=by
 obtain⟨b,hb,z⟩:=GG N E w d;cases b with
 |false=>
  obtain⟨k,hk⟩:=hb.get;exact⟨k,.inl hk⟩
 |true=>
  obtain⟨n,rfl,hn,hC⟩:=z rfl;obtain⟨f1,f2,f3,f4,f5⟩:=hC.facts hn;obtain⟨g, -,i⟩:=hC.GF hn;have m:=hC.low;have C:=f3.wt;have D:=f3.conn f4;have F:0<=a%(n:Int):=Int.emod_nonneg _ (by omega);have an:a%(n:Int)<n:=Int.emod_lt_of_pos _ (by omega);obtain⟨q,H⟩:=Int.eq_ofNat_of_zero_le F;have o:q<n:=by omega
  have hS:=hC.small q o;have hu:=Gu hS hC.check;have p:=hC.gu hn hC.dl (fun v h=>by have:=m v h;omega);obtain⟨s,w1,w2,w3⟩:=r8 p hC.check;have I:=xd p w3;have r:=GA d (by rw[hC.dl];omega) (fun v h=>by have:=m v (by rw[<-hC.dl];exact h);omega);rw[hC.dl] at r;have J:=Hc hn (by omega) (by omega) hC.check i;have ap:(0:Int)<=g/\(g:Int)<=1000:=by
   have h1:=hC.val;have K:T.sN (T.can n (af E)) n=2*g-2:=i;rw[show T.can n (af E)=fun v=>T.val n (af E) v-2 from rfl,T.de,T.iq] at K;omega
  have M:wrap64 ((g:Int)-1)=g-1:=gX (by omega);obtain⟨L,O,P⟩:=hC.yr hn hC.dl (fun v h=>by have:=m v h;omega);have Q:dg fun k=>∀x∈(Small.kG n q E).map (fun c=>c.set q (-1)),pL k n E x:=dg.mem fun x R=>by
   obtain⟨c,S,rfl⟩:=List.mem_map.1 R;exact hC.IA hn o i S
  obtain⟨B,U⟩:=(((dg.kb hb).and (dg.kb hu)).and (Q.and ((dg.kb w1).and ((dg.kb r).and ((dg.kb J).and O)))));obtain⟨⟨V,W⟩,X,Y,Z,k6,k7⟩:=U B (aI _);have ar:=hS.rB;refine⟨B,.inr ⟨n,rfl,hn,by omega,V,_,_,_,_,_,_,by rw[H];exact W,?_,X,Y,Z,k6,?_⟩⟩
  ·rw[List.length_map]
   exact Nat.le_trans (List.length_filter_le _ _) (by omega)
  ·by_cases hw:rd (cN n E d s) 0>=0
   ·exact .inl (az hw)
   ·rw[M]
    by_cases ad:(g:Int)-1<=T.sN (fun v=>rd d (v:Nat)) n
    ·exact .inr (.inl ad)
    ·have ag:¬T.bE n (af E) (fun v=>rd d (v:Nat)):=fun e=>hw (I.2 e)
     obtain⟨v,h,ak⟩:=T.BD C D hn i ag (by omega);exact .inr (.inr ⟨a6 hw,by omega,L,k7,G9 h fun e=>ak ((P v h).1 e).2⟩)
theorem IC (N:Int) (A0:Option Addr) (c0:Nat) (E:List S83) (b:Option Addr) (c1:Nat) (d:List Int) (a:Int) (w:World) (i:Kd.C aN w A0 E.length E) (j:E.length<=c0) (m:Kd.C (Kd.int .i64) w b d.length d) (o:d.length<=c1) (q:E.length<=9223372036854775807) (g:0<=a/\a<=255):
  Calls Tryz.prog 10 #[.agg #[.int .i64 N,.slice A0 E.length c0],.slice b d.length c1,.int .u8 a] w fun e w'=>e= .returned (.bool true)/\Below w.heap.size w w':=by
 have p:∀w,Calls Tryz.prog 26 #[] w fun e w'=>e= .returned (.bool true)/\Below w.heap.size w w':=fun w=>sB.calls true w rfl
 obtain⟨k,h|⟨n,rfl,r,s,h1,l,u,s2,v,T,G,x,y,z,B,D,F,H⟩⟩:=IB N E q d a g
 ·exact Hd k N A0 c0 E b c1 d a w i j m o h p
 ·exact He k n A0 c0 E b c1 d a l u s2 v T G w i j m o p r s g.1 g.2 h1 x y z B D F H
end
end Go.Proofs.YtffdiakgjakngaaGreat.P


