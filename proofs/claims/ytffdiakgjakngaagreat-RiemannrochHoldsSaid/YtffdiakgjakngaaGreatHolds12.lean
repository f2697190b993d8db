/- RiemannrochHolds answers true whatever the input (text 12 of 20): own walks and plain laws; no conditions. -/
import Derived.Test.YtffdiakgjakngaaGreatHolds11
namespace Go.Proofs.YtffdiakgjakngaaGreat.P
open Go.RowKit Go.Proofs.YtffdiakgjakngaaGreatW.PrintWords Go.Proofs.YtffdiakgjakngaaGreatW.PrintLast Go.Proofs.YtffdiakgjakngaaGreatW.PrintMore
set_option linter.unusedVariables false
set_option linter.unusedSimpArgs false
set_option maxHeartbeats 8000000
set_option maxRecDepth 100000
section
attribute [local go_sem] Oper.semAt_some iU iV iW iX
theorem Da (l f:Nat):(Fence.wide.inRound l).fn f=True:=rfl
attribute [local simp] Da
def eR (s:(Nat->Nat)×Nat) (x:Nat×Int×Int):(Nat->Nat)×Nat:=(dq s.1 x.2.1.toNat x.2.2.toNat,if rootOf s.1 x.2.1.toNat=rootOf s.1 x.2.2.toNat then s.2+1 else s.2)
def bZ (xs:List (Nat×Int×Int)):(Nat->Nat)×Nat:=xs.foldl eR (id,0)
theorem Db (xs:List (Nat×Int×Int)) (x:Nat×Int×Int):bZ (xs++[x])=eR (bZ xs) x:=by simp[bZ,List.foldl_append]
theorem vg (xs:List (Nat×Int×Int)):gK (bZ xs).1∧(bZ xs).2<=xs.length:=by
 have:∀(xs:List (Nat×Int×Int)) (s:(Nat->Nat)×Nat),gK s.1->gK (xs.foldl eR s).1∧(xs.foldl eR s).2<=s.2+xs.length:=by
  intro xs;induction xs with
  |nil=>intro s h;exact⟨h,by simp⟩
  |cons x xs a=>
   intro s h;obtain⟨h1,b⟩:=a (eR s x) (sR h _ _);refine⟨h1,Nat.le_trans b ?_⟩;have:(eR s x).2<=s.2+1:=by unfold eR;dsimp only;split<;>omega
   simp only[List.length_cons];omega
 have:=this xs (id,0) (fun i=>Nat.le_refl _);exact⟨this.1,by simpa [bZ] using this.2⟩
theorem Dc (k:Nat) (N:Int) (A0:Option Addr) (c0:Nat) (E:List S83) (t:Int) (w:World) (g:Kd.C aK w A0 E.length E) (h:E.length<=c0) (a:aY.f k N E=some t) (b:t≠0):
  Calls Tryz.prog 31 #[.agg #[.int .i64 N,.slice A0 E.length c0]] w fun e w'=>e= .returned (.tuple #[.int .i64 0,.int .i64 t])∧Below w.heap.size w w':=by
 have hu:=Tryz.underlying24;have i:=Aside0.mk a;have l:(t != 0)=true:=by simpa using b
 clear a b;go_enter Tryz.func31,Tryz.ntmps31
 go_wp2_with (go_at_call 64;refine(aY.calls k N A0 c0 E t _ (Kd.br g _) h i.out).mono ?_;rintro e w1 ⟨rfl,hb⟩;have j:=Aside0.mk (aU (aq (Below.refl w.heap.size w) _) hb);clear hb)
 go_ret2;exact⟨rfl,j.out⟩
theorem Dd (k n:Nat) (A0:Option Addr) (c0:Nat) (E:List S83) (w:World) (bn:Kd.C aK w A0 E.length E) (c5:E.length<=c0) (r:aY.f k n E=some 0) (hE:eF E=true) (aa:dV n E) (hn:n<=12):
  Calls Tryz.prog 31 #[.agg #[.int .i64 n,.slice A0 E.length c0]] w fun e w'=>e= .returned (.tuple #[.int .i64 (bZ (bT E E.length)).2,.int .i64 0])∧Below w.heap.size w w':=by
 have hu:=Tryz.underlying24;have Ht:=Aside0.mk r;have HE:=Aside0.mk hE;have HI:=Aside0.mk aa;clear r hE aa;refine(callsIn_wide (n:=10)).1 ?_;refine callsIn_of_wp_marks Tryz.func31 rfl trivial ?_ rfl;simp only[Tryz.ntmps31,List.size_toArray,List.length_cons,List.length_nil,Nat.reduceAdd,Nat.reduceSub,Array.replicate_succ,Array.replicate_zero,List.push_toArray,List.append_toArray,List.nil_append,List.cons_append];gi_wp2_with (refine⟨trivial,?_⟩;gi_at_call 64;refine(callsIn_wide.2 (aY.calls k n A0 c0 E 0 _ (Kd.br bn _) c5 Ht.out)).mono ?_;rintro e w1 ⟨rfl,hb⟩;have G:=Aside0.mk (aG (heap_alloc_new w (.cells #[.int .i64 n,.slice A0 E.length c0] 24)) hb);have J:=Aside0.mk (aU (aq (Below.refl w.heap.size w) _) hb);clear hb)
 have ab:Aside0 (dY (w1.alloc (.cells #[.int .i64 0,.int .i64 0,.int .i64 0,.int .i64 0,.int .i64 0,.int .i64 0,.int .i64 0,.int .i64 0,.int .i64 0,.int .i64 0,.int .i64 0,.int .i64 0] 111)) w1.heap.size (fun i=>if i<0 then i else 0)):=⟨⟨_,heap_alloc_new _ _,rfl,fun i hi=>by
  rw[show (#[.int .i64 0,.int .i64 0,.int .i64 0,.int .i64 0,.int .i64 0,.int .i64 0,.int .i64 0,.int .i64 0,.int .i64 0,.int .i64 0,.int .i64 0,.int .i64 0]:Array Value)=Array.replicate 12 (.int .i64 0) from rfl,Array.getElem?_replicate,if_pos hi];rfl⟩⟩
 have aL:=Aside0.mk (aw G.out (.cells #[.int .i64 0,.int .i64 0,.int .i64 0,.int .i64 0,.int .i64 0,.int .i64 0,.int .i64 0,.int .i64 0,.int .i64 0,.int .i64 0,.int .i64 0,.int .i64 0] 111));have aO:=Aside0.mk (aq J.out (.cells #[.int .i64 0,.int .i64 0,.int .i64 0,.int .i64 0,.int .i64 0,.int .i64 0,.int .i64 0,.int .i64 0,.int .i64 0,.int .i64 0,.int .i64 0,.int .i64 0] 111));have c9:w.heap.size<w1.heap.size:=ay G.out;clear G J;generalize w1.alloc (.cells #[.int .i64 0,.int .i64 0,.int .i64 0,.int .i64 0,.int .i64 0,.int .i64 0,.int .i64 0,.int .i64 0,.int .i64 0,.int .i64 0,.int .i64 0,.int .i64 0] 111)=W1 at ab aL aO⊢;generalize w1.heap.size=gf at ab c9⊢;gi_loopg [17] (12) (fun kq vv wr=>∃v:Nat,v<=12∧vv= .int .i64 v∧Aside0 (dY wr gf (fun i=>if i<v then i else 0))∧Aside0 (wr.heap[w.heap.size]? =some (.cells #[.int .i64 n,.slice A0 E.length c0] 24 (0,0)))∧Aside0 (Below w.heap.size w wr)∧Aside0 (kq=12-v))
 case atStart=>exact⟨0,by omega,rfl,ab,aL,aO,⟨rfl⟩⟩
 case round=>
  clear ab aL aO;obtain⟨v,hv,rfl,O,G,J,HK⟩:=hrel;by_cases bw:v<12
  ·have e':(0:Int)<=(v:Int):=by omega
   have fb:(v:Int)<12:=by omega
   have z1:=O.out.cell v bw;have z2:=O.out.frozen v;generalize (if v<v then v else 0)=z at z1;have dl:=Aside0.mk ((O.out.set v bw v).congr (q:=fun i=>if i<v+1 then i else 0) (fun i hi=>by
    by_cases e:i=v
    ·subst e;simp
    ·simp only[if_neg e]
     by_cases h:i<v
     ·rw[if_pos h,if_pos (by omega)]
     ·rw[if_neg h,if_neg (by omega)]))
   have ds:=Aside0.mk (aC (p:=⟨gf,v,none⟩) G.out (by show w.heap.size≠gf;omega) (.int .i64 v));have dv:=Aside0.mk (Below.setCell (p:=⟨gf,v,none⟩) J.out (by show w.heap.size<=gf;omega) (.int .i64 v));clear O G J;gi_wp2;gi_roundg (12- (v+1))
   case measure=>rw[HK.out];omega
   case rel=>exact⟨v+1,by omega,by go_num,dl,ds,dv,⟨rfl⟩⟩
  ·obtain rfl:v=12:=by omega
   have aP:=Aside0.mk (O.out.congr (q:=(bZ []).1) (fun i hi=>by simp[bZ,hi]));have y0:(wr.alloc (.cells #[.int .i64 0] 3)).cell? ⟨w.heap.size,0,none⟩=some (.int .i64 n):=(ao (aw G.out _) 0).trans rfl;have y1:(wr.alloc (.cells #[.int .i64 0] 3)).cell? ⟨w.heap.size,1,none⟩=some (.slice A0 E.length c0):=(ao (aw G.out _) 1).trans rfl;gi_wp2_with (refine⟨trivial,?_⟩;gi_at_call 85;refine(callsIn_wide.2 (tq n A0 c0 E _)).mono ?_;rintro e w3 ⟨rfl,rfl⟩)
   have S:=Aside0.mk (show ((wr.alloc (.cells #[.int .i64 0] 3)).alloc (.cells #[.int .i64 n,.slice A0 E.length c0] 24)).heap[wr.heap.size]? =some (.cells #[.int .i64 ((bZ []).2:Nat)] 3 (0,0)) from aw (heap_alloc_new wr _) _);have T:=Aside0.mk (show ((wr.alloc (.cells #[.int .i64 0] 3)).alloc (.cells #[.int .i64 n,.slice A0 E.length c0] 24)).heap[wr.heap.size+1]? =some (.cells #[.int .i64 n,.slice A0 E.length c0] 24 (0,0)) from heap_alloc2_new wr _ _);have I:=Aside0.mk (aq (aq J.out (.cells #[.int .i64 0] 3)) (.cells #[.int .i64 n,.slice A0 E.length c0] 24));have aS:=Aside0.mk ((aP.out.alloc (.cells #[.int .i64 0] 3)).alloc (.cells #[.int .i64 n,.slice A0 E.length c0] 24));have d2:=aP.out.lt;clear y0 y1 O aP G J;generalize ((wr.alloc (.cells #[.int .i64 0] 3)).alloc (.cells #[.int .i64 n,.slice A0 E.length c0] 24))=g at S T I aS⊢;have b0:=ay S.out;have d3:=ay T.out;generalize a0:wr.heap.size+1=bx at T d3⊢;generalize wr.heap.size=bo at S d2 b0 a0⊢;have fd:=Nat.le_of_eq a0;clear a0;refine uq (σ:=Unit) (α:=Nat×Int×Int) (F:=Fence.wide) (n:=10) rfl (by decide) (gf:=140) (lb:=#[.pointer (some ⟨bx,0,none⟩)]) rfl trivial (enters_of Tryz.func140 (by kernel_rfl) rfl)
    (fun o=>tw bx n A0 c0 E w _ bn HE.out (aq (aq I.out _) _) (aw (aw T.out _) _)) (fun _=>rfl)
    (fun _=>True) ?ei ?st ?ar
    (fun _ pre W=>g.heap.size<=W.heap.size∧dY W gf (bZ pre).1∧W.heap[bo]? =some (.cells #[.int .i64 ((bZ pre).2:Nat)] 3 (0,0))∧Below w.heap.size w W) (fun _ _ _ _=>False)
    ?is (fun _ _ _ _ _ _ h _=>h) ?ib (fun _ _ _ _ _ h _=>h) ?kt ?h0 ?a1 (fun x W=>W.alloc (.cells #[.int .i64 x.2.1,.int .i64 x.2.2] 116)) ?hw ?qT ?assign ?body ?done (fun _ _ _ _ _ _ _ h=>h.elim)
   case assign=>
    intro l x W K hK;gi_wp2;exact hK
   case ei=>
    intro o s W1 h;exact⟨trivial,by rw[h];exact bX.refl _ _⟩
   case st=>intro s A B _ h;exact cN h
   case ar=>intro s x A B _ h;exact cN h.2
   case hw=>intro x W k o h1 h2 U _;exact aw U _
   case qT=>
    intro s x A D h;exact⟨fun aQ=>((Below.refl w.heap.size A).alloc aQ _).trans (h.1 (by simp;omega)),fun k cs t r hk=>h.2 k cs t r (aw hk _)⟩
   case is=>
    rintro s pre A B _ ⟨L,h1,h2,U⟩ ag;exact⟨Nat.le_trans L ag.size,h1.below ag,aG h2 ag,aU U ag⟩
   case ib=>
    rintro s pre A B ⟨L,⟨cs,h1,ak⟩,h2,U⟩ hb;exact⟨by rw[hb.size];exact L,⟨cs,hb.cells h1,ak⟩,hb.cells h2,U.trans (hb.below w.heap.size (by have:=I.out.size;omega))⟩
   case kt=>
    intro s A B C D a2 b6 b_;have:=I.out.size;exact⟨fun aQ=>((a2.below w.heap.size (by omega)).trans (b6.1 (by rw[a2.size];exact aQ))).trans (b_.below w.heap.size (by omega)),fun k cs t r hk=>b_.cells (b6.2 k cs t r (a2.cells hk))⟩
   case h0=>
    rintro o s W1 rfl;exact⟨by simp;omega,(aS.out.alloc _).alloc _,aw (aw S.out _) _,aq (aq I.out _) _⟩
   case body=>
    rintro l s pre ⟨i,a,b⟩ Wb W1 W _ ⟨L,i1,i2,i3⟩ ⟨b',V⟩ ca H;obtain⟨ed,cb,cc,cd⟩:=pV E E.length (Nat.le_refl _) _ b';have aa:=HI.out ed cb;simp only at cc cd;obtain⟨a,rfl⟩:=Int.eq_ofNat_of_zero_le (show 0<=a by omega);obtain⟨b,rfl⟩:=Int.eq_ofNat_of_zero_le (show 0<=b by omega);have ha:a<12:=by omega
    have hb:b<12:=by omega
    have eb:=I.out.size;have eg:g.heap.size<=W1.heap.size:=Nat.le_trans L V.size;have ce:=(vg pre).1;have ek:=(vg pre).2;have HS:=Aside0.mk (Db pre (i,(a:Int),(b:Int)));have ca:pre.length<2000:=ca;obtain⟨cs,h1,ak⟩:=(i1.below V).alloc (.cells #[.int .i64 a,.int .i64 b] 116);have M:Aside0 (dY W gf (bZ pre).1):=⟨cs,H.cells h1,ak⟩;have b2:=Aside0.mk (H.cells (aw (aG i2 V) (.cells #[.int .i64 a,.int .i64 b] 116)));have b3:=Aside0.mk ((aq (aU i3 V) (.cells #[.int .i64 a,.int .i64 b] 116)).trans (H.below w.heap.size (by omega)));have b4:=Aside0.mk (H.cells (heap_alloc_new W1 (.cells #[.int .i64 a,.int .i64 b] 116)));have aQ:W.heap.size=W1.heap.size+1:=by rw[H.size];simp
    have ci:g.heap.size<=W.heap.size:=by omega
    clear i1 i2 i3 V H h1 ak aQ eg L b' cb cc cd aa;generalize W1.heap.size=pb at b4⊢;have el:W.cell? ⟨pb,0,none⟩=some (.int .i64 a):=(ao b4.out 0).trans rfl;have em:W.cell? ⟨pb,1,none⟩=some (.int .i64 b):=(ao b4.out 1).trans rfl;have fq:=Tryz.underlying116;have a3:=Aside0.mk (fun m=>vf gf a (bZ pre).1 (W.drewN m) ce ha (M.out.below (bP (Below.refl _ _) m)));have a4:=Aside0.mk (fun m=>vf gf b (bZ pre).1 (W.drewN m) ce hb (M.out.below (bP (Below.refl _ _) m)));have er:=hZ (bZ pre).1 a;have es:=hZ (bZ pre).1 b;have P:Aside0 (eR (bZ pre) (i,(a:Int),(b:Int))=(dq (bZ pre).1 a b,if rootOf (bZ pre).1 a=rootOf (bZ pre).1 b then(bZ pre).2+1 else(bZ pre).2)):=⟨rfl⟩;have Q:Aside0 (dq (bZ pre).1 a b=fun j=>if j=max (rootOf (bZ pre).1 a) (rootOf (bZ pre).1 b) then min (rootOf (bZ pre).1 a) (rootOf (bZ pre).1 b) else(bZ pre).1 j):=⟨rfl⟩;generalize dq (bZ pre).1 a b=pj at P Q;generalize rootOf (bZ pre).1 a=x at a3 P Q er;generalize rootOf (bZ pre).1 b=y at a4 P Q es;generalize ck:(bZ pre).2=gc at b2 ek P;clear ck;have fr:(0:Int)<=(x:Int):=by omega
    have ft:(0:Int)<=(y:Int):=by omega
    have fv:(x:Int)<12:=by omega
    have f0:(y:Int)<12:=by omega
    gi_wp2;refine Be rfl (by kernel_rfl) (by kernel_rfl) ?_;repeat(gi_big_quiet_step (fail))
    gi_big_quiet_want
    gi_big_quiet_op
    gi_big_quiet_call ((gi_at_call 86;exact CallsIn.quiet_of_same (callsIn_wide.2 ((a3.out _).mono (fun e w' h=>⟨h.1,h.2.symm⟩)))))
    repeat(gi_big_quiet_step (fail))
    gi_big_quiet_want
    gi_big_quiet_op
    gi_big_quiet_call ((gi_at_call 86;exact CallsIn.quiet_of_same (callsIn_wide.2 ((a4.out _).mono (fun e w' h=>⟨h.1,h.2.symm⟩)))))
    repeat(gi_big_quiet_step (fail))
    refine wpQuietIn_nil ?_;rintro _ ⟨nq,rfl⟩;have u:=Aside0.mk (M.out.below (bP (Below.refl _ _) nq));have R:=Aside0.mk (gV b2.out nq);have I3:=Aside0.mk (bP b3.out nq);have ap:=Aside0.mk (cN (nw:=g.heap.size) (bP (Below.refl W.heap.size W) nq));have av:=Aside0.mk (bP (Below.refl w.heap.size W) nq);have aB:Aside0 (∀k:Nat,(W.drewN nq).heap[k]? =W.heap[k]?):=⟨fun k=>by simp⟩;have aF:g.heap.size<=(W.drewN nq).heap.size:=by simpa using ci
    have ew:Aside0 (∀(k:Nat) (cs:Array Value) (t:TypeId),(t=24∨t=83)->W.heap[k]? =some (Obj.cells cs t (0,0))->k≠gf∧k≠bo):=⟨fun k cs t r hk=>by
     obtain⟨cf,cl, -⟩:=M.out;refine⟨fun e=>?_,fun e=>?_⟩
     ·subst e;rw[hk] at cl;injection cl with h;injection h with _ h _;rcases r with rfl|rfl<;>exact absurd h (by decide)
     ·subst e;have h:=hk.symm.trans b2.out;injection h with h;injection h with _ h _;rcases r with rfl|rfl<;>exact absurd h (by decide)⟩
    have co:gf≠bo:=by omega
    have cq:w.heap.size<=gf:=by omega
    have cr:w.heap.size<=bo:=by omega
    have ck:(gc:Int)<=2000:=by omega
    have f':(0:Int)<=(gc:Int):=by omega
    clear M b2 b3 b4 el em a3 a4 ci S T I aS;generalize W.drewN nq=N at u R I3 ap av aB aF⊢;have gb:=Aside0.mk (fun j=>u.out.frozen j);have cv:∀(j v:Nat) (W1:World) (g':Nat),j<12->g.heap.size<=W1.heap.size->dY W1 gf (bZ pre).1->W1.heap[bo]? =some (.cells #[.int .i64 (g':Nat)] 3 (0,0))->Below w.heap.size w W1->bX g.heap.size W W1->Below w.heap.size W W1->(∀k,k≠gf->k≠bo->W1.heap[k]? =W.heap[k]?)->
      (fun i=>if i=j then v else(bZ pre).1 i)=pj->g'=(if x=y then gc+1 else gc)->pS (σ:=Unit) g.heap.size (fun X Y=>pU w.heap.size X Y) (fun pre W=>g.heap.size<=W.heap.size∧dY W gf (bZ pre).1∧W.heap[bo]? =some (.cells #[.int .i64 ((bZ pre).2:Nat)] 3 (0,0))∧Below w.heap.size w W) (fun (_:Code) (_:List (Nat×Int×Int)) (_:World)=>False) (pre++[(i,(a:Int),(b:Int))]) W Exit.normal {tmps:=#[],defers:=[]} (W1.setCell ⟨gf,j,none⟩ (.int .i64 v)):=by
     intro j v W1 g' hj a9 f1 f2 f3 f4 f5 f6 f7 f8;refine⟨f4.trans (fa _ _ (show gf<g.heap.size by omega)),⟨fun _=>Below.setCell (p:=⟨gf,j,none⟩) f5 cq _,fun k cs t r hk=>?_⟩,by simpa using a9,?_,?_,Below.setCell (p:=⟨gf,j,none⟩) f3 cq _⟩
     ·obtain⟨k1,k2⟩:=ew.out k cs t r hk
      exact(Below.heap_setCell _ _ _ _ k1).trans ((f6 k k1 k2).trans hk)
     ·rw[HS.out,P.out]
      have h:=f1.set j hj v;rw[f7] at h;exact h
     ·rw[HS.out,P.out]
      simp only;rw[<-f8];exact aC f2 (fun e=>co e.symm) _
    have be:=Aside0.mk cv;clear cv;rcases Nat.lt_trichotomy x y with bf|bf|bf
    ·have hl:(x:Int)<(y:Int):=by omega
     have he:((x:Int)==(y:Int))=false:=by simpa using (show ¬(x:Int)=(y:Int) by omega)
     have hm:max x y=y:=by omega
     have Z:min x y=x:=by omega
     have hz:=u.out.cell y (by omega);have hf:=u.out.frozen y;have HM:=Aside0.mk hm;have bi:=Aside0.mk Z;clear hm Z;gi_wp2;exact be.out y x N gc (by omega) aF u.out R.out I3.out ap.out av.out (fun k _ _=>aB.out k) (by rw[Q.out,HM.out,bi.out]) (by rw[if_neg (by omega)])
    ·subst bf
     have he:((x:Int)==(x:Int))=true:=by simp
     have hl:¬(x:Int)<(x:Int):=by omega
     have hz:=u.out.cell x (by omega);have hf:=u.out.frozen x;have z1:=dt R.out;have z2:=bq R.out 0;have e0:bo<g.heap.size:=b0;have a9:=Aside0.mk (show g.heap.size<=(N.setCell ⟨bo,0,none⟩ (.int .i64 ((gc:Int)+1))).heap.size by simpa using aF);have J1:=Aside0.mk (u.out.grown (jJ N bo 0 (.int .i64 ((gc:Int)+1))) (fun e=>by injection e with e;exact co e));have gd:=J1.out.cell x (by omega);have ge:=J1.out.frozen x;have J2:Aside0 ((N.setCell ⟨bo,0,none⟩ (.int .i64 ((gc:Int)+1))).heap[bo]? =some (.cells #[.int .i64 ((gc+1:Nat):Int)] 3 (0,0))):=⟨by simpa using bE R.out 0 (.int .i64 ((gc:Int)+1))⟩;have J3:=Aside0.mk (Below.setCell (p:=⟨bo,0,none⟩) I3.out cr (.int .i64 ((gc:Int)+1)));have J4:=Aside0.mk (ap.out.trans (fa (bo:=bo) (j:=0) N (.int .i64 ((gc:Int)+1)) e0));have J5:=Aside0.mk (Below.setCell (p:=⟨bo,0,none⟩) av.out cr (.int .i64 ((gc:Int)+1)));have J6:Aside0 (∀k,k≠gf->k≠bo->(N.setCell ⟨bo,0,none⟩ (.int .i64 ((gc:Int)+1))).heap[k]? =W.heap[k]?):=⟨fun k _ h=>(Below.heap_setCell _ _ _ _ h).trans (aB.out k)⟩;gi_wp2;exact be.out x x _ (gc+1) (by omega) a9.out J1.out J2.out J3.out J4.out J5.out J6.out (by rw[Q.out,Nat.max_self,Nat.min_self]) (by simp)
    ·have hl:¬(x:Int)<(y:Int):=by omega
     have gg:(y:Int)<(x:Int):=by omega
     have he:((x:Int)==(y:Int))=false:=by simpa using (show ¬(x:Int)=(y:Int) by omega)
     have hm:max x y=x:=by omega
     have Z:min x y=y:=by omega
     have hz:=u.out.cell x (by omega);have hf:=u.out.frozen x;have HM:=Aside0.mk hm;have bi:=Aside0.mk Z;clear hm Z;gi_wp2;exact be.out x y N gc (by omega) aF u.out R.out I3.out ap.out av.out (fun k _ _=>aB.out k) (by rw[Q.out,HM.out,bi.out]) (by rw[if_neg (by omega)])
   case done=>
    rintro s xs W W' _ rfl ⟨L,i1,i2,i3⟩ H c3;have eb:=I.out.size;have M:=Aside0.mk (H.cells i2);have b3:=Aside0.mk (i3.trans (H.below w.heap.size (by omega)));have c4:=Aside0.mk c3;clear i1 i2 i3 c3;have hc:=dt M.out;gi_wp2_with fail
    have e6:Bk g.heap.size W' (W'.putObj g.heap.size (.deferred none)):=⟨_,_,c4.out,rfl,rfl⟩;exact iK (D:=g.heap.size) rfl c4.out (results_tmp2 rfl _ _ _) ⟨rfl,b3.out.trans (e6.below w.heap.size (by omega))⟩
def mD (N:Int) (E:List S83):Bool:=decide (0<=N∧N<=12)&&eF E&&iI N E
def dx.f (k:Nat) (N:Int) (E:List S83):Option (Int×Int):=
 (aY.f k N E).bind fun e=>if e=0 then(if mD N E=true then some (((bZ (bT E E.length)).2:Nat),0) else none) else some (0,e)
theorem dx.mono:∀a b k,ae (dx.f k a b) (dx.f (k+1) a b):=by
 intro N E k;unfold dx.f;exact ae.bind (aY.mono _ _ _) (fun _=>ae.refl _)
theorem dx.calls (k:Nat) (i:Int) (j:Option Addr) (l:Nat) (b:List (S83)) (o:Int) (p:Int) (w:World) (q:Kd.C aK w j b.length b) (r:b.length<=l) (h:dx.f k i b=some (o,p)):
  Calls Tryz.prog 31 #[.agg #[.int .i64 i,.slice j b.length l]] w fun e w'=>e= .returned (.tuple #[.int .i64 o,.int .i64 p])∧Below w.heap.size w w':=by
 unfold dx.f at h;obtain⟨e,he,a⟩:=Option.bind_eq_some_iff.1 h;clear h;by_cases m:e=0
 ·subst m
  rw[if_pos rfl] at a;by_cases g:mD i b=true
  ·rw[if_pos g] at a
   simp only[Option.some.injEq,Prod.mk.injEq] at a;obtain⟨rfl,rfl⟩:=a;unfold mD at g;simp only[Bool.and_eq_true,decide_eq_true_eq] at g;obtain⟨⟨⟨h1,v⟩,s⟩,u⟩:=g;obtain⟨n,rfl⟩:=Int.eq_ofNat_of_zero_le h1;exact Dd k n j l b w q r he s (kT u) (by omega)
  ·rw[if_neg g] at a;cases a
 ·rw[if_neg m] at a
  simp only[Option.some.injEq,Prod.mk.injEq] at a;obtain⟨rfl,rfl⟩:=a;exact Dc k i j l b e w q r he m
end
section
attribute [local go_sem] iU iV iW iX lU lV lW lX
def cK.l0:Nat->Int->List (S83)->Int->Int->Int->List (S83)->Option (Int×(List (S83))×Int)
 |0,_,_,_,_,_,_=>none
 |k+1,x1,b,g,a,h,e=>if a<g then(if 0<=a then(if a<(b.length:Int) then(if((ai b a).f0)=((ai b a).f1) then(cK.l0 k x1 b g (wrap64 (a+1)) h e) else(if e.length<5864062014805 then(cK.l0 k x1 b g (wrap64 (a+1)) h (e++[(⟨(ai b a).f0,(ai b a).f1,mn ((ai b a).f2) x1⟩:S83)])) else(none))) else(none)) else(none)) else(some (h,e,0))
def cK.f (k:Nat) (b:Int) (a:List (S83)) (e:Int):Option (Int×(List (S83))×Int):=(aY.f k b a).bind fun t260=>(if t260=0 then(cK.l0 k e a (a.length:Int) 0 b ([]:List (S83))) else(some (0,([]:List (S83)),t260)))
theorem cK.bW:∀k,(∀a b e g i j,ae (cK.l0 k a b e g i j) (cK.l0 (k+1) a b e g i j))
 |0=>fun _ _ _ _ _ _ r h=>by simp[cK.l0] at h
 |k+1=>by
  have l:=cK.bW k
  ·intro a b e g i j
   unfold cK.l0;repeat' first
   |(with_reducible exact l _ _ _ _ _ _)
   |(with_reducible exact aY.mono _ _ _)
   |(with_reducible exact ae.refl _)
   |(with_reducible exact ae.none _)
   |(with_reducible refine ae.ite ?_ ?_)
   |(with_reducible refine ae.bind ?_ (fun _=>?_))
   |exact l _ _ _ _ _ _
   |exact aY.mono _ _ _
   |exact ae.none _
   |refine ae.ite ?_ ?_
   |refine ae.bind ?_ (fun _=>?_)
theorem cK.mono:∀a0 a a2 k,ae (cK.f k a0 a a2) (cK.f (k+1) a0 a a2):=by
 intro a0 a a2 k;have b:=cK.bW k;unfold cK.f;repeat' first
   |(with_reducible exact b _ _ _ _ _ _)
   |(with_reducible exact aY.mono _ _ _)
   |(with_reducible exact ae.refl _)
   |(with_reducible exact ae.none _)
   |(with_reducible refine ae.ite ?_ ?_)
   |(with_reducible refine ae.bind ?_ (fun _=>?_))
   |exact b _ _ _ _ _ _
   |exact aY.mono _ _ _
   |exact ae.none _
   |refine ae.ite ?_ ?_
   |refine ae.bind ?_ (fun _=>?_)
theorem cK.calls (k:Nat) (n:Int) (B:Option Addr) (y:Nat) (a:List (S83)) (K:Int) (Z:Int) (r2:List (S83)) (r3:Int) (w:World) (bv:Kd.C aK w B a.length a) (bw:a.length<=y) (h:cK.f k n a K=some (Z,r2,r3)):
  Calls Tryz.prog 84 #[.agg #[.int .i64 n,.slice B a.length y],.int .i64 K] w fun e w'=>∃bx:Value,e= .returned (.tuple #[.agg #[.int .i64 Z,bx],.int .i64 r3])∧Kd.R aK 83 w' w.heap.size (fun _=>True) bx r2∧Below w.heap.size w w':=by
 have eg:=Tryz.underlying24;have ek:=Tryz.underlying83;have ak:=Aside0.mk bv;have b0:=Aside0.mk bw;clear bv bw;have l:=Aside0.mk (Below.refl w.heap.size w);unfold cK.f at h;have H:=h;clear h;obtain⟨t260,A3,H⟩:=zo H;by_cases c4:t260=0
 ·rw[if_pos c4] at H
  obtain⟨b2,b3⟩:=bt c4;clear c4;have U:=Aside0.mk H;clear H;go_enter Tryz.func84,Tryz.ntmps84
  go_wp2_with (first|((with_reducible refine aH (N:=2) rfl ?_);refine zX 2 #[.int .i64 n,.slice B a.length y] 24 ?_;intro s j w5 v hb;have m:=Aside0.mk (v);have cb:=zG l j;have cc:=zG l j;replace l:=zS l hb;clear hb v j)|((with_reducible refine aH (N:=4) rfl ?_);refine zX 4 #[.int .i64 0,.slice none 0 0] 24 ?_;intro u j w6 v hb;have r:=Aside0.mk (v);have cd:=zG l j;have ce:=zG l j;replace l:=zS l hb;have am:=Aside0.mk ((by rw[j];exact Nat.ne_of_lt (ay (g:=s) (o:=.cells #[.int .i64 n,.slice B a.length y] 24 (0,0)) (zK m)):s≠u));have an:=Aside0.mk ((by rw[j];exact Nat.ne_of_gt (ay (g:=s) (o:=.cells #[.int .i64 n,.slice B a.length y] 24 (0,0)) (zK m)):u≠s));replace m:=zb m hb;clear hb v j;have er:=am.out;have es:=an.out;obtain⟨cf,ch,ci,cj⟩:=au m)|((with_reducible refine ax (f:=64) rfl ?_);refine zL (some 11) Tryz.func64 #[.agg #[.int .i64 n,.slice B a.length y]] ?_;(with_reducible refine(aY.calls k n _ _ a t260 _ ?af ?ah A3.out).mono ?_);(case af=>exact Kd.al ak.out zB);(case ah=>exact b0.out);rintro e w9 ⟨rfl,hb⟩;refine⟨_,rfl,?_⟩;replace m:=zb m hb;replace r:=zb r hb;replace l:=zS l hb;(try clear hb);obtain⟨ck,cl,co,cq⟩:=au m)|((with_reducible refine aH (N:=7) rfl ?_);refine zX 7 #[.int .i64 0,.slice none 0 0] 24 ?_;intro z j iy v hb;have x:=Aside0.mk (v);have ew:=zG l j;have ex:=zG l j;replace l:=zS l hb;have V:=Aside0.mk ((by rw[j];exact Nat.ne_of_lt (ay (g:=s) (o:=.cells #[.int .i64 n,.slice B a.length y] 24 (0,0)) (zK m)):s≠z));have a4:=Aside0.mk ((by rw[j];exact Nat.ne_of_gt (ay (g:=s) (o:=.cells #[.int .i64 n,.slice B a.length y] 24 (0,0)) (zK m)):z≠s));replace m:=zb m hb;have W:=Aside0.mk ((by rw[j];exact Nat.ne_of_lt (ay (g:=u) (o:=.cells #[.int .i64 0,.slice none 0 0] 24 (0,0)) (zK r)):u≠z));have a5:=Aside0.mk ((by rw[j];exact Nat.ne_of_gt (ay (g:=u) (o:=.cells #[.int .i64 0,.slice none 0 0] 24 (0,0)) (zK r)):z≠u));replace r:=zb r hb;clear hb v j;have ey:=a4.out;have e0:=V.out;have e1:=a5.out;have e2:=W.out;obtain⟨cr,cv,cx,c0⟩:=au x;obtain⟨c2,c3,c5,c9⟩:=au m))
  go_loopg [22] k (fun kq v22 w'=>∃(i:Int) (E:List (S83)) (u262001:Value),v22= .int .i64 i∧Aside0 (cK.l0 kq K a (a.length:Int) i n E=some (Z,r2,r3))∧Aside0 (kq<=k)∧Aside0 (Kd.R aK 83 w' w.heap.size (fun _=>True) u262001 E)∧Aside0 (w'.heap[s]? =some (.cells #[.int .i64 n,(.slice B a.length y)] 24 (0,0)))∧Aside0 (w'.heap[u]? =some (.cells #[.int .i64 0,(.slice none 0 0)] 24 (0,0)))∧Aside0 (w'.heap[z]? =some (.cells #[.int .i64 n,u262001] 24 (0,0)))∧Aside0 (Below w.heap.size w w'))
  case atStart=>exact⟨(0),(([]:List (S83))),(.slice none 0 0),zT,U,⟨Nat.le_refl _⟩,⟨by first|exact Kd.cV _ _ _ _ _|exact Kd.fV _ _ _ _ _|exact Kd.V_nil _ _ _ _ _|exact Kd.Q_nil _ _ _ _ _|exact Kd.fB _ _ _ _ _⟩,⟨by refine zk ?_;refine aC ?_ V.out _;refine zk ?_;refine aC ?_ V.out _;exact zK m⟩,⟨by refine zk ?_;refine aC ?_ W.out _;refine zk ?_;refine aC ?_ W.out _;exact zK r⟩,⟨by refine zk ?_;refine bb (cs:=#[.int .i64 n,.slice none 0 0]) ?_ 1 _ rfl;refine zk ?_;refine bb (cs:=#[.int .i64 0,.slice none 0 0]) ?_ 0 _ rfl;exact zK x⟩,⟨zB⟩⟩
  case round=>
   clear U;try clear c1
   try clear p2
   try clear c4
   try clear b2
   try clear b3
   try clear c6
   try clear c7
   try clear c8
   try clear e_
   try clear e'
   try clear ck
   try clear cl
   try clear cr
   try clear cv
   try clear c2
   try clear c3
   try clear cf
   try clear ch
   try clear co
   try clear cq
   try clear cx
   try clear c0
   try clear c5
   try clear c9
   try clear ci
   try clear cj
   obtain⟨i,E,u262001,rfl,HA,ap,D,m,r,x,l⟩:=hrel;cases gk with
   |zero=>exact absurd HA.out (by simp[cK.l0])
   |succ k1=>
    have H:=HA.out;clear HA;simp only[cK.l0] at H;by_cases X:i<(a.length:Int)
    ·rw[if_pos X] at H
     have c':=decide_eq_true X;clear X;by_cases av:0<=i
     ·rw[if_pos av] at H
      have fb:=decide_eq_true av;clear av;by_cases a0:i<(a.length:Int)
      ·rw[if_pos a0] at H
       have fd:=decide_eq_true a0;clear a0;by_cases ad:((ai a i).f0)=((ai a i).f1)
       ·rw[if_pos ad] at H
        obtain⟨dd,dk⟩:=bt ad;clear ad;have U:=Aside0.mk H;clear H;have L:0<=(i:Int):=of_decide_eq_true ‹_›;have M:i<(a.length:Int):=of_decide_eq_true ‹_›;obtain⟨Y,be,O,P,Q⟩:=eo ak.out i L M;cases be;replace O:=(l.out.cell (World.block_lt_of_cell? w _ O)).trans O;replace P:=(l.out.cell (World.block_lt_of_cell? w _ P)).trans P;replace Q:=(l.out.cell (World.block_lt_of_cell? w _ Q)).trans Q;replace L:=eq_true L;replace M:=eq_true M;go_wp2_with (first|((with_reducible refine aH (N:=9) rfl ?_);refine zX 9 #[.int .i64 0,.int .i64 0,.int .i64 0] 83 ?_;intro q j fn v hb;replace D:=Aside0.mk (Kd.cp (Kd.rG (zR D) q (Nat.le_of_eq j.symm)) hb);have S:=Aside0.mk (v);have dl:=zG l j;have ds:=zG l j;replace l:=zS l hb;have G:=Aside0.mk ((by rw[j];exact Nat.ne_of_lt (ay (g:=s) (o:=.cells #[.int .i64 n,.slice (some Y) a.length y] 24 (0,0)) (zK m)):s≠q));have bf:=Aside0.mk ((by rw[j];exact Nat.ne_of_gt (ay (g:=s) (o:=.cells #[.int .i64 n,.slice (some Y) a.length y] 24 (0,0)) (zK m)):q≠s));replace m:=zb m hb;have I:=Aside0.mk ((by rw[j];exact Nat.ne_of_lt (ay (g:=u) (o:=.cells #[.int .i64 0,.slice none 0 0] 24 (0,0)) (zK r)):u≠q));have bg:=Aside0.mk ((by rw[j];exact Nat.ne_of_gt (ay (g:=u) (o:=.cells #[.int .i64 0,.slice none 0 0] 24 (0,0)) (zK r)):q≠u));replace r:=zb r hb;have J:=Aside0.mk ((by rw[j];exact Nat.ne_of_lt (ay (g:=z) (o:=.cells #[.int .i64 n,u262001] 24 (0,0)) (zK x)):z≠q));have bi:=Aside0.mk ((by rw[j];exact Nat.ne_of_gt (ay (g:=z) (o:=.cells #[.int .i64 n,u262001] 24 (0,0)) (zK x)):q≠z));replace x:=zb x hb;clear hb v j;have fo:=bf.out;have fq:=G.out;have fr:=bg.out;have ft:=I.out;have fv:=bi.out;have f3:=J.out;obtain⟨f4,f5,f6,f7,f8,f9⟩:=bV S))
        go_roundg k1
        case measure=>have:=ap.out;omega
        case rel=>exact⟨(wrap64 (i+1)),(E),(u262001),zT,U,⟨by have:=ap.out;omega⟩,⟨by(with_reducible repeat(first|apply Kd.aI|apply Kd.ba|apply Kd.a8));exact Kd.aV (Kd.bR (p:=⟨q,2,none⟩) (Kd.bR (p:=⟨q,1,none⟩) (Kd.bR (p:=⟨q,0,none⟩) (Kd.aV D.out (fun T hk=>(⟨hk,hk.2⟩:_∧T≠q))) (fun _ hk=>hk.2) (.int .i64 ((ai a i).f0))) (fun _ hk=>hk.2) (.int .i64 ((ai a i).f1))) (fun _ hk=>hk.2) (.int .i64 ((ai a i).f2))) (fun _ hk=>trivial)⟩,⟨by refine zk ?_;refine aC ?_ G.out _;refine zk ?_;refine aC ?_ G.out _;refine zk ?_;refine aC ?_ G.out _;exact zK m⟩,⟨by refine zk ?_;refine aC ?_ I.out _;refine zk ?_;refine aC ?_ I.out _;refine zk ?_;refine aC ?_ I.out _;exact zK r⟩,⟨by refine zk ?_;refine aC ?_ J.out _;refine zk ?_;refine aC ?_ J.out _;refine zk ?_;refine aC ?_ J.out _;exact zK x⟩,⟨zB⟩⟩
       ·rw[if_neg ad] at H
        obtain⟨dd,dk⟩:=bu ad;obtain⟨F,bk⟩:∃j_:Int,(mn ((ai a i).f2) K)=j_:=⟨_,rfl⟩;replace H:(if E.length<5864062014805 then(cK.l0 k1 K a (a.length:Int) (wrap64 (i+1)) n (E++[(⟨(ai a i).f0,(ai a i).f1,F⟩:S83)])) else(none))=some (Z,r2,r3):=by first|(rw[bk] at H;exact H)|(simp only[bk] at H⊢;exact H)
        have f':(if K<((ai a i).f2) then K else((ai a i).f2))=F:=bk;by_cases a2:E.length<5864062014805
        ·rw[if_pos a2] at H
         have d0:=Aside0.mk a2;clear a2;obtain⟨a3,ag⟩:∃y_:List (S83),y_=(E++[(⟨(ai a i).f0,(ai a i).f1,F⟩:S83)]):=⟨_,rfl⟩;replace H:(cK.l0 k1 K a (a.length:Int) (wrap64 (i+1)) n a3)=some (Z,r2,r3):=by first|(rw[ag];with_reducible exact H)|(have bn:=(Option.bind_some _ _).symm.trans H;rw[ag];with_reducible exact bn)|(have bn:=(Option.bind_some _ _).symm.trans H;with_reducible exact bn)|with_reducible exact H|(rw[ag];exact H)|exact H
         have d2:=Aside0.mk ag;clear ag;have U:=Aside0.mk H;clear H;have L:0<=(i:Int):=of_decide_eq_true ‹_›;have M:i<(a.length:Int):=of_decide_eq_true ‹_›;obtain⟨Y,be,O,P,Q⟩:=eo ak.out i L M;cases be;replace O:=(l.out.cell (World.block_lt_of_cell? w _ O)).trans O;replace P:=(l.out.cell (World.block_lt_of_cell? w _ P)).trans P;replace Q:=(l.out.cell (World.block_lt_of_cell? w _ Q)).trans Q;replace L:=eq_true L;replace M:=eq_true M;go_wp2_with (first|((with_reducible refine aH (N:=9) rfl ?_);refine zX 9 #[.int .i64 0,.int .i64 0,.int .i64 0] 83 ?_;intro q j d3 v hb;replace D:=Aside0.mk (Kd.cp (Kd.rG (zR D) q (Nat.le_of_eq j.symm)) hb);have S:=Aside0.mk (v);have dl:=zG l j;have ds:=zG l j;replace l:=zS l hb;have G:=Aside0.mk ((by rw[j];exact Nat.ne_of_lt (ay (g:=s) (o:=.cells #[.int .i64 n,.slice (some Y) a.length y] 24 (0,0)) (zK m)):s≠q));have bf:=Aside0.mk ((by rw[j];exact Nat.ne_of_gt (ay (g:=s) (o:=.cells #[.int .i64 n,.slice (some Y) a.length y] 24 (0,0)) (zK m)):q≠s));replace m:=zb m hb;have I:=Aside0.mk ((by rw[j];exact Nat.ne_of_lt (ay (g:=u) (o:=.cells #[.int .i64 0,.slice none 0 0] 24 (0,0)) (zK r)):u≠q));have bg:=Aside0.mk ((by rw[j];exact Nat.ne_of_gt (ay (g:=u) (o:=.cells #[.int .i64 0,.slice none 0 0] 24 (0,0)) (zK r)):q≠u));replace r:=zb r hb;have J:=Aside0.mk ((by rw[j];exact Nat.ne_of_lt (ay (g:=z) (o:=.cells #[.int .i64 n,u262001] 24 (0,0)) (zK x)):z≠q));have bi:=Aside0.mk ((by rw[j];exact Nat.ne_of_gt (ay (g:=z) (o:=.cells #[.int .i64 n,u262001] 24 (0,0)) (zK x)):q≠z));replace x:=zb x hb;clear hb v j;have gb:=bf.out;have gc:=G.out;have gd:=bg.out;have ge:=I.out;have gf:=bi.out;have gg:=J.out;obtain⟨gi,gl,gm,gn,go,gp⟩:=bV S;have gq:=a4.out;have gr:=V.out;have gs:=a5.out;have gt:=W.out;obtain⟨gx,g0,g1,g2⟩:=au x;have g3:((((d3.setCell ⟨q,0,none⟩ (.int .i64 (ai a i).f0)).setCell ⟨q,1,none⟩ (.int .i64 (ai a i).f1)).setCell ⟨q,2,none⟩ (.int .i64 (ai a i).f2)).setCell ⟨q,2,none⟩ (.int .i64 F)).cell? ⟨q,2,none⟩=some (.int .i64 F):=(ao (bb (cs:=#[(.int .i64 (ai a i).f0),(.int .i64 (ai a i).f1),(.int .i64 (ai a i).f2)]) (bb (cs:=#[(.int .i64 (ai a i).f0),(.int .i64 (ai a i).f1),(.int .i64 0)]) (bb (cs:=#[(.int .i64 (ai a i).f0),(.int .i64 0),(.int .i64 0)]) (bb (cs:=#[(.int .i64 0),(.int .i64 0),(.int .i64 0)]) S.out 0 _ rfl) 1 _ rfl) 2 _ rfl) 2 _ rfl) 2).trans rfl)|((with_reducible refine o9 (b:=.append) (xs:=#[.tmp 37,.tmp 39]) rfl ?_);at_builtin;refine Kd.lI aK (w0:=w) w.heap.size rfl (.tmp 37) (.tmp 39) 22 83 (.agg #[(.int .i64 0),(.int .i64 0),(.int .i64 0)]) 24 rfl Tryz.underlying22 yI rfl (by decide) (by omega) u262001 E (⟨(ai a i).f0,(ai a i).f1,F⟩:S83) [.int .i64 ((ai a i).f0),.int .i64 ((ai a i).f1),.int .i64 F] (fun T=>T≠q) (fun _=>False) rfl (by first|(go_simp;done)|(go_simp;rfl)) ?aP (fun _ hk=>hk.elim) ?aF ?aO ?aB ?aS ?aL ?_;(case aP=>exact iG _ _ _ (⟨(ai a i).f0,(ai a i).f1,F⟩:S83));(case aB=>exact zB);(case aF=>exact(fun T hk=>Kd.kG (g:=q) (o:=.cells #[.int .i64 ((ai a i).f0),.int .i64 ((ai a i).f1),.int .i64 F] 83 (0,0)) (by refine zk ?_;refine bb (cs:=#[.int .i64 ((ai a i).f0),.int .i64 ((ai a i).f1),.int .i64 ((ai a i).f2)]) ?_ 2 _ rfl;refine zk ?_;refine bb (cs:=#[.int .i64 ((ai a i).f0),.int .i64 ((ai a i).f1),.int .i64 0]) ?_ 2 _ rfl;refine zk ?_;refine bb (cs:=#[.int .i64 ((ai a i).f0),.int .i64 0,.int .i64 0]) ?_ 1 _ rfl;refine zk ?_;refine bb (cs:=#[.int .i64 0,.int .i64 0,.int .i64 0]) ?_ 0 _ rfl;exact zK S) T hk));(case aO=>exact(by(with_reducible repeat(first|apply Kd.aI|apply Kd.ba|apply Kd.a8));exact Kd.aV (Kd.bR (p:=⟨q,2,none⟩) (Kd.bR (p:=⟨q,2,none⟩) (Kd.bR (p:=⟨q,1,none⟩) (Kd.bR (p:=⟨q,0,none⟩) (Kd.aV D.out (fun T hk=>(⟨hk,hk.2⟩:_∧T≠q))) (fun _ hk=>hk.2) (.int .i64 ((ai a i).f0))) (fun _ hk=>hk.2) (.int .i64 ((ai a i).f1))) (fun _ hk=>hk.2) (.int .i64 ((ai a i).f2))) (fun _ hk=>hk.2) (.int .i64 F)) (fun _ hk=>hk.1.2)));(case aS=>exact(a_ zB));(case aL=>have:=d0.out;omega);intro g4 g5 ho hb j ea;rw[<-d2.out] at ho;replace m:=Aside0.mk (cI (g:=s) (o:=.cells #[.int .i64 n,.slice (some Y) a.length y] 24 (0,0)) (by refine zk ?_;refine aC ?_ G.out _;refine zk ?_;refine aC ?_ G.out _;refine zk ?_;refine aC ?_ G.out _;refine zk ?_;refine aC ?_ G.out _;exact zK m) j (Kd.dh D.out m.out (by decide)));replace r:=Aside0.mk (cI (g:=u) (o:=.cells #[.int .i64 0,.slice none 0 0] 24 (0,0)) (by refine zk ?_;refine aC ?_ I.out _;refine zk ?_;refine aC ?_ I.out _;refine zk ?_;refine aC ?_ I.out _;refine zk ?_;refine aC ?_ I.out _;exact zK r) j (Kd.dh D.out r.out (by decide)));replace x:=Aside0.mk (cI (g:=z) (o:=.cells #[.int .i64 n,u262001] 24 (0,0)) (by refine zk ?_;refine aC ?_ J.out _;refine zk ?_;refine aC ?_ J.out _;refine zk ?_;refine aC ?_ J.out _;refine zk ?_;refine aC ?_ J.out _;exact zK x) j (Kd.dh D.out x.out (by decide)));replace S:=Aside0.mk (cI (g:=q) (o:=.cells #[.int .i64 ((ai a i).f0),.int .i64 ((ai a i).f1),.int .i64 F] 83 (0,0)) (by refine zk ?_;refine bb (cs:=#[.int .i64 ((ai a i).f0),.int .i64 ((ai a i).f1),.int .i64 ((ai a i).f2)]) ?_ 2 _ rfl;refine zk ?_;refine bb (cs:=#[.int .i64 ((ai a i).f0),.int .i64 ((ai a i).f1),.int .i64 0]) ?_ 2 _ rfl;refine zk ?_;refine bb (cs:=#[.int .i64 ((ai a i).f0),.int .i64 0,.int .i64 0]) ?_ 1 _ rfl;refine zk ?_;refine bb (cs:=#[.int .i64 0,.int .i64 0,.int .i64 0]) ?_ 0 _ rfl;exact zK S) j (Kd.wS D.out (fun _ hk=>hk.2)));replace l:=Aside0.mk (hb);have b5:=Aside0.mk (ho);clear D;clear ho hb j ea;obtain⟨b6,b_,eb⟩:=Kd.aZ b5.out;subst eb;obtain⟨g6,g7,g8,g9⟩:=au x))
         go_roundg k1
         case measure=>have:=ap.out;omega
         case rel=>exact⟨(wrap64 (i+1)),(a3),(.slice b6 a3.length b_),zT,U,⟨by have:=ap.out;omega⟩,⟨by(with_reducible repeat(first|apply Kd.aI|apply Kd.ba|apply Kd.a8));exact Kd.aV (Kd.bR (p:=⟨z,1,none⟩) (Kd.dT b5.out x.out (by decide)) (fun _ hk=>hk.2) (.slice b6 a3.length b_)) (fun _ hk=>trivial)⟩,⟨by refine zk ?_;refine aC ?_ V.out _;exact zK m⟩,⟨by refine zk ?_;refine aC ?_ W.out _;exact zK r⟩,⟨by refine zk ?_;refine bb (cs:=#[.int .i64 n,u262001]) ?_ 1 _ rfl;exact zK x⟩,⟨zB⟩⟩
        ·rw[if_neg a2] at H
         exact absurd H (by simp)
      ·rw[if_neg a0] at H
       exact absurd H (by simp)
     ·rw[if_neg av] at H
      exact absurd H (by simp)
    ·rw[if_neg X] at H
     have c':=decide_eq_false X;clear X;simp only[Option.some.injEq,Prod.mk.injEq] at H;obtain⟨rfl,rfl,rfl⟩:=H;have g':=a4.out;have ha:=V.out;have hc:=a5.out;have he:=W.out;obtain⟨hf,hh,hj,hl⟩:=au x;have hm:=an.out;have hn:=am.out;obtain⟨hp,hq,hr,hs⟩:=au r;obtain⟨b',ca,ed⟩:=Kd.aZ D.out;subst ed;go_wp2;refine bodyPost_ret (oK rfl _ _ u 24 #[.int .i64 n,.slice b' E.length ca] (0,0) _ rfl (by refine zk ?_;refine bb (cs:=#[.int .i64 n,.slice none 0 0]) ?_ 1 _ rfl;refine zk ?_;refine bb (cs:=#[.int .i64 0,.slice none 0 0]) ?_ 0 _ rfl;exact zK r) Tryz.underlying24 rfl (by kernel_rfl)) rfl ?_;exact⟨_,zE,by(with_reducible repeat(first|apply Kd.aI|apply Kd.ba|apply Kd.a8));exact Kd.aV (Kd.bR (p:=⟨u,1,none⟩) (Kd.bR (p:=⟨u,0,none⟩) (Kd.dT D.out r.out (by decide)) (fun _ hk=>hk.2) (.int .i64 n)) (fun _ hk=>hk.2) (.slice b' E.length ca)) (fun _ hk=>trivial),zB⟩
 ·rw[if_neg c4] at H
  obtain⟨b2,b3⟩:=bu c4;simp only[Option.some.injEq,Prod.mk.injEq] at H;obtain⟨rfl,rfl,rfl⟩:=H;go_enter Tryz.func84,Tryz.ntmps84
  go_wp2_with (first|((with_reducible refine aH (N:=2) rfl ?_);refine zX 2 #[.int .i64 n,.slice B a.length y] 24 ?_;intro s j ht v hb;have m:=Aside0.mk (v);have cb:=zG l j;have cc:=zG l j;replace l:=zS l hb;clear hb v j)|((with_reducible refine aH (N:=4) rfl ?_);refine zX 4 #[.int .i64 0,.slice none 0 0] 24 ?_;intro u j hv v hb;have r:=Aside0.mk (v);have cd:=zG l j;have ce:=zG l j;replace l:=zS l hb;have am:=Aside0.mk ((by rw[j];exact Nat.ne_of_lt (ay (g:=s) (o:=.cells #[.int .i64 n,.slice B a.length y] 24 (0,0)) (zK m)):s≠u));have an:=Aside0.mk ((by rw[j];exact Nat.ne_of_gt (ay (g:=s) (o:=.cells #[.int .i64 n,.slice B a.length y] 24 (0,0)) (zK m)):u≠s));replace m:=zb m hb;clear hb v j;have hw:=am.out;have hx:=an.out;obtain⟨hy,hz,hA,hB⟩:=au m)|((with_reducible refine ax (f:=64) rfl ?_);refine zL (some 11) Tryz.func64 #[.agg #[.int .i64 n,.slice B a.length y]] ?_;(with_reducible refine(aY.calls k n _ _ a t260 _ ?af ?ah A3.out).mono ?_);(case af=>exact Kd.al ak.out zB);(case ah=>exact b0.out);rintro e hC ⟨rfl,hb⟩;refine⟨_,rfl,?_⟩;replace m:=zb m hb;replace r:=zb r hb;replace l:=zS l hb;(try clear hb);obtain⟨hD,hE,hG,hH⟩:=au r))
  refine bodyPost_ret (oK rfl _ _ u 24 #[.int .i64 0,.slice none 0 0] (0,0) _ rfl (by refine zk ?_;refine bb (cs:=#[.int .i64 0,.slice none 0 0]) ?_ 1 _ rfl;refine zk ?_;refine bb (cs:=#[.int .i64 0,.slice none 0 0]) ?_ 0 _ rfl;exact zK r) Tryz.underlying24 rfl (by kernel_rfl)) rfl ?_;exact⟨_,zE,by first|exact Kd.cV _ _ _ _ _|exact Kd.fV _ _ _ _ _|exact Kd.V_nil _ _ _ _ _|exact Kd.Q_nil _ _ _ _ _|exact Kd.fB _ _ _ _ _,zB⟩
end
def dy.f (k:Nat) (b:Int) (e:List (S83)):Option (Int×(List (S83))×Int):=(cK.f k b e 50).bind fun a=>(some (a.1,a.2.1,a.2.2))
theorem dy.mono:∀a0 a k,ae (dy.f k a0 a) (dy.f (k+1) a0 a):=by
 intro a0 a k;unfold dy.f;repeat' first
   |(with_reducible exact cK.mono _ _ _ _)
   |(with_reducible exact ae.refl _)
   |(with_reducible exact ae.none _)
   |(with_reducible refine ae.ite ?_ ?_)
   |(with_reducible refine ae.bind ?_ (fun _=>?_))
   |exact cK.mono _ _ _ _
   |exact ae.none _
   |refine ae.ite ?_ ?_
   |refine ae.bind ?_ (fun _=>?_)
theorem dy.calls (k:Nat) (j:Int) (m:Option Addr) (n:Nat) (a:List (S83)) (y:Int) (z:List (S83)) (B:Int) (w:World) (D:Kd.C aK w m a.length a) (E:a.length<=n) (h:dy.f k j a=some (y,z,B)):
  Calls Tryz.prog 30 #[.agg #[.int .i64 j,.slice m a.length n]] w fun e w'=>∃F:Value,e= .returned (.tuple #[.agg #[.int .i64 y,F],.int .i64 B])∧Kd.R aK 83 w' w.heap.size (fun _=>True) F z∧Below w.heap.size w w':=by
 have U:=Tryz.underlying24;have L:=Aside0.mk D;have M:=Aside0.mk E;clear D E;have b:=Aside0.mk (Below.refl w.heap.size w);unfold dy.f at h;have H:=h;clear h;obtain⟨⟨u,x,O⟩,P,H⟩:=zo H;dsimp only at H;simp only[Option.some.injEq,Prod.mk.injEq] at H;obtain⟨rfl,rfl,rfl⟩:=H;go_enter Tryz.func30,Tryz.ntmps30
 go_wp2_with (first|((with_reducible refine aH (N:=1) rfl ?_);refine zX 1 #[.int .i64 j,.slice m a.length n] 24 ?_;intro v i w3 q hb;have l:=Aside0.mk (q);have V:=zG b i;have W:=zG b i;replace b:=zS b hb;clear hb q i)|((with_reducible refine aH (N:=2) rfl ?_);refine zX 2 #[.int .i64 0,.slice none 0 0] 24 ?_;intro r i X q hb;have s:=Aside0.mk (q);have Y:=zG b i;have Z:=zG b i;replace b:=zS b hb;have Q:=Aside0.mk ((by rw[i];exact Nat.ne_of_lt (ay (g:=v) (o:=.cells #[.int .i64 j,.slice m a.length n] 24 (0,0)) (zK l)):v≠r));have S:=Aside0.mk ((by rw[i];exact Nat.ne_of_gt (ay (g:=v) (o:=.cells #[.int .i64 j,.slice m a.length n] 24 (0,0)) (zK l)):r≠v));replace l:=zb l hb;clear hb q i;have aa:=Q.out;have ab:=S.out;obtain⟨ad,ag,ak,am⟩:=au l)|((with_reducible refine ax (f:=84) rfl ?_);refine zL (some 5) Tryz.func84 #[.agg #[.int .i64 j,.slice m a.length n],.int .i64 50] ?_;(with_reducible refine(cK.calls k j _ _ a 50 u x O _ ?af ?ah P.out).mono ?_);(case af=>exact Kd.al L.out zB);(case ah=>exact M.out);rintro e w7 ⟨ap,rfl,G,hb⟩;refine⟨_,rfl,?_⟩;have I:=Aside0.mk (Kd.aW G (a_ zB));replace l:=zb l hb;replace s:=zb s hb;replace b:=zS b hb;(try clear hb);(try clear G);obtain⟨ar,av,aB,aF⟩:=au s;obtain⟨J,K,T⟩:=Kd.aZ I.out;subst T))
 refine bodyPost_ret (oK rfl _ _ r 24 #[.int .i64 u,.slice J x.length K] (0,0) _ rfl (by refine zk ?_;refine bb (cs:=#[.int .i64 u,.slice none 0 0]) ?_ 1 _ rfl;refine zk ?_;refine bb (cs:=#[.int .i64 0,.slice none 0 0]) ?_ 0 _ rfl;exact zK s) Tryz.underlying24 rfl (by kernel_rfl)) rfl ?_;exact⟨_,zE,by(with_reducible repeat(first|apply Kd.aI|apply Kd.ba|apply Kd.a8));exact Kd.aV (Kd.bR (p:=⟨r,1,none⟩) (Kd.bR (p:=⟨r,0,none⟩) (Kd.dT I.out s.out (by decide)) (fun _ hk=>hk.2) (.int .i64 u)) (fun _ hk=>hk.2) (.slice J x.length K)) (fun _ hk=>trivial),zB⟩
def dc (E:List S83):List S83:=E.filter fun x=>decide (x.f0≠x.f1)
theorem om {E:List S83} {x:S83}:x∈dc E↔x∈E∧x.f0≠x.f1:=by simp[dc]
theorem De (E:List S83):aj (dc E)=aj E:=by
 unfold aj dc;generalize (fun _ _=>(0:Int):Nat->Nat->Int)=f;induction E generalizing f with
 |nil=>rfl
 |cons x E a=>
  by_cases e:x.f0=x.f1
  ·rw[List.filter_cons_of_neg (by simp[e]),List.foldl_cons,a,show cH f x=f from if_pos e]
  ·rw[List.filter_cons_of_pos (by simp[e]),List.foldl_cons,List.foldl_cons,a]
theorem bm.dc {N:Int} {E:List S83} (h:bm N E):bm N (dc E):=
 ⟨fun x a=>h.ok x (om.1 a).1,fun x a=>h.le x (om.1 a).1,h.order.sublist (List.filter_sublist ..)⟩
theorem vh {N:Int}:∀{E:List S83} {a b:Int},(∀x∈E,bQ N x=true∧x.f0<=x.f1∧(a<x.f0∨a=x.f0∧b<x.f1))->E.Pairwise gI->f_ N a b E=0
 |[],_,_,_,_=>rfl
 |y::E,a,b,h,hp=>by
  obtain⟨g,i⟩:=List.pairwise_cons.1 hp;obtain⟨h1,j,k⟩:=h y (List.mem_cons_self ..);have he:dB N a b y=0:=by
   unfold dB;rw[h1,if_neg (by decide),if_neg (by omega)]
  rw[f_,if_pos he];exact vh (fun x e=>⟨(h x (List.mem_cons_of_mem _ e)).1,(h x (List.mem_cons_of_mem _ e)).2.1,g x e⟩) i
theorem Df {N:Int} {E:List S83} (h1:1<=N) (b:N<=12) (h:bm N E):cG N E=0:=by
 unfold cG;rw[if_neg (by omega)];refine vh (fun x a=>⟨h.ok x a,h.le x a,?_⟩) h.order;have:=h.ok x a;simp[bQ] at this;omega
theorem e7.dc {n:Nat} {E:List S83} (h:e7 n E):e7 n (dc E):=fun S h1 b=>by
 obtain⟨x,g,a⟩:=h S h1 b;exact⟨x,om.2 ⟨g,fun e=>a (by rw[e])⟩,a⟩
theorem qB {N:Int} {E:List S83} (b:E.length<=1000) (hm:∀x∈E,x.f2<=50):∀(m i:Nat) (o:List S83),i+m=E.length->o.length<=i->Ev (fun k=>cK.l0 k 50 E E.length i N o) (N,o++dc (E.drop i),(0:Int))
 |0,i,o,hi,g=>by
  refine Ev.of_succ ?_;simp only[cK.l0,if_neg (show ¬((i:Int)<(E.length:Int)) by omega)];rw[List.drop_eq_nil_of_le (by omega)];simpa [dc] using Ev.const (N,o,(0:Int))
 |m+1,i,o,hi,g=>by
  have h:ai E i∈E:=by
   have:ai E i=E[i]:=by simp[ai,List.getD_eq_getElem?_getD,List.getElem?_eq_getElem (show i<E.length by omega)]
   rw[this];exact List.getElem_mem _
  have l:=hm _ h;rw[l6 (show i<E.length by omega)];refine Ev.of_succ ?_;by_cases e:(ai E i).f0=(ai E i).f1
  ·have a:=qB (N:=N) b hm m (i+1) o (by omega) (by omega)
   simp only[cK.l0,if_pos (show (i:Int)<(E.length:Int) by omega),if_pos (show (0:Int)<=(i:Int) by omega),if_pos e,dU (show i<=1000000 by omega)];rw[show Go.Proofs.YtffdiakgjakngaaGreat.P.dc (ai E i::E.drop (i+1))=Go.Proofs.YtffdiakgjakngaaGreat.P.dc (E.drop (i+1)) from List.filter_cons_of_neg (by simp[e])];exact a
  ·have j:mn (ai E i).f2 50=(ai E i).f2:=by unfold mn;first|(rw[if_pos (by omega)])|(rw[if_neg (by omega)])|omega
   have a:=qB (N:=N) b hm m (i+1) (o++[ai E i]) (by omega) (by simp;omega);simp only[cK.l0,if_pos (show (i:Int)<(E.length:Int) by omega),if_pos (show (0:Int)<=(i:Int) by omega),if_neg e,if_pos (show o.length<5864062014805 by omega),dU (show i<=1000000 by omega),j];rw[show Go.Proofs.YtffdiakgjakngaaGreat.P.dc (ai E i::E.drop (i+1))=ai E i::Go.Proofs.YtffdiakgjakngaaGreat.P.dc (E.drop (i+1)) from List.filter_cons_of_pos (by simp[e])];rw[List.append_assoc] at a;exact a
theorem Dg {N:Int} {E:List S83} (b:E.length<=1000) (e:cG N E=0):Ev (fun k=>dy.f k N E) (N,dc E,(0:Int)):=by
 unfold dy.f cK.f;have h:=ny N E b;rw[e] at h;refine Ev.bind (a:=(N,dc E,(0:Int))) (Ev.bind h ?_) (Ev.const _);simp only[if_true];have hm:∀x∈E,x.f2<=50:=fun x g=>by
  have:=(gJ e).2.2.ok x g;simp[bQ] at this;omega
 simpa using qB (N:=N) b hm E.length 0 [] (by omega) (by simp)
theorem vi {p q:Nat->Nat} (h:∀v,rootOf q v=rootOf p v):∀u,bN q u=bN p u
 |0=>rfl
 |u+1=>by rw[bN,bN,vi h u,h u]
theorem vj {p q:Nat->Nat} {M m:Nat} (g:rootOf p M=M) (hm:rootOf p m=m) (a:m≠M) (h:∀v,rootOf q v=if rootOf p v=M then m else rootOf p v):∀u,bN q u+(if M<u then 1 else 0)=bN p u
 |0=>rfl
 |u+1=>by
  have b:=vj g hm a h u;rw[bN,bN,h u];rcases Nat.lt_trichotomy u M with e|e|e
  ·have e2:rootOf p u≠M:=by have:=hZ p u;omega
   rw[if_neg (by omega)] at b;rw[if_neg e2,if_neg (show ¬M<u+1 by omega)];omega
  ·subst e
   rw[if_neg (Nat.lt_irrefl _)] at b;rw[g,if_pos rfl,if_neg a,if_pos (Nat.lt_succ_self _),if_pos rfl];omega
  ·rw[if_pos e] at b
   rw[if_pos (show M<u+1 by omega)];by_cases e2:rootOf p u=M
   ·have i:m≠u:=fun j=>a (by rw[<-hm,j,e2])
    rw[if_pos e2,if_neg i,e2,if_neg (show ¬M=u by omega)];omega
   ·rw[if_neg e2]
    omega
theorem Dh {n:Nat} (s:(Nat->Nat)×Nat) (x:Nat×Int×Int) (h1:x.2.1.toNat<n) (g:x.2.2.toNat<n):(eR s x).2+bN s.1 n=s.2+1+bN (eR s x).1 n:=by
 unfold eR;have a:=kX s.1 x.2.1.toNat x.2.2.toNat;have i:=kU s.1 x.2.1.toNat;have hb:=kU s.1 x.2.2.toNat;have j:=hZ s.1 x.2.1.toNat;have lb:=hZ s.1 x.2.2.toNat;by_cases e:rootOf s.1 x.2.1.toNat=rootOf s.1 x.2.2.toNat
 ·rw[if_pos e,vi (q:=dq s.1 x.2.1.toNat x.2.2.toNat) (p:=s.1) (fun v=>by
   rw[a v,e,Nat.max_self,Nat.min_self];split
   ·rename_i h;exact h.symm
   ·rfl) n]
 ·rw[if_neg e]
  have b:=vj (p:=s.1) (q:=dq s.1 x.2.1.toNat x.2.2.toNat) (M:=max (rootOf s.1 x.2.1.toNat) (rootOf s.1 x.2.2.toNat)) (m:=min (rootOf s.1 x.2.1.toNat) (rootOf s.1 x.2.2.toNat))
   (by rw[Nat.max_def];split<;>assumption) (by rw[Nat.min_def];split<;>assumption) (by omega) a n
  rw[if_pos (by omega)] at b;dsimp only;omega
theorem vk {n:Nat}:∀(xs:List (Nat×Int×Int)) (s:(Nat->Nat)×Nat),(∀x∈xs,x.2.1.toNat<n∧x.2.2.toNat<n)->(xs.foldl eR s).2+bN s.1 n=s.2+xs.length+bN (xs.foldl eR s).1 n
 |[],s,_=>by simp
 |x::xs,s,h=>by
  have h1:=Dh s x (h x (List.mem_cons_self ..)).1 (h x (List.mem_cons_self ..)).2;have b:=vk xs (eR s x) (fun y a=>h y (List.mem_cons_of_mem _ a));rw[List.foldl_cons,List.length_cons];omega
def mE (x:Nat×Int×Int):S83:=⟨x.2.1,x.2.2,1⟩
theorem vm:∀(xs:List (Nat×Int×Int)) (s:(Nat->Nat)×Nat),(xs.foldl eR s).1=(xs.map mE).foldl (fun p x=>dq p x.f0.toNat x.f1.toNat) s.1
 |[],s=>rfl
 |x::xs,s=>by rw[List.foldl_cons,List.map_cons,List.foldl_cons,vm xs (eR s x)];rfl
theorem vn:∀n,bN id n=n
 |0=>rfl
 |n+1=>by rw[bN,vn n,kV (by simp),if_pos rfl]
theorem vo {E:List S83} {y:Nat×Int×Int} (h:y∈bT E E.length):∃x∈E,y.2=(x.f0,x.f1):=by
 obtain⟨x,a,h1,b⟩:=pV E _ (Nat.le_refl _) y h;exact⟨x,a,Prod.ext h1 b⟩
theorem vp {E:List S83} {i:Nat} (hi:i<E.length) (hm:1<=(ai E i).f2):∀{k:Nat},i<k->∃y∈bT E k,y.2=((ai E i).f0,(ai E i).f1)
 |0,h=>by omega
 |k+1,h=>by
  by_cases e:i=k
  ·subst e
   obtain⟨j,a⟩:∃j,(ai E i).f2.toNat=j+1:=⟨(ai E i).f2.toNat-1,by omega⟩;refine⟨_,List.mem_append_right _ (by rw[a];exact List.mem_append_right _ (List.mem_singleton.2 rfl)),rfl⟩
  ·obtain⟨y,b,he⟩:=vp hi hm (k:=k) (by omega)
   exact⟨y,List.mem_append_left _ b,he⟩
theorem Di {n:Nat} {E:List S83} (e:bm n E) (h:e7 n E):e7 n ((bT E E.length).map mE):=fun S h1 g=>by
 obtain⟨x,a,j⟩:=h S h1 g;obtain⟨i,hi,rfl⟩:=List.getElem_of_mem a;have b:ai E i=E[i]:=by simp[ai,List.getD_eq_getElem?_getD,List.getElem?_eq_getElem hi]
 have k:=e.ok _ a;simp[bQ] at k;obtain⟨y,l,he⟩:=vp hi (by rw[b];omega) hi;rw[b] at he;refine⟨mE y,List.mem_map.2 ⟨y,l,rfl⟩,?_⟩;show S y.2.1.toNat≠S y.2.2.toNat
 rw[he];exact j
theorem Dj {n:Nat} {E:List S83} (hn:1<=n) (a:bm n E) (h:e7 n E):(bZ (bT E E.length)).2+n=(bT E E.length).length+1:=by
 have i:∀x∈bT E E.length,x.2.1.toNat<n∧x.2.2.toNat<n:=fun y b=>by
  obtain⟨x,e,he⟩:=vo b;have g:=a.ok x e;simp[bQ] at g;rw[he];show x.f0.toNat<n∧x.f1.toNat<n
  omega
 have j:=vk (n:=n) (bT E E.length) (id,0) i;have hf:=vm (bT E E.length) (id,0);have h1:bN (aJ ((bT E E.length).map mE)) n=1:=(sZ hn (fun z k=>by
  obtain⟨y,b,rfl⟩:=List.mem_map.1 k;obtain⟨x,e,he⟩:=vo b;have g:=a.ok x e;simp[bQ] at g;show 0<=y.2.1∧y.2.1<n∧0<=y.2.2∧y.2.2<n∧(1:Int)<=1∧(1:Int)<=50
  rw[he];show 0<=x.f0∧x.f0<n∧0<=x.f1∧x.f1<n∧(1:Int)<=1∧(1:Int)<=50
  omega)).2 (Di a h)
 rw[show ((bT E E.length).foldl eR (id,0)).1=aJ ((bT E E.length).map mE) from hf,h1,vn] at j;show ((bT E E.length).foldl eR (id,0)).2+n=_
 omega
theorem val_step_eq {n:Nat} {f:Nat->Nat->Int} {x:S83} (j:0<=x.f0∧x.f0<n) (h1:0<=x.f1∧x.f1<n) (a:x.f0≠x.f1) (b:f x.f0.toNat x.f1.toNat=0) (e:f x.f1.toNat x.f0.toNat=0) {u:Nat} (hu:u<n):
  T.val n (cH f x) u=T.val n f u+(T.one x.f1.toNat u*x.f2+T.one x.f0.toNat u*x.f2):=by
 unfold cH;rw[if_neg a];have g:x.f0.toNat<n:=by omega
 have hb:x.f1.toNat<n:=by omega
 have k:x.f0.toNat≠x.f1.toNat:=by omega
 unfold T.val;have i:T.one x.f1.toNat u*x.f2=T.sN (fun v=>(T.one x.f1.toNat u*x.f2)*T.one x.f0.toNat v) n:=by rw[T.eE,T.eY g,Int.mul_one]
 have e2:T.one x.f0.toNat u*x.f2=T.sN (fun v=>(T.one x.f0.toNat u*x.f2)*T.one x.f1.toNat v) n:=by rw[T.eE,T.eY hb,Int.mul_one]
 rw[i,e2,<-T.dn,<-T.dn];refine T.bC fun v l=>?_
 unfold T.one;dsimp only;by_cases c1:u=x.f1.toNat∧v=x.f0.toNat
 ·rw[if_pos c1,if_pos c1.1,if_pos c1.2,if_neg (show ¬u=x.f0.toNat by omega),c1.1,c1.2,e];omega
 ·rw[if_neg c1]
  by_cases c2:u=x.f0.toNat∧v=x.f1.toNat
  ·rw[if_pos c2,if_pos c2.1,if_pos c2.2,if_neg (show ¬u=x.f1.toNat by omega),c2.1,c2.2,b];omega
  ·rw[if_neg c2]
   by_cases c3:u=x.f1.toNat
   ·rw[if_pos c3,if_neg (fun h=>c1 ⟨c3,h⟩),if_neg (show ¬u=x.f0.toNat by omega)];omega
   ·rw[if_neg c3]
    by_cases c4:u=x.f0.toNat
    ·rw[if_pos c4,if_neg (fun h=>c2 ⟨c4,h⟩)];omega
    ·rw[if_neg c4];omega
theorem Dk {n:Nat} {f:Nat->Nat->Int} {x:S83} (b:0<=x.f0∧x.f0<n) (h1:0<=x.f1∧x.f1<n) (e:x.f0≠x.f1) (h:f x.f0.toNat x.f1.toNat=0) (i:f x.f1.toNat x.f0.toNat=0):
  T.sN (T.val n (cH f x)) n=T.sN (T.val n f) n+2*x.f2:=by
 have j:x.f0.toNat<n:=by omega
 have hb:x.f1.toNat<n:=by omega
 have a:=T.bC fun u hu=>val_step_eq b h1 e h i (u:=u) hu
 rw[T.dn,T.dn] at a;have k:T.sN (fun u=>T.one x.f1.toNat u*x.f2) n=x.f2:=by
  rw[T.bC (g:=fun u=>x.f2*T.one x.f1.toNat u) (fun u _=>Int.mul_comm _ _),T.eE,T.eY hb,Int.mul_one]
 have l:T.sN (fun u=>T.one x.f0.toNat u*x.f2) n=x.f2:=by
  rw[T.bC (g:=fun u=>x.f2*T.one x.f0.toNat u) (fun u _=>Int.mul_comm _ _),T.eE,T.eY j,Int.mul_one]
 rw[k,l] at a;omega
theorem vq {n:Nat}:∀(E:List S83) (f:Nat->Nat->Int),(∀x∈E,bQ n x=true∧x.f0<x.f1∧f x.f0.toNat x.f1.toNat=0∧f x.f1.toNat x.f0.toNat=0)->E.Pairwise gI->T.sN (T.val n (E.foldl cH f)) n=T.sN (T.val n f) n+2*fz E
 |[],f,_,_=>by simp[fz]
 |x::E,f,h,hp=>by
  obtain⟨e,g⟩:=List.pairwise_cons.1 hp;obtain⟨h1,r,i,j⟩:=h x (List.mem_cons_self ..);simp[bQ] at h1;have k:=Dk (n:=n) (f:=f) (x:=x) (by omega) (by omega) (by omega) i j;have l:=vq E (cH f x) (fun y a=>by
   obtain⟨b,m,o,p⟩:=h y (List.mem_cons_of_mem _ a);have hb:=e y a;unfold gI at hb;have q:=b;simp[bQ] at q;unfold cH;rw[if_neg (show ¬x.f0=x.f1 by omega)];refine⟨b,m,?_,?_⟩
   ·show (if _ then _ else _)=_
    rw[if_neg (by omega),if_neg (by omega)];exact o
   ·show (if _ then _ else _)=_
    rw[if_neg (by omega),if_neg (by omega)];exact p) g
  rw[List.foldl_cons,l,k,fz];omega
theorem Dl {n:Nat} {E:List S83} (h:bm n E) (b:∀x∈E,x.f0≠x.f1):T.sN (T.val n (aj E)) n=2*(cA E E.length:Nat):=by
 have h1:=vq (n:=n) E (fun _ _=>0) (fun x a=>⟨h.ok x a,by have:=h.le x a;have:=b x a;omega,rfl,rfl⟩) h.order;have g:T.sN (T.val n fun _ _=>0) n=0:=T.ga fun u _=>T.iZ n
 have e:=qw h E.length (Nat.le_refl _);rw[List.take_length] at e;unfold aj;omega
theorem Dm {n:Nat} {E:List S83} (hn:1<=n) (m:n<=12) (o:E.length<=40) (e:cG n E=0) (hC:e7 n E):
  ∃g:Nat,Ev (fun k=>dx.f k n (dc E)) ((g:Int),(0:Int))∧T.ee n (aj E) g:=by
 have a:=(gJ e).2.2.dc;have p:(dc E).length<=E.length:=List.length_filter_le _ _;have i:=Dj hn a hC.dc;refine⟨(bZ (bT (dc E) (dc E).length)).2,?_,?_⟩
 ·unfold dx.f
  have h:=ny n (dc E) (by omega);rw[Df (by omega) (by omega) a] at h;refine Ev.bind h ?_;have j:mD n (dc E)=true:=by
   unfold mD eF;rw[a.cT,decide_eq_true (by omega),decide_eq_true (show (dc E).length<=40 by omega)];simp only[Bool.true_and,Bool.and_true];refine List.all_eq_true.2 fun x b=>?_
   have:=a.ok x b;simp[bQ] at this;exact decide_eq_true (by omega)
  simp only[if_true,if_pos j];exact Ev.const _
 ·have h1:=Dl a (fun x b=>(om.1 b).2)
  rw[De] at h1;show T.sN (T.can n (aj E)) n=_
  have l:T.sN (T.can n (aj E)) n=T.sN (T.val n (aj E)) n-2*n:=by
   show T.sN (fun v=>T.val n (aj E) v-2) n=_
   rw[T.c_,T.iH];omega
  rw[nN] at i;rw[l,h1];omega
def cP.l0:Nat->List Int->Int->Int->Int->List (S83)->Option (Int)
 |0,_,_,_,_,_=>none
 |k+1,b,e,a,g,h=>if a<e then(if 0<=a then(if a<(b.length:Int) then((fh.f g (rd b a)).bind fun t222=>(if t222=true then(cP.l0 k b e (wrap64 (a+1)) g h) else(some 2))) else(none)) else(none)) else(some 0)
def cP.f (k:Nat) (a:Int) (b:List (S83)) (l1:List Int):Option (Int):=(aY.f k a b).bind fun t220=>(if t220=0 then(cP.l0 k l1 (l1.length:Int) 0 a b) else(some t220))
theorem cP.bW:∀k,(∀a b e g i,ae (cP.l0 k a b e g i) (cP.l0 (k+1) a b e g i))
 |0=>fun _ _ _ _ _ r h=>by simp[cP.l0] at h
 |k+1=>by
  have j:=cP.bW k
  ·intro a b e g i
   unfold cP.l0;repeat' first
   |(with_reducible exact j _ _ _ _ _)
   |(with_reducible exact aY.mono _ _ _)
   |(with_reducible exact ae.refl _)
   |(with_reducible exact ae.none _)
   |(with_reducible refine ae.ite ?_ ?_)
   |(with_reducible refine ae.bind ?_ (fun _=>?_))
   |exact j _ _ _ _ _
   |exact aY.mono _ _ _
   |exact ae.none _
   |refine ae.ite ?_ ?_
   |refine ae.bind ?_ (fun _=>?_)
theorem cP.mono:∀a0 a a2 k,ae (cP.f k a0 a a2) (cP.f (k+1) a0 a a2):=by
 intro a0 a a2 k;have b:=cP.bW k;unfold cP.f;repeat' first
   |(with_reducible exact b _ _ _ _ _)
   |(with_reducible exact aY.mono _ _ _)
   |(with_reducible exact ae.refl _)
   |(with_reducible exact ae.none _)
   |(with_reducible refine ae.ite ?_ ?_)
   |(with_reducible refine ae.bind ?_ (fun _=>?_))
   |exact b _ _ _ _ _
   |exact aY.mono _ _ _
   |exact ae.none _
   |refine ae.ite ?_ ?_
   |refine ae.bind ?_ (fun _=>?_)
theorem cP.calls (k:Nat) (g:Int) (l:Option Addr) (m:Nat) (i:List (S83)) (E:Option Addr) (c1:Nat) (l1:List Int) (r:Int) (w:World) (F:Kd.C aK w l i.length i) (G:i.length<=m) (I:Kd.C (Kd.int .i64) w E l1.length l1) (J:l1.length<=c1) (h:cP.f k g i l1=some r):
  Calls Tryz.prog 203 #[.agg #[.int .i64 g,.slice l i.length m],.slice E l1.length c1] w fun e w'=>e= .returned (.int .i64 r)∧Below w.heap.size w w':=by
 have an:=Tryz.underlying24;have K:=Aside0.mk F;have L:=Aside0.mk G;clear F G;have M:=Aside0.mk I;have ap:=Aside0.mk J;clear I J;have b:=Aside0.mk (Below.refl w.heap.size w);unfold cP.f at h;have H:=h;clear h;obtain⟨t220,O,H⟩:=zo H;by_cases c4:t220=0
 ·rw[if_pos c4] at H
  obtain⟨P,Q⟩:=bt c4;clear c4;have v:=Aside0.mk H;clear H;go_enter Tryz.func203,Tryz.ntmps203
  go_wp2_with (first|((with_reducible refine aH (N:=2) rfl ?_);refine zX 2 #[.int .i64 g,.slice l i.length m] 24 ?_;intro R n w5 u hb;have j:=Aside0.mk (u);have V:=zG b n;have W:=zG b n;replace b:=zS b hb;clear hb u n;obtain⟨X,Y,Z,aa⟩:=au j)|((with_reducible refine ax (f:=64) rfl ?_);refine zL (some 9) Tryz.func64 #[.agg #[.int .i64 g,.slice l i.length m]] ?_;(with_reducible refine(aY.calls k g _ _ i t220 _ ?af ?ah O.out).mono ?_);(case af=>exact Kd.al K.out zB);(case ah=>exact L.out);rintro e w7 ⟨rfl,hb⟩;refine⟨_,rfl,?_⟩;replace j:=zb j hb;replace b:=zS b hb;(try clear hb)))
  go_loopg [15] k (fun S ab w'=>∃(a:Int),ab= .int .i64 a∧Aside0 (cP.l0 S l1 (l1.length:Int) a g i=some r)∧Aside0 (S<=k)∧Aside0 (w'.heap[R]? =some (.cells #[.int .i64 g,(.slice l i.length m)] 24 (0,0)))∧Aside0 (Below w.heap.size w w'))
  case atStart=>exact⟨(0),zT,v,⟨Nat.le_refl _⟩,⟨zK j⟩,⟨zB⟩⟩
  case round=>
   clear v;try clear c1
   try clear c2
   try clear p2
   try clear c4
   try clear P
   try clear Q
   try clear c6
   try clear X
   try clear Y
   try clear Z
   try clear aa
   obtain⟨a,rfl,B,T,j,b⟩:=hrel;cases gk with
   |zero=>exact absurd B.out (by simp[cP.l0])
   |succ k1=>
    have H:=B.out;clear B;simp only[cP.l0] at H;by_cases s:a<(l1.length:Int)
    ·rw[if_pos s] at H
     have ag:=decide_eq_true s;clear s;by_cases x:0<=a
     ·rw[if_pos x] at H
      have aL:=decide_eq_true x;clear x;by_cases y:a<(l1.length:Int)
      ·rw[if_pos y] at H
       have aO:=decide_eq_true y;clear y;obtain⟨t222,U,H⟩:=zo H;by_cases z:t222=true
       ·subst z
        replace H:=zi H;have v:=Aside0.mk H;clear H;have o:0<=(a:Int):=of_decide_eq_true ‹_›;have p:a<(l1.length:Int):=of_decide_eq_true ‹_›;obtain⟨ak,D,q⟩:=Kd.bG M.out a o p;cases D;replace q:=(b.out.cell (World.block_lt_of_cell? w _ q)).trans q;replace o:=eq_true o;replace p:=eq_true p;obtain⟨aP,aS,a0,a1⟩:=au j;go_wp2_with (first|((with_reducible refine ax (f:=121) rfl ?_);refine zL (some 22) Tryz.func121 #[.int .i64 g,.int .i64 (rd l1 a)] ?_;(with_reducible refine(fh.calls g (rd l1 a) true _ U.out).mono ?_);rintro e w' ⟨rfl,⟨nd,rfl⟩⟩;refine⟨_,rfl,?_⟩))
        go_roundg k1
        case measure=>have:=T.out;omega
        case rel=>exact⟨(wrap64 (a+1)),zT,v,⟨by have:=T.out;omega⟩,⟨zK j⟩,⟨zB⟩⟩
       ·replace z:=Bool.eq_false_iff.mpr z
        subst z;replace H:=zj H;obtain rfl:=Option.some.inj H;have o:0<=(a:Int):=of_decide_eq_true ‹_›;have p:a<(l1.length:Int):=of_decide_eq_true ‹_›;obtain⟨ak,D,q⟩:=Kd.bG M.out a o p;cases D;replace q:=(b.out.cell (World.block_lt_of_cell? w _ q)).trans q;replace o:=eq_true o;replace p:=eq_true p;obtain⟨a2,a3,a4,a5⟩:=au j;go_wp2_with (first|((with_reducible refine ax (f:=121) rfl ?_);refine zL (some 22) Tryz.func121 #[.int .i64 g,.int .i64 (rd l1 a)] ?_;(with_reducible refine(fh.calls g (rd l1 a) false _ U.out).mono ?_);rintro e w' ⟨rfl,⟨nd,rfl⟩⟩;refine⟨_,rfl,?_⟩))
        go_ret;exact⟨zE,zB⟩
      ·rw[if_neg y] at H
       exact absurd H (by simp)
     ·rw[if_neg x] at H
      exact absurd H (by simp)
    ·rw[if_neg s] at H
     have ag:=decide_eq_false s;clear s;obtain rfl:=Option.some.inj H;go_wp2;go_ret;exact⟨zE,zB⟩
 ·rw[if_neg c4] at H
  obtain⟨P,Q⟩:=bu c4;obtain rfl:=Option.some.inj H;go_enter Tryz.func203,Tryz.ntmps203
  go_wp2_with (first|((with_reducible refine aH (N:=2) rfl ?_);refine zX 2 #[.int .i64 g,.slice l i.length m] 24 ?_;intro R n a9 u hb;have j:=Aside0.mk (u);have V:=zG b n;have W:=zG b n;replace b:=zS b hb;clear hb u n;obtain⟨be,bf,bg,bi⟩:=au j)|((with_reducible refine ax (f:=64) rfl ?_);refine zL (some 9) Tryz.func64 #[.agg #[.int .i64 g,.slice l i.length m]] ?_;(with_reducible refine(aY.calls k g _ _ i t220 _ ?af ?ah O.out).mono ?_);(case af=>exact Kd.al K.out zB);(case ah=>exact L.out);rintro e bk ⟨rfl,hb⟩;refine⟨_,rfl,?_⟩;replace j:=zb j hb;replace b:=zS b hb;(try clear hb)))
  go_ret;exact⟨zE,zB⟩
def b9.l0:Nat->Int->Int->List (S83)->Int->Int->Option (Int×Int)
 |0,_,_,_,_,_=>none
 |k+1,x1,e,b,g,a=>if a<g then(if 0<=a then(if a<(b.length:Int) then(if((ai b a).f0)=((ai b a).f1) then(b9.l0 k x1 e b g (wrap64 (a+1))) else(if((ai b a).f0)=x1 then(b9.l0 k x1 (wrap64 (e+((ai b a).f2))) b g (wrap64 (a+1))) else(if((ai b a).f1)=x1 then(b9.l0 k x1 (wrap64 (e+((ai b a).f2))) b g (wrap64 (a+1))) else(b9.l0 k x1 e b g (wrap64 (a+1)))))) else(none)) else(none)) else(some (e,0))
def b9.f (k:Nat) (e:Int) (a:List (S83)) (b:Int):Option (Int×Int):=(cP.f k e a (([b]:List Int))).bind fun t227=>(if t227=0 then(b9.l0 k b 0 a (a.length:Int) 0) else(some (0,t227)))
theorem b9.bW:∀k,(∀a b e g i,ae (b9.l0 k a b e g i) (b9.l0 (k+1) a b e g i))
 |0=>fun _ _ _ _ _ r h=>by simp[b9.l0] at h
 |k+1=>by
  have j:=b9.bW k
  ·intro a b e g i
   unfold b9.l0;repeat' first
   |(with_reducible exact j _ _ _ _ _)
   |(with_reducible exact cP.mono _ _ _ _)
   |(with_reducible exact ae.refl _)
   |(with_reducible exact ae.none _)
   |(with_reducible refine ae.ite ?_ ?_)
   |(with_reducible refine ae.bind ?_ (fun _=>?_))
   |exact j _ _ _ _ _
   |exact cP.mono _ _ _ _
   |exact ae.none _
   |refine ae.ite ?_ ?_
   |refine ae.bind ?_ (fun _=>?_)
theorem b9.mono:∀a0 a a2 k,ae (b9.f k a0 a a2) (b9.f (k+1) a0 a a2):=by
 intro a0 a a2 k;have b:=b9.bW k;unfold b9.f;repeat' first
   |(with_reducible exact b _ _ _ _ _)
   |(with_reducible exact cP.mono _ _ _ _)
   |(with_reducible exact ae.refl _)
   |(with_reducible exact ae.none _)
   |(with_reducible refine ae.ite ?_ ?_)
   |(with_reducible refine ae.bind ?_ (fun _=>?_))
   |exact b _ _ _ _ _
   |exact cP.mono _ _ _ _
   |exact ae.none _
   |refine ae.ite ?_ ?_
   |refine ae.bind ?_ (fun _=>?_)
theorem b9.calls (k:Nat) (n:Int) (I:Option Addr) (r:Nat) (b:List (S83)) (s:Int) (Y:Int) (Z:Int) (w:World) (aF:Kd.C aK w I b.length b) (aL:b.length<=r) (h:b9.f k n b s=some (Y,Z)):
  Calls Tryz.prog 186 #[.agg #[.int .i64 n,.slice I b.length r],.int .i64 s] w fun e w'=>e= .returned (.tuple #[.int .i64 Y,.int .i64 Z])∧Below w.heap.size w w':=by
 have cd:=Tryz.underlying24;have ce:=Tryz.underlying83;have P:=Aside0.mk aF;have aO:=Aside0.mk aL;clear aF aL;have a:=Aside0.mk (Below.refl w.heap.size w);unfold b9.f at h;have H:=h;clear h;obtain⟨R,S⟩:∃y_:List Int,y_=(([s]:List Int)):=⟨_,rfl⟩;replace H:((cP.f k n b R).bind fun t227=>(if t227=0 then(b9.l0 k s 0 b (b.length:Int) 0) else(some (0,t227))))=some (Y,Z):=by first|(rw[S];with_reducible exact H)|(have ak:=(Option.bind_some _ _).symm.trans H;rw[S];with_reducible exact ak)|(have ak:=(Option.bind_some _ _).symm.trans H;with_reducible exact ak)|with_reducible exact H|(rw[S];exact H)|exact H
 have aa:=Aside0.mk S;clear S;obtain⟨t227,A3,H⟩:=zo H;by_cases c4:t227=0
 ·rw[if_pos c4] at H
  obtain⟨aS,a0⟩:=bt c4;clear c4;have F:=Aside0.mk H;clear H;go_enter Tryz.func186,Tryz.ntmps186
  go_wp2_with (first|((with_reducible refine aH (N:=2) rfl ?_);refine zX 2 #[.int .i64 n,.slice I b.length r] 24 ?_;intro p i w5 q hb;have j:=Aside0.mk (q);have a4:=zG a i;have a5:=zG a i;replace a:=zS a hb;clear hb q i;obtain⟨a9,be,bf,bg⟩:=au j)|((with_reducible refine aH (N:=12) rfl ?_);refine Kd.eL (Kd.int .i64) _ 3 ?i (N:=12) ?hd (xs:=([s]:List Int)) (inner:=[.int .i64 s]) (ok:=fun _=>True) (okp:=fun _=>True) ?hr ?hp (fun _ hk=>hk) trivial (Below.refl _ _) (Nat.le_refl _) (by simp) ?_;(case hd=>rfl);(case i=>rfl);(case hr=>first|(go_simp;done)|(go_simp;rfl));(case hp=>exact(aM.one (show Kd.M (Kd.int .i64) _ _ _ s [.int .i64 s] from rfl) (aM.none _ _)));intro bi w7 T hb an ap;clear an ap;(first|rw[<-aa.out] at T|(simp only[Int.reduceToNat] at T;rw[<-aa.out] at T));have B:=Aside0.mk (Kd.aW T (a_ zB));replace j:=zb j hb;replace a:=zS a hb;clear hb T;obtain⟨bk,bn,bo⟩:=Kd.aZ B.out;subst bo)|((with_reducible refine ax (f:=203) rfl ?_);refine zL (some 13) Tryz.func203 #[.agg #[.int .i64 n,.slice I b.length r],.slice bk R.length bn] ?_;(with_reducible refine(cP.calls k n _ _ b _ _ R t227 _ ?af ?ah ?aD ?aE A3.out).mono ?_);(case af=>exact Kd.al P.out zB);(case ah=>exact aO.out);(case aD=>exact zC (Kd.aA B.out).2.2);(case aE=>exact(Kd.aA B.out).2.1);rintro e ci ⟨rfl,hb⟩;refine⟨_,rfl,?_⟩;replace B:=aR B hb;replace j:=zb j hb;replace a:=zS a hb;(try clear hb);obtain⟨bv,bw,bx,b0⟩:=au j))
  go_loopg [7,20] k (fun kq v7 v20 w'=>∃(J:Int) (l:Int),v7= .int .i64 J∧v20= .int .i64 l∧Aside0 (b9.l0 kq s J b (b.length:Int) l=some (Y,Z))∧Aside0 (kq<=k)∧Aside0 (w'.heap[p]? =some (.cells #[.int .i64 n,(.slice I b.length r)] 24 (0,0)))∧Aside0 (Below w.heap.size w w'))
  case atStart=>exact⟨(0),(0),zT,zT,F,⟨Nat.le_refl _⟩,⟨zK j⟩,⟨zB⟩⟩
  case round=>
   clear F;try clear c1
   try clear c2
   try clear p2
   try clear c4
   try clear aS
   try clear a0
   try clear bv
   try clear bw
   try clear a9
   try clear be
   try clear bx
   try clear b0
   try clear bf
   try clear bg
   obtain⟨J,l,rfl,rfl,HA,G,j,a⟩:=hrel;cases gk with
   |zero=>exact absurd HA.out (by simp[b9.l0])
   |succ k1=>
    have H:=HA.out;clear HA;simp only[b9.l0] at H;by_cases Q:l<(b.length:Int)
    ·rw[if_pos Q] at H
     have b2:=decide_eq_true Q;clear Q;by_cases ad:0<=l
     ·rw[if_pos ad] at H
      have ck:=decide_eq_true ad;clear ad;by_cases ag:l<(b.length:Int)
      ·rw[if_pos ag] at H
       have cl:=decide_eq_true ag;clear ag;by_cases U:((ai b l).f0)=((ai b l).f1)
       ·rw[if_pos U] at H
        obtain⟨b3,b4⟩:=bt U;clear U;have F:=Aside0.mk H;clear H;have u:0<=(l:Int):=of_decide_eq_true ‹_›;have v:l<(b.length:Int):=of_decide_eq_true ‹_›;obtain⟨D,K,x,y,z⟩:=eo P.out l u v;cases K;replace x:=(a.out.cell (World.block_lt_of_cell? w _ x)).trans x;replace y:=(a.out.cell (World.block_lt_of_cell? w _ y)).trans y;replace z:=(a.out.cell (World.block_lt_of_cell? w _ z)).trans z;replace u:=eq_true u;replace v:=eq_true v;go_wp2_with (first|((with_reducible refine aH (N:=9) rfl ?_);refine zX 9 #[.int .i64 0,.int .i64 0,.int .i64 0] 83 ?_;intro E i co q hb;have L:=Aside0.mk (q);have av:=zG a i;have aB:=zG a i;replace a:=zS a hb;have m:=Aside0.mk ((by rw[i];exact Nat.ne_of_lt (ay (g:=p) (o:=.cells #[.int .i64 n,.slice (some D) b.length r] 24 (0,0)) (zK j)):p≠E));have O:=Aside0.mk ((by rw[i];exact Nat.ne_of_gt (ay (g:=p) (o:=.cells #[.int .i64 n,.slice (some D) b.length r] 24 (0,0)) (zK j)):E≠p));replace j:=zb j hb;clear hb q i;have cq:=O.out;have cr:=m.out;obtain⟨cs,cv,cx,c0,c3,c5⟩:=bV L))
        go_roundg k1
        case measure=>have:=G.out;omega
        case rel=>exact⟨(J),(wrap64 (l+1)),zT,zT,F,⟨by have:=G.out;omega⟩,⟨by refine zk ?_;refine aC ?_ m.out _;refine zk ?_;refine aC ?_ m.out _;refine zk ?_;refine aC ?_ m.out _;exact zK j⟩,⟨zB⟩⟩
       ·rw[if_neg U] at H
        obtain⟨b3,b4⟩:=bu U;by_cases V:((ai b l).f0)=s
        ·rw[if_pos V] at H
         obtain⟨b5,b6⟩:=bt V;clear V;have F:=Aside0.mk H;clear H;have u:0<=(l:Int):=of_decide_eq_true ‹_›;have v:l<(b.length:Int):=of_decide_eq_true ‹_›;obtain⟨D,K,x,y,z⟩:=eo P.out l u v;cases K;replace x:=(a.out.cell (World.block_lt_of_cell? w _ x)).trans x;replace y:=(a.out.cell (World.block_lt_of_cell? w _ y)).trans y;replace z:=(a.out.cell (World.block_lt_of_cell? w _ z)).trans z;replace u:=eq_true u;replace v:=eq_true v;go_wp2_with (first|((with_reducible refine aH (N:=9) rfl ?_);refine zX 9 #[.int .i64 0,.int .i64 0,.int .i64 0] 83 ?_;intro E i c6 q hb;have L:=Aside0.mk (q);have av:=zG a i;have aB:=zG a i;replace a:=zS a hb;have m:=Aside0.mk ((by rw[i];exact Nat.ne_of_lt (ay (g:=p) (o:=.cells #[.int .i64 n,.slice (some D) b.length r] 24 (0,0)) (zK j)):p≠E));have O:=Aside0.mk ((by rw[i];exact Nat.ne_of_gt (ay (g:=p) (o:=.cells #[.int .i64 n,.slice (some D) b.length r] 24 (0,0)) (zK j)):E≠p));replace j:=zb j hb;clear hb q i;have c7:=O.out;have c8:=m.out;obtain⟨c9,c',dd,dk,dl,ds⟩:=bV L))
         go_roundg k1
         case measure=>have:=G.out;omega
         case rel=>exact⟨(wrap64 (J+((ai b l).f2))),(wrap64 (l+1)),zT,zT,F,⟨by have:=G.out;omega⟩,⟨by refine zk ?_;refine aC ?_ m.out _;refine zk ?_;refine aC ?_ m.out _;refine zk ?_;refine aC ?_ m.out _;exact zK j⟩,⟨zB⟩⟩
        ·rw[if_neg V] at H
         obtain⟨b5,b6⟩:=bu V;by_cases W:((ai b l).f1)=s
         ·rw[if_pos W] at H
          obtain⟨b_,b'⟩:=bt W;clear W;have F:=Aside0.mk H;clear H;have u:0<=(l:Int):=of_decide_eq_true ‹_›;have v:l<(b.length:Int):=of_decide_eq_true ‹_›;obtain⟨D,K,x,y,z⟩:=eo P.out l u v;cases K;replace x:=(a.out.cell (World.block_lt_of_cell? w _ x)).trans x;replace y:=(a.out.cell (World.block_lt_of_cell? w _ y)).trans y;replace z:=(a.out.cell (World.block_lt_of_cell? w _ z)).trans z;replace u:=eq_true u;replace v:=eq_true v;go_wp2_with (first|((with_reducible refine aH (N:=9) rfl ?_);refine zX 9 #[.int .i64 0,.int .i64 0,.int .i64 0] 83 ?_;intro E i dv q hb;have L:=Aside0.mk (q);have av:=zG a i;have aB:=zG a i;replace a:=zS a hb;have m:=Aside0.mk ((by rw[i];exact Nat.ne_of_lt (ay (g:=p) (o:=.cells #[.int .i64 n,.slice (some D) b.length r] 24 (0,0)) (zK j)):p≠E));have O:=Aside0.mk ((by rw[i];exact Nat.ne_of_gt (ay (g:=p) (o:=.cells #[.int .i64 n,.slice (some D) b.length r] 24 (0,0)) (zK j)):E≠p));replace j:=zb j hb;clear hb q i;have d0:=O.out;have d1:=m.out;obtain⟨d2,d3,d4,d5,d6,d7⟩:=bV L))
          go_roundg k1
          case measure=>have:=G.out;omega
          case rel=>exact⟨(wrap64 (J+((ai b l).f2))),(wrap64 (l+1)),zT,zT,F,⟨by have:=G.out;omega⟩,⟨by refine zk ?_;refine aC ?_ m.out _;refine zk ?_;refine aC ?_ m.out _;refine zk ?_;refine aC ?_ m.out _;exact zK j⟩,⟨zB⟩⟩
         ·rw[if_neg W] at H
          obtain⟨b_,b'⟩:=bu W;have F:=Aside0.mk H;clear H;have u:0<=(l:Int):=of_decide_eq_true ‹_›;have v:l<(b.length:Int):=of_decide_eq_true ‹_›;obtain⟨D,K,x,y,z⟩:=eo P.out l u v;cases K;replace x:=(a.out.cell (World.block_lt_of_cell? w _ x)).trans x;replace y:=(a.out.cell (World.block_lt_of_cell? w _ y)).trans y;replace z:=(a.out.cell (World.block_lt_of_cell? w _ z)).trans z;replace u:=eq_true u;replace v:=eq_true v;go_wp2_with (first|((with_reducible refine aH (N:=9) rfl ?_);refine zX 9 #[.int .i64 0,.int .i64 0,.int .i64 0] 83 ?_;intro E i d8 q hb;have L:=Aside0.mk (q);have av:=zG a i;have aB:=zG a i;replace a:=zS a hb;have m:=Aside0.mk ((by rw[i];exact Nat.ne_of_lt (ay (g:=p) (o:=.cells #[.int .i64 n,.slice (some D) b.length r] 24 (0,0)) (zK j)):p≠E));have O:=Aside0.mk ((by rw[i];exact Nat.ne_of_gt (ay (g:=p) (o:=.cells #[.int .i64 n,.slice (some D) b.length r] 24 (0,0)) (zK j)):E≠p));replace j:=zb j hb;clear hb q i;have d9:=O.out;have ea:=m.out;obtain⟨eb,ed,eg,ek,el,em⟩:=bV L))
          go_roundg k1
          case measure=>have:=G.out;omega
          case rel=>exact⟨(J),(wrap64 (l+1)),zT,zT,F,⟨by have:=G.out;omega⟩,⟨by refine zk ?_;refine aC ?_ m.out _;refine zk ?_;refine aC ?_ m.out _;refine zk ?_;refine aC ?_ m.out _;exact zK j⟩,⟨zB⟩⟩
      ·rw[if_neg ag] at H
       exact absurd H (by simp)
     ·rw[if_neg ad] at H
      exact absurd H (by simp)
    ·rw[if_neg Q] at H
     have b2:=decide_eq_false Q;clear Q;simp only[Option.some.injEq,Prod.mk.injEq] at H;obtain⟨rfl,rfl⟩:=H;go_wp2;go_ret2;exact⟨zE,zB⟩
 ·rw[if_neg c4] at H
  obtain⟨aS,a0⟩:=bu c4;simp only[Option.some.injEq,Prod.mk.injEq] at H;obtain⟨rfl,rfl⟩:=H;go_enter Tryz.func186,Tryz.ntmps186
  go_wp2_with (first|((with_reducible refine aH (N:=2) rfl ?_);refine zX 2 #[.int .i64 n,.slice I b.length r] 24 ?_;intro p i er q hb;have j:=Aside0.mk (q);have a4:=zG a i;have a5:=zG a i;replace a:=zS a hb;clear hb q i;obtain⟨es,ev,ew,ex⟩:=au j)|((with_reducible refine aH (N:=12) rfl ?_);refine Kd.eL (Kd.int .i64) _ 3 ?i (N:=12) ?hd (xs:=([s]:List Int)) (inner:=[.int .i64 s]) (ok:=fun _=>True) (okp:=fun _=>True) ?hr ?hp (fun _ hk=>hk) trivial (Below.refl _ _) (Nat.le_refl _) (by simp) ?_;(case hd=>rfl);(case i=>rfl);(case hr=>first|(go_simp;done)|(go_simp;rfl));(case hp=>exact(aM.one (show Kd.M (Kd.int .i64) _ _ _ s [.int .i64 s] from rfl) (aM.none _ _)));intro bi ey X hb an ap;clear an ap;(first|rw[<-aa.out] at X|(simp only[Int.reduceToNat] at X;rw[<-aa.out] at X));have B:=Aside0.mk (Kd.aW X (a_ zB));replace j:=zb j hb;replace a:=zS a hb;clear hb X;obtain⟨ca,cb,cc⟩:=Kd.aZ B.out;subst cc)|((with_reducible refine ax (f:=203) rfl ?_);refine zL (some 13) Tryz.func203 #[.agg #[.int .i64 n,.slice I b.length r],.slice ca R.length cb] ?_;(with_reducible refine(cP.calls k n _ _ b _ _ R t227 _ ?af ?ah ?aD ?aE A3.out).mono ?_);(case af=>exact Kd.al P.out zB);(case ah=>exact aO.out);(case aD=>exact zC (Kd.aA B.out).2.2);(case aE=>exact(Kd.aA B.out).2.1);rintro e e0 ⟨rfl,hb⟩;refine⟨_,rfl,?_⟩;replace B:=aR B hb;replace j:=zb j hb;replace a:=zS a hb;(try clear hb)))
  go_ret2;exact⟨zE,zB⟩
end Go.Proofs.YtffdiakgjakngaaGreat.P

