/- Balances answers true whatever the input (text 5 of 8): own walks and plain laws; no conditions. -/
import Derived.BigQuiet
import Derived.Deep.QuietTactic
import Derived.Deep.RegionLaw
import Derived.DeepKeys3
import Derived.Laws.CopyOwn
import Derived.Laws.CopyRow
import Derived.Maps.Keyed
import Derived.Maps.Own
import Derived.StillTailTactics
import Derived.Test.YtffdiakgjakngaaGreatBalances4
namespace Go.Proofs.YtffdiakgjakngaaGreat.P
open Go.RowKit Go.Proofs.YtffdiakgjakngaaGreatW.PrintWords Go.Proofs.YtffdiakgjakngaaGreatW.PrintLast Go.Proofs.YtffdiakgjakngaaGreatW.PrintMore
set_option linter.unusedVariables false
set_option linter.unusedSimpArgs false
set_option maxHeartbeats 8000000
set_option maxRecDepth 100000
section
attribute [local go_sem] Oper.semAt_some jR jS jT jU
theorem Eo (l f:Nat):(Fence.wide.inRound l).fn f=True:=rfl
attribute [local simp] Eo
def fK (s:(Nat->Nat)×Nat) (x:Nat×Int×Int):(Nat->Nat)×Nat:=(dT s.1 x.2.1.toNat x.2.2.toNat,if rootOf s.1 x.2.1.toNat=rootOf s.1 x.2.2.toNat then s.2+1 else s.2)
def cB (xs:List (Nat×Int×Int)):(Nat->Nat)×Nat:=xs.foldl fK (id,0)
theorem Ep (xs:List (Nat×Int×Int)) (x:Nat×Int×Int):cB (xs++[x])=fK (cB xs) x:=by simp[cB,List.foldl_append]
theorem wE (xs:List (Nat×Int×Int)):iH (cB xs).1/\(cB xs).2<=xs.length:=by
 have:∀(xs:List (Nat×Int×Int)) (s:(Nat->Nat)×Nat),iH s.1->iH (xs.foldl fK s).1/\(xs.foldl fK s).2<=s.2+xs.length:=by
  intro xs;induction xs with
  |nil=>intro s h;exact⟨h,by simp⟩
  |cons x xs a=>
   intro s h;obtain⟨h1,b⟩:=a (fK s x) (ub h _ _);refine⟨h1,Nat.le_trans b ?_⟩;have:(fK s x).2<=s.2+1:=by unfold fK;dsimp only;split<;>omega
   simp only[List.length_cons];omega
 have:=this xs (id,0) (fun i=>aI _);exact⟨this.1,by simpa [cB] using this.2⟩
theorem Er (k:Nat) (N:Int) (A0:Option Addr) (c0:Nat) (E:List S83) (t:Int) (w:World) (g:Kd.C aW w A0 E.length E) (h:E.length<=c0) (a:bp.f k N E=some t) (b:t≠0):
  Calls Tryz.prog 31 #[.agg #[.int .i64 N,.slice A0 E.length c0]] w fun e w'=>e= .returned (.tuple #[.int .i64 0,.int .i64 t])/\Below w.heap.size w w':=by
 have hu:=Tryz.underlying24;have i:=zA a;have l:(t != 0)=true:=by simpa using b
 clear a b;go_enter Tryz.func31,Tryz.ntmps31
 go_wp2_with (go_at_call 64;refine(bp.calls k N A0 c0 E t _ (Kd.bz g _) h i.out).mono ?_;rintro e w1 ⟨rfl,hb⟩;have j:=zA (a7 (au (ao w.heap.size w) _) hb);clear hb)
 go_ret2;exact⟨rfl,j.out⟩
theorem Es (k n:Nat) (A0:Option Addr) (c0:Nat) (E:List S83) (w:World) (bk:Kd.C aW w A0 E.length E) (c3:E.length<=c0) (r:bp.f k n E=some 0) (hE:fh E=true) (aa:eH n E) (hn:n<=12):
  Calls Tryz.prog 31 #[.agg #[.int .i64 n,.slice A0 E.length c0]] w fun e w'=>e= .returned (.tuple #[.int .i64 (cB (cn E E.length)).2,.int .i64 0])/\Below w.heap.size w w':=by
 have hu:=Tryz.underlying24;have Ht:=zA r;have HE:=zA hE;have HI:=zA aa;clear r hE aa;refine(callsIn_wide (n:=10)).1 ?_;refine callsIn_of_wp_marks Tryz.func31 rfl trivial ?_ rfl;simp only[Tryz.ntmps31,List.size_toArray,List.length_cons,List.length_nil,Nat.reduceAdd,Nat.reduceSub,Array.replicate_succ,Array.replicate_zero,List.push_toArray,List.append_toArray,List.nil_append,List.cons_append];gi_wp2_with (refine⟨trivial,?_⟩;gi_at_call 64;refine(callsIn_wide.2 (bp.calls k n A0 c0 E 0 _ (Kd.bz bk _) c3 Ht.out)).mono ?_;rintro e w1 ⟨rfl,hb⟩;have G:=zA (aM (bs w (.cells #[.int .i64 n,.slice A0 E.length c0] 24)) hb);have J:=zA (a7 (au (ao w.heap.size w) _) hb);clear hb)
 have ab:Aside0 (eI (w1.alloc (.cells #[.int .i64 0,.int .i64 0,.int .i64 0,.int .i64 0,.int .i64 0,.int .i64 0,.int .i64 0,.int .i64 0,.int .i64 0,.int .i64 0,.int .i64 0,.int .i64 0] 111)) w1.heap.size (fun i=>if i<0 then i else 0)):=⟨⟨_,bs _ _,rfl,fun i hi=>by
  rw[show (#[.int .i64 0,.int .i64 0,.int .i64 0,.int .i64 0,.int .i64 0,.int .i64 0,.int .i64 0,.int .i64 0,.int .i64 0,.int .i64 0,.int .i64 0,.int .i64 0]:Array Value)=Array.replicate 12 (.int .i64 0) from rfl,Array.getElem?_replicate,if_pos hi];rfl⟩⟩
 have aL:=zA (ay G.out (.cells #[.int .i64 0,.int .i64 0,.int .i64 0,.int .i64 0,.int .i64 0,.int .i64 0,.int .i64 0,.int .i64 0,.int .i64 0,.int .i64 0,.int .i64 0,.int .i64 0] 111));have aO:=zA (au J.out (.cells #[.int .i64 0,.int .i64 0,.int .i64 0,.int .i64 0,.int .i64 0,.int .i64 0,.int .i64 0,.int .i64 0,.int .i64 0,.int .i64 0,.int .i64 0,.int .i64 0] 111));have c7:w.heap.size<w1.heap.size:=aD G.out;clear G J;generalize w1.alloc (.cells #[.int .i64 0,.int .i64 0,.int .i64 0,.int .i64 0,.int .i64 0,.int .i64 0,.int .i64 0,.int .i64 0,.int .i64 0,.int .i64 0,.int .i64 0,.int .i64 0] 111)=W1 at ab aL aO⊢;generalize w1.heap.size=gf at ab c7⊢;gi_loopg [17] (12) (fun kq vv wr=>∃v:Nat,v<=12/\vv= .int .i64 v/\Aside0 (eI wr gf (fun i=>if i<v then i else 0))/\Aside0 (wr.heap[w.heap.size]? =some (.cells #[.int .i64 n,.slice A0 E.length c0] 24 (0,0)))/\Aside0 (Below w.heap.size w wr)/\Aside0 (kq=12-v))
 case atStart=>exact⟨0,by omega,rfl,ab,aL,aO,⟨rfl⟩⟩
 case round=>
  clear ab aL aO;obtain⟨v,hv,rfl,O,G,J,HK⟩:=hrel;by_cases bv:v<12
  ·have e2:(0:Int)<=(v:Int):=by omega
   have e3:(v:Int)<12:=by omega
   have z1:=O.out.cell v bv;have z2:=O.out.frozen v;generalize (if v<v then v else 0)=z at z1;have dd:=zA ((O.out.set v bv v).congr (q:=fun i=>if i<v+1 then i else 0) (fun i hi=>by
    by_cases e:i=v
    ·subst e;simp
    ·simp only[if_neg e]
     by_cases h:i<v
     ·rw[if_pos h,if_pos (by omega)]
     ·rw[if_neg h,if_neg (by omega)]))
   have dk:=zA (aG (p:=⟨gf,v,none⟩) G.out (by show w.heap.size≠gf;omega) (.int .i64 v));have dl:=zA (Below.setCell (p:=⟨gf,v,none⟩) J.out (by show w.heap.size<=gf;omega) (.int .i64 v));clear O G J;gi_wp2;gi_roundg (12- (v+1))
   case measure=>rw[HK.out];omega
   case rel=>exact⟨v+1,by omega,by go_num,dd,dk,dl,⟨rfl⟩⟩
  ·obtain rfl:v=12:=by omega
   have aP:=zA (O.out.congr (q:=(cB []).1) (fun i hi=>by simp[cB,hi]));have y0:(wr.alloc (.cells #[.int .i64 0] 3)).cell? ⟨w.heap.size,0,none⟩=some (.int .i64 n):=(aj (ay G.out _) 0).trans rfl;have y1:(wr.alloc (.cells #[.int .i64 0] 3)).cell? ⟨w.heap.size,1,none⟩=some (.slice A0 E.length c0):=(aj (ay G.out _) 1).trans rfl;gi_wp2_with (refine⟨trivial,?_⟩;gi_at_call 85;refine(callsIn_wide.2 (uJ n A0 c0 E _)).mono ?_;rintro e w3 ⟨rfl,rfl⟩)
   have S:=zA (show ((wr.alloc (.cells #[.int .i64 0] 3)).alloc (.cells #[.int .i64 n,.slice A0 E.length c0] 24)).heap[wr.heap.size]? =some (.cells #[.int .i64 ((cB []).2:Nat)] 3 (0,0)) from ay (bs wr _) _);have T:=zA (show ((wr.alloc (.cells #[.int .i64 0] 3)).alloc (.cells #[.int .i64 n,.slice A0 E.length c0] 24)).heap[wr.heap.size+1]? =some (.cells #[.int .i64 n,.slice A0 E.length c0] 24 (0,0)) from heap_alloc2_new wr _ _);have I:=zA (au (au J.out (.cells #[.int .i64 0] 3)) (.cells #[.int .i64 n,.slice A0 E.length c0] 24));have aR:=zA ((aP.out.alloc (.cells #[.int .i64 0] 3)).alloc (.cells #[.int .i64 n,.slice A0 E.length c0] 24));have d0:=aP.out.lt;clear y0 y1 O aP G J;generalize ((wr.alloc (.cells #[.int .i64 0] 3)).alloc (.cells #[.int .i64 n,.slice A0 E.length c0] 24))=g at S T I aR⊢;have bw:=aD S.out;have d1:=aD T.out;generalize aS:wr.heap.size+1=bx at T d1⊢;generalize wr.heap.size=bo at S d0 bw aS⊢;have e4:=Nat.le_of_eq aS;clear aS;refine vG (σ:=Unit) (α:=Nat×Int×Int) (F:=Fence.wide) (n:=10) rfl (by decide) (gf:=140) (lb:=#[.pointer (some ⟨bx,0,none⟩)]) rfl trivial (enters_of Tryz.func140 (by kernel_rfl) rfl)
    (fun o=>uN bx n A0 c0 E w _ bk HE.out (au (au I.out _) _) (ay (ay T.out _) _)) (fun _=>rfl)
    (fun _=>True) ?eU ?st ?ar
    (fun _ pre W=>g.heap.size<=W.heap.size/\eI W gf (cB pre).1/\W.heap[bo]? =some (.cells #[.int .i64 ((cB pre).2:Nat)] 3 (0,0))/\Below w.heap.size w W) (fun _ _ _ _=>False)
    ?is (fun _ _ _ _ _ _ h _=>h) ?ib (fun _ _ _ _ _ h _=>h) ?kt ?h0 ?a1 (fun x W=>W.alloc (.cells #[.int .i64 x.2.1,.int .i64 x.2.2] 116)) ?hw ?sw ?assign ?body ?done (fun _ _ _ _ _ _ _ h=>h.elim)
   case assign=>
    intro l x W K hK;gi_wp2;exact hK
   case eU=>
    intro o s W1 h;exact⟨trivial,by rw[h];exact cu.refl _ _⟩
   case st=>intro s A B _ h;exact dc h
   case ar=>intro s x A B _ h;exact dc h.2
   case hw=>intro x W k o h1 h2 U _;exact ay U _
   case sw=>
    intro s x A D h;exact⟨fun a6=>((ao w.heap.size A).alloc a6 _).trans (h.1 (by simp;omega)),fun k cs t r hk=>h.2 k cs t r (ay hk _)⟩
   case is=>
    rintro s pre A B _ ⟨L,h1,h2,U⟩ ag;exact⟨Nat.le_trans L ag.size,h1.below ag,aM h2 ag,a7 U ag⟩
   case ib=>
    rintro s pre A B ⟨L,⟨cs,h1,ak⟩,h2,U⟩ hb;exact⟨by rw[hb.size];exact L,⟨cs,hb.cells h1,ak⟩,hb.cells h2,U.trans (hb.below w.heap.size (by have:=I.out.size;omega))⟩
   case kt=>
    intro s A B C D a0 b0 b5;have:=I.out.size;exact⟨fun a6=>((a0.below w.heap.size (by omega)).trans (b0.1 (by rw[a0.size];exact a6))).trans (b5.below w.heap.size (by omega)),fun k cs t r hk=>b5.cells (b0.2 k cs t r (a0.cells hk))⟩
   case h0=>
    rintro o s W1 rfl;exact⟨by simp;omega,(aR.out.alloc _).alloc _,ay (ay S.out _) _,au (au I.out _) _⟩
   case body=>
    rintro l s pre ⟨i,a,b⟩ Wb W1 W _ ⟨L,i1,i2,i3⟩ ⟨b6,V⟩ b_ H;obtain⟨ed,b',ca,cb⟩:=q6 E E.length (aI _) _ b6;have aa:=HI.out ed b';simp only at ca cb;obtain⟨a,rfl⟩:=Int.eq_ofNat_of_zero_le (show 0<=a by omega);obtain⟨b,rfl⟩:=Int.eq_ofNat_of_zero_le (show 0<=b by omega);have ha:a<12:=by omega
    have hb:b<12:=by omega
    have d5:=I.out.size;have d6:g.heap.size<=W1.heap.size:=Nat.le_trans L V.size;have cc:=(wE pre).1;have d7:=(wE pre).2;have HS:=zA (Ep pre (i,(a:Int),(b:Int)));have b_:pre.length<2000:=b_;obtain⟨cs,h1,ak⟩:=(i1.below V).alloc (.cells #[.int .i64 a,.int .i64 b] 116);have M:Aside0 (eI W gf (cB pre).1):=⟨cs,H.cells h1,ak⟩;have b2:=zA (H.cells (ay (aM i2 V) (.cells #[.int .i64 a,.int .i64 b] 116)));have b3:=zA ((au (a7 i3 V) (.cells #[.int .i64 a,.int .i64 b] 116)).trans (H.below w.heap.size (by omega)));have b4:=zA (H.cells (bs W1 (.cells #[.int .i64 a,.int .i64 b] 116)));have a6:W.heap.size=W1.heap.size+1:=by rw[H.size];simp
    have ce:g.heap.size<=W.heap.size:=by omega
    clear i1 i2 i3 V H h1 ak a6 d6 L b6 b' ca cb aa;generalize W1.heap.size=pb at b4⊢;have d8:W.cell? ⟨pb,0,none⟩=some (.int .i64 a):=(aj b4.out 0).trans rfl;have d9:W.cell? ⟨pb,1,none⟩=some (.int .i64 b):=(aj b4.out 1).trans rfl;have e6:=Tryz.underlying116;have a2:=zA (fun m=>wD gf a (cB pre).1 (W.drewN m) cc ha (M.out.below (bY (ao _ _) m)));have a3:=zA (fun m=>wD gf b (cB pre).1 (W.drewN m) cc hb (M.out.below (bY (ao _ _) m)));have ea:=iZ (cB pre).1 a;have eb:=iZ (cB pre).1 b;have P:Aside0 (fK (cB pre) (i,(a:Int),(b:Int))=(dT (cB pre).1 a b,if rootOf (cB pre).1 a=rootOf (cB pre).1 b then(cB pre).2+1 else(cB pre).2)):=⟨rfl⟩;have Q:Aside0 (dT (cB pre).1 a b=fun j=>if j=max (rootOf (cB pre).1 a) (rootOf (cB pre).1 b) then min (rootOf (cB pre).1 a) (rootOf (cB pre).1 b) else(cB pre).1 j):=⟨rfl⟩;generalize dT (cB pre).1 a b=pj at P Q;generalize rootOf (cB pre).1 a=x at a2 P Q ea;generalize rootOf (cB pre).1 b=y at a3 P Q eb;generalize ci:(cB pre).2=gc at b2 d7 P;clear ci;have e_:(0:Int)<=(x:Int):=by omega
    have e':(0:Int)<=(y:Int):=by omega
    have fb:(x:Int)<12:=by omega
    have fd:(y:Int)<12:=by omega
    gi_wp2;refine CD rfl (by kernel_rfl) (by kernel_rfl) ?_;repeat(gi_big_quiet_step (fail))
    gi_big_quiet_want
    gi_big_quiet_op
    gi_big_quiet_call ((gi_at_call 86;exact CallsIn.quiet_of_same (callsIn_wide.2 ((a2.out _).mono (fun e w' h=>⟨h.1,h.2.symm⟩)))))
    repeat(gi_big_quiet_step (fail))
    gi_big_quiet_want
    gi_big_quiet_op
    gi_big_quiet_call ((gi_at_call 86;exact CallsIn.quiet_of_same (callsIn_wide.2 ((a3.out _).mono (fun e w' h=>⟨h.1,h.2.symm⟩)))))
    repeat(gi_big_quiet_step (fail))
    refine wpQuietIn_nil ?_;rintro _ ⟨nq,rfl⟩;have u:=zA (M.out.below (bY (ao _ _) nq));have R:=zA (iQ b2.out nq);have I3:=zA (bY b3.out nq);have ap:=zA (dc (nw:=g.heap.size) (bY (ao W.heap.size W) nq));have av:=zA (bY (ao w.heap.size W) nq);have aB:Aside0 (∀k:Nat,(W.drewN nq).heap[k]? =W.heap[k]?):=⟨fun k=>by simp⟩;have aF:g.heap.size<=(W.drewN nq).heap.size:=by simpa using ce
    have ek:Aside0 (∀(k:Nat) (cs:Array Value) (t:TypeId),(t=24\/t=83)->W.heap[k]? =some (Obj.cells cs t (0,0))->k≠gf/\k≠bo):=⟨fun k cs t r hk=>by
     obtain⟨cf,cj, -⟩:=M.out;refine⟨fun e=>?_,fun e=>?_⟩
     ·subst e;rw[hk] at cj;injection cj with h;injection h with _ h _;rcases r with rfl|rfl<;>exact absurd h (by decide)
     ·subst e;have h:=hk.symm.trans b2.out;injection h with h;injection h with _ h _;rcases r with rfl|rfl<;>exact absurd h (by decide)⟩
    have ck:gf≠bo:=by omega
    have cl:w.heap.size<=gf:=by omega
    have co:w.heap.size<=bo:=by omega
    have ci:(gc:Int)<=2000:=by omega
    have fo:(0:Int)<=(gc:Int):=by omega
    clear M b2 b3 b4 d8 d9 a2 a3 ce S T I aR;generalize W.drewN nq=N at u R I3 ap av aB aF⊢;have fq:=zA (fun j=>u.out.frozen j);have cq:∀(j v:Nat) (W1:World) (g':Nat),j<12->g.heap.size<=W1.heap.size->eI W1 gf (cB pre).1->W1.heap[bo]? =some (.cells #[.int .i64 (g':Nat)] 3 (0,0))->Below w.heap.size w W1->cu g.heap.size W W1->Below w.heap.size W W1->(∀k,k≠gf->k≠bo->W1.heap[k]? =W.heap[k]?)->
      (fun i=>if i=j then v else(cB pre).1 i)=pj->g'=(if x=y then gc+1 else gc)->qX (σ:=Unit) g.heap.size (fun X Y=>qZ w.heap.size X Y) (fun pre W=>g.heap.size<=W.heap.size/\eI W gf (cB pre).1/\W.heap[bo]? =some (.cells #[.int .i64 ((cB pre).2:Nat)] 3 (0,0))/\Below w.heap.size w W) (fun (_:Code) (_:List (Nat×Int×Int)) (_:World)=>False) (pre++[(i,(a:Int),(b:Int))]) W Exit.normal {tmps:=#[],defers:=[]} (W1.setCell ⟨gf,j,none⟩ (.int .i64 v)):=by
     intro j v W1 g' hj a5 f1 f2 f3 f4 f5 f6 f7 f8;refine⟨f4.trans (fX _ _ (show gf<g.heap.size by omega)),⟨fun _=>Below.setCell (p:=⟨gf,j,none⟩) f5 cl _,fun k cs t r hk=>?_⟩,by simpa using a5,?_,?_,Below.setCell (p:=⟨gf,j,none⟩) f3 cl _⟩
     ·obtain⟨k1,k2⟩:=ek.out k cs t r hk
      exact(Below.heap_setCell _ _ _ _ k1).trans ((f6 k k1 k2).trans hk)
     ·rw[HS.out,P.out]
      have h:=f1.set j hj v;rw[f7] at h;exact h
     ·rw[HS.out,P.out]
      simp only;rw[<-f8];exact aG f2 (fun e=>ck e.symm) _
    have a9:=zA cq;clear cq;rcases Nat.lt_trichotomy x y with be|be|be
    ·have hl:(x:Int)<(y:Int):=by omega
     have he:((x:Int)==(y:Int))=false:=by simpa using (show ¬(x:Int)=(y:Int) by omega)
     have hm:max x y=y:=by omega
     have Z:min x y=x:=by omega
     have hz:=u.out.cell y (by omega);have hf:=u.out.frozen y;have HM:=zA hm;have bg:=zA Z;clear hm Z;gi_wp2;exact a9.out y x N gc (by omega) aF u.out R.out I3.out ap.out av.out (fun k _ _=>aB.out k) (by rw[Q.out,HM.out,bg.out]) (by rw[if_neg (by omega)])
    ·subst be
     have he:((x:Int)==(x:Int))=true:=by simp
     have hl:¬(x:Int)<(x:Int):=by omega
     have hz:=u.out.cell x (by omega);have hf:=u.out.frozen x;have z1:=dV R.out;have z2:=bF R.out 0;have er:bo<g.heap.size:=bw;have a5:=zA (show g.heap.size<=(N.setCell ⟨bo,0,none⟩ (.int .i64 ((gc:Int)+1))).heap.size by simpa using aF);have J1:=zA (u.out.grown (kK N bo 0 (.int .i64 ((gc:Int)+1))) (fun e=>by injection e with e;exact ck e));have fr:=J1.out.cell x (by omega);have ft:=J1.out.frozen x;have J2:Aside0 ((N.setCell ⟨bo,0,none⟩ (.int .i64 ((gc:Int)+1))).heap[bo]? =some (.cells #[.int .i64 ((gc+1:Nat):Int)] 3 (0,0))):=⟨by simpa using bW R.out 0 (.int .i64 ((gc:Int)+1))⟩;have J3:=zA (Below.setCell (p:=⟨bo,0,none⟩) I3.out co (.int .i64 ((gc:Int)+1)));have J4:=zA (ap.out.trans (fX (bo:=bo) (j:=0) N (.int .i64 ((gc:Int)+1)) er));have J5:=zA (Below.setCell (p:=⟨bo,0,none⟩) av.out co (.int .i64 ((gc:Int)+1)));have J6:Aside0 (∀k,k≠gf->k≠bo->(N.setCell ⟨bo,0,none⟩ (.int .i64 ((gc:Int)+1))).heap[k]? =W.heap[k]?):=⟨fun k _ h=>(Below.heap_setCell _ _ _ _ h).trans (aB.out k)⟩;gi_wp2;exact a9.out x x _ (gc+1) (by omega) a5.out J1.out J2.out J3.out J4.out J5.out J6.out (by rw[Q.out,Nat.max_self,Nat.min_self]) (by simp)
    ·have hl:¬(x:Int)<(y:Int):=by omega
     have fv:(y:Int)<(x:Int):=by omega
     have he:((x:Int)==(y:Int))=false:=by simpa using (show ¬(x:Int)=(y:Int) by omega)
     have hm:max x y=x:=by omega
     have Z:min x y=y:=by omega
     have hz:=u.out.cell x (by omega);have hf:=u.out.frozen x;have HM:=zA hm;have bg:=zA Z;clear hm Z;gi_wp2;exact a9.out x y N gc (by omega) aF u.out R.out I3.out ap.out av.out (fun k _ _=>aB.out k) (by rw[Q.out,HM.out,bg.out]) (by rw[if_neg (by omega)])
   case done=>
    rintro s xs W W' _ rfl ⟨L,i1,i2,i3⟩ H c1;have d5:=I.out.size;have M:=zA (H.cells i2);have b3:=zA (i3.trans (H.below w.heap.size (by omega)));have c2:=zA c1;clear i1 i2 i3 c1;have hc:=dV M.out;gi_wp2_with fail
    have e0:Bk g.heap.size W' (W'.putObj g.heap.size (.deferred none)):=⟨_,_,c2.out,rfl,rfl⟩;exact jB (D:=g.heap.size) rfl c2.out (results_tmp2 rfl _ _ _) ⟨rfl,b3.out.trans (e0.below w.heap.size (by omega))⟩
def nO (N:Int) (E:List S83):Bool:=decide (0<=N/\N<=12)&&fh E&&jy N E
def fj.f (k:Nat) (N:Int) (E:List S83):Option (Int×Int):=
 (bp.f k N E).bind fun e=>if e=0 then(if nO N E=true then some (((cB (cn E E.length)).2:Nat),0) else none) else some (0,e)
theorem fj.mono:∀a b k,al (fj.f k a b) (fj.f (k+1) a b):=by
 intro N E k;unfold fj.f;exact al.bind (bp.mono _ _ _) (fun _=>al.refl _)
theorem fj.calls (k:Nat) (i:Int) (j:Option Addr) (l:Nat) (b:List (S83)) (o:Int) (p:Int) (w:World) (q:Kd.C aW w j b.length b) (r:b.length<=l) (h:fj.f k i b=some (o,p)):
  Calls Tryz.prog 31 #[.agg #[.int .i64 i,.slice j b.length l]] w fun e w'=>e= .returned (.tuple #[.int .i64 o,.int .i64 p])/\Below w.heap.size w w':=by
 unfold fj.f at h;obtain⟨e,he,a⟩:=Option.bind_eq_some_iff.1 h;clear h;by_cases m:e=0
 ·subst m
  rw[if_pos rfl] at a;by_cases g:nO i b=true
  ·rw[if_pos g] at a
   simp only[Option.some.injEq,Prod.mk.injEq] at a;obtain⟨rfl,rfl⟩:=a;unfold nO at g;simp only[Bool.and_eq_true,decide_eq_true_eq] at g;obtain⟨⟨⟨h1,v⟩,s⟩,u⟩:=g;obtain⟨n,rfl⟩:=Int.eq_ofNat_of_zero_le h1;exact Es k n j l b w q r he s (lD u) (by omega)
  ·rw[if_neg g] at a;cases a
 ·rw[if_neg m] at a
  simp only[Option.some.injEq,Prod.mk.injEq] at a;obtain⟨rfl,rfl⟩:=a;exact Er k i j l b e w q r he m
end
section
attribute [local go_sem] jR jS jT jU mX mY mZ m_
def dh.l0:Nat->Int->List (S83)->Int->Int->Int->List (S83)->Option (Int×(List (S83))×Int)
 |0,_,_,_,_,_,_=>none
 |k+1,x1,b,g,a,h,e=>if a<g then(if 0<=a then(if a<(b.length:Int) then(if((ae b a).f0)=((ae b a).f1) then(dh.l0 k x1 b g (wrap64 (a+1)) h e) else(if e.length<5864062014805 then(dh.l0 k x1 b g (wrap64 (a+1)) h (e++[(⟨(ae b a).f0,(ae b a).f1,mn ((ae b a).f2) x1⟩:S83)])) else(none))) else(none)) else(none)) else(some (h,e,0))
def dh.f (k:Nat) (b:Int) (a:List (S83)) (e:Int):Option (Int×(List (S83))×Int):=(bp.f k b a).bind fun t260=>(if t260=0 then(dh.l0 k e a (a.length:Int) 0 b ([]:List (S83))) else(some (0,([]:List (S83)),t260)))
theorem dh.ct:∀k,(∀a b e g i j,al (dh.l0 k a b e g i j) (dh.l0 (k+1) a b e g i j))
 |0=>fun _ _ _ _ _ _ r h=>by simp[dh.l0] at h
 |k+1=>by
  have l:=dh.ct k
  ·intro a b e g i j
   unfold dh.l0;with_reducible repeat' first|exact l _ _ _ _ _ _|exact bp.mono _ _ _|exact al.refl _|exact al.none _|refine al.ite ?_ ?_|refine al.bind ?_ (fun _=>?_)
theorem dh.mono:∀a0 a a2 k,al (dh.f k a0 a a2) (dh.f (k+1) a0 a a2):=by
 intro a0 a a2 k;have b:=dh.ct k;unfold dh.f;with_reducible repeat' first|exact b _ _ _ _ _ _|exact bp.mono _ _ _|exact al.refl _|exact al.none _|refine al.ite ?_ ?_|refine al.bind ?_ (fun _=>?_)
theorem dh.calls (k:Nat) (n:Int) (B:Option Addr) (y:Nat) (a:List (S83)) (K:Int) (Z:Int) (r2:List (S83)) (r3:Int) (w:World) (bn:Kd.C aW w B a.length a) (bo:a.length<=y) (h:dh.f k n a K=some (Z,r2,r3)):
  Calls Tryz.prog 84 #[.agg #[.int .i64 n,.slice B a.length y],.int .i64 K] w fun e w'=>∃bv:Value,e= .returned (.tuple #[.agg #[.int .i64 Z,bv],.int .i64 r3])/\Kd.R aW 83 w' w.heap.size (fun _=>True) bv r2/\Below w.heap.size w w':=by
 have d1:=Tryz.underlying24;have d2:=Tryz.underlying83;have ag:=zA bn;have bw:=zA bo;clear bn bo;have l:=zA (ao w.heap.size w);unfold dh.f at h;have H:=h;clear h;obtain⟨t260,A3,H⟩:=zo H;by_cases c4:t260=0
 ·rw[if_pos c4] at H
  obtain⟨b0,b1⟩:=bG c4;clear c4;have U:=zA H;clear H;go_enter Tryz.func84,Tryz.ntmps84
  go_wp2_with (first|((with_reducible refine aJ (N:=2) rfl ?_);refine zX 2 #[.int .i64 n,.slice B a.length y] 24 ?_;intro s j w5 v hb;have m:=zA (v);have b':=zG l j;have ca:=zG l j;replace l:=zS l hb;clear hb v j)|((with_reducible refine aJ (N:=4) rfl ?_);refine zX 4 #[.int .i64 0,.slice none 0 0] 24 ?_;intro u j w6 v hb;have r:=zA (v);have cb:=zG l j;have cc:=zG l j;replace l:=zS l hb;have ak:=zA ((by rw[j];exact Nat.ne_of_lt (aD (g:=s) (o:=.cells #[.int .i64 n,.slice B a.length y] 24 (0,0)) (zK m)):s≠u));have am:=zA ((by rw[j];exact Nat.ne_of_gt (aD (g:=s) (o:=.cells #[.int .i64 n,.slice B a.length y] 24 (0,0)) (zK m)):u≠s));replace m:=zb m hb;clear hb v j;have d5:=ak.out;have d6:=am.out;obtain⟨cd,ce,cf,ch⟩:=ax m)|((with_reducible refine aC (f:=64) rfl ?_);refine zL (some 11) Tryz.func64 #[.agg #[.int .i64 n,.slice B a.length y]] ?_;(with_reducible refine(bp.calls k n _ _ a t260 _ ?af ?ah A3.out).mono ?_);(case af=>exact Kd.aq ag.out zB);(case ah=>exact bw.out);rintro e w9 ⟨rfl,hb⟩;refine⟨_,rfl,?_⟩;replace m:=zb m hb;replace r:=zb r hb;replace l:=zS l hb;(try clear hb);obtain⟨ci,cj,ck,cl⟩:=ax m)|((with_reducible refine aJ (N:=7) rfl ?_);refine zX 7 #[.int .i64 0,.slice none 0 0] 24 ?_;intro z j iB v hb;have x:=zA (v);have d8:=zG l j;have d9:=zG l j;replace l:=zS l hb;have V:=zA ((by rw[j];exact Nat.ne_of_lt (aD (g:=s) (o:=.cells #[.int .i64 n,.slice B a.length y] 24 (0,0)) (zK m)):s≠z));have a2:=zA ((by rw[j];exact Nat.ne_of_gt (aD (g:=s) (o:=.cells #[.int .i64 n,.slice B a.length y] 24 (0,0)) (zK m)):z≠s));replace m:=zb m hb;have W:=zA ((by rw[j];exact Nat.ne_of_lt (aD (g:=u) (o:=.cells #[.int .i64 0,.slice none 0 0] 24 (0,0)) (zK r)):u≠z));have a3:=zA ((by rw[j];exact Nat.ne_of_gt (aD (g:=u) (o:=.cells #[.int .i64 0,.slice none 0 0] 24 (0,0)) (zK r)):z≠u));replace r:=zb r hb;clear hb v j;have ea:=a2.out;have eb:=V.out;have ed:=a3.out;have eg:=W.out;obtain⟨co,cq,cr,cv⟩:=ax x;obtain⟨cx,c0,c1,c2⟩:=ax m))
  go_loopg [22] k (fun kq v22 w'=>∃(i:Int) (E:List (S83)) (u262001:Value),v22= .int .i64 i/\Aside0 (dh.l0 kq K a (a.length:Int) i n E=some (Z,r2,r3))/\Aside0 (kq<=k)/\Aside0 (Kd.R aW 83 w' w.heap.size (fun _=>True) u262001 E)/\Aside0 (w'.heap[s]? =some (.cells #[.int .i64 n,(.slice B a.length y)] 24 (0,0)))/\Aside0 (w'.heap[u]? =some (.cells #[.int .i64 0,(.slice none 0 0)] 24 (0,0)))/\Aside0 (w'.heap[z]? =some (.cells #[.int .i64 n,u262001] 24 (0,0)))/\Aside0 (Below w.heap.size w w'))
  case atStart=>exact⟨(0),(([]:List (S83))),(.slice none 0 0),zT,U,⟨aI _⟩,⟨by first|exact Kd.cY _ _ _ _ _|exact Kd.fQ _ _ _ _ _|exact Kd.fR _ _ _ _ _|exact Kd.Q_nil _ _ _ _ _|exact Kd.fw _ _ _ _ _⟩,⟨by refine zk ?_;refine aG ?_ V.out _;refine zk ?_;refine aG ?_ V.out _;exact zK m⟩,⟨by refine zk ?_;refine aG ?_ W.out _;refine zk ?_;refine aG ?_ W.out _;exact zK r⟩,⟨by refine zk ?_;refine bE (cs:=#[.int .i64 n,.slice none 0 0]) ?_ 1 _ rfl;refine zk ?_;refine bE (cs:=#[.int .i64 0,.slice none 0 0]) ?_ 0 _ rfl;exact zK x⟩,⟨zB⟩⟩
  case round=>
   clear U;clear b0 b1 ci cj co cq cx c0 cd ce ck cl cr cv c1 c2 cf ch;obtain⟨i,E,u262001,rfl,HA,an,D,m,r,x,l⟩:=hrel;cases gk with
   |zero=>exact absurd HA.out (by simp[dh.l0])
   |succ k1=>
    have H:=HA.out;clear HA;simp only[dh.l0] at H;by_cases X:i<(a.length:Int)
    ·rw[if_pos X] at H
     have c3:=az X;clear X;by_cases ar:0<=i
     ·rw[if_pos ar] at H
      have ek:=az ar;clear ar;by_cases av:i<(a.length:Int)
      ·rw[if_pos av] at H
       have el:=az av;clear av;by_cases ad:((ae a i).f0)=((ae a i).f1)
       ·rw[if_pos ad] at H
        obtain⟨c5,c6⟩:=bG ad;clear ad;have U:=zA H;clear H;have L:0<=(i:Int):=aw ‹_›;have M:i<(a.length:Int):=aw ‹_›;obtain⟨Y,a5,O,P,Q⟩:=eY ag.out i L M;cases a5;replace O:=(l.out.cell (br w _ O)).trans O;replace P:=(l.out.cell (br w _ P)).trans P;replace Q:=(l.out.cell (br w _ Q)).trans Q;replace L:=eq_true L;replace M:=eq_true M;go_wp2_with (first|((with_reducible refine aJ (N:=9) rfl ?_);refine zX 9 #[.int .i64 0,.int .i64 0,.int .i64 0] 83 ?_;intro q j em v hb;replace D:=zA (Kd.da (Kd.sZ (zR D) q (Nat.le_of_eq j.symm)) hb);have S:=zA (v);have c7:=zG l j;have c8:=zG l j;replace l:=zS l hb;have G:=zA ((by rw[j];exact Nat.ne_of_lt (aD (g:=s) (o:=.cells #[.int .i64 n,.slice (some Y) a.length y] 24 (0,0)) (zK m)):s≠q));have a9:=zA ((by rw[j];exact Nat.ne_of_gt (aD (g:=s) (o:=.cells #[.int .i64 n,.slice (some Y) a.length y] 24 (0,0)) (zK m)):q≠s));replace m:=zb m hb;have I:=zA ((by rw[j];exact Nat.ne_of_lt (aD (g:=u) (o:=.cells #[.int .i64 0,.slice none 0 0] 24 (0,0)) (zK r)):u≠q));have be:=zA ((by rw[j];exact Nat.ne_of_gt (aD (g:=u) (o:=.cells #[.int .i64 0,.slice none 0 0] 24 (0,0)) (zK r)):q≠u));replace r:=zb r hb;have J:=zA ((by rw[j];exact Nat.ne_of_lt (aD (g:=z) (o:=.cells #[.int .i64 n,u262001] 24 (0,0)) (zK x)):z≠q));have bf:=zA ((by rw[j];exact Nat.ne_of_gt (aD (g:=z) (o:=.cells #[.int .i64 n,u262001] 24 (0,0)) (zK x)):q≠z));replace x:=zb x hb;clear hb v j;have er:=a9.out;have es:=G.out;have ev:=be.out;have ew:=I.out;have ex:=bf.out;have ey:=J.out;obtain⟨e0,e1,e2,e3,e4,e5⟩:=cp S))
        go_roundg k1
        case measure=>have:=an.out;omega
        case rel=>exact⟨(wrap64 (i+1)),(E),(u262001),zT,U,⟨by have:=an.out;omega⟩,⟨by(with_reducible repeat(first|apply Kd.aK|apply Kd.bu|apply Kd.bl));exact Kd.a_ (Kd.dQ (p:=⟨q,2,none⟩) (Kd.dQ (p:=⟨q,1,none⟩) (Kd.dQ (p:=⟨q,0,none⟩) (Kd.a_ D.out (fun T hk=>(⟨hk,hk.2⟩:_/\T≠q))) (fun _ hk=>hk.2) (.int .i64 ((ae a i).f0))) (fun _ hk=>hk.2) (.int .i64 ((ae a i).f1))) (fun _ hk=>hk.2) (.int .i64 ((ae a i).f2))) (fun _ hk=>trivial)⟩,⟨by refine zk ?_;refine aG ?_ G.out _;refine zk ?_;refine aG ?_ G.out _;refine zk ?_;refine aG ?_ G.out _;exact zK m⟩,⟨by refine zk ?_;refine aG ?_ I.out _;refine zk ?_;refine aG ?_ I.out _;refine zk ?_;refine aG ?_ I.out _;exact zK r⟩,⟨by refine zk ?_;refine aG ?_ J.out _;refine zk ?_;refine aG ?_ J.out _;refine zk ?_;refine aG ?_ J.out _;exact zK x⟩,⟨zB⟩⟩
       ·rw[if_neg ad] at H
        obtain⟨c5,c6⟩:=bI ad;obtain⟨F,bg⟩:∃j_:Int,(mn ((ae a i).f2) K)=j_:=⟨_,rfl⟩;replace H:(if E.length<5864062014805 then(dh.l0 k1 K a (a.length:Int) (wrap64 (i+1)) n (E++[(⟨(ae a i).f0,(ae a i).f1,F⟩:S83)])) else(none))=some (Z,r2,r3):=by first|(rw[bg] at H;exact H)|(simp only[bg] at H⊢;exact H)
        have e6:(if K<((ae a i).f2) then K else((ae a i).f2))=F:=bg;by_cases aR:E.length<5864062014805
        ·rw[if_pos aR] at H
         have c':=zA aR;clear aR;obtain⟨a0,bi⟩:∃y_:List (S83),y_=(E++[(⟨(ae a i).f0,(ae a i).f1,F⟩:S83)]):=⟨_,rfl⟩;replace H:(dh.l0 k1 K a (a.length:Int) (wrap64 (i+1)) n a0)=some (Z,r2,r3):=zh bi H;have dk:=zA bi;clear bi;have U:=zA H;clear H;have L:0<=(i:Int):=aw ‹_›;have M:i<(a.length:Int):=aw ‹_›;obtain⟨Y,a5,O,P,Q⟩:=eY ag.out i L M;cases a5;replace O:=(l.out.cell (br w _ O)).trans O;replace P:=(l.out.cell (br w _ P)).trans P;replace Q:=(l.out.cell (br w _ Q)).trans Q;replace L:=eq_true L;replace M:=eq_true M;go_wp2_with (first|((with_reducible refine aJ (N:=9) rfl ?_);refine zX 9 #[.int .i64 0,.int .i64 0,.int .i64 0] 83 ?_;intro q j dl v hb;replace D:=zA (Kd.da (Kd.sZ (zR D) q (Nat.le_of_eq j.symm)) hb);have S:=zA (v);have c7:=zG l j;have c8:=zG l j;replace l:=zS l hb;have G:=zA ((by rw[j];exact Nat.ne_of_lt (aD (g:=s) (o:=.cells #[.int .i64 n,.slice (some Y) a.length y] 24 (0,0)) (zK m)):s≠q));have a9:=zA ((by rw[j];exact Nat.ne_of_gt (aD (g:=s) (o:=.cells #[.int .i64 n,.slice (some Y) a.length y] 24 (0,0)) (zK m)):q≠s));replace m:=zb m hb;have I:=zA ((by rw[j];exact Nat.ne_of_lt (aD (g:=u) (o:=.cells #[.int .i64 0,.slice none 0 0] 24 (0,0)) (zK r)):u≠q));have be:=zA ((by rw[j];exact Nat.ne_of_gt (aD (g:=u) (o:=.cells #[.int .i64 0,.slice none 0 0] 24 (0,0)) (zK r)):q≠u));replace r:=zb r hb;have J:=zA ((by rw[j];exact Nat.ne_of_lt (aD (g:=z) (o:=.cells #[.int .i64 n,u262001] 24 (0,0)) (zK x)):z≠q));have bf:=zA ((by rw[j];exact Nat.ne_of_gt (aD (g:=z) (o:=.cells #[.int .i64 n,u262001] 24 (0,0)) (zK x)):q≠z));replace x:=zb x hb;clear hb v j;have e_:=a9.out;have e':=G.out;have fb:=be.out;have fd:=I.out;have fn:=bf.out;have fo:=J.out;obtain⟨fq,fr,ft,fv,f3,f4⟩:=cp S;have f5:=a2.out;have f6:=V.out;have f7:=a3.out;have f8:=W.out;obtain⟨f9,f',gb,gc⟩:=ax x;have gd:((((dl.setCell ⟨q,0,none⟩ (.int .i64 (ae a i).f0)).setCell ⟨q,1,none⟩ (.int .i64 (ae a i).f1)).setCell ⟨q,2,none⟩ (.int .i64 (ae a i).f2)).setCell ⟨q,2,none⟩ (.int .i64 F)).cell? ⟨q,2,none⟩=some (.int .i64 F):=(aj (bE (cs:=#[(.int .i64 (ae a i).f0),(.int .i64 (ae a i).f1),(.int .i64 (ae a i).f2)]) (bE (cs:=#[(.int .i64 (ae a i).f0),(.int .i64 (ae a i).f1),(.int .i64 0)]) (bE (cs:=#[(.int .i64 (ae a i).f0),(.int .i64 0),(.int .i64 0)]) (bE (cs:=#[(.int .i64 0),(.int .i64 0),(.int .i64 0)]) S.out 0 _ rfl) 1 _ rfl) 2 _ rfl) 2 _ rfl) 2).trans rfl)|((with_reducible refine l5 (b:=.append) (xs:=#[.tmp 37,.tmp 39]) rfl ?_);at_builtin;refine Kd.mN aW (w0:=w) w.heap.size rfl (.tmp 37) (.tmp 39) 22 83 (.agg #[(.int .i64 0),(.int .i64 0),(.int .i64 0)]) 24 rfl Tryz.underlying22 AF rfl (by decide) (by omega) u262001 E (⟨(ae a i).f0,(ae a i).f1,F⟩:S83) [.int .i64 ((ae a i).f0),.int .i64 ((ae a i).f1),.int .i64 F] (fun T=>T≠q) (fun _=>False) rfl (by first|(go_simp;done)|(go_simp;rfl)) ?aP (fun _ hk=>hk.elim) ?aF ?aO ?aB ?aS ?aL ?_;(case aP=>exact jv _ _ _ (⟨(ae a i).f0,(ae a i).f1,F⟩:S83));(case aB=>exact zB);(case aF=>exact(fun T hk=>Kd.jM (g:=q) (o:=.cells #[.int .i64 ((ae a i).f0),.int .i64 ((ae a i).f1),.int .i64 F] 83 (0,0)) (by refine zk ?_;refine bE (cs:=#[.int .i64 ((ae a i).f0),.int .i64 ((ae a i).f1),.int .i64 ((ae a i).f2)]) ?_ 2 _ rfl;refine zk ?_;refine bE (cs:=#[.int .i64 ((ae a i).f0),.int .i64 ((ae a i).f1),.int .i64 0]) ?_ 2 _ rfl;refine zk ?_;refine bE (cs:=#[.int .i64 ((ae a i).f0),.int .i64 0,.int .i64 0]) ?_ 1 _ rfl;refine zk ?_;refine bE (cs:=#[.int .i64 0,.int .i64 0,.int .i64 0]) ?_ 0 _ rfl;exact zK S) T hk));(case aO=>exact(by(with_reducible repeat(first|apply Kd.aK|apply Kd.bu|apply Kd.bl));exact Kd.a_ (Kd.dQ (p:=⟨q,2,none⟩) (Kd.dQ (p:=⟨q,2,none⟩) (Kd.dQ (p:=⟨q,1,none⟩) (Kd.dQ (p:=⟨q,0,none⟩) (Kd.a_ D.out (fun T hk=>(⟨hk,hk.2⟩:_/\T≠q))) (fun _ hk=>hk.2) (.int .i64 ((ae a i).f0))) (fun _ hk=>hk.2) (.int .i64 ((ae a i).f1))) (fun _ hk=>hk.2) (.int .i64 ((ae a i).f2))) (fun _ hk=>hk.2) (.int .i64 F)) (fun _ hk=>hk.1.2)));(case aS=>exact(ba zB));(case aL=>have:=c'.out;omega);intro ge gf ho hb j ds;rw[<-dk.out] at ho;replace m:=zA (cT (g:=s) (o:=.cells #[.int .i64 n,.slice (some Y) a.length y] 24 (0,0)) (by refine zk ?_;refine aG ?_ G.out _;refine zk ?_;refine aG ?_ G.out _;refine zk ?_;refine aG ?_ G.out _;refine zk ?_;refine aG ?_ G.out _;exact zK m) j (Kd.di D.out m.out (by decide)));replace r:=zA (cT (g:=u) (o:=.cells #[.int .i64 0,.slice none 0 0] 24 (0,0)) (by refine zk ?_;refine aG ?_ I.out _;refine zk ?_;refine aG ?_ I.out _;refine zk ?_;refine aG ?_ I.out _;refine zk ?_;refine aG ?_ I.out _;exact zK r) j (Kd.di D.out r.out (by decide)));replace x:=zA (cT (g:=z) (o:=.cells #[.int .i64 n,u262001] 24 (0,0)) (by refine zk ?_;refine aG ?_ J.out _;refine zk ?_;refine aG ?_ J.out _;refine zk ?_;refine aG ?_ J.out _;refine zk ?_;refine aG ?_ J.out _;exact zK x) j (Kd.di D.out x.out (by decide)));replace S:=zA (cT (g:=q) (o:=.cells #[.int .i64 ((ae a i).f0),.int .i64 ((ae a i).f1),.int .i64 F] 83 (0,0)) (by refine zk ?_;refine bE (cs:=#[.int .i64 ((ae a i).f0),.int .i64 ((ae a i).f1),.int .i64 ((ae a i).f2)]) ?_ 2 _ rfl;refine zk ?_;refine bE (cs:=#[.int .i64 ((ae a i).f0),.int .i64 ((ae a i).f1),.int .i64 0]) ?_ 2 _ rfl;refine zk ?_;refine bE (cs:=#[.int .i64 ((ae a i).f0),.int .i64 0,.int .i64 0]) ?_ 1 _ rfl;refine zk ?_;refine bE (cs:=#[.int .i64 0,.int .i64 0,.int .i64 0]) ?_ 0 _ rfl;exact zK S) j (Kd.yy D.out (fun _ hk=>hk.2)));replace l:=zA (hb);have b3:=zA (ho);clear D;clear ho hb j ds;obtain⟨b4,b5,dv⟩:=Kd.bm b3.out;subst dv;obtain⟨gg,gi,gl,gm⟩:=ax x))
         go_roundg k1
         case measure=>have:=an.out;omega
         case rel=>exact⟨(wrap64 (i+1)),(a0),(.slice b4 a0.length b5),zT,U,⟨by have:=an.out;omega⟩,⟨by(with_reducible repeat(first|apply Kd.aK|apply Kd.bu|apply Kd.bl));exact Kd.a_ (Kd.dQ (p:=⟨z,1,none⟩) (Kd.gL b3.out x.out (by decide)) (fun _ hk=>hk.2) (.slice b4 a0.length b5)) (fun _ hk=>trivial)⟩,⟨by refine zk ?_;refine aG ?_ V.out _;exact zK m⟩,⟨by refine zk ?_;refine aG ?_ W.out _;exact zK r⟩,⟨by refine zk ?_;refine bE (cs:=#[.int .i64 n,u262001]) ?_ 1 _ rfl;exact zK x⟩,⟨zB⟩⟩
        ·rw[if_neg aR] at H
         exact absurd H (by simp)
      ·rw[if_neg av] at H
       exact absurd H (by simp)
     ·rw[if_neg ar] at H
      exact absurd H (by simp)
    ·rw[if_neg X] at H
     have c3:=aZ X;clear X;simp only[Option.some.injEq,Prod.mk.injEq] at H;obtain⟨rfl,rfl,rfl⟩:=H;have gn:=a2.out;have go:=V.out;have gp:=a3.out;have gq:=W.out;obtain⟨gr,gs,gt,gx⟩:=ax x;have g0:=am.out;have g1:=ak.out;obtain⟨g2,g3,g4,g5⟩:=ax r;obtain⟨b6,b_,d0⟩:=Kd.bm D.out;subst d0;go_wp2;refine bodyPost_ret (pQ rfl _ _ u 24 #[.int .i64 n,.slice b6 E.length b_] (0,0) _ rfl (by refine zk ?_;refine bE (cs:=#[.int .i64 n,.slice none 0 0]) ?_ 1 _ rfl;refine zk ?_;refine bE (cs:=#[.int .i64 0,.slice none 0 0]) ?_ 0 _ rfl;exact zK r) Tryz.underlying24 rfl (by kernel_rfl)) rfl ?_;exact⟨_,zE,by(with_reducible repeat(first|apply Kd.aK|apply Kd.bu|apply Kd.bl));exact Kd.a_ (Kd.dQ (p:=⟨u,1,none⟩) (Kd.dQ (p:=⟨u,0,none⟩) (Kd.gL D.out r.out (by decide)) (fun _ hk=>hk.2) (.int .i64 n)) (fun _ hk=>hk.2) (.slice b6 E.length b_)) (fun _ hk=>trivial),zB⟩
 ·rw[if_neg c4] at H
  obtain⟨b0,b1⟩:=bI c4;simp only[Option.some.injEq,Prod.mk.injEq] at H;obtain⟨rfl,rfl,rfl⟩:=H;go_enter Tryz.func84,Tryz.ntmps84
  go_wp2_with (first|((with_reducible refine aJ (N:=2) rfl ?_);refine zX 2 #[.int .i64 n,.slice B a.length y] 24 ?_;intro s j g6 v hb;have m:=zA (v);have b':=zG l j;have ca:=zG l j;replace l:=zS l hb;clear hb v j)|((with_reducible refine aJ (N:=4) rfl ?_);refine zX 4 #[.int .i64 0,.slice none 0 0] 24 ?_;intro u j g7 v hb;have r:=zA (v);have cb:=zG l j;have cc:=zG l j;replace l:=zS l hb;have ak:=zA ((by rw[j];exact Nat.ne_of_lt (aD (g:=s) (o:=.cells #[.int .i64 n,.slice B a.length y] 24 (0,0)) (zK m)):s≠u));have am:=zA ((by rw[j];exact Nat.ne_of_gt (aD (g:=s) (o:=.cells #[.int .i64 n,.slice B a.length y] 24 (0,0)) (zK m)):u≠s));replace m:=zb m hb;clear hb v j;have g8:=ak.out;have g9:=am.out;obtain⟨g',ha,hc,he⟩:=ax m)|((with_reducible refine aC (f:=64) rfl ?_);refine zL (some 11) Tryz.func64 #[.agg #[.int .i64 n,.slice B a.length y]] ?_;(with_reducible refine(bp.calls k n _ _ a t260 _ ?af ?ah A3.out).mono ?_);(case af=>exact Kd.aq ag.out zB);(case ah=>exact bw.out);rintro e hf ⟨rfl,hb⟩;refine⟨_,rfl,?_⟩;replace m:=zb m hb;replace r:=zb r hb;replace l:=zS l hb;(try clear hb);obtain⟨hh,hj,hl,hm⟩:=ax r))
  refine bodyPost_ret (pQ rfl _ _ u 24 #[.int .i64 0,.slice none 0 0] (0,0) _ rfl (by refine zk ?_;refine bE (cs:=#[.int .i64 0,.slice none 0 0]) ?_ 1 _ rfl;refine zk ?_;refine bE (cs:=#[.int .i64 0,.slice none 0 0]) ?_ 0 _ rfl;exact zK r) Tryz.underlying24 rfl (by kernel_rfl)) rfl ?_;exact⟨_,zE,by first|exact Kd.cY _ _ _ _ _|exact Kd.fQ _ _ _ _ _|exact Kd.fR _ _ _ _ _|exact Kd.Q_nil _ _ _ _ _|exact Kd.fw _ _ _ _ _,zB⟩
end
def fk.f (k:Nat) (b:Int) (e:List (S83)):Option (Int×(List (S83))×Int):=(dh.f k b e 50).bind fun a=>(some (a.1,a.2.1,a.2.2))
theorem fk.mono:∀a0 a k,al (fk.f k a0 a) (fk.f (k+1) a0 a):=by
 intro a0 a k;unfold fk.f;with_reducible repeat' first|exact dh.mono _ _ _ _|exact al.refl _|exact al.none _|refine al.ite ?_ ?_|refine al.bind ?_ (fun _=>?_)
theorem fk.calls (k:Nat) (j:Int) (m:Option Addr) (n:Nat) (a:List (S83)) (y:Int) (z:List (S83)) (B:Int) (w:World) (D:Kd.C aW w m a.length a) (E:a.length<=n) (h:fk.f k j a=some (y,z,B)):
  Calls Tryz.prog 30 #[.agg #[.int .i64 j,.slice m a.length n]] w fun e w'=>∃F:Value,e= .returned (.tuple #[.agg #[.int .i64 y,F],.int .i64 B])/\Kd.R aW 83 w' w.heap.size (fun _=>True) F z/\Below w.heap.size w w':=by
 have U:=Tryz.underlying24;have L:=zA D;have M:=zA E;clear D E;have b:=zA (ao w.heap.size w);unfold fk.f at h;have H:=h;clear h;obtain⟨⟨u,x,O⟩,P,H⟩:=zo H;dsimp only at H;simp only[Option.some.injEq,Prod.mk.injEq] at H;obtain⟨rfl,rfl,rfl⟩:=H;go_enter Tryz.func30,Tryz.ntmps30
 go_wp2_with (first|((with_reducible refine aJ (N:=1) rfl ?_);refine zX 1 #[.int .i64 j,.slice m a.length n] 24 ?_;intro v i w3 q hb;have l:=zA (q);have V:=zG b i;have W:=zG b i;replace b:=zS b hb;clear hb q i)|((with_reducible refine aJ (N:=2) rfl ?_);refine zX 2 #[.int .i64 0,.slice none 0 0] 24 ?_;intro r i X q hb;have s:=zA (q);have Y:=zG b i;have Z:=zG b i;replace b:=zS b hb;have Q:=zA ((by rw[i];exact Nat.ne_of_lt (aD (g:=v) (o:=.cells #[.int .i64 j,.slice m a.length n] 24 (0,0)) (zK l)):v≠r));have S:=zA ((by rw[i];exact Nat.ne_of_gt (aD (g:=v) (o:=.cells #[.int .i64 j,.slice m a.length n] 24 (0,0)) (zK l)):r≠v));replace l:=zb l hb;clear hb q i;have aa:=Q.out;have ab:=S.out;obtain⟨ad,ag,ak,am⟩:=ax l)|((with_reducible refine aC (f:=84) rfl ?_);refine zL (some 5) Tryz.func84 #[.agg #[.int .i64 j,.slice m a.length n],.int .i64 50] ?_;(with_reducible refine(dh.calls k j _ _ a 50 u x O _ ?af ?ah P.out).mono ?_);(case af=>exact Kd.aq L.out zB);(case ah=>exact M.out);rintro e w7 ⟨ap,rfl,G,hb⟩;refine⟨_,rfl,?_⟩;have I:=zA (Kd.bh G (ba zB));replace l:=zb l hb;replace s:=zb s hb;replace b:=zS b hb;(try clear hb);(try clear G);obtain⟨ar,av,aB,aF⟩:=ax s;obtain⟨J,K,T⟩:=Kd.bm I.out;subst T))
 refine bodyPost_ret (pQ rfl _ _ r 24 #[.int .i64 u,.slice J x.length K] (0,0) _ rfl (by refine zk ?_;refine bE (cs:=#[.int .i64 u,.slice none 0 0]) ?_ 1 _ rfl;refine zk ?_;refine bE (cs:=#[.int .i64 0,.slice none 0 0]) ?_ 0 _ rfl;exact zK s) Tryz.underlying24 rfl (by kernel_rfl)) rfl ?_;exact⟨_,zE,by(with_reducible repeat(first|apply Kd.aK|apply Kd.bu|apply Kd.bl));exact Kd.a_ (Kd.dQ (p:=⟨r,1,none⟩) (Kd.dQ (p:=⟨r,0,none⟩) (Kd.gL I.out s.out (by decide)) (fun _ hk=>hk.2) (.int .i64 u)) (fun _ hk=>hk.2) (.slice J x.length K)) (fun _ hk=>trivial),zB⟩
def dE (E:List S83):List S83:=E.filter fun x=>decide (x.f0≠x.f1)
theorem pC {E:List S83} {x:S83}:x∈dE E↔x∈E/\x.f0≠x.f1:=by simp[dE]
theorem Et (E:List S83):ai (dE E)=ai E:=by
 unfold ai dE;generalize (fun _ _=>(0:Int):Nat->Nat->Int)=f;induction E generalizing f with
 |nil=>rfl
 |cons x E a=>
  by_cases e:x.f0=x.f1
  ·rw[List.filter_cons_of_neg (by simp[e]),List.foldl_cons,a,show cW f x=f from if_pos e]
  ·rw[List.filter_cons_of_pos (by simp[e]),List.foldl_cons,List.foldl_cons,a]
theorem bB.dE {N:Int} {E:List S83} (h:bB N E):bB N (dE E):=
 ⟨fun x a=>h.ok x (pC.1 a).1,fun x a=>h.le x (pC.1 a).1,h.order.sublist (List.filter_sublist ..)⟩
theorem wF {N:Int}:∀{E:List S83} {a b:Int},(∀x∈E,b8 N x=true/\x.f0<=x.f1/\(a<x.f0\/a=x.f0/\b<x.f1))->E.Pairwise iG->ic N a b E=0
 |[],_,_,_,_=>rfl
 |y::E,a,b,h,hp=>by
  obtain⟨g,i⟩:=List.pairwise_cons.1 hp;obtain⟨h1,j,k⟩:=h y (List.mem_cons_self ..);have he:eh N a b y=0:=by
   unfold eh;rw[h1,if_neg (by decide),if_neg (by omega)]
  rw[ic,if_pos he];exact wF (fun x e=>⟨(h x (List.mem_cons_of_mem _ e)).1,(h x (List.mem_cons_of_mem _ e)).2.1,g x e⟩) i
theorem Eu {N:Int} {E:List S83} (h1:1<=N) (b:N<=12) (h:bB N E):cD N E=0:=by
 unfold cD;rw[if_neg (by omega)];refine wF (fun x a=>⟨h.ok x a,h.le x a,?_⟩) h.order;have:=h.ok x a;simp[b8] at this;omega
theorem fD.dE {n:Nat} {E:List S83} (h:fD n E):fD n (dE E):=fun S h1 b=>by
 obtain⟨x,g,a⟩:=h S h1 b;exact⟨x,pC.2 ⟨g,fun e=>a (by rw[e])⟩,a⟩
theorem rT {N:Int} {E:List S83} (b:E.length<=1000) (hm:∀x∈E,x.f2<=50):∀(m i:Nat) (o:List S83),i+m=E.length->o.length<=i->Ev (fun k=>dh.l0 k 50 E E.length i N o) (N,o++dE (E.drop i),(0:Int))
 |0,i,o,hi,g=>by
  refine Ev.of_succ ?_;simp only[dh.l0,if_neg (show ¬((i:Int)<(E.length:Int)) by omega)];rw[List.drop_eq_nil_of_le (by omega)];simpa [dE] using Ev.const (N,o,(0:Int))
 |m+1,i,o,hi,g=>by
  have h:ae E i∈E:=by
   have:ae E i=E[i]:=by simp[ae,bc,bS (show i<E.length by omega)]
   rw[this];exact List.getElem_mem _
  have l:=hm _ h;rw[nh (show i<E.length by omega)];refine Ev.of_succ ?_;by_cases e:(ae E i).f0=(ae E i).f1
  ·have a:=rT (N:=N) b hm m (i+1) o (by omega) (by omega)
   simp only[dh.l0,if_pos (show (i:Int)<(E.length:Int) by omega),if_pos (show (0:Int)<=(i:Int) by omega),if_pos e,cV (show i<=1000000 by omega)];rw[show Go.Proofs.YtffdiakgjakngaaGreat.P.dE (ae E i::E.drop (i+1))=Go.Proofs.YtffdiakgjakngaaGreat.P.dE (E.drop (i+1)) from List.filter_cons_of_neg (by simp[e])];exact a
  ·have j:mn (ae E i).f2 50=(ae E i).f2:=by unfold mn;first|(rw[if_pos (by omega)])|(rw[if_neg (by omega)])|omega
   have a:=rT (N:=N) b hm m (i+1) (o++[ae E i]) (by omega) (by simp;omega);simp only[dh.l0,if_pos (show (i:Int)<(E.length:Int) by omega),if_pos (show (0:Int)<=(i:Int) by omega),if_neg e,if_pos (show o.length<5864062014805 by omega),cV (show i<=1000000 by omega),j];rw[show Go.Proofs.YtffdiakgjakngaaGreat.P.dE (ae E i::E.drop (i+1))=ae E i::Go.Proofs.YtffdiakgjakngaaGreat.P.dE (E.drop (i+1)) from List.filter_cons_of_pos (by simp[e])];rw[List.append_assoc] at a;exact a
theorem Ew {N:Int} {E:List S83} (b:E.length<=1000) (e:cD N E=0):Ev (fun k=>fk.f k N E) (N,dE E,(0:Int)):=by
 unfold fk.f dh.f;have h:=ma N E b;rw[e] at h;refine Ev.bind (a:=(N,dE E,(0:Int))) (Ev.bind h ?_) (Ev.const _);simp only[if_true];have hm:∀x∈E,x.f2<=50:=fun x g=>by
  have:=(ig e).2.2.ok x g;simp[b8] at this;omega
 simpa using rT (N:=N) b hm E.length 0 [] (by omega) (by simp)
theorem wG {p q:Nat->Nat} (h:∀v,rootOf q v=rootOf p v):∀u,b7 q u=b7 p u
 |0=>rfl
 |u+1=>by rw[b7,b7,wG h u,h u]
theorem wH {p q:Nat->Nat} {M m:Nat} (g:rootOf p M=M) (hm:rootOf p m=m) (a:m≠M) (h:∀v,rootOf q v=if rootOf p v=M then m else rootOf p v):∀u,b7 q u+(if M<u then 1 else 0)=b7 p u
 |0=>rfl
 |u+1=>by
  have b:=wH g hm a h u;rw[b7,b7,h u];rcases Nat.lt_trichotomy u M with e|e|e
  ·have e2:rootOf p u≠M:=by have:=iZ p u;omega
   rw[if_neg (by omega)] at b;rw[if_neg e2,if_neg (show ¬M<u+1 by omega)];omega
  ·subst e
   rw[if_neg (Nat.lt_irrefl _)] at b;rw[g,if_pos rfl,if_neg a,if_pos (Nat.lt_succ_self _),if_pos rfl];omega
  ·rw[if_pos e] at b
   rw[if_pos (show M<u+1 by omega)];by_cases e2:rootOf p u=M
   ·have i:m≠u:=fun j=>a (by rw[<-hm,j,e2])
    rw[if_pos e2,if_neg i,e2,if_neg (show ¬M=u by omega)];omega
   ·rw[if_neg e2]
    omega
theorem Ex {n:Nat} (s:(Nat->Nat)×Nat) (x:Nat×Int×Int) (h1:x.2.1.toNat<n) (g:x.2.2.toNat<n):(fK s x).2+b7 s.1 n=s.2+1+b7 (fK s x).1 n:=by
 unfold fK;have a:=mh s.1 x.2.1.toNat x.2.2.toNat;have i:=mf s.1 x.2.1.toNat;have hb:=mf s.1 x.2.2.toNat;have j:=iZ s.1 x.2.1.toNat;have lb:=iZ s.1 x.2.2.toNat;by_cases e:rootOf s.1 x.2.1.toNat=rootOf s.1 x.2.2.toNat
 ·rw[if_pos e,wG (q:=dT s.1 x.2.1.toNat x.2.2.toNat) (p:=s.1) (fun v=>by
   rw[a v,e,Nat.max_self,Nat.min_self];split
   ·rename_i h;exact h.symm
   ·rfl) n]
 ·rw[if_neg e]
  have b:=wH (p:=s.1) (q:=dT s.1 x.2.1.toNat x.2.2.toNat) (M:=max (rootOf s.1 x.2.1.toNat) (rootOf s.1 x.2.2.toNat)) (m:=min (rootOf s.1 x.2.1.toNat) (rootOf s.1 x.2.2.toNat))
   (by rw[Nat.max_def];split<;>assumption) (by rw[Nat.min_def];split<;>assumption) (by omega) a n
  rw[if_pos (by omega)] at b;dsimp only;omega
theorem wI {n:Nat}:∀(xs:List (Nat×Int×Int)) (s:(Nat->Nat)×Nat),(∀x∈xs,x.2.1.toNat<n/\x.2.2.toNat<n)->(xs.foldl fK s).2+b7 s.1 n=s.2+xs.length+b7 (xs.foldl fK s).1 n
 |[],s,_=>by simp
 |x::xs,s,h=>by
  have h1:=Ex s x (h x (List.mem_cons_self ..)).1 (h x (List.mem_cons_self ..)).2;have b:=wI xs (fK s x) (fun y a=>h y (List.mem_cons_of_mem _ a));rw[List.foldl_cons,List.length_cons];omega
def nP (x:Nat×Int×Int):S83:=⟨x.2.1,x.2.2,1⟩
theorem wJ:∀(xs:List (Nat×Int×Int)) (s:(Nat->Nat)×Nat),(xs.foldl fK s).1=(xs.map nP).foldl (fun p x=>dT p x.f0.toNat x.f1.toNat) s.1
 |[],s=>rfl
 |x::xs,s=>by rw[List.foldl_cons,List.map_cons,List.foldl_cons,wJ xs (fK s x)];rfl
theorem wK:∀n,b7 id n=n
 |0=>rfl
 |n+1=>by rw[b7,wK n,mg (by simp),if_pos rfl]
theorem wL {E:List S83} {y:Nat×Int×Int} (h:y∈cn E E.length):∃x∈E,y.2=(x.f0,x.f1):=by
 obtain⟨x,a,h1,b⟩:=q6 E _ (aI _) y h;exact⟨x,a,Prod.ext h1 b⟩
theorem wM {E:List S83} {i:Nat} (hi:i<E.length) (hm:1<=(ae E i).f2):∀{k:Nat},i<k->∃y∈cn E k,y.2=((ae E i).f0,(ae E i).f1)
 |0,h=>by omega
 |k+1,h=>by
  by_cases e:i=k
  ·subst e
   obtain⟨j,a⟩:∃j,(ae E i).f2.toNat=j+1:=⟨(ae E i).f2.toNat-1,by omega⟩;refine⟨_,List.mem_append_right _ (by rw[a];exact List.mem_append_right _ (List.mem_singleton.2 rfl)),rfl⟩
  ·obtain⟨y,b,he⟩:=wM hi hm (k:=k) (by omega)
   exact⟨y,List.mem_append_left _ b,he⟩
theorem Ey {n:Nat} {E:List S83} (e:bB n E) (h:fD n E):fD n ((cn E E.length).map nP):=fun S h1 g=>by
 obtain⟨x,a,j⟩:=h S h1 g;obtain⟨i,hi,rfl⟩:=List.getElem_of_mem a;have b:ae E i=E[i]:=by simp[ae,bc,bS hi]
 have k:=e.ok _ a;simp[b8] at k;obtain⟨y,l,he⟩:=wM hi (by rw[b];omega) hi;rw[b] at he;refine⟨nP y,List.mem_map.2 ⟨y,l,rfl⟩,?_⟩;show S y.2.1.toNat≠S y.2.2.toNat
 rw[he];exact j
theorem Ez {n:Nat} {E:List S83} (hn:1<=n) (a:bB n E) (h:fD n E):(cB (cn E E.length)).2+n=(cn E E.length).length+1:=by
 have i:∀x∈cn E E.length,x.2.1.toNat<n/\x.2.2.toNat<n:=fun y b=>by
  obtain⟨x,e,he⟩:=wL b;have g:=a.ok x e;simp[b8] at g;rw[he];show x.f0.toNat<n/\x.f1.toNat<n
  omega
 have j:=wI (n:=n) (cn E E.length) (id,0) i;have hf:=wJ (cn E E.length) (id,0);have h1:b7 (aN ((cn E E.length).map nP)) n=1:=(qJ hn (fun z k=>by
  obtain⟨y,b,rfl⟩:=List.mem_map.1 k;obtain⟨x,e,he⟩:=wL b;have g:=a.ok x e;simp[b8] at g;show 0<=y.2.1/\y.2.1<n/\0<=y.2.2/\y.2.2<n/\(1:Int)<=1/\(1:Int)<=50
  rw[he];show 0<=x.f0/\x.f0<n/\0<=x.f1/\x.f1<n/\(1:Int)<=1/\(1:Int)<=50
  omega)).2 (Ey a h)
 rw[show ((cn E E.length).foldl fK (id,0)).1=aN ((cn E E.length).map nP) from hf,h1,wK] at j;show ((cn E E.length).foldl fK (id,0)).2+n=_
 omega
theorem val_step_eq {n:Nat} {f:Nat->Nat->Int} {x:S83} (j:0<=x.f0/\x.f0<n) (h1:0<=x.f1/\x.f1<n) (a:x.f0≠x.f1) (b:f x.f0.toNat x.f1.toNat=0) (e:f x.f1.toNat x.f0.toNat=0) {u:Nat} (hu:u<n):
  T.val n (cW f x) u=T.val n f u+(T.one x.f1.toNat u*x.f2+T.one x.f0.toNat u*x.f2):=by
 unfold cW;rw[if_neg a];have g:x.f0.toNat<n:=by omega
 have hb:x.f1.toNat<n:=by omega
 have k:x.f0.toNat≠x.f1.toNat:=by omega
 unfold T.val;have i:T.one x.f1.toNat u*x.f2=T.sN (fun v=>(T.one x.f1.toNat u*x.f2)*T.one x.f0.toNat v) n:=by rw[T.eZ,T.fB g,Int.mul_one]
 have e2:T.one x.f0.toNat u*x.f2=T.sN (fun v=>(T.one x.f0.toNat u*x.f2)*T.one x.f1.toNat v) n:=by rw[T.eZ,T.fB hb,Int.mul_one]
 rw[i,e2,<-T.dH,<-T.dH];refine T.bJ fun v l=>?_
 unfold T.one;dsimp only;by_cases c1:u=x.f1.toNat/\v=x.f0.toNat
 ·rw[if_pos c1,if_pos c1.1,if_pos c1.2,if_neg (show ¬u=x.f0.toNat by omega),c1.1,c1.2,e];omega
 ·rw[if_neg c1]
  by_cases c2:u=x.f0.toNat/\v=x.f1.toNat
  ·rw[if_pos c2,if_pos c2.1,if_pos c2.2,if_neg (show ¬u=x.f1.toNat by omega),c2.1,c2.2,b];omega
  ·rw[if_neg c2]
   by_cases c3:u=x.f1.toNat
   ·rw[if_pos c3,if_neg (fun h=>c1 ⟨c3,h⟩),if_neg (show ¬u=x.f0.toNat by omega)];omega
   ·rw[if_neg c3]
    by_cases c4:u=x.f0.toNat
    ·rw[if_pos c4,if_neg (fun h=>c2 ⟨c4,h⟩)];omega
    ·rw[if_neg c4];omega
theorem EA {n:Nat} {f:Nat->Nat->Int} {x:S83} (b:0<=x.f0/\x.f0<n) (h1:0<=x.f1/\x.f1<n) (e:x.f0≠x.f1) (h:f x.f0.toNat x.f1.toNat=0) (i:f x.f1.toNat x.f0.toNat=0):
  T.sN (T.val n (cW f x)) n=T.sN (T.val n f) n+2*x.f2:=by
 have j:x.f0.toNat<n:=by omega
 have hb:x.f1.toNat<n:=by omega
 have a:=T.bJ fun u hu=>val_step_eq b h1 e h i (u:=u) hu
 rw[T.dH,T.dH] at a;have k:T.sN (fun u=>T.one x.f1.toNat u*x.f2) n=x.f2:=by
  rw[T.bJ (g:=fun u=>x.f2*T.one x.f1.toNat u) (fun u _=>Int.mul_comm _ _),T.eZ,T.fB hb,Int.mul_one]
 have l:T.sN (fun u=>T.one x.f0.toNat u*x.f2) n=x.f2:=by
  rw[T.bJ (g:=fun u=>x.f2*T.one x.f0.toNat u) (fun u _=>Int.mul_comm _ _),T.eZ,T.fB j,Int.mul_one]
 rw[k,l] at a;omega
theorem wN {n:Nat}:∀(E:List S83) (f:Nat->Nat->Int),(∀x∈E,b8 n x=true/\x.f0<x.f1/\f x.f0.toNat x.f1.toNat=0/\f x.f1.toNat x.f0.toNat=0)->E.Pairwise iG->T.sN (T.val n (E.foldl cW f)) n=T.sN (T.val n f) n+2*gG E
 |[],f,_,_=>by simp[gG]
 |x::E,f,h,hp=>by
  obtain⟨e,g⟩:=List.pairwise_cons.1 hp;obtain⟨h1,r,i,j⟩:=h x (List.mem_cons_self ..);simp[b8] at h1;have k:=EA (n:=n) (f:=f) (x:=x) (by omega) (by omega) (by omega) i j;have l:=wN E (cW f x) (fun y a=>by
   obtain⟨b,m,o,p⟩:=h y (List.mem_cons_of_mem _ a);have hb:=e y a;unfold iG at hb;have q:=b;simp[b8] at q;unfold cW;rw[if_neg (show ¬x.f0=x.f1 by omega)];refine⟨b,m,?_,?_⟩
   ·show (if _ then _ else _)=_
    rw[if_neg (by omega),if_neg (by omega)];exact o
   ·show (if _ then _ else _)=_
    rw[if_neg (by omega),if_neg (by omega)];exact p) g
  rw[List.foldl_cons,l,k,gG];omega
theorem EB {n:Nat} {E:List S83} (h:bB n E) (b:∀x∈E,x.f0≠x.f1):T.sN (T.val n (ai E)) n=2*(cO E E.length:Nat):=by
 have h1:=wN (n:=n) E (fun _ _=>0) (fun x a=>⟨h.ok x a,by have:=h.le x a;have:=b x a;omega,rfl,rfl⟩) h.order;have g:T.sN (T.val n fun _ _=>0) n=0:=T.ie fun u _=>T.jw n
 have e:=rQ h E.length (aI _);rw[List.take_length] at e;unfold ai;omega
theorem EC {n:Nat} {E:List S83} (hn:1<=n) (m:n<=12) (o:E.length<=40) (e:cD n E=0) (hC:fD n E):
  ∃g:Nat,Ev (fun k=>fj.f k n (dE E)) ((g:Int),(0:Int))/\T.e7 n (ai E) g:=by
 have a:=(ig e).2.2.dE;have p:(dE E).length<=E.length:=List.length_filter_le _ _;have i:=Ez hn a hC.dE;refine⟨(cB (cn (dE E) (dE E).length)).2,?_,?_⟩
 ·unfold fj.f
  have h:=ma n (dE E) (by omega);rw[Eu (by omega) (by omega) a] at h;refine Ev.bind h ?_;have j:nO n (dE E)=true:=by
   unfold nO fh;rw[a.cI,az (by omega),az (show (dE E).length<=40 by omega)];simp only[Bool.true_and,Bool.and_true];refine List.all_eq_true.2 fun x b=>?_
   have:=a.ok x b;simp[b8] at this;exact az (by omega)
  simp only[if_true,if_pos j];exact Ev.const _
 ·have h1:=EB a (fun x b=>(pC.1 b).2)
  rw[Et] at h1;show T.sN (T.can n (ai E)) n=_
  have l:T.sN (T.can n (ai E)) n=T.sN (T.val n (ai E)) n-2*n:=by
   show T.sN (fun v=>T.val n (ai E) v-2) n=_
   rw[T.dB,T.iW];omega
  rw[o7] at i;rw[l,h1];omega
def dt.l0:Nat->List Int->Int->Int->Int->List (S83)->Option (Int)
 |0,_,_,_,_,_=>none
 |k+1,b,e,a,g,h=>if a<e then(if 0<=a then(if a<(b.length:Int) then((ga.f g (rd b a)).bind fun t222=>(if t222=true then(dt.l0 k b e (wrap64 (a+1)) g h) else(some 2))) else(none)) else(none)) else(some 0)
def dt.f (k:Nat) (a:Int) (b:List (S83)) (l1:List Int):Option (Int):=(bp.f k a b).bind fun t220=>(if t220=0 then(dt.l0 k l1 (l1.length:Int) 0 a b) else(some t220))
theorem dt.ct:∀k,(∀a b e g i,al (dt.l0 k a b e g i) (dt.l0 (k+1) a b e g i))
 |0=>fun _ _ _ _ _ r h=>by simp[dt.l0] at h
 |k+1=>by
  have j:=dt.ct k
  ·intro a b e g i
   unfold dt.l0;with_reducible repeat' first|exact j _ _ _ _ _|exact bp.mono _ _ _|exact al.refl _|exact al.none _|refine al.ite ?_ ?_|refine al.bind ?_ (fun _=>?_)
theorem dt.mono:∀a0 a a2 k,al (dt.f k a0 a a2) (dt.f (k+1) a0 a a2):=by
 intro a0 a a2 k;have b:=dt.ct k;unfold dt.f;with_reducible repeat' first|exact b _ _ _ _ _|exact bp.mono _ _ _|exact al.refl _|exact al.none _|refine al.ite ?_ ?_|refine al.bind ?_ (fun _=>?_)
theorem dt.calls (k:Nat) (g:Int) (l:Option Addr) (m:Nat) (i:List (S83)) (E:Option Addr) (c1:Nat) (l1:List Int) (r:Int) (w:World) (F:Kd.C aW w l i.length i) (G:i.length<=m) (I:Kd.C (Kd.int .i64) w E l1.length l1) (J:l1.length<=c1) (h:dt.f k g i l1=some r):
  Calls Tryz.prog 203 #[.agg #[.int .i64 g,.slice l i.length m],.slice E l1.length c1] w fun e w'=>e= .returned (.int .i64 r)/\Below w.heap.size w w':=by
 have an:=Tryz.underlying24;have K:=zA F;have L:=zA G;clear F G;have M:=zA I;have ap:=zA J;clear I J;have b:=zA (ao w.heap.size w);unfold dt.f at h;have H:=h;clear h;obtain⟨t220,O,H⟩:=zo H;by_cases c4:t220=0
 ·rw[if_pos c4] at H
  obtain⟨P,Q⟩:=bG c4;clear c4;have v:=zA H;clear H;go_enter Tryz.func203,Tryz.ntmps203
  go_wp2_with (first|((with_reducible refine aJ (N:=2) rfl ?_);refine zX 2 #[.int .i64 g,.slice l i.length m] 24 ?_;intro R n w5 u hb;have j:=zA (u);have V:=zG b n;have W:=zG b n;replace b:=zS b hb;clear hb u n;obtain⟨X,Y,Z,aa⟩:=ax j)|((with_reducible refine aC (f:=64) rfl ?_);refine zL (some 9) Tryz.func64 #[.agg #[.int .i64 g,.slice l i.length m]] ?_;(with_reducible refine(bp.calls k g _ _ i t220 _ ?af ?ah O.out).mono ?_);(case af=>exact Kd.aq K.out zB);(case ah=>exact L.out);rintro e w7 ⟨rfl,hb⟩;refine⟨_,rfl,?_⟩;replace j:=zb j hb;replace b:=zS b hb;(try clear hb)))
  go_loopg [15] k (fun S ab w'=>∃(a:Int),ab= .int .i64 a/\Aside0 (dt.l0 S l1 (l1.length:Int) a g i=some r)/\Aside0 (S<=k)/\Aside0 (w'.heap[R]? =some (.cells #[.int .i64 g,(.slice l i.length m)] 24 (0,0)))/\Aside0 (Below w.heap.size w w'))
  case atStart=>exact⟨(0),zT,v,⟨aI _⟩,⟨zK j⟩,⟨zB⟩⟩
  case round=>
   clear v;clear P Q X Y Z aa;obtain⟨a,rfl,B,T,j,b⟩:=hrel;cases gk with
   |zero=>exact absurd B.out (by simp[dt.l0])
   |succ k1=>
    have H:=B.out;clear B;simp only[dt.l0] at H;by_cases s:a<(l1.length:Int)
    ·rw[if_pos s] at H
     have ag:=az s;clear s;by_cases x:0<=a
     ·rw[if_pos x] at H
      have aB:=az x;clear x;by_cases y:a<(l1.length:Int)
      ·rw[if_pos y] at H
       have aF:=az y;clear y;obtain⟨t222,U,H⟩:=zo H;by_cases z:t222=true
       ·subst z
        replace H:=zi H;have v:=zA H;clear H;have o:0<=(a:Int):=aw ‹_›;have p:a<(l1.length:Int):=aw ‹_›;obtain⟨ak,D,q⟩:=Kd.bM M.out a o p;cases D;replace q:=(b.out.cell (br w _ q)).trans q;replace o:=eq_true o;replace p:=eq_true p;obtain⟨aL,aO,aP,aR⟩:=ax j;go_wp2_with (first|((with_reducible refine aC (f:=121) rfl ?_);refine zL (some 22) Tryz.func121 #[.int .i64 g,.int .i64 (rd l1 a)] ?_;(with_reducible refine(ga.calls g (rd l1 a) true _ U.out).mono ?_);rintro e w' ⟨rfl,⟨nd,rfl⟩⟩;refine⟨_,rfl,?_⟩))
        go_roundg k1
        case measure=>have:=T.out;omega
        case rel=>exact⟨(wrap64 (a+1)),zT,v,⟨by have:=T.out;omega⟩,⟨zK j⟩,⟨zB⟩⟩
       ·replace z:=Bool.eq_false_iff.mpr z
        subst z;replace H:=zj H;obtain rfl:=aE H;have o:0<=(a:Int):=aw ‹_›;have p:a<(l1.length:Int):=aw ‹_›;obtain⟨ak,D,q⟩:=Kd.bM M.out a o p;cases D;replace q:=(b.out.cell (br w _ q)).trans q;replace o:=eq_true o;replace p:=eq_true p;obtain⟨aS,a0,a1,a2⟩:=ax j;go_wp2_with (first|((with_reducible refine aC (f:=121) rfl ?_);refine zL (some 22) Tryz.func121 #[.int .i64 g,.int .i64 (rd l1 a)] ?_;(with_reducible refine(ga.calls g (rd l1 a) false _ U.out).mono ?_);rintro e w' ⟨rfl,⟨nd,rfl⟩⟩;refine⟨_,rfl,?_⟩))
        go_ret;exact⟨zE,zB⟩
      ·rw[if_neg y] at H
       exact absurd H (by simp)
     ·rw[if_neg x] at H
      exact absurd H (by simp)
    ·rw[if_neg s] at H
     have ag:=aZ s;clear s;obtain rfl:=aE H;go_wp2;go_ret;exact⟨zE,zB⟩
 ·rw[if_neg c4] at H
  obtain⟨P,Q⟩:=bI c4;obtain rfl:=aE H;go_enter Tryz.func203,Tryz.ntmps203
  go_wp2_with (first|((with_reducible refine aJ (N:=2) rfl ?_);refine zX 2 #[.int .i64 g,.slice l i.length m] 24 ?_;intro R n a3 u hb;have j:=zA (u);have V:=zG b n;have W:=zG b n;replace b:=zS b hb;clear hb u n;obtain⟨a4,a5,a9,be⟩:=ax j)|((with_reducible refine aC (f:=64) rfl ?_);refine zL (some 9) Tryz.func64 #[.agg #[.int .i64 g,.slice l i.length m]] ?_;(with_reducible refine(bp.calls k g _ _ i t220 _ ?af ?ah O.out).mono ?_);(case af=>exact Kd.aq K.out zB);(case ah=>exact L.out);rintro e bf ⟨rfl,hb⟩;refine⟨_,rfl,?_⟩;replace j:=zb j hb;replace b:=zS b hb;(try clear hb)))
  go_ret;exact⟨zE,zB⟩
def cF.l0:Nat->Int->Int->List (S83)->Int->Int->Option (Int×Int)
 |0,_,_,_,_,_=>none
 |k+1,x1,e,b,g,a=>if a<g then(if 0<=a then(if a<(b.length:Int) then(if((ae b a).f0)=((ae b a).f1) then(cF.l0 k x1 e b g (wrap64 (a+1))) else(if((ae b a).f0)=x1 then(cF.l0 k x1 (wrap64 (e+((ae b a).f2))) b g (wrap64 (a+1))) else(if((ae b a).f1)=x1 then(cF.l0 k x1 (wrap64 (e+((ae b a).f2))) b g (wrap64 (a+1))) else(cF.l0 k x1 e b g (wrap64 (a+1)))))) else(none)) else(none)) else(some (e,0))
def cF.f (k:Nat) (e:Int) (a:List (S83)) (b:Int):Option (Int×Int):=(dt.f k e a (([b]:List Int))).bind fun t227=>(if t227=0 then(cF.l0 k b 0 a (a.length:Int) 0) else(some (0,t227)))
theorem cF.ct:∀k,(∀a b e g i,al (cF.l0 k a b e g i) (cF.l0 (k+1) a b e g i))
 |0=>fun _ _ _ _ _ r h=>by simp[cF.l0] at h
 |k+1=>by
  have j:=cF.ct k
  ·intro a b e g i
   unfold cF.l0;with_reducible repeat' first|exact j _ _ _ _ _|exact dt.mono _ _ _ _|exact al.refl _|exact al.none _|refine al.ite ?_ ?_|refine al.bind ?_ (fun _=>?_)
theorem cF.mono:∀a0 a a2 k,al (cF.f k a0 a a2) (cF.f (k+1) a0 a a2):=by
 intro a0 a a2 k;have b:=cF.ct k;unfold cF.f;with_reducible repeat' first|exact b _ _ _ _ _|exact dt.mono _ _ _ _|exact al.refl _|exact al.none _|refine al.ite ?_ ?_|refine al.bind ?_ (fun _=>?_)
theorem cF.calls (k:Nat) (m:Int) (G:Option Addr) (q:Nat) (b:List (S83)) (r:Int) (W:Int) (X:Int) (w:World) (ar:Kd.C aW w G b.length b) (av:b.length<=q) (h:cF.f k m b r=some (W,X)):
  Calls Tryz.prog 186 #[.agg #[.int .i64 m,.slice G b.length q],.int .i64 r] w fun e w'=>e= .returned (.tuple #[.int .i64 W,.int .i64 X])/\Below w.heap.size w w':=by
 have b':=Tryz.underlying24;have ca:=Tryz.underlying83;have O:=zA ar;have aB:=zA av;clear ar av;have a:=zA (ao w.heap.size w);unfold cF.f at h;have H:=h;clear h;obtain⟨Q,ad⟩:∃y_:List Int,y_=(([r]:List Int)):=⟨_,rfl⟩;replace H:((dt.f k m b Q).bind fun t227=>(if t227=0 then(cF.l0 k r 0 b (b.length:Int) 0) else(some (0,t227))))=some (W,X):=zh ad H;have Y:=zA ad;clear ad;obtain⟨t227,A3,H⟩:=zo H;by_cases c4:t227=0
 ·rw[if_pos c4] at H
  obtain⟨aL,aO⟩:=bG c4;clear c4;have E:=zA H;clear H;go_enter Tryz.func186,Tryz.ntmps186
  go_wp2_with (first|((with_reducible refine aJ (N:=2) rfl ?_);refine zX 2 #[.int .i64 m,.slice G b.length q] 24 ?_;intro n hg w5 p hb;have i:=zA (p);have aS:=zG a hg;have a0:=zG a hg;replace a:=zS a hb;clear hb p hg;obtain⟨a2,a3,a4,a5⟩:=ax i)|((with_reducible refine aJ (N:=12) rfl ?_);refine Kd.eF (Kd.int .i64) _ 3 ?hg (N:=12) ?hd (xs:=([r]:List Int)) (inner:=[.int .i64 r]) (ok:=fun _=>True) (okp:=fun _=>True) ?hr ?hp (fun _ hk=>hk) trivial (ao _ _) (aI _) (by simp) ?_;(case hd=>rfl);(case hg=>rfl);(case hr=>first|(go_simp;done)|(go_simp;rfl));(case hp=>exact(aQ.one (show Kd.M (Kd.int .i64) _ _ _ r [.int .i64 r] from rfl) (aQ.none _ _)));intro a9 w7 R hb ag ak;clear ag ak;(first|rw[<-Y.out] at R|(simp only[Int.reduceToNat] at R;rw[<-Y.out] at R));have z:=zA (Kd.bh R (ba zB));replace i:=zb i hb;replace a:=zS a hb;clear hb R;obtain⟨be,bf,bg⟩:=Kd.bm z.out;subst bg)|((with_reducible refine aC (f:=203) rfl ?_);refine zL (some 13) Tryz.func203 #[.agg #[.int .i64 m,.slice G b.length q],.slice be Q.length bf] ?_;(with_reducible refine(dt.calls k m _ _ b _ _ Q t227 _ ?af ?ah ?aU ?aT A3.out).mono ?_);(case af=>exact Kd.aq O.out zB);(case ah=>exact aB.out);(case aU=>exact zC (Kd.aH z.out).2.2);(case aT=>exact(Kd.aH z.out).2.1);rintro e cd ⟨rfl,hb⟩;refine⟨_,rfl,?_⟩;replace z:=bt z hb;replace i:=zb i hb;replace a:=zS a hb;(try clear hb);obtain⟨bi,bk,bn,bo⟩:=ax i))
  go_loopg [7,20] k (fun kq v7 v20 w'=>∃(I:Int) (j:Int),v7= .int .i64 I/\v20= .int .i64 j/\Aside0 (cF.l0 kq r I b (b.length:Int) j=some (W,X))/\Aside0 (kq<=k)/\Aside0 (w'.heap[n]? =some (.cells #[.int .i64 m,(.slice G b.length q)] 24 (0,0)))/\Aside0 (Below w.heap.size w w'))
  case atStart=>exact⟨(0),(0),zT,zT,E,⟨aI _⟩,⟨zK i⟩,⟨zB⟩⟩
  case round=>
   clear E;clear aL aO bi bk a2 a3 bn bo a4 a5;obtain⟨I,j,rfl,rfl,HA,F,i,a⟩:=hrel;cases gk with
   |zero=>exact absurd HA.out (by simp[cF.l0])
   |succ Z=>
    have H:=HA.out;clear HA;simp only[cF.l0] at H;by_cases P:j<(b.length:Int)
    ·rw[if_pos P] at H
     have bw:=az P;clear P;by_cases aa:0<=j
     ·rw[if_pos aa] at H
      have ce:=az aa;clear aa;by_cases ab:j<(b.length:Int)
      ·rw[if_pos ab] at H
       have cf:=az ab;clear ab;by_cases S:((ae b j).f0)=((ae b j).f1)
       ·rw[if_pos S] at H
        obtain⟨bx,b0⟩:=bG S;clear S;have E:=zA H;clear H;have s:0<=(j:Int):=aw ‹_›;have u:j<(b.length:Int):=aw ‹_›;obtain⟨B,J,v,x,y⟩:=eY O.out j s u;cases J;replace v:=(a.out.cell (br w _ v)).trans v;replace x:=(a.out.cell (br w _ x)).trans x;replace y:=(a.out.cell (br w _ y)).trans y;replace s:=eq_true s;replace u:=eq_true u;go_wp2_with (first|((with_reducible refine aJ (N:=9) rfl ?_);refine zX 9 #[.int .i64 0,.int .i64 0,.int .i64 0] 83 ?_;intro D hg ch p hb;have K:=zA (p);have an:=zG a hg;have ap:=zG a hg;replace a:=zS a hb;have l:=zA ((by rw[hg];exact Nat.ne_of_lt (aD (g:=n) (o:=.cells #[.int .i64 m,.slice (some B) b.length q] 24 (0,0)) (zK i)):n≠D));have L:=zA ((by rw[hg];exact Nat.ne_of_gt (aD (g:=n) (o:=.cells #[.int .i64 m,.slice (some B) b.length q] 24 (0,0)) (zK i)):D≠n));replace i:=zb i hb;clear hb p hg;have ci:=L.out;have cj:=l.out;obtain⟨ck,cl,co,cq,cr,cs⟩:=cp K))
        go_roundg Z
        case measure=>have:=F.out;omega
        case rel=>exact⟨(I),(wrap64 (j+1)),zT,zT,E,⟨by have:=F.out;omega⟩,⟨by refine zk ?_;refine aG ?_ l.out _;refine zk ?_;refine aG ?_ l.out _;refine zk ?_;refine aG ?_ l.out _;exact zK i⟩,⟨zB⟩⟩
       ·rw[if_neg S] at H
        obtain⟨bx,b0⟩:=bI S;by_cases T:((ae b j).f0)=r
        ·rw[if_pos T] at H
         obtain⟨b1,b2⟩:=bG T;clear T;have E:=zA H;clear H;have s:0<=(j:Int):=aw ‹_›;have u:j<(b.length:Int):=aw ‹_›;obtain⟨B,J,v,x,y⟩:=eY O.out j s u;cases J;replace v:=(a.out.cell (br w _ v)).trans v;replace x:=(a.out.cell (br w _ x)).trans x;replace y:=(a.out.cell (br w _ y)).trans y;replace s:=eq_true s;replace u:=eq_true u;go_wp2_with (first|((with_reducible refine aJ (N:=9) rfl ?_);refine zX 9 #[.int .i64 0,.int .i64 0,.int .i64 0] 83 ?_;intro D hg cv p hb;have K:=zA (p);have an:=zG a hg;have ap:=zG a hg;replace a:=zS a hb;have l:=zA ((by rw[hg];exact Nat.ne_of_lt (aD (g:=n) (o:=.cells #[.int .i64 m,.slice (some B) b.length q] 24 (0,0)) (zK i)):n≠D));have L:=zA ((by rw[hg];exact Nat.ne_of_gt (aD (g:=n) (o:=.cells #[.int .i64 m,.slice (some B) b.length q] 24 (0,0)) (zK i)):D≠n));replace i:=zb i hb;clear hb p hg;have cx:=L.out;have c0:=l.out;obtain⟨c1,c2,c3,c5,c6,c7⟩:=cp K))
         go_roundg Z
         case measure=>have:=F.out;omega
         case rel=>exact⟨(wrap64 (I+((ae b j).f2))),(wrap64 (j+1)),zT,zT,E,⟨by have:=F.out;omega⟩,⟨by refine zk ?_;refine aG ?_ l.out _;refine zk ?_;refine aG ?_ l.out _;refine zk ?_;refine aG ?_ l.out _;exact zK i⟩,⟨zB⟩⟩
        ·rw[if_neg T] at H
         obtain⟨b1,b2⟩:=bI T;by_cases U:((ae b j).f1)=r
         ·rw[if_pos U] at H
          obtain⟨b3,b4⟩:=bG U;clear U;have E:=zA H;clear H;have s:0<=(j:Int):=aw ‹_›;have u:j<(b.length:Int):=aw ‹_›;obtain⟨B,J,v,x,y⟩:=eY O.out j s u;cases J;replace v:=(a.out.cell (br w _ v)).trans v;replace x:=(a.out.cell (br w _ x)).trans x;replace y:=(a.out.cell (br w _ y)).trans y;replace s:=eq_true s;replace u:=eq_true u;go_wp2_with (first|((with_reducible refine aJ (N:=9) rfl ?_);refine zX 9 #[.int .i64 0,.int .i64 0,.int .i64 0] 83 ?_;intro D hg c8 p hb;have K:=zA (p);have an:=zG a hg;have ap:=zG a hg;replace a:=zS a hb;have l:=zA ((by rw[hg];exact Nat.ne_of_lt (aD (g:=n) (o:=.cells #[.int .i64 m,.slice (some B) b.length q] 24 (0,0)) (zK i)):n≠D));have L:=zA ((by rw[hg];exact Nat.ne_of_gt (aD (g:=n) (o:=.cells #[.int .i64 m,.slice (some B) b.length q] 24 (0,0)) (zK i)):D≠n));replace i:=zb i hb;clear hb p hg;have c9:=L.out;have c':=l.out;obtain⟨dd,dk,dl,ds,dv,d0⟩:=cp K))
          go_roundg Z
          case measure=>have:=F.out;omega
          case rel=>exact⟨(wrap64 (I+((ae b j).f2))),(wrap64 (j+1)),zT,zT,E,⟨by have:=F.out;omega⟩,⟨by refine zk ?_;refine aG ?_ l.out _;refine zk ?_;refine aG ?_ l.out _;refine zk ?_;refine aG ?_ l.out _;exact zK i⟩,⟨zB⟩⟩
         ·rw[if_neg U] at H
          obtain⟨b3,b4⟩:=bI U;have E:=zA H;clear H;have s:0<=(j:Int):=aw ‹_›;have u:j<(b.length:Int):=aw ‹_›;obtain⟨B,J,v,x,y⟩:=eY O.out j s u;cases J;replace v:=(a.out.cell (br w _ v)).trans v;replace x:=(a.out.cell (br w _ x)).trans x;replace y:=(a.out.cell (br w _ y)).trans y;replace s:=eq_true s;replace u:=eq_true u;go_wp2_with (first|((with_reducible refine aJ (N:=9) rfl ?_);refine zX 9 #[.int .i64 0,.int .i64 0,.int .i64 0] 83 ?_;intro D hg d1 p hb;have K:=zA (p);have an:=zG a hg;have ap:=zG a hg;replace a:=zS a hb;have l:=zA ((by rw[hg];exact Nat.ne_of_lt (aD (g:=n) (o:=.cells #[.int .i64 m,.slice (some B) b.length q] 24 (0,0)) (zK i)):n≠D));have L:=zA ((by rw[hg];exact Nat.ne_of_gt (aD (g:=n) (o:=.cells #[.int .i64 m,.slice (some B) b.length q] 24 (0,0)) (zK i)):D≠n));replace i:=zb i hb;clear hb p hg;have d2:=L.out;have d3:=l.out;obtain⟨d4,d5,d6,d7,d8,d9⟩:=cp K))
          go_roundg Z
          case measure=>have:=F.out;omega
          case rel=>exact⟨(I),(wrap64 (j+1)),zT,zT,E,⟨by have:=F.out;omega⟩,⟨by refine zk ?_;refine aG ?_ l.out _;refine zk ?_;refine aG ?_ l.out _;refine zk ?_;refine aG ?_ l.out _;exact zK i⟩,⟨zB⟩⟩
      ·rw[if_neg ab] at H
       exact absurd H (by simp)
     ·rw[if_neg aa] at H
      exact absurd H (by simp)
    ·rw[if_neg P] at H
     have bw:=aZ P;clear P;simp only[Option.some.injEq,Prod.mk.injEq] at H;obtain⟨rfl,rfl⟩:=H;go_wp2;go_ret2;exact⟨zE,zB⟩
 ·rw[if_neg c4] at H
  obtain⟨aL,aO⟩:=bI c4;simp only[Option.some.injEq,Prod.mk.injEq] at H;obtain⟨rfl,rfl⟩:=H;go_enter Tryz.func186,Tryz.ntmps186
  go_wp2_with (first|((with_reducible refine aJ (N:=2) rfl ?_);refine zX 2 #[.int .i64 m,.slice G b.length q] 24 ?_;intro n hg ea p hb;have i:=zA (p);have aS:=zG a hg;have a0:=zG a hg;replace a:=zS a hb;clear hb p hg;obtain⟨eb,ed,eg,ek⟩:=ax i)|((with_reducible refine aJ (N:=12) rfl ?_);refine Kd.eF (Kd.int .i64) _ 3 ?hg (N:=12) ?hd (xs:=([r]:List Int)) (inner:=[.int .i64 r]) (ok:=fun _=>True) (okp:=fun _=>True) ?hr ?hp (fun _ hk=>hk) trivial (ao _ _) (aI _) (by simp) ?_;(case hd=>rfl);(case hg=>rfl);(case hr=>first|(go_simp;done)|(go_simp;rfl));(case hp=>exact(aQ.one (show Kd.M (Kd.int .i64) _ _ _ r [.int .i64 r] from rfl) (aQ.none _ _)));intro a9 el V hb ag ak;clear ag ak;(first|rw[<-Y.out] at V|(simp only[Int.reduceToNat] at V;rw[<-Y.out] at V));have z:=zA (Kd.bh V (ba zB));replace i:=zb i hb;replace a:=zS a hb;clear hb V;obtain⟨b5,b6,b_⟩:=Kd.bm z.out;subst b_)|((with_reducible refine aC (f:=203) rfl ?_);refine zL (some 13) Tryz.func203 #[.agg #[.int .i64 m,.slice G b.length q],.slice b5 Q.length b6] ?_;(with_reducible refine(dt.calls k m _ _ b _ _ Q t227 _ ?af ?ah ?aU ?aT A3.out).mono ?_);(case af=>exact Kd.aq O.out zB);(case ah=>exact aB.out);(case aU=>exact zC (Kd.aH z.out).2.2);(case aT=>exact(Kd.aH z.out).2.1);rintro e em ⟨rfl,hb⟩;refine⟨_,rfl,?_⟩;replace z:=bt z hb;replace i:=zb i hb;replace a:=zS a hb;(try clear hb)))
  go_ret2;exact⟨zE,zB⟩
end Go.Proofs.YtffdiakgjakngaaGreat.P


namespace Go.Proofs.YtffdiakgjakngaaGreat.P
open Go.RowKit Go.Proofs.YtffdiakgjakngaaGreatW.PrintWords Go.Proofs.YtffdiakgjakngaaGreatW.PrintLast Go.Proofs.YtffdiakgjakngaaGreatW.PrintMore
set_option linter.unusedVariables false
set_option linter.unusedSimpArgs false
set_option maxHeartbeats 8000000
set_option maxRecDepth 100000
section
attribute [local go_sem] Oper.semAt_some
theorem wO (N:Int) (ev:Value) (w:World):Calls Tryz.prog 143 #[.agg #[.int .i64 N,ev]] w fun e w'=>e= .returned (.func (.func 185) #[] #[.pointer (some ⟨w.heap.size,0,none⟩)])/\w'=w.alloc (.cells #[.int .i64 N,ev] 24):=by
 go_enter Tryz.func143,Tryz.ntmps143
 go_wp2;go_ret;exact⟨rfl,rfl⟩
def lO (k:Nat) (N:Int) (E:List S83):Nat->Option (List Int)
 |0=>some []
 |v+1=>(lO k N E v).bind fun l=>(cF.f k N E (v:Nat)).bind fun p=>some (l++[p.1])
theorem wP (k:Nat) (N:Int) (E:List S83):∀v,al (lO k N E v) (lO (k+1) N E v)
 |0=>al.refl _
 |v+1=>al.bind (wP k N E v) (fun _=>al.bind (cF.mono _ _ _ _) (fun _=>al.refl _))
theorem wQ {k:Nat} {N:Int} {E:List S83}:∀{v:Nat} {l:List Int},lO k N E v=some l->l.length=v/\∀u:Nat,u<v->∃e,cF.f k N E (u:Nat)=some (rd l u,e)
 |0,l,h=>by injection h with h;subst h;exact⟨rfl,fun u hu=>by omega⟩
 |v+1,l,h=>by
  obtain⟨l',h1,b⟩:=Option.bind_eq_some_iff.1 h;obtain⟨p,g,a⟩:=Option.bind_eq_some_iff.1 b;injection a with a
  subst a;obtain⟨i1,i2⟩:=wQ h1;refine⟨by simp[i1],fun u hu=>?_⟩;by_cases e:u=v
  ·subst e
   refine⟨p.2,?_⟩;rw[g,show rd (l'++[p.1]) (u:Int)=p.1 by simp[rd,bc,<-i1]]
  ·obtain⟨e',i⟩:=i2 u (by omega)
   refine⟨e',?_⟩;rw[i,show rd (l'++[p.1]) (u:Int)=rd l' u by simp[rd,bc,List.getElem?_append_left (show u<l'.length by omega)]]
def gU (L:List Int) (v:Nat):List (Int×Int):=(List.range v).map fun u:Nat=>((u:Int),rd L u)
theorem wR (L:List Int) (v:Nat):gU L (v+1)=gU L v++[((v:Int),rd L v)]:=by simp[gU,List.range_succ]
def ED (base a:Nat) (X Y:World):Prop:=(base<=X.heap.size->Below base X Y)/\(a<X.heap.size->Y.heap[a]? =X.heap[a]?)
theorem wS (a k n:Nat) (A0:Option Addr) (c0:Nat) (E:List S83) (L:List Int) (w0 W:World) (O:Kd.C aW w0 A0 E.length E) (P:E.length<=c0) (hn:n<=1000) (q:∀u:Nat,u<n->∃e,cF.f k n E (u:Nat)=some (rd L u,e)) (r:Below w0.heap.size w0 W)
  (h:W.heap[a]? =some (.cells #[.int .i64 n,.slice A0 E.length c0] 24 (0,0))):
  jA (σ:=Unit) Fence.wide 9 Tryz.prog 185 #[.pointer (some ⟨a,0,none⟩)] (fun x:Int×Int=>#[.int .i64 x.1,.int .i64 x.2]) (fun _ W W1=>W1=W) (fun _ A B=>Below A.heap.size A B) (fun _ x A B=>(∃v:Nat,v<n/\x=((v:Int),rd L v))/\Below A.heap.size A B)
   (fun _ X Y=>ED w0.heap.size a X Y)
   (fun _ xs W'=>xs=gU L n) (fun _ _ _=>True) (fun pre=>pre.length<=n) W:=by
 intro lp J Jx s w y z;have Q:=zA s;have ar:=zA w;have R:=zA z;have S:=zA q;have D:=y () W rfl;clear s w y z q;have hu:=Tryz.underlying24;refine callsIn_of_wp Tryz.func185 rfl trivial ?_ rfl;simp only[Tryz.ntmps185,List.size_toArray,List.length_cons,List.length_nil,Nat.reduceAdd,Nat.reduceSub,Array.replicate_succ,Array.replicate_zero,List.push_toArray,List.append_toArray,List.nil_append,List.cons_append];have j:W.cell? ⟨a,0,none⟩=some (.int .i64 n):=(aj h 0).trans rfl;have b:=zA h;clear h;gi_wp2;clear j;gi_loopg [8] (n) (fun T i wr=>∃v:Nat,i= .int .i64 v/\v<=n/\Aside0 (J () (gU L v) wr)/\Aside0 (wr.heap[a]? =some (.cells #[.int .i64 n,.slice A0 E.length c0] 24 (0,0)))/\Aside0 (Below w0.heap.size w0 wr)/\Aside0 (T=n-v))
 case atStart=>exact⟨0,rfl,Nat.zero_le _,⟨D⟩,b,⟨r⟩,⟨rfl⟩⟩
 case round=>
  clear D r b;obtain⟨v,rfl,hv,l,b,m,U⟩:=hrel;by_cases F:v<n
  ·have aB:(0:Int)<=(v:Int):=by omega
   have aF:(v:Int)<(n:Int):=by omega
   obtain⟨ev,G⟩:=S.out v F;have V:=zA G;have Z:=zA (wR L v);have j:wr.cell? ⟨a,0,none⟩=some (.int .i64 n):=(aj b.out 0).trans rfl;have b1:wr.cell? ⟨a,1,none⟩=some (.slice A0 E.length c0):=(aj b.out 1).trans rfl;clear G;gi_wp2_with (refine⟨trivial,?_⟩;gi_at_call 186;refine(callsIn_wide.2 (cF.calls k n A0 c0 E v (rd L v) ev _ (Kd.aq O m.out) P V.out)).mono ?_;rintro e w3 ⟨rfl,g⟩;have ab:=zA (Q.out () _ _ _ l.out g);have H:=zA (a7 m.out g);have I:=zA (aM b.out g);obtain⟨fn,tmps,aL,aO,o,K⟩:=R.out () (gU L v) ((v:Int),rd L v) _ _ ab.out ⟨⟨v,F,rfl⟩,ao _ _⟩ (by show (gU L v).length<=n;simp[gU];omega);have ad:=zA K;simp only at o;clear K g l m b j b1)
   refine ad.out.mono ?_;rintro e W3 (⟨rfl,M,p⟩|⟨rfl,N⟩)
   ·have ag:=zA M
    have ak:=zA ((p.2 (aD I.out)).trans I.out);have am:=zA (H.out.trans (p.1 H.out.size));clear M p o;gi_wp2;gi_roundg (n- (v+1))
    case measure=>rw[U.out];omega
    case rel=>exact⟨v+1,by go_num,by omega,⟨by rw[Z.out];exact ag.out⟩,ak,am,⟨rfl⟩⟩
   ·have an:=zA N
    clear N o;gi_wp2;refine bodyPost_ret (results_none rfl _ _ _) rfl ?_;exact⟨⟨_,rfl⟩,.inr ⟨(),_,trivial,an.out⟩⟩
  ·obtain rfl:n=v:=by omega
   gi_wp2;go_end0;exact⟨⟨_,rfl⟩,.inl ⟨(),_,rfl,l.out⟩⟩
def kj (L:List Int) (n v:Nat):List Int:=(List.range n).map fun u:Nat=>if u<v then wrap64 (rd L u-2) else 0
theorem EE {L:List Int} {n v:Nat} (a:v<n):(kj L n v).set v (wrap64 (rd L v-2))=kj L n (v+1):=by
 unfold kj;refine List.ext_getElem (by simp) fun i h1 b=>?_
 rw[List.getElem_set];simp only[List.getElem_map,List.getElem_range];by_cases e:v=i
 ·subst e;simp
 ·rw[if_neg e]
  by_cases h:i<v
  ·rw[if_pos h,if_pos (by omega)]
  ·rw[if_neg h,if_neg (by omega)]
def jl (n:Nat) (pre:List (Int×Int)):List Int:=pre.foldl (fun l x=>l.set x.1.toNat (wrap64 (x.2-2))) (List.replicate n 0)
theorem wT (n:Nat) (pre:List (Int×Int)) (x:Int×Int):jl n (pre++[x])=(jl n pre).set x.1.toNat (wrap64 (x.2-2)):=by simp[jl,List.foldl_append]
theorem EF (n:Nat) (pre:List (Int×Int)):(jl n pre).length=n:=by
 unfold jl;have:∀(pre:List (Int×Int)) (l:List Int),(pre.foldl (fun l x=>l.set x.1.toNat (wrap64 (x.2-2))) l).length=l.length:=by
  intro pre;induction pre with
  |nil=>intro l;rfl
  |cons x pre a=>intro l;rw[List.foldl_cons,a];simp
 rw[this];simp
theorem wU (L:List Int) (n:Nat):∀v,v<=n->jl n (gU L v)=kj L n v
 |0,_=>by
  unfold kj;refine List.ext_getElem (by simp[jl,gU]) fun i h1 a=>?_
  simp[jl,gU]
 |v+1,h=>by
  rw[wR,wT,wU L n v (by omega)];simp only[aV];exact EE (by omega)
def jm.f (k:Nat) (N:Int) (E:List S83):Option (List Int):=if 1<=N/\N<=1000 then(lO k N E N.toNat).bind fun l=>some (kj l N.toNat N.toNat) else none
theorem jm.mono:∀a b k,al (jm.f k a b) (jm.f (k+1) a b):=by
 intro N E k;unfold jm.f;exact al.ite (al.bind (wP _ _ _ _) (fun _=>al.refl _)) (al.refl _)
theorem EG (k n:Nat) (A0:Option Addr) (c0:Nat) (E:List S83) (L:List Int) (w:World) (ad:Kd.C aW w A0 E.length E) (ag:E.length<=c0) (a5:1<=n) (hn:n<=1000) (J:∀u:Nat,u<n->∃e,cF.f k n E (u:Nat)=some (rd L u,e)):
  Calls Tryz.prog 89 #[.agg #[.int .i64 n,.slice A0 E.length c0]] w fun e w'=>∃go co,e= .returned (.slice (some ⟨go,0,none⟩) n co)/\(Kd.int .i64).R 3 w' w.heap.size (fun _=>True) (.slice (some ⟨go,0,none⟩) n co) (kj L n n)/\Below w.heap.size w w':=by
 have hu:=Tryz.underlying24;have HL:=zA J;have a9:(0:Int)<=(n:Int):=by omega
 obtain⟨zs,am,M⟩:=mz 26 Tryz.underlying26 n hn;have N:=zA M;clear J M;refine(callsIn_wide (n:=10)).1 ?_;refine callsIn_of_wp_marks Tryz.func89 rfl trivial ?_ rfl;simp only[Tryz.ntmps89,List.size_toArray,List.length_cons,List.length_nil,Nat.reduceAdd,Nat.reduceSub,Array.replicate_succ,Array.replicate_zero,List.push_toArray,List.append_toArray,List.nil_append,List.cons_append];gi_wp2_with (first|(refine⟨trivial,?_⟩;gi_at_call 143;refine(callsIn_wide.2 (wO n _ _)).mono ?_;rintro e w3 ⟨rfl,rfl⟩))
 have q:=bs ((w.alloc (.cells #[.int .i64 n,.slice A0 E.length c0] 24)).alloc (.cells zs 3)) (.cells #[.slice (some ⟨w.heap.size+1,0,none⟩) n n] 26);have r:=bs (((w.alloc (.cells #[.int .i64 n,.slice A0 E.length c0] 24)).alloc (.cells zs 3)).alloc (.cells #[.slice (some ⟨w.heap.size+1,0,none⟩) n n] 26)) (.cells #[.int .i64 n,.slice A0 E.length c0] 24);have hS:=N.out (w.alloc (.cells #[.int .i64 n,.slice A0 E.length c0] 24)) (fun _=>True) trivial;simp only[World.size_alloc] at q r hS;have O:=zA (ay q (.cells #[.int .i64 n,.slice A0 E.length c0] 24));have P:=zA r;have y:=zA (au (au (au (au (ao w.heap.size w) (.cells #[.int .i64 n,.slice A0 E.length c0] 24)) (.cells zs 3)) (.cells #[.slice (some ⟨w.heap.size+1,0,none⟩) n n] 26)) (.cells #[.int .i64 n,.slice A0 E.length c0] 24));have Q:Aside0 ((Kd.int .i64).R 3 ((((w.alloc (.cells #[.int .i64 n,.slice A0 E.length c0] 24)).alloc (.cells zs 3)).alloc (.cells #[.slice (some ⟨w.heap.size+1,0,none⟩) n n] 26)).alloc (.cells #[.int .i64 n,.slice A0 E.length c0] 24)) w.heap.size (fun _=>True) (.slice (some ⟨w.heap.size+1,0,none⟩) n n) (jl n [])):=⟨Kd.bh (Kd.aK (Kd.aK hS _) _) (by omega)⟩;have an:=Nat.le_of_eq (show ((((w.alloc (.cells #[.int .i64 n,.slice A0 E.length c0] 24)).alloc (.cells zs 3)).alloc (.cells #[.slice (some ⟨w.heap.size+1,0,none⟩) n n] 26)).alloc (.cells #[.int .i64 n,.slice A0 E.length c0] 24)).heap.size=w.heap.size+4 by simp);have ap:=Nat.le_of_eq (show w.heap.size+4=((((w.alloc (.cells #[.int .i64 n,.slice A0 E.length c0] 24)).alloc (.cells zs 3)).alloc (.cells #[.slice (some ⟨w.heap.size+1,0,none⟩) n n] 26)).alloc (.cells #[.int .i64 n,.slice A0 E.length c0] 24)).heap.size by simp);clear q r hS N am;generalize (((w.alloc (.cells #[.int .i64 n,.slice A0 E.length c0] 24)).alloc (.cells zs 3)).alloc (.cells #[.slice (some ⟨w.heap.size+1,0,none⟩) n n] 26)).alloc (.cells #[.int .i64 n,.slice A0 E.length c0] 24)=b at O P y Q an ap⊢;refine jb (σ:=Unit) (α:=Int×Int) (F:=Fence.wide) (n:=10) rfl (by decide) (gf:=185) (lb:=#[.pointer (some ⟨w.heap.size+1+1+1,0,none⟩)]) rfl trivial (enters_of Tryz.func185 (by kernel_rfl) rfl)
  (fun o=>wS (w.heap.size+1+1+1) k n A0 c0 E L w _ ad ag hn HL.out (au (au y.out _) _) (ay (ay P.out _) _)) (fun _=>rfl)
  (fun _=>True) ?eU ?st ?ar
  (fun _ pre W=>b.heap.size<=W.heap.size/\(Kd.int .i64).R 3 W w.heap.size (fun _=>True) (.slice (some ⟨w.heap.size+1,0,none⟩) n n) (jl n pre)/\W.heap[w.heap.size+1+1]? =some (.cells #[.slice (some ⟨w.heap.size+1,0,none⟩) n n] 26 (0,0))/\Below w.heap.size w W) (fun _ _ _ _=>False)
  ?is (fun _ _ _ _ _ _ h _=>h) ?ib (fun _ _ _ _ _ h _=>h) ?kt ?h0 ?a1 ?assign ?body ?done (fun _ _ _ _ _ _ _ h=>h.elim)
 case assign=>
  intro l x W K hK;gi_wp2;exact hK
 case eU=>
  intro o s W1 h;exact⟨trivial,by rw[h];exact cu.refl _ _⟩
 case st=>intro s A B _ h;exact dc h
 case ar=>intro s x A B _ h;exact dc h.2
 case is=>
  rintro s pre A B _ ⟨g,h1,G,H⟩ j;exact⟨Nat.le_trans g j.size,Kd.da h1 j,aM G j,a7 H j⟩
 case ib=>
  rintro s pre A B ⟨g,h1,G,H⟩ hb;exact⟨by rw[hb.size];exact g,dD h1 hb,hb.cells G,H.trans (hb.below w.heap.size (by omega))⟩
 case kt=>
  intro s A B C D m S T;refine⟨fun a6=>((m.below w.heap.size (by omega)).trans (S.1 (by rw[m.size];exact a6))).trans (T.below w.heap.size (by omega)),fun aB=>?_⟩;have U:w.heap.size+1+1+1≠b.heap.size+1:=by omega
  exact(T.heap _ U).trans ((S.2 (by rw[m.size];exact aB)).trans (m.heap _ U))
 case h0=>
  rintro o s W1 rfl;exact⟨by simp;omega,Kd.aK (Kd.aK Q.out _) _,ay (ay O.out _) _,au (au y.out _) _⟩
 case body=>
  rintro l s' pre ⟨xv,V⟩ Wb Wc W _ ⟨g,i1,i2,i3⟩ ⟨⟨v,bi,hx⟩,i⟩ aL a;injection hx with aO aP
  subst aO;have X:=zA (dD (Kd.da i1 i) a);have Y:=zA (a.cells (aM i2 i));have I3:=zA ((a7 i3 i).trans (a.below w.heap.size (by omega)));have aS:b.heap.size<=W.heap.size:=by have:=a.size;have:=i.size;omega
  have a0:=zA (wT n pre ((v:Int),V));have bk:=zA (EF n pre);clear i1 i2 i3 i a aL g aP;have z1:=dV Y.out;obtain⟨z2,z3⟩:=Kd.bT 0 X.out (v:Int) (by omega) (by omega);rw[aV] at z2 z3;generalize bQ 0 (jl n pre) (v:Int)=z at z2;replace z2:W.cell? ⟨w.heap.size+1,v,none⟩=some (.int .i64 z):=z2;have bn:(0:Int)<=(v:Int):=by omega
  have bo:(v:Int)<(n:Int):=by omega
  have I:=Kd.dm X.out (v:Int) (wrap64 (V-2));rw[aV] at I;have a2:=zA I.1;clear I;gi_wp2;refine⟨fX _ _ (by omega),⟨fun _=>Below.setCell (p:=⟨w.heap.size+1,v,none⟩) (ao _ _) (by show w.heap.size<=w.heap.size+1;omega) _,fun _=>Below.heap_setCell _ _ _ _ (by show w.heap.size+1+1+1≠w.heap.size+1;omega)⟩,by simpa using aS,?_,aG Y.out (by show w.heap.size+1+1≠w.heap.size+1;omega) _,Below.setCell (p:=⟨w.heap.size+1,v,none⟩) I3.out (by show w.heap.size<=w.heap.size+1;omega) _⟩;rw[a0.out];exact a2.out
 case done=>
  rintro s' xs W W' _ rfl ⟨g,i1,i2,i3⟩ a Z;have b1:=zA (dD i1 a);have b2:=zA (a.cells i2);have b3:=zA (i3.trans (a.below w.heap.size (by omega)));have aa:=zA Z;clear i1 i2 i3 Z;have hc:=dV b2.out;gi_wp2_with fail
  have ab:Bk b.heap.size W' (W'.putObj b.heap.size (.deferred none)):=⟨_,_,aa.out,rfl,rfl⟩;have h1:=b1.out;rw[wU L n n (aI _)] at h1;exact jB (D:=b.heap.size) rfl aa.out (results_tmp rfl _ _ _) ⟨_,_,rfl,dD h1 ab,b3.out.trans (ab.below w.heap.size (by omega))⟩
theorem jm.calls (k:Nat) (b:Int) (i:Option Addr) (j:Nat) (a:List (S83)) (r:List Int) (w:World) (o:Kd.C aW w i a.length a) (p:a.length<=j) (h:jm.f k b a=some r):
  Calls Tryz.prog 89 #[.agg #[.int .i64 b,.slice i a.length j]] w fun e w'=>∃l:Value,e= .returned (l)/\Kd.R (Kd.int .i64) 3 w' w.heap.size (fun _=>True) l r/\Below w.heap.size w w':=by
 unfold jm.f at h;by_cases m:1<=b/\b<=1000
 ·rw[if_pos m] at h
  obtain⟨n,rfl⟩:=Int.eq_ofNat_of_zero_le (show 0<=b by omega);obtain⟨L,h1,g⟩:=Option.bind_eq_some_iff.1 h;simp only[aV] at h1 g;injection g with g
  subst g;refine(EG k n i j a L w o p (by omega) (by omega) (wQ h1).2).mono ?_;rintro e w' ⟨go,co,rfl,q,s⟩;exact⟨_,rfl,q,s⟩
 ·rw[if_neg m] at h;cases h
end
mutual
def bN.l0:Nat->List (List Int)->List (List Int)->Int->Int->Option (Int)
 |0,_,_,_,_=>none
 |k+1,b,e,g,a=>if a<g then(if 0<=a then(if a<(e.length:Int) then((bA.f k (aY e a) ((aY e a).length:Int)).bind fun t194=>(if t194=0 then(bN.l0 k b e g (wrap64 (a+1))) else(some t194))) else(none)) else(none)) else(bN.l1 k b b (b.length:Int) 0)
def bN.l1:Nat->List (List Int)->List (List Int)->Int->Int->Option (Int)
 |0,_,_,_,_=>none
 |k+1,b,e,g,a=>if a<g then(if 0<=a then(if a<(e.length:Int) then(if 0<(b.length:Int) then(if((aY e a).length:Int)=((aY b 0).length:Int) then(bN.l1 k b e g (wrap64 (a+1))) else(some 8)) else(none)) else(none)) else(none)) else(some 0)
end
def bN.f (k:Nat) (l0:List (List Int)):Option (Int):=bN.l0 k l0 l0 (l0.length:Int) 0
theorem bN.ct:∀k,(∀a b e g,al (bN.l0 k a b e g) (bN.l0 (k+1) a b e g))/\(∀a b e g,al (bN.l1 k a b e g) (bN.l1 (k+1) a b e g))
 |0=>⟨fun _ _ _ _ r h=>by simp[bN.l0] at h,fun _ _ _ _ r h=>by simp[bN.l1] at h⟩
 |k+1=>by
  obtain⟨i,j⟩:=bN.ct k;refine⟨?_,?_⟩
  ·intro a b e g
   unfold bN.l0;with_reducible repeat' first|exact i _ _ _ _|exact j _ _ _ _|exact bA.mono _ _ _|exact al.refl _|exact al.none _|refine al.ite ?_ ?_|refine al.bind ?_ (fun _=>?_)
  ·intro a b e g
   unfold bN.l1;with_reducible repeat' first|exact i _ _ _ _|exact j _ _ _ _|exact bA.mono _ _ _|exact al.refl _|exact al.none _|refine al.ite ?_ ?_|refine al.bind ?_ (fun _=>?_)
theorem bN.mono:∀a0 k,al (bN.f k a0) (bN.f (k+1) a0):=by
 intro a0 k;obtain⟨a,b⟩:=bN.ct k;unfold bN.f;with_reducible repeat' first|exact a _ _ _ _|exact b _ _ _ _|exact bA.mono _ _ _|exact al.refl _|exact al.none _|refine al.ite ?_ ?_|refine al.bind ?_ (fun _=>?_)
theorem bN.calls (k:Nat) (A0:Option Addr) (c0:Nat) (l0:List (List Int)) (r:Int) (w:World) (W:Kd.C (Kd.slice 3 (Kd.int .i64)) w A0 l0.length l0) (X:l0.length<=c0) (h:bN.f k l0=some r):
  Calls Tryz.prog 118 #[.slice A0 l0.length c0] w fun e w'=>e= .returned (.int .i64 r)/\aA w w':=by
 have s:=zA W;have a4:=zA X;clear W X;have H:(bN.l0 k l0 l0 (l0.length:Int) 0)=some r:=h;clear h;have g:=zA H;clear H;go_enter Tryz.func118,Tryz.ntmps118
 go_wp2;go_loopg [10] k (fun v v10 w'=>∃(a:Int),v10= .int .i64 a/\Aside0 (bN.l0 v l0 l0 (l0.length:Int) a=some r)/\Aside0 (v<=k)/\aA w w')
 case atStart=>exact⟨(0),zT,g,⟨aI _⟩,by repeat(first|exact aA.refl _|apply aA.step)⟩
 case round=>
  clear g;obtain⟨a,rfl,j,J,⟨m1,rfl⟩⟩:=hrel;cases gk with
  |zero=>exact absurd j.out (by simp[bN.l0])
  |succ x=>
   have H:=j.out;clear j;simp only[bN.l0] at H;by_cases c2:a<(l0.length:Int)
   ·rw[if_pos c2] at H
    have Y:=az c2;clear c2;by_cases c3:0<=a
    ·rw[if_pos c3] at H
     have a5:=az c3;clear c3;by_cases c4:a<(l0.length:Int)
     ·rw[if_pos c4] at H
      have a9:=az c4;clear c4;obtain⟨t194,Z,H⟩:=zo H;by_cases y:t194=0
      ·rw[if_pos y] at H
       obtain⟨ab,ad⟩:=bG y;clear y;have g:=zA H;clear H;have l:0<=(a:Int):=aw ‹_›;have m:a<(l0.length:Int):=aw ‹_›;obtain⟨ag,N,O,P,ak,z,B⟩:=fy s.out a l m;cases P;have Q:=zA B;have R:=zA z;clear B z;replace l:=eq_true l;replace m:=eq_true m;go_wp2_with (first|((with_reducible refine aC (f:=87) rfl ?_);refine zL (some 17) Tryz.func87 #[.slice N (aY l0 a).length O,.int .i64 ((aY l0 a).length:Int)] ?_;(with_reducible refine(bA.calls x _ _ (aY l0 a) ((aY l0 a).length:Int) t194 _ ?af ?ah Z.out).mono ?_);(case af=>repeat(first|exact Q.out|(with_reducible refine Kd.bz ?_ _)|(with_reducible refine Kd.dR ?_ _)|(with_reducible refine Kd.dy ?_)));(case ah=>exact R.out);rintro e w' ⟨rfl,⟨nd,rfl⟩⟩;refine⟨_,rfl,?_⟩))
       go_roundg x
       case measure=>have:=J.out;omega
       case rel=>exact⟨(wrap64 (a+1)),zT,g,⟨by have:=J.out;omega⟩,by repeat(first|exact aA.refl _|apply aA.step)⟩
      ·rw[if_neg y] at H
       obtain⟨ab,ad⟩:=bI y;obtain rfl:=aE H;have l:0<=(a:Int):=aw ‹_›;have m:a<(l0.length:Int):=aw ‹_›;obtain⟨ag,N,O,P,ak,z,B⟩:=fy s.out a l m;cases P;have Q:=zA B;have R:=zA z;clear B z;replace l:=eq_true l;replace m:=eq_true m;go_wp2_with (first|((with_reducible refine aC (f:=87) rfl ?_);refine zL (some 17) Tryz.func87 #[.slice N (aY l0 a).length O,.int .i64 ((aY l0 a).length:Int)] ?_;(with_reducible refine(bA.calls x _ _ (aY l0 a) ((aY l0 a).length:Int) t194 _ ?af ?ah Z.out).mono ?_);(case af=>repeat(first|exact Q.out|(with_reducible refine Kd.bz ?_ _)|(with_reducible refine Kd.dR ?_ _)|(with_reducible refine Kd.dy ?_)));(case ah=>exact R.out);rintro e w' ⟨rfl,⟨nd,rfl⟩⟩;refine⟨_,rfl,?_⟩))
       go_ret;exact⟨zT,by repeat(first|exact aA.refl _|apply aA.step)⟩
     ·rw[if_neg c4] at H
      exact absurd H (by simp)
    ·rw[if_neg c3] at H
     exact absurd H (by simp)
   ·rw[if_neg c2] at H
    have Y:=aZ c2;clear c2;have g:=zA H;clear H;go_wp2;go_loopg [24] x (fun v v24 w'=>∃(b:Int),v24= .int .i64 b/\Aside0 (bN.l1 v l0 l0 (l0.length:Int) b=some r)/\Aside0 (v<=x)/\aA w w')
    case atStart=>exact⟨(0),zT,g,⟨aI _⟩,by repeat(first|exact aA.refl _|apply aA.step)⟩
    case round=>
     clear g;clear Y;obtain⟨b,rfl,j,aa,⟨m2,rfl⟩⟩:=hrel;cases gk with
     |zero=>exact absurd j.out (by simp[bN.l1])
     |succ k2=>
      have H:=j.out;clear j;simp only[bN.l1] at H;by_cases u:b<(l0.length:Int)
      ·rw[if_pos u] at H
       have ap:=az u;clear u;by_cases K:0<=b
       ·rw[if_pos K] at H
        have be:=az K;clear K;by_cases L:b<(l0.length:Int)
        ·rw[if_pos L] at H
         have bf:=az L;clear L;by_cases M:0<(l0.length:Int)
         ·rw[if_pos M] at H
          have bg:=az M;have bi:decide (0<l0.length)=true:=az (by omega);clear M;by_cases i:((aY l0 b).length:Int)=((aY l0 0).length:Int)
          ·rw[if_pos i] at H
           obtain⟨ar,av⟩:=bG i;have aB:((aY l0 b).length==(aY l0 0).length)=true:=by first|simpa using i|(simp at i⊢;omega)
           clear i;have g:=zA H;clear H;have n:0<=(b:Int):=aw ‹_›;have o:b<(l0.length:Int):=aw ‹_›;obtain⟨S,aF,aL,T,aO,D,E⟩:=fy s.out b n o;cases T;have aP:=zA E;have aR:=zA D;clear E D;replace n:=eq_true n;replace o:=eq_true o;have p:0<=(0:Int):=(by omega);have q:0<(l0.length:Int):=aw ‹_›;obtain⟨U,aS,a0,V,F,G,I⟩:=fy s.out 0 p q;obtain rfl:S=U:=(by injection V);have a1:(0<l0.length)=True:=eq_true (by omega)
           (try rw[show ((0:Int)).toNat=0 from rfl] at F)
           (try rw[Addr.add_zero'] at F)
           have a2:=zA I;have a3:=zA G;clear I G;replace p:=eq_true p;replace q:=eq_true q;go_wp2;go_roundg k2
           case measure=>have:=J.out;have:=aa.out;omega
           case rel=>exact⟨(wrap64 (b+1)),zT,g,⟨by have:=J.out;have:=aa.out;omega⟩,by repeat(first|exact aA.refl _|apply aA.step)⟩
          ·rw[if_neg i] at H
           obtain⟨ar,av⟩:=bI i;have aB:((aY l0 b).length==(aY l0 0).length)=false:=by first|simpa using i|(simp at i⊢;omega)
           obtain rfl:=aE H;have n:0<=(b:Int):=aw ‹_›;have o:b<(l0.length:Int):=aw ‹_›;obtain⟨S,aF,aL,T,aO,D,E⟩:=fy s.out b n o;cases T;have aP:=zA E;have aR:=zA D;clear E D;replace n:=eq_true n;replace o:=eq_true o;have p:0<=(0:Int):=(by omega);have q:0<(l0.length:Int):=aw ‹_›;obtain⟨U,aS,a0,V,F,G,I⟩:=fy s.out 0 p q;obtain rfl:S=U:=(by injection V);have a1:(0<l0.length)=True:=eq_true (by omega)
           (try rw[show ((0:Int)).toNat=0 from rfl] at F)
           (try rw[Addr.add_zero'] at F)
           have a2:=zA I;have a3:=zA G;clear I G;replace p:=eq_true p;replace q:=eq_true q;go_wp2;go_ret;exact⟨zT,by repeat(first|exact aA.refl _|apply aA.step)⟩
         ·rw[if_neg M] at H
          exact absurd H (by simp)
        ·rw[if_neg L] at H
         exact absurd H (by simp)
       ·rw[if_neg K] at H
        exact absurd H (by simp)
      ·rw[if_neg u] at H
       have ap:=aZ u;clear u;obtain rfl:=aE H;go_wp2;go_ret;exact⟨zT,by repeat(first|exact aA.refl _|apply aA.step)⟩
theorem nQ:wrap64 (0+1)=1:=by unfold wrap64;omega
theorem iB:wrap64 (1+1)=2:=by unfold wrap64;omega
def rU (a:List Int):Int:=gF a a.length
def pD (a b:List Int):Int:=if gF a a.length=0 then(if gF b b.length=0 then(if(b.length:Int)=(a.length:Int) then 0 else 8) else gF b b.length) else gF a a.length
theorem mE (a:List Int) (l:List (List Int)):aY (a::l) 0=a:=by simp[aY]
theorem wV (a b:List Int) (l:List (List Int)):aY (a::b::l) 1=b:=by simp[aY]
theorem EH (a:List Int) (b:a.length<=1000000):Ev (fun k=>bN.f k [a]) (rU a):=by
 unfold bN.f rU;refine Ev.of_succ ?_;simp only[bN.l0,List.length_cons,List.length_nil,Nat.zero_add,Int.natCast_one,if_pos (show (0:Int)<1 by decide),if_pos (show (0:Int)<=0 by decide),mE];refine Ev.bind (kQ a a.length b) ?_;by_cases h:gF a a.length=0
 ·simp only[if_pos h,nQ]
  rw[h];refine Ev.of_succ ?_;simp only[bN.l0,if_neg (show ¬(1:Int)<1 by decide)];refine Ev.of_succ ?_;simp only[bN.l1,List.length_cons,List.length_nil,Nat.zero_add,Int.natCast_one,if_pos (show (0:Int)<1 by decide),if_pos (show (0:Int)<=0 by decide),mE,if_true,nQ];refine Ev.of_succ ?_;simp only[bN.l1,if_neg (show ¬(1:Int)<1 by decide)];exact Ev.const _
 ·simp only[if_neg h]
  exact Ev.const _
theorem EI (a b:List Int) (i:a.length<=1000000) (hb:b.length<=1000000):Ev (fun k=>bN.f k [a,b]) (pD a b):=by
 unfold bN.f pD;have e2:((([a,b]:List (List Int)).length:Nat):Int)=2:=rfl;refine Ev.of_succ ?_;simp only[bN.l0,e2,if_pos (show (0:Int)<2 by decide),if_pos (show (0:Int)<=0 by decide),mE];refine Ev.bind (kQ a a.length i) ?_;by_cases h:gF a a.length=0
 ·simp only[if_pos h,nQ]
  refine Ev.of_succ ?_;simp only[bN.l0,e2,if_pos (show (1:Int)<2 by decide),if_pos (show (0:Int)<=1 by decide),wV];refine Ev.bind (kQ b b.length hb) ?_;by_cases e:gF b b.length=0
  ·simp only[if_pos e,iB]
   refine Ev.of_succ ?_;simp only[bN.l0,e2,if_neg (show ¬(2:Int)<2 by decide)];refine Ev.of_succ ?_;simp only[bN.l1,e2,if_pos (show (0:Int)<2 by decide),if_pos (show (0:Int)<=0 by decide),mE,if_true,nQ];refine Ev.of_succ ?_;simp only[bN.l1,e2,if_pos (show (0:Int)<2 by decide),if_pos (show (1:Int)<2 by decide),if_pos (show (0:Int)<=1 by decide),mE,wV,iB];by_cases g:(b.length:Int)=(a.length:Int)
   ·simp only[if_pos g]
    refine Ev.of_succ ?_;simp only[bN.l1,if_neg (show ¬(2:Int)<2 by decide)];exact Ev.const _
   ·simp only[if_neg g]
    exact Ev.const _
  ·simp only[if_neg e]
   exact Ev.const _
 ·simp only[if_neg h]
  exact Ev.const _
section
attribute [local go_sem] Oper.semAt_some
theorem EJ (g n:Nat) (A0:Option Addr) (c0:Nat) (E:List S83) (q:Int) (dv Q:Value) (R:Int) (v:Nat) (lb:Array Value) (B:Nat->Bool) (w:World) (ab:Kd.C aW w A0 E.length E) (hE:eH n E) (hn:n<=1000) (hv:v<n) (i:ir w g n (.slice A0 E.length c0) q dv Q R)
  (hB:∀(W:World) (u:Int),Below w.heap.size w W->0<=u->u<n->Calls Tryz.prog 171 (#[.int .i64 u]++lb) W fun e w'=>e= .returned (.bool (B u.toNat))/\Below W.heap.size W w'):
  Calls Tryz.prog 168 #[.pointer (some ⟨g,0,none⟩),.int .i64 v,.func (.func 171) #[] lb] w fun e w'=>e= .returned (.int .i64 (eB B (cE E v E.length)))/\Below w.heap.size w w':=by
 have a9:=zA hB;have HE:=zA hE;have ak:=zA i;clear hB hE i;refine(callsIn_wide (n:=10)).1 ?_;refine callsIn_of_wp_marks Tryz.func168 rfl trivial ?_ rfl;simp only[Tryz.ntmps168,List.size_toArray,List.length_cons,List.length_nil,Nat.reduceAdd,Nat.reduceSub,Array.replicate_succ,Array.replicate_zero,List.push_toArray,List.append_toArray,List.nil_append,List.cons_append];gi_wp2_with (refine⟨trivial,?_⟩;gi_at_call 194;refine(callsIn_wide.2 (mw g v _)).mono ?_;rintro e w3 ⟨rfl,rfl⟩)
 obtain⟨p,am⟩:∃o:Obj,o= .cells #[.func (.func 171) #[] lb] 121:=⟨_,rfl⟩;obtain⟨on,an⟩:∃o:Obj,o= .cells #[.int .i64 0] 3:=⟨_,rfl⟩;obtain⟨r,ap⟩:∃o:Obj,o= .cells #[.pointer (some ⟨g,0,none⟩)] 135:=⟨_,rfl⟩;obtain⟨y,av⟩:∃o:Obj,o= .cells #[.int .i64 v] 3:=⟨_,rfl⟩;have Z0:=bs w p;have S:=bs (w.alloc p) on;have T:=bs ((w.alloc p).alloc on) r;have U:=bs (((w.alloc p).alloc on).alloc r) y;simp only[World.size_alloc] at S T U;have H0:=zA ((ay (ay (ay Z0 on) r) y).trans (by rw[am]:_=some (.cells #[.func (.func 171) #[] lb] 121 (0,0))));have H1:=zA ((ay (ay S r) y).trans (by rw[an]:_=some (.cells #[.int .i64 0] 3 (0,0))));have H2:=zA ((ay T y).trans (by rw[ap]:_=some (.cells #[.pointer (some ⟨g,0,none⟩)] 135 (0,0))));have H3:=zA (U.trans (by rw[av]:_=some (.cells #[.int .i64 v] 3 (0,0))));have z:=zA (au (au (au (au (ao w.heap.size w) p) on) r) y);have aP:Aside0 (ir ((((w.alloc p).alloc on).alloc r).alloc y) g n (.slice A0 E.length c0) q dv Q R):=⟨aM ak.out z.out⟩;have bv:g<w.heap.size:=aD ak.out;have bf:=zA (Kd.aq ab z.out);clear Z0 S T U;subst am an ap av;have bg:=z.out.size;have bi:((((w.alloc (.cells #[.func (.func 171) #[] lb] 121)).alloc (.cells #[.int .i64 0] 3)).alloc (.cells #[.pointer (some ⟨g,0,none⟩)] 135)).alloc (.cells #[.int .i64 v] 3)).heap.size=w.heap.size+4:=by simp
 generalize ((((w.alloc (.cells #[.func (.func 171) #[] lb] 121)).alloc (.cells #[.int .i64 0] 3)).alloc (.cells #[.pointer (some ⟨g,0,none⟩)] 135)).alloc (.cells #[.int .i64 v] 3))=j at H0 H1 H2 H3 z aP bf bg bi⊢;refine jb (σ:=Unit) (α:=Int×Int) (F:=Fence.wide) (n:=10) rfl (by decide) (gf:=207) (lb:=#[.pointer (some ⟨w.heap.size+1+1,0,none⟩),.pointer (some ⟨w.heap.size+1+1+1,0,none⟩)]) rfl trivial (enters_of Tryz.func207 (by kernel_rfl) rfl)
  (fun o=>o_ (w.heap.size+1+1) (w.heap.size+1+1+1) g n A0 c0 E q dv Q R v w _ ab HE.out hn hv (au (au z.out _) _) (ay (ay H2.out _) _) (ay (ay H3.out _) _) (ay (ay aP.out _) _)) (fun _=>rfl)
  (fun _=>True) ?eU ?st ?ar
  (fun _ pre W=>j.heap.size<=W.heap.size/\W.heap[w.heap.size]? =some (.cells #[.func (.func 171) #[] lb] 121 (0,0))/\W.heap[w.heap.size+1]? =some (.cells #[.int .i64 (eB B pre)] 3 (0,0))/\Below w.heap.size w W) (fun _ _ _ _=>False)
  ?is (fun _ _ _ _ _ _ h _=>h) ?ib (fun _ _ _ _ _ h _=>h) ?kt ?h0 ?a1 ?assign ?body ?done (fun _ _ _ _ _ _ _ h=>h.elim)
 case assign=>
  intro l x W K hK;gi_wp2;exact hK
 case eU=>
  intro o s W1 h;exact⟨trivial,by rw[h];exact cu.refl _ _⟩
 case st=>intro s A B _ h;exact dc h
 case ar=>intro s x A B _ h;exact dc h.2
 case is=>
  rintro s pre A B _ ⟨H,h1,V,X⟩ i;exact⟨Nat.le_trans H i.size,aM h1 i,aM V i,a7 X i⟩
 case ib=>
  rintro s pre A B ⟨H,h1,V,X⟩ hb;exact⟨by rw[hb.size];exact H,hb.cells h1,hb.cells V,X.trans (hb.below w.heap.size (by omega))⟩
 case kt=>
  intro s A B C D N aR aS;refine⟨fun a6=>((N.below w.heap.size (by omega)).trans (aR.1 (by rw[N.size];exact a6))).trans (aS.below w.heap.size (by omega)),fun k hk I=>?_⟩;have a0:k≠j.heap.size+1:=by rcases hk with rfl|rfl|rfl<;>omega
  exact(aS.heap k a0).trans ((aR.2 k hk (by rw[N.size];exact I)).trans (N.heap k a0))
 case h0=>
  rintro o s W1 rfl;exact⟨by simp;omega,ay (ay H0.out _) _,ay (ay H1.out _) _,au (au z.out _) _⟩
 case body=>
  rintro l s pre ⟨u,m⟩ Wb W1 W _ ⟨H,i1,i2,i3⟩ ⟨Y,J⟩ bn b;have Z:=zA (b.cells (aM i1 J));have L:=zA (b.cells (aM i2 J));have b3:=zA ((a7 i3 J).trans (b.below w.heap.size (by omega)));have bx:j.heap.size<=W.heap.size:=by have:=b.size;have:=J.size;omega
  clear i1 i2 i3 J b bn;simp only at Y;have b0:W.cell? ⟨w.heap.size,0,none⟩=some (.func (.func 171) #[] lb):=(aj Z.out 0).trans rfl;have O:=zA (a9.out W u b3.out Y.1 Y.2.1);have M:=zA (rf B pre (u,m));generalize eB B pre=s0 at L M;cases P:B u.toNat with
  |true=>
   rw[P] at O M;clear P;gi_wp2_with (refine⟨trivial,?_⟩;gi_at_call 171;refine(callsIn_wide.2 O.out).mono ?_;rintro e w5 ⟨rfl,G⟩;have a:=zA G;have D2:=zA (aM L.out G);have c5:w5.cell? ⟨w.heap.size+1,0,none⟩=some (.int .i64 s0):=(aj D2.out 0).trans rfl;have f5:=bF D2.out 0;clear G)
   have a6:=a.out.size;refine⟨(dc a.out).trans (fX _ _ (by show w.heap.size+1<j.heap.size;omega)),⟨fun a6=>Below.setCell (a.out.mono a6) (by show w.heap.size<=w.heap.size+1;omega) _,fun k hk I=>?_⟩,by simp;omega,?_,?_,Below.setCell (a7 b3.out a.out) (by show w.heap.size<=w.heap.size+1;omega) _⟩
   ·rw[Below.heap_setCell _ _ _ _ (by rcases hk with rfl|rfl|rfl<;>(show _≠w.heap.size+1)<;>omega)]
    exact a.out.block k I
   ·rw[Below.heap_setCell _ _ _ _ (by show w.heap.size≠w.heap.size+1;omega)]
    exact aM Z.out a.out
   ·have h:=bW D2.out 0 (.int .i64 (wrap64 (s0+m)))
    rw[M.out];simpa using h
  |false=>
   rw[P] at O M;clear P;gi_wp2_with (refine⟨trivial,?_⟩;gi_at_call 171;refine(callsIn_wide.2 O.out).mono ?_;rintro e w5 ⟨rfl,G⟩;have a:=zA G;clear G)
   have a6:=a.out.size;exact⟨dc a.out,⟨fun a6=>a.out.mono a6,fun k hk I=>a.out.block k I⟩,by omega,aM Z.out a.out,by rw[M.out];exact aM L.out a.out,a7 b3.out a.out⟩
 case done=>
  rintro s xs W W' _ rfl ⟨H,i1,i2,i3⟩ b a3;have L:=zA (b.cells i2);have b3:=zA (i3.trans (b.below w.heap.size (by omega)));have a4:=zA a3;clear i1 i2 i3 a3;have hc:W'.cell? ⟨w.heap.size+1,0,none⟩=some (.int .i64 (eB B (cE E v E.length))):=(aj L.out 0).trans rfl;gi_wp2_with fail
  have bo:Bk j.heap.size W' (W'.putObj j.heap.size (.deferred none)):=⟨_,_,a4.out,rfl,rfl⟩;exact jB (D:=j.heap.size) rfl a4.out (results_tmp rfl _ _ _) ⟨rfl,b3.out.trans (bo.below w.heap.size (by omega))⟩
end
section
attribute [local go_sem] Oper.semAt_some
theorem EK (gb a cr n:Nat) (B:Nat->Bool) (ok:Nat->Prop) (base:Nat) (W:World) (u:Int) (hb:W.heap[gb]? =some (.cells #[.slice (some ⟨a,0,none⟩) n cr] 43 (0,0))) (g:Kd.bool.R 4 W base ok (.slice (some ⟨a,0,none⟩) n cr) ((List.range n).map fun v=> !B v)) (h:0<=u) (hn:u<n):
  Calls Tryz.prog 171 #[.int .i64 u,.pointer (some ⟨gb,0,none⟩)] W fun e w'=>e= .returned (.bool (B u.toNat))/\Below W.heap.size W w':=by
 have i:W.cell? ⟨gb,0,none⟩=some (.slice (some ⟨a,0,none⟩) n cr):=(aj hb 0).trans rfl;have b:=(Kd.bT false g u h hn).1;have e:bQ false ((List.range n).map fun v=> !B v) u= !B u.toNat:=by
  obtain⟨m,rfl⟩:=Int.eq_ofNat_of_zero_le h;have:m<n:=by omega
  simp[bQ,bc,List.getElem?_map,List.getElem?_range this]
 rw[e] at b;have b:W.cell? ⟨a,u.toNat,none⟩=some (.bool (!B u.toNat)):=b;clear g hb e;go_enter Tryz.func171,Tryz.ntmps171
 go_wp2;go_ret;exact⟨by simp[go_sem],ao _ _⟩
theorem wW (g n:Nat) (A0:Option Addr) (c0:Nat) (E:List S83) (q:Nat) (a:Option Addr) (cd:Nat) (d:List Int) (b:Value) (h:Int) (w:World) (k:Kd.C aW w A0 E.length E) (i:bB n E) (l:E.length<=1000) (hn:n<=1000) (m:q<n) (o:d.length=n) (p:ir w g n (.slice A0 E.length c0) q (.slice a n cd) b h)
  (hd:Kd.C (Kd.int .i64) w a d.length d):
  Calls Tryz.prog 170 #[.pointer (some ⟨g,0,none⟩)] w fun e w'=>∃j cl,e= .returned (.tuple #[.slice (some ⟨j,0,none⟩) n cl,.bool ((List.range n).any fun v=> !bD n (ai E) q d v)])/\Kd.bool.R 4 w' w.heap.size (fun _=>True) (.slice (some ⟨j,0,none⟩) n cl) ((List.range n).map fun v=> !bD n (ai E) q d v)/\Below w.heap.size w w':=by
 subst o;exact Cv g d.length A0 c0 E q a cd d b h w k i.ka hn m p hd rfl (fun B v r _=>CJ i l B r)
def iN (n:Nat) (t:Nat->Nat->Int) (q:Nat) (d:List Int) (v:Nat):Int:=T.sN (fun u=>if bD n t q d u=true then t v u else 0) n
theorem rV {n:Nat} {E:List S83} (a:bB n E) (hn:n<=12) (q:Nat) (d:List Int) (v:Nat):0<=iN n (ai E) q d v/\iN n (ai E) q d v<=600:=by
 have h:=T.cN (f:=fun w=>if bD n (ai E) q d w=true then ai E v w else 0) (g:=fun _=>50) (n:=n) (fun w _=>by
  have:=a.ka.times v w;show (if bD n (ai E) q d w=true then ai E v w else 0)<=50
  split<;>omega)
 rw[T.iW] at h;have b:0<=iN n (ai E) q d v:=T.db fun w _=>by
  have:=a.ka.times v w;show 0<=(if bD n (ai E) q d w=true then ai E v w else 0)
  split<;>omega
 exact⟨b,by show T.sN _ n<=600;omega⟩
theorem EL {n q:Nat} {t:Nat->Nat->Int} (b:T.Wt n t) (e:T.dI n t) (g:q<n) {D c σ:Nat->Int} (a:fa n q t D c σ) {d s:List Int} (h:jD n q t D d s):0<=kb n q σ s:=T.db fun v i=>by
 have h1:=T.qT b e g a.red a.eq a.q0 (d:=fun v=>rd d (v:Nat)) h.eq h.kM v i;have j:rd s v<=σ v+rd s q:=h1;show 0<=σ v+rd s q-rd s v
 omega
theorem EM (g gd gs cd cs n:Nat) (A0:Option Addr) (c0:Nat) (E:List S83) (q:Nat) (D c σ:Nat->Int) (d s:List Int) (w0 w:World) (N:Kd.C aW w0 A0 E.length E) (F:bB n E) (hl:E.length<=1000) (hC:fD n E) (hn:n<=12) (p:q<n) (aP:T.sN (T.val n (ai E)) n<=19)
  (hD:∀v:Nat,v<n-> -200<=D v/\D v<=200) (hr:fa n q (ai E) D c σ) (ad:jD n q (ai E) D d s) (h:SI w0 g gd gs cd cs n A0 c0 E q d s w):
  Calls Tryz.prog 111 #[.pointer (some ⟨g,0,none⟩)] w fun e w'=>e= .returned (.tuple #[])/\∃(d' s':List Int),SI w0 g gd gs cd cs n A0 c0 E q d' s' w'/\jD n q (ai E) D d' s'/\T.kI n (ai E) q (fun v=>rd d' (v:Nat)):=by
 have cx:=Tryz.underlying188;have hu:=Tryz.underlying24;have j:=zA F;have ag:=zA (F.conn hC);have HD:=zA hD;have a0:=zA hr;have k:=zA ad;have a:=zA h;have a1:=zA (EL F.wt (F.conn hC) p hr ad);have c1:1<=n:=by omega
 clear F hC hD hr ad h;go_enter Tryz.func111,Tryz.ntmps111
 go_wp2;go_loopg [] ((kb n q σ s).toNat) (fun kq wr=>∃(d s:List Int),Aside0 (SI w0 g gd gs cd cs n A0 c0 E q d s wr)/\Aside0 (jD n q (ai E) D d s)/\Aside0 (0<=kb n q σ s/\kq=(kb n q σ s).toNat))
 case atStart=>exact⟨d,s,a,k,⟨a1.out,rfl⟩⟩
 case round=>
  clear a k a1;obtain⟨d,s,a,k,HK⟩:=hrel;have s5:=a.out.f5;have a3:=k.out.dl;have am:=zA a3;have b2:=a.out.hb.size;obtain⟨r1,r2,r3,r4,r5⟩:=a.out.ld;clear a3;cases O:(List.range n).any fun v=> !bD n (ai E) q d v with
  |false=>
   have r:=zA O;clear O;go_wp2_with (go_at_call 170;refine(wW g n A0 c0 E q _ cd d _ 0 _ (Kd.aq N a.out.hb) j.out hl (by omega) p am.out a.out.st (Kd.aH a.out.d).2.2).mono ?_;rintro e P ⟨b,cl,rfl,G,H⟩;rw[r.out];have I:=zA (a.out.below H);clear G H)
   refine bodyPost_ret (results_none rfl _ _ _) rfl ?_;exact⟨rfl,d,s,I.out.alloc _,k.out,CT j.out.wt r.out⟩
  |true=>
   have r:=zA O;clear O;go_wp2_with (go_at_call 170;refine(wW g n A0 c0 E q _ cd d _ 0 _ (Kd.aq N a.out.hb) j.out hl (by omega) p am.out a.out.st (Kd.aH a.out.d).2.2).mono ?_;rintro e P ⟨b,cl,rfl,G,H⟩;rw[r.out];have I:=zA (a.out.below H);have an:=zA G;have c9:=Kd.dF G b rfl;clear G H)
   have b3:=I.out.ld;have b4:=Kd.bj an.out b rfl;have b5:gd≠b:=by omega
   have b6:gs≠b:=by omega
   have Q:=zA (bs P (.cells #[.slice (some ⟨b,0,none⟩) n cl] 43));have ap:=zA (Kd.bh (Kd.aK an.out (.cells #[.slice (some ⟨b,0,none⟩) n cl] 43)) (base':=w0.heap.size) b2);have ar:=zA (I.out.alloc (.cells #[.slice (some ⟨b,0,none⟩) n cl] 43));clear I an a s5 b3;generalize P.alloc (.cells #[.slice (some ⟨b,0,none⟩) n cl] 43)=W6 at Q ap ar⊢;generalize P.heap.size=gb at Q b4⊢;go_loopg [23,4] (n) (fun kq vv tv wr=>∃(v:Nat) (x:Int),v<=n/\vv= .int .i64 v/\tv= .int .i64 x/\0<=x/\Aside0 (x=0->∀u:Nat,u<v->bD n (ai E) q d u=false->iN n (ai E) q d u<=0)/\Aside0 (∀u:Nat,u<v->bD n (ai E) q d u=false->x*iN n (ai E) q d u<=rd d u)/\Aside0 (SI w0 g gd gs cd cs n A0 c0 E q d s wr)/\Aside0 (wr.heap[gb]? =some (.cells #[.slice (some ⟨b,0,none⟩) n cl] 43 (0,0)))/\Aside0 (Kd.bool.R 4 wr w0.heap.size (fun _=>True) (.slice (some ⟨b,0,none⟩) n cl) ((List.range n).map fun v=> !bD n (ai E) q d v))/\Aside0 (kq=n-v))
   case atStart=>exact⟨0,0,by omega,rfl,rfl,by omega,⟨fun _ u hu=>by omega⟩,⟨fun u hu=>by omega⟩,ar,Q,ap,⟨rfl⟩⟩
   case round=>
    clear ar Q ap;obtain⟨v,x,S,rfl,rfl,av,U,J,a,z,m,K⟩:=hrel;by_cases B:v<n
    ·have dd:(0:Int)<=(v:Int):=by omega
     have dk:(v:Int)<(n:Int):=by omega
     have i:=(Kd.bT false m.out (v:Int) (by omega) (by omega)).1;rw[aV] at i;have e1:bQ false ((List.range n).map fun v=> !bD n (ai E) q d v) v= !bD n (ai E) q d v:=by simp[bQ,bc,List.getElem?_map,List.getElem?_range B]
     rw[e1] at i;replace i:wr.cell? ⟨b,v,none⟩=some (.bool (!bD n (ai E) q d v)):=i;clear e1;cases hF:bD n (ai E) q d v with
     |true=>
      rw[hF] at i;replace i:wr.cell? ⟨b,v,none⟩=some (.bool false):=i;have HF:=zA hF;clear hF;go_wp2;go_roundg (n- (v+1))
      case measure=>rw[K.out];omega
      case rel=>exact⟨v+1,x,by omega,by go_num,rfl,av,⟨fun hx u hu h1=>by
       by_cases e:u=v
       ·subst e;rw[HF.out] at h1;cases h1
       ·exact U.out hx u (by omega) h1⟩,⟨fun u hu h1=>by
       by_cases e:u=v
       ·subst e;rw[HF.out] at h1;cases h1
       ·exact J.out u (by omega) h1⟩,a,z,m,⟨rfl⟩⟩
     |false=>
      rw[hF] at i;replace i:wr.cell? ⟨b,v,none⟩=some (.bool true):=i;have HF:=zA hF;have a5:=zA (show iN n (ai E) q d v<=rd d v from vp B hF);have a9:=zA (rV j.out hn q d v);have be:=zA (show eB (bD n (ai E) q d) (cE E v E.length)=iN n (ai E) q d v from rz j.out hl (bD n (ai E) q d) B);have ds:=(k.out.bounds j.out.wt ag.out p hn aP HD.out a0.out v B).2.1;clear hF;go_wp2_with (go_at_call 168;refine(EJ g n A0 c0 E q _ _ 0 v #[.pointer (some ⟨gb,0,none⟩)] (bD n (ai E) q d) _ (Kd.aq N a.out.hb) j.out.ka (by omega) B a.out.st (fun W u bf ca cb=>EK gb b cl n _ _ _ W u (aM z.out bf) (Kd.da m.out bf) ca cb)).mono ?_;rintro e w8 ⟨rfl,V⟩;rw[be.out];have l:=zA (a.out.below V);have X:=zA (aM z.out V);have Y:=zA (Kd.da m.out V);have c2:=l.out.kP v B;have c3:=l.out.f3;clear V i a z m;obtain⟨y,i⟩:∃y,y=iN n (ai E) q d v:=⟨_,rfl⟩;rw[<-i];have Z:=a9.out;have ce:=a5.out;rw[<-i] at Z ce;obtain⟨Z,dv⟩:=Z;have L:=zA i;clear i a9 a5 be)
      ·have cf:1<=rd d v/y:=Int.le_ediv_of_mul_le (by omega) (by omega)
       have hx:=zA ‹x=0›;go_roundg (n- (v+1))
       case measure=>rw[K.out];omega
       case rel=>exact⟨v+1,rd d v/y,by omega,by go_num,rfl,by omega,⟨fun M=>by omega⟩,⟨fun u hu h1=>by
        by_cases e:u=v
        ·subst e;rw[<-L.out];exact Int.ediv_mul_le _ (by omega)
        ·have h2:=U.out hx.out u (by omega) h1
         have h3:=(rV j.out hn q d u).1;rw[show iN n (ai E) q d u=0 by omega,Int.mul_zero];have h4:iN n (ai E) q d u<=rd d u:=vp (by omega) h1;omega⟩,l,X,Y,⟨rfl⟩⟩
      ·have cf:1<=rd d v/y:=Int.le_ediv_of_mul_le (by omega) (by omega)
       have d0:rd d v/y<x:=by
        rename_i o;rcases o with o|o
        ·exact absurd (by simpa using o) ‹¬x=0›
        ·exact o
       go_roundg (n- (v+1))
       case measure=>rw[K.out];omega
       case rel=>exact⟨v+1,rd d v/y,by omega,by go_num,rfl,by omega,⟨fun M=>by omega⟩,⟨fun u hu h1=>by
        by_cases e:u=v
        ·subst e;rw[<-L.out];exact Int.ediv_mul_le _ (by omega)
        ·exact Int.le_trans (Int.mul_le_mul_of_nonneg_right (by omega) (rV j.out hn q d u).1) (J.out u (by omega) h1)⟩,l,X,Y,⟨rfl⟩⟩
      ·have hle:x<=rd d v/y:=by
        rename_i o;exact o.2
       have ch:¬x=0:=‹¬x=0›;go_roundg (n- (v+1))
       case measure=>rw[K.out];omega
       case rel=>exact⟨v+1,x,by omega,by go_num,rfl,av,⟨fun M=>absurd M ch⟩,⟨fun u hu h1=>by
        by_cases e:u=v
        ·subst e;rw[<-L.out];exact Int.le_trans (Int.mul_le_mul_of_nonneg_right hle Z) (Int.ediv_mul_le _ (by omega))
        ·exact J.out u (by omega) h1⟩,l,X,Y,⟨rfl⟩⟩
      ·have ci:y<=0:=by assumption
       go_roundg (n- (v+1))
       case measure=>rw[K.out];omega
       case rel=>exact⟨v+1,x,by omega,by go_num,rfl,av,⟨fun M u hu h1=>by
        by_cases e:u=v
        ·subst e;rw[<-L.out];exact ci
        ·exact U.out M u (by omega) h1⟩,⟨fun u hu h1=>by
        by_cases e:u=v
        ·subst e;rw[<-L.out,show y=0 by omega,Int.mul_zero];omega
        ·exact J.out u (by omega) h1⟩,l,X,Y,⟨rfl⟩⟩
    ·obtain rfl:n=v:=by omega
     have b0:=dV z.out;have bi:1<=x:=by
      refine Classical.byContradiction fun bi=>?_
      obtain⟨v,S,h1,h2⟩:=CU ag.out j.out.wt p r.out;have h3:iN n (ai E) q d v<=0:=U.out (by omega) v S h1;have h4:0<iN n (ai E) q d v:=h2;omega
     obtain⟨k1,k2,k3,k4⟩:=k.out.step j.out ag.out p hn aP HD.out a0.out r.out bi (fun v S h1=>J.out v S h1);have K1:=zA k1;have K2:=zA k2;have K3:=zA k3;have K4:=zA k4;have cr:=zA k.out.sl;clear k1 k2 k3 k4;go_wp2_with (go_at_call 166;refine(ve g gd gs b cd cs cl n A0 c0 E q d s (fun v=> !bD n (ai E) q d v) x w0 _ N j.out.ka (by omega) (by omega) a.out m.out ⟨b5,b6⟩ am.out cr.out K2.out).mono ?_;rintro e w8 ⟨rfl,bx,cv,a6⟩;have l:=zA bx;clear bx cv a z m b0)
     go_roundg ((kb n q σ (bC E (fun v=> !bD n (ai E) q d v) x n (d,s)).2).toNat)
     case measure=>have h1:=K3.out;have h2:=K4.out;have h3:=HK.out.2;have h4:=HK.out.1;rw[h3];omega
     case rel=>exact⟨_,_,l,K1,⟨K3.out,rfl⟩⟩
end
def nR.f (a0:Int) (a:Int):Option (Int×Int):=some (IntKind.u64.wrap ((IntKind.u64.wrap ((IntKind.u64.wrap ((a0/4294967296)*(a/4294967296)))+((IntKind.u64.wrap ((IntKind.u64.wrap ((a0/4294967296)*(Go.bits .and .u64 a 4294967295)))+((IntKind.u64.wrap ((Go.bits .and .u64 a0 4294967295)*(Go.bits .and .u64 a 4294967295)))/4294967296)))/4294967296)))+((IntKind.u64.wrap ((Go.bits .and .u64 (IntKind.u64.wrap ((IntKind.u64.wrap ((a0/4294967296)*(Go.bits .and .u64 a 4294967295)))+((IntKind.u64.wrap ((Go.bits .and .u64 a0 4294967295)*(Go.bits .and .u64 a 4294967295)))/4294967296))) 4294967295)+(IntKind.u64.wrap ((Go.bits .and .u64 a0 4294967295)*(a/4294967296)))))/4294967296)),IntKind.u64.wrap (a0*a))
theorem nR.calls (a0:Int) (a:Int) (b:Int) (g:Int) (w:World) (h:nR.f a0 a=some (b,g)):
  Calls Tryz.prog 216 #[.int .u64 a0,.int .u64 a] w fun e w'=>e= .returned (.tuple #[.int .u64 b,.int .u64 g])/\aA w w':=by
 have H:(some (IntKind.u64.wrap ((IntKind.u64.wrap ((IntKind.u64.wrap ((a0/4294967296)*(a/4294967296)))+((IntKind.u64.wrap ((IntKind.u64.wrap ((a0/4294967296)*(Go.bits .and .u64 a 4294967295)))+((IntKind.u64.wrap ((Go.bits .and .u64 a0 4294967295)*(Go.bits .and .u64 a 4294967295)))/4294967296)))/4294967296)))+((IntKind.u64.wrap ((Go.bits .and .u64 (IntKind.u64.wrap ((IntKind.u64.wrap ((a0/4294967296)*(Go.bits .and .u64 a 4294967295)))+((IntKind.u64.wrap ((Go.bits .and .u64 a0 4294967295)*(Go.bits .and .u64 a 4294967295)))/4294967296))) 4294967295)+(IntKind.u64.wrap ((Go.bits .and .u64 a0 4294967295)*(a/4294967296)))))/4294967296)),IntKind.u64.wrap (a0*a)))=some (b,g):=h;clear h;simp only[Option.some.injEq,Prod.mk.injEq] at H;obtain⟨rfl,rfl⟩:=H;go_enter Tryz.func216,Tryz.ntmps216
 go_wp2;go_ret2;exact⟨by first|rfl|(simp;done)|(simp[*];done),by repeat(first|exact aA.refl _|apply aA.step)⟩
def nS.f (a0:Int) (b:Int):Option (Int×Int):=(nR.f a0 b).bind fun a=>(some (a.1,a.2))
theorem nS.calls (a0:Int) (a:Int) (b:Int) (g:Int) (w:World) (h:nS.f a0 a=some (b,g)):
  Calls Tryz.prog 206 #[.int .u64 a0,.int .u64 a] w fun e w'=>e= .returned (.tuple #[.int .u64 b,.int .u64 g])/\aA w w':=by
 have H:((nR.f a0 a).bind fun i=>(some (i.1,i.2)))=some (b,g):=h;clear h;replace H:=Option.bind_eq_some_iff.mp H;obtain⟨⟨t238,t239⟩,j,H⟩:=H;replace H:(some (t238,t239))=some (b,g):=H;have k:=zA j;clear j;simp only[Option.some.injEq,Prod.mk.injEq] at H;obtain⟨rfl,rfl⟩:=H;go_enter Tryz.func206,Tryz.ntmps206
 go_wp2_with (first|((with_reducible refine aC (f:=216) rfl ?_);refine tb (some 25) rfl rfl Tryz.func216 (by kernel_rfl) rfl #[.int .u64 a0,.int .u64 a] rfl (by(try simp only[List.map_toArray,List.map_cons,List.map_nil]);first|done|rfl|(simp only[List.length_drop,List.length_take];rfl)) ?_;(with_reducible refine(nR.calls a0 a t238 t239 _ k.out).mono ?_);rintro e w' ⟨rfl,⟨l,rfl⟩⟩;refine⟨_,rfl,?_⟩))
 go_ret2;exact⟨by first|rfl|(simp;done)|(simp[*];done),by repeat(first|exact aA.refl _|apply aA.step)⟩
theorem EN:∀n:Fin 1001,nS.f 1 ((n:Nat):Int)=some (0,((n:Nat):Int)):=by decide+kernel
theorem EO (n:Nat) (h:n<=1000):nS.f 1 n=some (0,(n:Int)):=EN ⟨n,by omega⟩
theorem EP (k m r:Nat) (a b:Value) (rest:List Value):Go.splice (List.replicate k a++List.replicate (m+r) b++rest) k (List.replicate m a)=List.replicate (k+m) a++List.replicate r b++rest:=by
 unfold Go.splice;have e:(List.replicate k a++List.replicate (m+r) b++rest).take k=List.replicate k a:=by
  rw[List.append_assoc,List.take_left' (by simp)]
 have e2:(List.replicate k a++List.replicate (m+r) b++rest).drop (k+(List.replicate m a).length)=List.replicate r b++rest:=by
  rw[<-List.replicate_append_replicate,<-List.append_assoc,List.append_assoc,List.length_replicate,List.drop_left' (by simp)]
 rw[e,e2,<-List.append_assoc,List.replicate_append_replicate,<-List.append_assoc]
theorem ER (gx s H n:Nat) (z:Int) (w:World) (I:w.cell? ⟨gx,s,none⟩=some (.int .i64 z)) (T:1<=n) (hn:n<=1000):
  Calls Tryz.prog 193 #[.slice (some ⟨gx,s,none⟩) 1 H,.int .i64 n] w fun e w'=>∃g c,e= .returned (.slice (some ⟨g,0,none⟩) n c)/\(Kd.int .i64).R 3 w' w.heap.size (fun _=>True) (.slice (some ⟨g,0,none⟩) n c) (List.replicate n z)/\Below w.heap.size w w':=by
 have hmul:=EO n hn;have U:(0:Int)<=(n:Int):=by omega
 go_enter Tryz.func193,Tryz.ntmps193
 go_wp2_with (first|(go_at_call 206;refine(nS.calls 1 n 0 n _ hmul).mono ?_;rintro e w1 ⟨rfl,⟨V,rfl⟩⟩)|((with_reducible refine aJ (N:=30) rfl ?_);refine Kd.jK (Kd.int .i64) _ 3 rfl (N:=30) rfl 25 _ _ rfl (n:Int) rfl rfl Tryz.underlying25 (.int .i64 0) 8 gA rfl (by decide) (by omega) 0 (ok:=fun _=>True) (okp:=fun _=>True) rfl (fun _ hk=>hk) trivial U (by simp;omega) (ao _ _) (aI _) ?_;intro v1 u x hb W X;rw[aV] at x;obtain⟨a,cr,b,p,Y, -⟩:=Kd.fs x (by rw[List.length_replicate];omega);rw[List.length_replicate] at b;subst b;have l:=zA x;have q:=zA ((bY (ao w.heap.size w) V).trans (hb.mono (by simp)));have J:u.cell? ⟨gx,s,none⟩=some (.int .i64 z):=iP hb (by simpa using I);clear x hb W X))
 have Z:=Kd.n9 l.out;obtain⟨aa,h|⟨g',cap,cur,b,ab,B,ad,K,C,y⟩⟩:=Z
 ·cases h.1
 ·injection b with i e2 e3
  injection i with i
  injection i with i _
  subst i e3;rw[List.length_replicate] at ad y;simp only[Nat.mul_one] at C y;obtain⟨rest,ak⟩:∃rest,cur=(List.replicate n (Value.int .i64 0)++rest).toArray:=⟨cur.toList.drop n,by
   rw[<-Array.toList_inj];show cur.toList=List.replicate n (Value.int .i64 0)++cur.toList.drop n
   rw[show List.replicate n (Value.int .i64 0)=cur.toList.take n from by rw[y];simp[bX],List.take_append_drop]⟩
  subst ak;have L:rest.length=cr-n:=by simp at C;omega
  rw[run_copy_row _ u 25 25 3 3 a 0 n cr ⟨gx,s,none⟩ 1 H _ 3 [.int .i64 z] Tryz.underlying25 (by kernel_rfl) B (by show 1=min 1 n;omega) (fun j v o=>by
   cases j with
   |zero=>injection o with o;subst o;simpa [Addr.add] using J
   |succ j=>simp at o) (by simp;omega) (fun v b=>by simp at b;subst b;rfl)]
  simp only[Result.andThen_ok,List.cons_append,List.nil_append,List.take_zero,Nat.zero_add];rw[show ([Value.int .i64 z]:List Value).length=1 from rfl];have i:Value.int .i64 z::(List.replicate n (Value.int .i64 0)++rest).drop 1=List.replicate 1 (Value.int .i64 z)++List.replicate (n-1) (Value.int .i64 0)++rest:=by
   obtain⟨n',rfl⟩:∃n',n=n'+1:=⟨n-1,by omega⟩;simp[List.replicate_succ]
  rw[i];have D:=zA (below_setRow (g:=a) q.out (by simp at p;exact p) ((List.replicate 1 (Value.int .i64 z)++List.replicate (n-1) (Value.int .i64 0)++rest).toArray));have E:=zA (setRow_heap u a _ ((List.replicate 1 (Value.int .i64 z)++List.replicate (n-1) (Value.int .i64 0)++rest).toArray) _ _ B);have M:w.heap.size<=a:=by simp at p;exact p
  clear l q J aa ab B C y i e2 I hmul;generalize u.setRow a (List.replicate 1 (Value.int .i64 z)++List.replicate (n-1) (Value.int .i64 0)++rest).toArray=W6 at D E⊢;have O:=zA L;have am:=zA K;clear L K Y p;rw[show goInt ((1:Nat):Int)=Value.int .i64 1 from rfl];rw[Oper.upon_value];go_wp2;go_loopg [8] (n-1) (fun kq nv wr=>∃k:Nat,nv= .int .i64 k/\1<=k/\k<=n/\Aside0 (wr.heap[a]? =some (.cells (List.replicate k (Value.int .i64 z)++List.replicate (n-k) (Value.int .i64 0)++rest).toArray 3 (0,0)))/\Aside0 (Below w.heap.size w wr)/\Aside0 (kq=n-k))
  case atStart=>exact⟨1,rfl,by omega,T,E,D,⟨rfl⟩⟩
  case round=>
   clear D E;obtain⟨k,rfl,aS,a0,F,q,HK⟩:=hrel;by_cases a1:k<n
   ·have a2:(0:Int)<=(k:Int):=by omega
    have a3:(k:Int)<(n:Int):=by omega
    have a4:(k:Int)<=(cr:Int):=by omega
    have a5:(n:Int)<=(cr:Int):=by omega
    obtain⟨m,hm⟩:∃m,m=min k (n-k):=⟨_,rfl⟩;obtain⟨r,P⟩:∃r,n-k=m+r:=⟨n-k-m,by omega⟩;have a9:¬cr=k:=by omega
    have av:Aside0 (∀(j:Nat) (v:Value),(List.replicate m (Value.int .i64 z))[j]? =some v->wr.drew.cell? ((⟨a,0,none⟩:Addr).add j)=some v):=⟨fun j v o=>by
     obtain⟨aB,b⟩:=List.getElem?_eq_some_iff.1 o;rw[List.length_replicate] at aB;rw[List.getElem_replicate] at b;subst b;have h:=cell_of_row wr a j _ _ _ F.out;rw[List.getElem?_toArray,List.append_assoc,List.getElem?_append_left (by rw[List.length_replicate];omega),List.getElem?_replicate,if_pos (by omega)] at h;by_cases e:j=0
     ·subst e;simpa [Addr.add] using h
     ·simpa [Addr.add,e] using h⟩
    have be:(m:Int)<=1000:=by omega
    have bf:(0:Int)<=(m:Int):=by omega
    have bg:(k:Int)<=1000:=by omega
    have G:=zA hm;have l:=zA P;clear hm P;go_wp2;go_region_law (refine step_copy_splice rfl (.tmp 41) (.tmp 44) 25 25 rfl 3 Tryz.underlying25 (by kernel_rfl) (some ⟨a,k,none⟩) (some ⟨a,0,none⟩) (n-k) (cr-k) k cr (by go_simp) (by go_simp) a k (List.replicate k (Value.int .i64 z)++List.replicate (n-k) (Value.int .i64 0)++rest) 3 F.out (List.replicate m (Value.int .i64 z)) (by have:=G.out;rw[List.length_replicate];show m=min k (n-k);omega) (fun _=>⟨rfl,_,rfl,av.out⟩) (by have:=O.out;have:=G.out;simp;omega) (fun v b=>by rw[List.eq_of_mem_replicate b];rfl) w.heap.size w (bP q.out) M ?_;intro w4 Q S)
    have aL:Aside0 (w4.heap[a]? =some (.cells (List.replicate (k+m) (Value.int .i64 z)++List.replicate (n- (k+m)) (Value.int .i64 0)++rest).toArray 3 (0,0))):=⟨by
     have h:=Q;rw[l.out] at h;rw[show n- (k+m)=r from by have:=l.out;omega,<-EP k m r (.int .i64 z) (.int .i64 0) rest];first|exact h|(rw[List.append_assoc];exact h)⟩
    have aO:=zA S;clear Q S;have bi:=G.out;have bk:=l.out;go_wp2;go_roundg (n- (k+m))
    case measure=>rw[HK.out];omega
    case rel=>exact⟨k+m,(by rw[IntWalk.i64_in ((k:Int)+(m:Int)) (by omega)];go_num),by omega,by omega,aL,aO,⟨rfl⟩⟩
   ·obtain rfl:k=n:=by omega
    go_wp2;go_ret;exact⟨a,cr,rfl,Kd.mO ⟨by simp[bX],.inr ⟨a,cr,_,by simp,M,F.out,by simp;omega,am.out,by have:=O.out;simp;omega,by simp[bX]⟩⟩ (fun _ _=>trivial),q.out⟩
end Go.Proofs.YtffdiakgjakngaaGreat.P


namespace Go.Proofs.YtffdiakgjakngaaGreat.P
open Go.RowKit Go.Proofs.YtffdiakgjakngaaGreatW.PrintWords Go.Proofs.YtffdiakgjakngaaGreatW.PrintLast Go.Proofs.YtffdiakgjakngaaGreatW.PrintMore
set_option linter.unusedVariables false
set_option linter.unusedSimpArgs false
set_option maxHeartbeats 8000000
set_option maxRecDepth 100000
section
attribute [local go_sem] Oper.semAt_some
theorem cJ.wX {α:Type} {d:Kd α} {e base a b:Nat} {ok:Nat->Prop} {ds:List Deferred} {v:Value} {xs:List α} {W w1:World} (h:cJ a b ds W) (i:d.Q e W base ok v xs) (j:W.grownBy w1 v.ownBlock):cJ a b ds w1:=
 h.jd fun D _ hd=>(j.block D (Array.getElem?_eq_some_iff.1 hd).1 (fun e=>by
  obtain⟨cells,g⟩:=Kd.sV i D e.symm;rw[hd] at g;cases g)).trans hd
structure DI (w:World) (b3 b4 go co n lo hi:Nat) (out:List Int) (qv:Value) (Q:List Nat) (W:World):Prop where
 hb:Below w.heap.size w W
 x3:W.heap[b3]? =some (.cells #[.slice (some ⟨go,0,none⟩) n co] 25 (0,0))
 x4:W.heap[b4]? =some (.cells #[qv] 25 (0,0))
 ro:(Kd.int .i64).R 3 W w.heap.size (fun _=>True) (.slice (some ⟨go,0,none⟩) n co) out
 rq:(Kd.int .i64).Q 3 W w.heap.size (fun k=>k≠go/\(k<lo\/hi<=k)) qv (Q.map fun x:Nat=>(x:Int))
 ne:b3≠b4/\go≠b3/\go≠b4/\w.heap.size<=b3/\w.heap.size<=b4
theorem ES {α:Type} {d:Kd α} {e base l:Nat} {ok:Nat->Prop} {v:Value} {xs:List α} {A B:World} (h:d.Q e A base ok v xs) (hb:Bk l A B):d.Q e B base ok v xs:=
 Kd.lX (Kd.sP (Kd.oa h) (fun k hk=>by obtain⟨_,_,_,q,_,cells,a⟩:=hk;exact(hb.cells a).trans a.symm)) (fun k hk=>hk.1)
section
variable {F:Fence} {n:Nat} {P:Program} {ops:Array Oper} {rest:List Oper} {o:Oper} {a:Act} {Q':Exit->Act->World->Prop} {α:Type}
theorem wY (d:Kd α) {w0 W:World} (base:Nat) (j:o.guard=none) (s x:Operand) (t e:TypeId) (z:Value) (bytes:Nat)
  (g:o.op= .call {callee:=.builtin .append,args:=#[s,x],argTypes:=#[t,t]})
  (l:P.underlying t=some (.slice e)) (m:(P.info? e).map (fun i=>(i.zero,i.size,i.bytes))=some (some z,d.sz,bytes)) (q:z.cells.size=d.sz) (r:0<d.sz) (u:0<bytes)
  (v:Value) (xs:List α) (p:α) (cs:List Value) (ok okp:Nat->Prop) (w:a.eval s=v) (y:a.eval x= .slice (some ⟨W.heap.size,0,none⟩) 1 1) (hp:d.M W base okp p cs) (B:∀k,okp k->ok k/\some k≠v.ownBlock) (C:∀k,W.heap.size<=k->ok k)
  (D:d.Q e W base ok v xs) (E:Below base w0 W) (G:base<=W.heap.size) (H:(xs.length+1)*bytes<=140737488355328)
  (h:∀v1 w1,d.Q e w1 base ok v1 (xs++[p])->Below base w0 w1->W.grownBy w1 v.ownBlock->(v1.ownBlock=v.ownBlock\/∃b,v1.ownBlock=some b/\W.heap.size<=b)->wpListIn F n P ops Q' rest (a.put o.dst v1) w1):
  wpListIn F n P ops Q' (o::rest) a (W.alloc (.cells cs.toArray e)):=by
 obtain⟨v1,w1,I,h1,J,L,N⟩:=Kd.yQ (P:=P) d base t o.type e z bytes l m q r u v xs p cs ok okp hp B C D E G H;refine wpListIn_plain j fun K O=>?_
 unfold Oper.wpIn;refine⟨?_,?_⟩
 ·simp[Oper.about,g,resolve,Target.leads,Sem.run_pure]
 ·rw[Oper.semAt_plain F _ _ (by rw[g];intro c R;cases R)]
  simp[execOp,g,resolve,invoke,builtin,w,y,I,Result.andThen];exact O _ _ (h v1 w1 h1 J L N)
end
theorem wZ {α:Type} {d:Kd α} {e base nw:Nat} {ok:Nat->Prop} {v:Value} {xs:List α} {W w1:World} (g:d.Q e W base ok v xs) (h:W.grownBy w1 v.ownBlock):cu nw W w1:=fun k o h1 j b i=>by
 refine(h.block k (Array.getElem?_eq_some_iff.1 b).1 (fun e=>?_)).trans b;obtain⟨cells,a⟩:=Kd.sV g k e.symm;rw[b] at a;injection a with a;subst a;simp[Obj.isCells] at i
theorem Bf.mF {n q:Nat} {nb:Nat->Nat->Prop} {out:List Int} {Q:List Nat} {D:Int} {ex a:Nat->Nat->Prop} (h:Bf n q nb out Q D ex) (hex:∀x y,ex x y->a x y):Bf n q nb out Q D a:=
 ⟨h.len,h.q0,h.lo,h.hi,h.qv,h.nE,h.top,h.d0,h.back,fun v b e hn u hu g he=>h.kO v b e hn u hu g (fun k=>he (hex v u k))⟩
def pE (v:Nat) (pre:List (Int×Int)) (x y:Nat):Prop:=x=v/\¬∃m,((y:Int),m)∈pre
theorem Bf.done {n q:Nat} {nb:Nat->Nat->Prop} {out:List Int} {Q:List Nat} {D:Int} {ex:Nat->Nat->Prop} (h:Bf n q nb out Q D ex) (hex:∀x y,nb x y->¬ex x y):Bf n q nb out Q D (fun _ _=>False):=
 ⟨h.len,h.q0,h.lo,h.hi,h.qv,h.nE,h.top,h.d0,h.back,fun v b e hn u hu a _=>h.kO v b e hn u hu a (hex v u a)⟩
namespace DI
variable {w W W':World} {b3 b4 go co n lo hi lo' hi' l:Nat} {out:List Int} {qv:Value} {Q:List Nat}
theorem below (h:DI w b3 b4 go co n lo hi out qv Q W) (hb:Below W.heap.size W W'):DI w b3 b4 go co n lo hi out qv Q W':=⟨a7 h.hb hb,aM h.x3 hb,aM h.x4 hb,Kd.da h.ro hb,Kd.sQ h.rq hb,h.ne⟩
theorem alloc (h:DI w b3 b4 go co n lo hi out qv Q W) (o:Obj):DI w b3 b4 go co n lo hi out qv Q (W.alloc o):=h.below (au (ao _ _) o)
theorem drewN (h:DI w b3 b4 go co n lo hi out qv Q W) (m:Nat):DI w b3 b4 go co n lo hi out qv Q (W.drewN m):=h.below (bY (ao _ _) m)
theorem bk (h:DI w b3 b4 go co n lo hi out qv Q W) (hb:Bk l W W') (a:w.heap.size<=l):DI w b3 b4 go co n lo hi out qv Q W':=⟨h.hb.trans (hb.below _ a),hb.cells h.x3,hb.cells h.x4,dD h.ro hb,ES h.rq hb,h.ne⟩
theorem ld (h:DI w b3 b4 go co n lo hi out qv Q W):go<W.heap.size/\b3<W.heap.size/\b4<W.heap.size/\w.heap.size<=go:=⟨Kd.bj h.ro go rfl,aD h.x3,aD h.x4,Kd.dF h.ro go rfl⟩
theorem w_ (h:DI w b3 b4 go co n lo hi out qv Q W) (v:Nat) (x:Int):DI w b3 b4 go co n lo hi (out.set v x) qv Q (W.setCell ⟨go,v,none⟩ (.int .i64 x)):=by
 obtain⟨h1,g,i,b⟩:=h.ld;have a:=Kd.dm h.ro (v:Int) x;rw[aV] at a;exact⟨Below.setCell h.hb b _,aG h.x3 (fun e=>h.ne.2.1 e.symm) _,aG h.x4 (fun e=>h.ne.2.2.1 e.symm) _,a.1,Kd.yK h.rq a.2 (fun k hk e=>by injection e with e;exact hk.1 e),h.ne⟩
theorem xc (h:DI w b3 b4 go co n lo hi out qv Q W) {qv':Value} {Q':List Nat} (a:(Kd.int .i64).Q 3 W w.heap.size (fun k=>k≠go/\(k<lo'\/hi'<=k)) qv' (Q'.map fun x:Nat=>(x:Int))):DI w b3 b4 go co n lo' hi' out qv' Q' (W.setCell ⟨b4,0,none⟩ qv'):=by
 obtain⟨h1,b,g,i⟩:=h.ld;refine⟨Below.setCell h.hb h.ne.2.2.2.2 _,aG h.x3 h.ne.1 _,by simpa using bW h.x4 0 qv',?_,?_,h.ne⟩
 ·exact Kd.a_ (Kd.fP (Kd.g_ rfl h.ro) (fun k hk=>Below.heap_setCell _ _ _ _ (fun e=>by injection hk with hk;exact h.ne.2.2.1 (hk.symm.trans e)))) (fun _ _=>trivial)
 ·exact Kd.sR a h.x4 (fun q a=>by rcases List.mem_cons.1 a with rfl|h;decide;cases h) 0 qv'
theorem c3 (h:DI w b3 b4 go co n lo hi out qv Q W):W.cell? ⟨b3,0,none⟩=some (.slice (some ⟨go,0,none⟩) n co):=(aj h.x3 0).trans rfl
theorem c4 (h:DI w b3 b4 go co n lo hi out qv Q W):W.cell? ⟨b4,0,none⟩=some qv:=(aj h.x4 0).trans rfl
theorem kl (h:DI w b3 b4 go co n lo hi out qv Q W) (v:Nat) (a:v<n):W.cell? ⟨go,v,none⟩=some (.int .i64 (rd out v)):=by
 have:=(Kd.bT 0 h.ro (v:Int) (by omega) (by omega)).1;rw[aV] at this;exact this
theorem xd (h:DI w b3 b4 go co n lo hi out qv Q W) (v:Nat) (a:v<n):W.frozen? ⟨go,v,none⟩=false:=by
 have:=(Kd.bT 0 h.ro (v:Int) (by omega) (by omega)).2;rw[aV] at this;exact this
theorem free (h:DI w b3 b4 go co n lo hi out qv Q W):DI w b3 b4 go co n 0 0 out qv Q W:=⟨h.hb,h.x3,h.x4,h.ro,Kd.lX h.rq (fun k hk=>⟨hk.1,.inr (Nat.zero_le _)⟩),h.ne⟩
theorem own (h:DI w b3 b4 go co n lo hi out qv Q W):∀k,qv.ownBlock=some k->k≠go/\(k<lo\/hi<=k)/\w.heap.size<=k/\k≠b3/\k≠b4:=fun k hk=>⟨(h.rq.1 k hk).1,(h.rq.1 k hk).2,Kd.yN h.rq k hk,fun e=>Kd.sS h.rq h.x3 (by decide) (by rw[hk,e]),fun e=>Kd.sS h.rq h.x4 (by decide) (by rw[hk,e])⟩
theorem push (h:DI w b3 b4 go co n lo hi out qv Q W) {v1:Value} {w1:World} {u:Nat} (a:(Kd.int .i64).Q 3 w1 w.heap.size (fun k=>k≠go/\(k<lo\/hi<=k)) v1 (Q.map (fun x:Nat=>(x:Int))++[(u:Int)])) (b:W.grownBy w1 qv.ownBlock) (hb:Below w.heap.size w w1):DI w b3 b4 go co n lo hi out v1 (Q++[u]) (w1.setCell ⟨b4,0,none⟩ v1):=by
 have i:=cT h.x3 b (fun e=>(h.own b3 e.symm).2.2.2.1 rfl);have g:=cT h.x4 b (fun e=>(h.own b4 e.symm).2.2.2.2 rfl);have ro:=Kd.iR h.ro rfl b (fun e=>(h.own go e).1 rfl);refine⟨Below.setCell hb h.ne.2.2.2.2 _,aG i h.ne.1 _,by simpa using bW g 0 v1,?_,?_,h.ne⟩
 ·exact Kd.a_ (Kd.fP (Kd.g_ rfl ro) (fun k hk=>Below.heap_setCell _ _ _ _ (fun e=>by injection hk with hk;exact h.ne.2.2.1 (hk.symm.trans e)))) (fun _ _=>trivial)
 ·rw[List.map_append]
  exact Kd.sR a g (fun q a=>by rcases List.mem_cons.1 a with rfl|h;decide;cases h) 0 v1
end DI
def lP (E:List S83) (v u:Nat):Prop:=∃m,(((u:Nat):Int),m)∈cE E v E.length
theorem ET (g n:Nat) (A0:Option Addr) (c0:Nat) (E:List S83) (q:Nat) (dv sv:Value) (er:Int) (w:World) (gg:Kd.C aW w A0 E.length E) (hE:eH n E) (hn:n<=1000) (hq:q<n)
  (N:ir w g n (.slice A0 E.length c0) q dv sv er):
  Calls Tryz.prog 165 #[.pointer (some ⟨g,0,none⟩)] w fun e w'=>∃(go co:Nat) (out:List Int) (D:Int),e= .returned (.slice (some ⟨go,0,none⟩) n co)/\(Kd.int .i64).R 3 w' w.heap.size (fun _=>True) (.slice (some ⟨go,0,none⟩) n co) out/\Below w.heap.size w w'/\Bf n q (lP E) out [] D (fun _ _=>False):=by
 have h_:=Tryz.underlying188;have hu:=Tryz.underlying24;have HE:=zA hE;have dk:=zA N;have h':=aD N;have hp:1<=n:=by omega
 have ib:(0:Int)<=(q:Int):=by omega
 have id:(q:Int)<(n:Int):=by omega
 have hx:=(aj (bs w (.cells #[.int .i64 (-1)] 3)) 0).trans rfl;have s0:(w.alloc (.cells #[.int .i64 (-1)] 3)).cell? ⟨g,0,none⟩=some (.int .i64 n):=(aj (ay N _) 0).trans rfl;clear hE N;refine(callsIn_wide (n:=10)).1 ?_;refine callsIn_of_wp_marks Tryz.func165 rfl trivial ?_ rfl;simp only[Tryz.ntmps165,List.size_toArray,List.length_cons,List.length_nil,Nat.reduceAdd,Nat.reduceSub,Array.replicate_succ,Array.replicate_zero,List.push_toArray,List.append_toArray,List.nil_append,List.cons_append];gi_wp2_with (first|(refine⟨trivial,?_⟩;gi_at_call 193;refine(callsIn_wide.2 (ER w.heap.size 0 1 n (-1) _ hx hp hn)).mono ?_;rintro e w3 ⟨go,co,rfl,hR,hB⟩))
 have el:=a7 (au (ao w.heap.size w) _) hB;have hr:w.heap.size<=go:=by have:=Kd.dF hR go rfl;simp at this;omega
 have ht:=Kd.bj hR go rfl;have d1:Aside0 ((Kd.int .i64).R 3 (w3.alloc (.cells #[.slice (some ⟨go,0,none⟩) n co] 25)) w.heap.size (fun _=>True) (.slice (some ⟨go,0,none⟩) n co) (List.replicate n (-1))):=⟨Kd.aK (Kd.bh hR (by simp)) _⟩;have d2:=zA (au el (.cells #[.slice (some ⟨go,0,none⟩) n co] 25));have b_:=zA (bs w3 (.cells #[.slice (some ⟨go,0,none⟩) n co] 25));have hv:w.heap.size<=w3.heap.size:=el.size;have d3:(w3.alloc (.cells #[.slice (some ⟨go,0,none⟩) n co] 25)).heap.size=w3.heap.size+1:=by simp
 clear hR hB el hx s0;obtain⟨b3,gp⟩:∃b,b=w3.heap.size:=⟨_,rfl⟩;rw[<-gp] at b_ hv d3 ht⊢;clear gp;generalize w3.alloc (.cells #[.slice (some ⟨go,0,none⟩) n co] 25)=W1 at d1 d2 b_ d3⊢;have y0:=(aj b_.out 0).trans rfl;have y1:W1.cell? ⟨g,2,none⟩=some (.int .i64 q):=(aj (aM dk.out d2.out) 2).trans rfl;obtain⟨y2,y3⟩:=Kd.bT 0 d1.out (q:Int) (by omega) (by omega);rw[aV] at y2 y3;generalize bQ 0 (List.replicate n (-1)) (q:Int)=xq at y2;replace y2:W1.cell? ⟨go,q,none⟩=some (.int .i64 xq):=y2;have HP:=Kd.dm d1.out (q:Int) (0:Int);rw[aV] at HP;have ca:=zA (Kd.bl HP.1);have es:=zA (eL (cT (g:=b3) b_.out HP.2 (fun e=>by injection e with e;omega)));have d5:=zA (bP (Below.setCell (p:=⟨go,q,none⟩) d2.out hr (.int .i64 0)));have cb:(W1.setCell ⟨go,q,none⟩ (.int .i64 0)).drew.heap.size=b3+1:=by simp[d3]
 clear HP;gi_region
 replace ca:Aside0 ((Kd.int .i64).R 3 (W1.setCell ⟨go,q,none⟩ (.int .i64 0)).drew w.heap.size (fun _=>True) (.slice (some ⟨go,0,none⟩) n co) ((List.replicate n (-1)).set q 0)):=ca;clear y0 y1 y2 y3 d1 b_ d2 d3;generalize (W1.setCell ⟨go,q,none⟩ (.int .i64 0)).drew=W2 at ca es d5 cb⊢;have y1:W2.cell? ⟨g,2,none⟩=some (.int .i64 q):=(aj (aM dk.out d5.out) 2).trans rfl;gi_wp2;have ev:Aside0 (DI w b3 (b3+1+1) go co n 0 0 ((List.replicate n (-1)).set q 0) (.slice (some ⟨b3+1,0,none⟩) 1 1) [q] ((W2.alloc (.cells #[.int .i64 q] 3)).alloc (.cells #[.slice (some ⟨b3+1,0,none⟩) 1 1] 25))):=⟨by
  have Z1:=bs W2 (.cells #[.int .i64 q] 3);have Z2:=bs (W2.alloc (.cells #[.int .i64 q] 3)) (.cells #[.slice (some ⟨b3+1,0,none⟩) 1 1] 25);rw[World.size_alloc,cb] at Z2;rw[cb] at Z1;refine⟨au (au d5.out _) _,ay (ay es.out _) _,Z2,Kd.aK (Kd.aK ca.out _) _,Kd.yI (Kd.mO ⟨by simp[bX],.inr ⟨b3+1,1,_,rfl,by omega,ay Z1 _,by simp,by decide,by simp,by simp[bX]⟩⟩ (fun k hk=>by cases hk;exact⟨by show b3+1≠go;omega,.inr (Nat.zero_le _)⟩)),by omega,by omega,by omega,by omega,by omega⟩⟩
 have gs:=zA (Bf.start (nb:=lP E) hq);have gt:((W2.alloc (.cells #[.int .i64 q] 3)).alloc (.cells #[.slice (some ⟨b3+1,0,none⟩) 1 1] 25)).heap.size=b3+3:=by simp[cb]
 clear ca es d5 cb y1;generalize (W2.alloc (.cells #[.int .i64 q] 3)).alloc (.cells #[.slice (some ⟨b3+1,0,none⟩) 1 1] 25)=W4 at ev gt⊢;refine uU (b3+3) (fun kq tm wr=>∃(u5 u25 u26 u27 u28 u29 u30 u31 u32 u33 u34 u35:Value) (out:List Int) (qv:Value) (Q:List Nat) (D:Int),Aside0 (DI w b3 (b3+1+1) go co n 0 0 out qv Q wr)/\Aside0 (Bf n q (lP E) out Q D (fun _ _=>False))/\b3+3<=wr.heap.size/\Aside0 (kq=2*(n-b9 out)+Q.length/\kq<=2*n+1)/\tm=#[.pointer (some ⟨g,0,none⟩),undef,.slice none 0 0,.pointer (some ⟨b3,0,none⟩),.pointer (some ⟨b3+1+1,0,none⟩),u5,undef,.slice (some ⟨w.heap.size,0,none⟩) 1 1,.pointer (some ⟨g,0,none⟩),.pointer (some ⟨g,0,none⟩),.pointer (some ⟨g,0,none⟩),.pointer (some ⟨g,0,none⟩),.int .i64 n,.slice (some ⟨go,0,none⟩) n co,.slice (some ⟨go,0,none⟩) n co,.pointer (some ⟨g,0,none⟩),.pointer (some ⟨g,0,none⟩),.pointer (some ⟨g,2,none⟩),.int .i64 q,.pointer (some ⟨go,q,none⟩),.pointer (some ⟨g,0,none⟩),.pointer (some ⟨g,0,none⟩),.pointer (some ⟨g,2,none⟩),.int .i64 q,.slice (some ⟨b3+1,0,none⟩) 1 1,u25,u26,u27,u28,u29,u30,u31,u32,u33,u34,u35,undef,undef,undef,undef,undef,undef,undef,undef,undef,undef,undef,undef,undef,undef,undef,undef,undef,undef,undef,undef]) (2*(n-b9 ((List.replicate n (-1)).set q 0))+1) ⟨_,_,_,_,_,_,_,_,_,_,_,_,_,_,_,_,ev,gs,by omega,⟨rfl,by omega⟩,rfl⟩ (b3+3) (by omega) (cJ.nil _ _ _) ?_;clear ev gs gt;rintro gk tm wr ⟨u5,u25,u26,u27,u28,u29,u30,u31,u32,u33,u34,u35,out,qv,Q,D,V,HF,a6,HK,rfl⟩ ds b hb g0 J K hJ Y;have g6:=zA g0;have HJ:=zA hJ;clear g0 hJ;have x4:=V.out.c4;have x3:=V.out.c3;cases Q with
 |nil=>
  obtain⟨A,c,rfl, -⟩:=Kd.od V.out.rq;have hz:((([]:List Nat).map fun x:Nat=>(x:Int)).length:Int)=0:=rfl;simp only[List.map_nil,List.length_nil] at x4;clear hz Y;gi_wp2;refine(uT g6.out fun w' g8=>?_).1;exact⟨_,results_tmp rfl _ _ _,go,co,rfl,out,g8.R V.out.ro,V.out.hb.trans (g8.lH.mono (by omega)),D,HF.out⟩
 |cons v rest=>
  obtain⟨gq,oq,cq,rfl,ii,im, -⟩:=Kd.zl V.out.rq (by simp);have hA:=HF.out.qv v (List.mem_cons_self ..);have a0:=hA.1;have cc:=(Kd.zp 0 V.out.rq 0 (by omega) (by simp)).1;have g9:=Kd.lX (Kd.oa (Kd.yO (k:=1) V.out.rq (by simp))) (ok':=fun k=>k≠go/\(k<wr.heap.size\/wr.heap.size+3<=k)) (fun k hk=>⟨hk.1.1,.inl hk.2.2.1⟩);obtain⟨A',c',ha,hl⟩:=Kd.od V.out.rq;injection ha with hD hH hI
  subst hI;have d8:=zA (bs wr (.cells #[.int .i64 v] 3));have a1:=zA (V.out.alloc (.cells #[.int .i64 v] 3));have d9:=zA (g6.out.below (au (ao _ _) (.cells #[.int .i64 v] 3)));have cd:=zA (Kd.yJ g9 (.cells #[.int .i64 v] 3));simp only[List.map_cons,List.length_cons,List.length_map,List.drop_succ_cons,List.drop_zero,Nat.add_sub_cancel] at x4 cc cd hl;replace cc:wr.cell? ⟨gq,oq,none⟩=some (.int .i64 v):=cc;obtain⟨L,hL⟩:∃L,L=rest.length+1:=⟨_,rfl⟩;rw[<-hL] at x4 hl;have g':(1:Int)<=(L:Int):=by omega
  have he:(L:Int)<=(cq:Int):=by omega
  have hf:(0:Int)<(L:Int):=by omega
  have eb:=a1.out.c4;simp only[List.map_cons,List.length_cons,List.length_map] at eb;rw[<-hL] at eb;have hg:=zA hL;clear hD hH hL g9;have hh:=bF a1.out.x4 0;have hj:=zA (Bf.pop HF.out);have ip:=HF.out.len;by_cases ed:cq=1
  ·subst ed
   obtain rfl:L=1:=by omega
   obtain⟨Z,a2⟩:∃Z,Z=Value.slice (some ⟨gq,oq,none⟩) 0 0:=⟨_,rfl⟩;have a3:=zA (a1.out.xc (lo':=wr.heap.size) (hi':=wr.heap.size+3) (qv':=Z) (Q':=rest) (by have h:=cd.out;rw[if_pos rfl,show rest.length=0 by have:=hg.out;omega] at h;rw[a2];exact h));gi_wp2_with (first|(refine⟨trivial,?_⟩;gi_at_call 194;refine(callsIn_wide.2 (mw g v _)).mono ?_;rintro e w3 ⟨rfl,rfl⟩))
   rw[<-a2];obtain⟨M,aa⟩:∃X,X=(wr.alloc (.cells #[.int .i64 v] 3)).setCell ⟨b3+1+1,0,none⟩ Z:=⟨_,rfl⟩;have ce:Aside0 (M.heap[wr.heap.size]? =some (.cells #[.int .i64 v] 3 (0,0))):=⟨by rw[aa];exact aG d8.out (show wr.heap.size≠b3+1+1 by omega) _⟩;have cf:M.heap.size=wr.heap.size+1:=by rw[aa];simp
   have ch:Aside0 (cJ (b3+3) b ds M):=⟨by rw[aa];exact d9.out.set a1.out.x4 _⟩;rw[<-aa] at a3⊢;have Z1:=bs M (.cells #[.pointer (some ⟨g,0,none⟩)] 135);have Z2:=heap_alloc2_new M (.cells #[.pointer (some ⟨g,0,none⟩)] 135) (.cells #[.int .i64 v] 3);rw[cf] at Z1 Z2;have O:=zA ((a3.out.alloc (.cells #[.pointer (some ⟨g,0,none⟩)] 135)).alloc (.cells #[.int .i64 v] 3));have ar:=zA (ay (ay ce.out (.cells #[.pointer (some ⟨g,0,none⟩)] 135)) (.cells #[.int .i64 v] 3));have av:=zA ((ch.out.below (au (ao _ _) (.cells #[.pointer (some ⟨g,0,none⟩)] 135))).below (au (ao _ _) (.cells #[.int .i64 v] 3)));have a4:=zA (ay Z1 (.cells #[.int .i64 v] 3));have a5:=zA Z2;have aB:=zA (aM dk.out O.out.hb);have a9:((M.alloc (.cells #[.pointer (some ⟨g,0,none⟩)] 135)).alloc (.cells #[.int .i64 v] 3)).heap.size=wr.heap.size+3:=by simp[cf]
   have e3:=Nat.le_of_eq a9;have e4:=Nat.le_of_eq a9.symm;clear a9;clear d8 d9 a1 cd a3 ce ch Z1 Z2 aa a2 V x4 eb x3 cc hh g' he hf hl;generalize (M.alloc (.cells #[.pointer (some ⟨g,0,none⟩)] 135)).alloc (.cells #[.int .i64 v] 3)=r at O ar av a4 a5 aB e3 e4⊢;refine jb (σ:=Unit) (α:=Int×Int) (F:=Fence.wide) (n:=10) rfl (by decide) (gf:=207) (lb:=#[.pointer (some ⟨wr.heap.size+1,0,none⟩),.pointer (some ⟨wr.heap.size+1+1,0,none⟩)]) rfl trivial (enters_of Tryz.func207 (by kernel_rfl) rfl)
    (fun o=>q_ (wr.heap.size+1) (wr.heap.size+1+1) g n A0 c0 E q dv sv er v w _ gg HE.out hn a0 (au (au O.out.hb _) _) (ay (ay a4.out _) _) (ay (ay a5.out _) _) (ay (ay aB.out _) _)) (fun _=>rfl)
    (fun _=>True) ?It ?st1 ?IA
    (fun _ pre W=>r.heap.size<=W.heap.size/\∃(a:List Int) (qv':Value) (Q':List Nat),DI w b3 (b3+1+1) go co n wr.heap.size (wr.heap.size+3) a qv' Q' W/\Bf n q (lP E) a Q' (rd a v) (pE v pre)/\2*(n-b9 a)+Q'.length<=2*(n-b9 out)+rest.length/\W.heap[wr.heap.size]? =some (.cells #[.int .i64 v] 3 (0,0))/\cJ (b3+3) b ds W) (fun _ _ _ _=>False)
    ?Il (fun _ _ _ _ _ _ h _=>h) ?Is (fun _ _ _ _ _ h _=>h) ?Ip ?Iu ?Ku ?Ir ?IB ?Iz (fun _ _ _ _ _ _ _ h=>h.elim)
   case Ir=>
    intro l x W K Y;gi_wp2;exact Y
   case It=>
    intro o s W1 h;exact⟨trivial,by rw[h];exact cu.refl _ _⟩
   case st1=>intro s A B _ h;exact dc h
   case IA=>intro s x A B _ h;exact dc h.2
   case Il=>
    rintro s pre A B _ ⟨P,a,qv',Q',h1,z,h4,h5,h6⟩ N;exact⟨Nat.le_trans P N.size,a,qv',Q',h1.below N,z,h4,aM h5 N,h6.below N⟩
   case Is=>
    rintro s pre A B ⟨P,a,qv',Q',h1,z,h4,h5,h6⟩ aF;exact⟨by rw[aF.size];exact P,a,qv',Q',h1.bk aF (by omega),z,h4,aF.cells h5,h6.bk aF (by omega)⟩
   case Ip=>
    intro s A B C D aL ci cj;refine⟨fun a6=>((aL.below w.heap.size (by omega)).trans (ci.1 (by rw[aL.size];exact a6))).trans (cj.below w.heap.size (by omega)),fun k hk ck=>?_⟩;have cl:k≠r.heap.size+1:=by rcases hk with rfl|rfl|rfl<;>omega
    exact(cj.heap k cl).trans ((ci.2 k hk (by rw[aL.size];exact ck)).trans (aL.heap k cl))
   case Iu=>
    rintro o s W1 rfl;exact⟨by simp;omega,out,Z,rest,(O.out.alloc _).alloc _,hj.out.mF (fun x y h=>⟨h,by simp⟩),aI _,ay (ay ar.out _) _,(av.out.below (au (ao _ _) _)).below (au (ao _ _) _)⟩
   case IB=>
    rintro l s' pre ⟨u,m⟩ Wb Wc W _ ⟨P,a,qv',Q',i1,i2,i4,i5,i6⟩ ⟨⟨cr,e5⟩,ab⟩ e6 H;have G:=zA ((i1.below ab).bk H (by omega));have S:=zA i4;have I5:=zA (H.cells (aM i5 ab));have I6:=zA ((i6.below ab).bk H (by omega));have aP:r.heap.size<=W.heap.size:=by have:=H.size;have:=ab.size;omega
    clear i1 i4 i5 i6 ab H e6 P;simp only at cr;obtain⟨u0,u1,m0,m1⟩:=cr;obtain⟨u,rfl⟩:=Int.eq_ofNat_of_zero_le u0;have aR:u<n:=by omega
    obtain⟨l1,l2⟩:=Bf.look (ex:=fun y=>¬∃m,((y:Int),m)∈pre) i2 aR a0 ⟨m,e5⟩;have hO:=i2.d0;have hP:rd a v<=1000:=by have h1:=i2.hi v a0;have z:=jZ a;have h3:=i2.len;omega
    have e_:=zA i2.len;have z3:=G.out.c3;have z4:=G.out.kl u aR;have cv:∀(ex:Nat->Prop) (x y:Nat),(x=v/\(¬∃m,((y:Int),m)∈pre)/\y≠u)->pE v (pre++[((u:Int),m)]) x y:=fun ex x y h=>⟨h.1,fun⟨m',ag⟩=>by
     rcases List.mem_append.1 ag with ag|ag
     ·exact h.2.1 ⟨m',ag⟩
     ·have:=List.mem_singleton.1 ag
      injection this with e1 e2
      exact h.2.2 (by omega)⟩
    have cx:=zA cv;clear cv i2;by_cases bi:rd a u<0
    ·obtain⟨k1,k2,k3,k4⟩:=l2 bi
     have K2:=zA k2;have K3:=zA k3;have K4:=zA (k4.mF (cx.out (fun _=>True)));have fn:decide (rd a u<0)=true:=az bi;clear l1 l2 k1 k2 k3 k4;gi_wp2;have z3:=G.out.c3;have z4:=G.out.kl v a0;have z5:=(aj I5.out 0).trans rfl;have fo:wrap64 (rd a v+1)=rd a v+1:=by unfold wrap64;omega
     have hT:(0:Int)<=(u:Int):=by omega
     have hV:(0:Int)<=(v:Int):=by omega
     have bv:(v:Int)<(n:Int):=by omega
     refine ph [_,_,_,_,_,_,_,_] _ rfl (by kernel_rfl) rfl (by kernel_rfl) (by kernel_rfl) (by kernel_rfl) (by kernel_rfl) ?_;repeat(gi_big_quiet_step (fail))
     refine wpQuietIn_nil ?_;rintro _ ⟨nq,rfl⟩;have I:=zA (G.out.drewN nq);have J5:=zA (iQ I5.out nq);have J6:=zA (I6.out.below (bY (ao _ _) nq));have b0:r.heap.size<=(W.drewN nq).heap.size:=by simpa using aP
     have b1:=zA (dc (nw:=r.heap.size) (bY (ao W.heap.size W) nq));have b2:=zA (bY (ao w.heap.size W) nq);have b4:Aside0 (∀k,k≠go->(W.drewN nq).heap[k]? =W.heap[k]?):=⟨fun k _=>by simp⟩;clear z3 z4 z5 fo;have z5:=I.out.xd u aR;have z6:=I.out.kl u aR;generalize W.drewN nq=Wq at I J5 J6 b0 b1 b2 b4 z5 z6⊢;obtain⟨g1,g2,g3,g4⟩:=I.out.ld;obtain⟨n1,n2,n3,n4,n5⟩:=I.out.ne;have i:=zA (I.out.w_ u (rd a v+1));have ft:wr.heap.size≠go:=by omega
     have fv:=zA (aG (p:=⟨go,u,none⟩) J5.out ft (.int .i64 (rd a v+1)));have f0:Aside0 (cJ (b3+3) b ds (Wq.setCell ⟨go,u,none⟩ (.int .i64 (rd a v+1)))):=⟨by
      obtain⟨inner,ho⟩:=Kd.jr I.out.ro;obtain⟨cells,hc⟩:=jq ho go rfl;exact J6.out.set (p:=⟨go,u,none⟩) hc _⟩
     have f3:r.heap.size<=(Wq.setCell ⟨go,u,none⟩ (.int .i64 (rd a v+1))).heap.size:=by simpa using b0
     have f4:=zA (b1.out.trans (fX (bo:=go) (j:=u) Wq (.int .i64 (rd a v+1)) (show go<r.heap.size by omega)));have f5:Aside0 (∀k,k≠go->(Wq.setCell ⟨go,u,none⟩ (.int .i64 (rd a v+1))).heap[k]? =W.heap[k]?):=⟨fun k hk=>(Below.heap_setCell _ _ _ _ hk).trans (b4.out k hk)⟩;have f6:Aside0 (∀k,(Wq.setCell ⟨go,u,none⟩ (.int .i64 (rd a v+1))).heap.size<=k->k≠go/\(k<wr.heap.size\/wr.heap.size+3<=k)):=⟨fun k hk=>by
      simp only[World.size_setCell] at hk;omega⟩
     have f7:Aside0 (((Q'.map fun x:Nat=>(x:Int)).length+1)*8<=140737488355328):=⟨by
      have h1:=S.out;have z:=HK.out.1;have h3:=HK.out.2;rw[List.length_cons] at z;rw[List.length_map];omega⟩
     have f8:=zA (Below.setCell (p:=⟨go,u,none⟩) b2.out g4 (.int .i64 (rd a v+1)));have z4:=i.out.c4;have hY:go≠b3+1+1:=n3;clear G I5 I6 I J5 J6 b0 b1 b2 b4 aP O ar av aB;gi_wp2_with (gi_at_builtin;go_loud (refine wY (Kd.int .i64) (w0:=w) w.heap.size rfl (.tmp 51) (.tmp 53) 25 3 (.int .i64 0) 8 rfl Tryz.underlying25 gA rfl (by decide) (by omega) qv' (Q'.map fun x:Nat=>(x:Int)) (u:Int) [.int .i64 u] (fun k=>k≠go/\(k<wr.heap.size\/wr.heap.size+3<=k)) (fun _=>False) rfl (by rw[World.size_setCell];rfl) rfl (fun _ hk=>hk.elim) f6.out i.out.rq i.out.hb i.out.hb.size f7.out ?_;intro v1 h0 T c8 aS f9;obtain⟨A1,c1,bv, -⟩:=Kd.od T;obtain⟨nx,dd⟩:∃nx,nx=((Q'.map fun x:Nat=>(x:Int))++[(u:Int)]).length:=⟨_,rfl⟩;rw[<-dd] at bv;clear dd;subst bv;have f':=zA (i.out.push T aS c8);have X4:=zA (cT i.out.x4 aS (fun e=>(i.out.own _ e.symm).2.2.2.2 rfl));have ed:=dV X4.out;have h8:=bF X4.out 0;have gb:=zA aS;clear T aS f9 c8))
     have U:=gb.out;have T:=i.out.own;have Y:∀k,(k=wr.heap.size\/k=wr.heap.size+1\/k=wr.heap.size+1+1\/k=g)->some k≠qv'.ownBlock:=fun k hk e=>by
      have:=T k e.symm;rcases hk with rfl|rfl|rfl|rfl<;>omega
     have h9:=U.size;refine⟨(f4.out.trans (wZ i.out.rq U)).trans (fX _ _ (show b3+1+1<r.heap.size by omega)),⟨fun _=>Below.setCell (p:=⟨b3+1+1,0,none⟩) (f8.out.grown U i.out.hb.size (fun k e=>(T k e).2.2.1)) n5 _,fun k hk ck=>?_⟩,?_,_,_,Q'++[u],f'.out,?_,?_,aG (cT fv.out U (Y _ (.inl rfl))) (show wr.heap.size≠b3+1+1 by omega) _,(f0.out.wX i.out.rq U).set X4.out _⟩
     ·refine(Below.heap_setCell _ _ _ _ (show k≠b3+1+1 by rcases hk with rfl|rfl|rfl<;>omega)).trans ((U.block k ?_ (Y k (hk.elim (fun h=>.inr (.inl h)) (fun h=>.inr (.inr h))))).trans (f5.out k (by rcases hk with rfl|rfl|rfl<;>omega)))
      have h1:=f3;rcases hk with rfl|rfl|rfl<;>omega
     ·simp only[World.size_setCell];omega
     ·rw[K2.out];exact K4.out
     ·rw[K3.out,List.length_append]
      have h1:=S.out;have z:=jZ (a.set u (rd a v+1));rw[K3.out,List.length_set,e_.out] at z;simp only[List.length_cons,List.length_nil];omega
    ·have K4:=zA ((l1 (by omega)).mF (cx.out (fun _=>True)))
     have fn:decide (rd a u<0)=false:=aZ bi;clear l1 l2 O ar av a4 a5 aB;gi_wp2;exact⟨cu.refl _ _,⟨fun _=>ao _ _,fun _ _ _=>rfl⟩,aP,a,qv',Q',G.out,K4.out,S.out,I5.out,I6.out⟩
   case Iz=>
    rintro s' xs W W' _ rfl ⟨P,a,qv',Q',i1,i2,i4,i5,i6⟩ H b6;have G:=zA (i1.bk H (by omega)).free;have I2:=zA (Bf.done i2 (fun x y gd hex=>hex.2 (by rw[<-hex.1];exact gd)));have S:=zA i4;have I6:=zA (i6.bk H (by omega));have ge:=zA b6;have aP:r.heap.size<W'.heap.size:=(Array.getElem?_eq_some_iff.1 b6).1;clear i1 i2 i4 i5 i6 b6;gi_wp2;exact lI.intro (2*(n-b9 a)+Q'.length) (by rw[HK.out.1];have:=S.out;simp only[List.length_cons];omega) (HJ.out _ _ _ ⟨_,_,_,_,_,_,_,_,_,_,_,_,a,qv',Q',_,G,I2,by omega,⟨rfl,by have h1:=S.out;have z:=HK.out.1;have h3:=HK.out.2;rw[List.length_cons] at z;omega⟩,rfl⟩) (r.heap.size+1) (by omega) (I6.out.push (by omega) (by omega) ge.out)
  ·obtain⟨Z,a2⟩:∃Z,Z=Value.slice (some ⟨gq,oq+1,none⟩) (L-1) (cq-1):=⟨_,rfl⟩
   have a3:=zA (a1.out.xc (lo':=wr.heap.size) (hi':=wr.heap.size+3) (qv':=Z) (Q':=rest) (by have h:=cd.out;rw[if_neg ed,show rest.length=L-1 by have:=hg.out;omega] at h;rw[a2];exact h));gi_wp2_with (first|(refine⟨trivial,?_⟩;gi_at_call 194;refine(callsIn_wide.2 (mw g v _)).mono ?_;rintro e w3 ⟨rfl,rfl⟩))
   rw[<-a2];obtain⟨M,aa⟩:∃X,X=(wr.alloc (.cells #[.int .i64 v] 3)).setCell ⟨b3+1+1,0,none⟩ Z:=⟨_,rfl⟩;have ce:Aside0 (M.heap[wr.heap.size]? =some (.cells #[.int .i64 v] 3 (0,0))):=⟨by rw[aa];exact aG d8.out (show wr.heap.size≠b3+1+1 by omega) _⟩;have cf:M.heap.size=wr.heap.size+1:=by rw[aa];simp
   have ch:Aside0 (cJ (b3+3) b ds M):=⟨by rw[aa];exact d9.out.set a1.out.x4 _⟩;rw[<-aa] at a3⊢;have Z1:=bs M (.cells #[.pointer (some ⟨g,0,none⟩)] 135);have Z2:=heap_alloc2_new M (.cells #[.pointer (some ⟨g,0,none⟩)] 135) (.cells #[.int .i64 v] 3);rw[cf] at Z1 Z2;have O:=zA ((a3.out.alloc (.cells #[.pointer (some ⟨g,0,none⟩)] 135)).alloc (.cells #[.int .i64 v] 3));have ar:=zA (ay (ay ce.out (.cells #[.pointer (some ⟨g,0,none⟩)] 135)) (.cells #[.int .i64 v] 3));have av:=zA ((ch.out.below (au (ao _ _) (.cells #[.pointer (some ⟨g,0,none⟩)] 135))).below (au (ao _ _) (.cells #[.int .i64 v] 3)));have a4:=zA (ay Z1 (.cells #[.int .i64 v] 3));have a5:=zA Z2;have aB:=zA (aM dk.out O.out.hb);have a9:((M.alloc (.cells #[.pointer (some ⟨g,0,none⟩)] 135)).alloc (.cells #[.int .i64 v] 3)).heap.size=wr.heap.size+3:=by simp[cf]
   have e3:=Nat.le_of_eq a9;have e4:=Nat.le_of_eq a9.symm;clear a9;clear d8 d9 a1 cd a3 ce ch Z1 Z2 aa a2 V x4 eb x3 cc hh g' he hf hl;generalize (M.alloc (.cells #[.pointer (some ⟨g,0,none⟩)] 135)).alloc (.cells #[.int .i64 v] 3)=r at O ar av a4 a5 aB e3 e4⊢;refine jb (σ:=Unit) (α:=Int×Int) (F:=Fence.wide) (n:=10) rfl (by decide) (gf:=207) (lb:=#[.pointer (some ⟨wr.heap.size+1,0,none⟩),.pointer (some ⟨wr.heap.size+1+1,0,none⟩)]) rfl trivial (enters_of Tryz.func207 (by kernel_rfl) rfl)
    (fun o=>q_ (wr.heap.size+1) (wr.heap.size+1+1) g n A0 c0 E q dv sv er v w _ gg HE.out hn a0 (au (au O.out.hb _) _) (ay (ay a4.out _) _) (ay (ay a5.out _) _) (ay (ay aB.out _) _)) (fun _=>rfl)
    (fun _=>True) ?Io ?st2 ?Ii
    (fun _ pre W=>r.heap.size<=W.heap.size/\∃(a:List Int) (qv':Value) (Q':List Nat),DI w b3 (b3+1+1) go co n wr.heap.size (wr.heap.size+3) a qv' Q' W/\Bf n q (lP E) a Q' (rd a v) (pE v pre)/\2*(n-b9 a)+Q'.length<=2*(n-b9 out)+rest.length/\W.heap[wr.heap.size]? =some (.cells #[.int .i64 v] 3 (0,0))/\cJ (b3+3) b ds W) (fun _ _ _ _=>False)
    ?Im (fun _ _ _ _ _ _ h _=>h) ?Ij (fun _ _ _ _ _ h _=>h) ?Ik ?Iy ?a12 ?Iw ?Iq ?Iv (fun _ _ _ _ _ _ _ h=>h.elim)
   case Iw=>
    intro l x W K Y;gi_wp2;exact Y
   case Io=>
    intro o s W1 h;exact⟨trivial,by rw[h];exact cu.refl _ _⟩
   case st2=>intro s A B _ h;exact dc h
   case Ii=>intro s x A B _ h;exact dc h.2
   case Im=>
    rintro s pre A B _ ⟨P,a,qv',Q',h1,z,h4,h5,h6⟩ N;exact⟨Nat.le_trans P N.size,a,qv',Q',h1.below N,z,h4,aM h5 N,h6.below N⟩
   case Ij=>
    rintro s pre A B ⟨P,a,qv',Q',h1,z,h4,h5,h6⟩ aF;exact⟨by rw[aF.size];exact P,a,qv',Q',h1.bk aF (by omega),z,h4,aF.cells h5,h6.bk aF (by omega)⟩
   case Ik=>
    intro s A B C D aL ci cj;refine⟨fun a6=>((aL.below w.heap.size (by omega)).trans (ci.1 (by rw[aL.size];exact a6))).trans (cj.below w.heap.size (by omega)),fun k hk ck=>?_⟩;have cl:k≠r.heap.size+1:=by rcases hk with rfl|rfl|rfl<;>omega
    exact(cj.heap k cl).trans ((ci.2 k hk (by rw[aL.size];exact ck)).trans (aL.heap k cl))
   case Iy=>
    rintro o s W1 rfl;exact⟨by simp;omega,out,Z,rest,(O.out.alloc _).alloc _,hj.out.mF (fun x y h=>⟨h,by simp⟩),aI _,ay (ay ar.out _) _,(av.out.below (au (ao _ _) _)).below (au (ao _ _) _)⟩
   case Iq=>
    rintro l s' pre ⟨u,m⟩ Wb Wc W _ ⟨P,a,qv',Q',i1,i2,i4,i5,i6⟩ ⟨⟨cr,e5⟩,ab⟩ e6 H;have G:=zA ((i1.below ab).bk H (by omega));have S:=zA i4;have I5:=zA (H.cells (aM i5 ab));have I6:=zA ((i6.below ab).bk H (by omega));have aP:r.heap.size<=W.heap.size:=by have:=H.size;have:=ab.size;omega
    clear i1 i4 i5 i6 ab H e6 P;simp only at cr;obtain⟨u0,u1,m0,m1⟩:=cr;obtain⟨u,rfl⟩:=Int.eq_ofNat_of_zero_le u0;have aR:u<n:=by omega
    obtain⟨l1,l2⟩:=Bf.look (ex:=fun y=>¬∃m,((y:Int),m)∈pre) i2 aR a0 ⟨m,e5⟩;have hO:=i2.d0;have hP:rd a v<=1000:=by have h1:=i2.hi v a0;have z:=jZ a;have h3:=i2.len;omega
    have e_:=zA i2.len;have z3:=G.out.c3;have z4:=G.out.kl u aR;have cv:∀(ex:Nat->Prop) (x y:Nat),(x=v/\(¬∃m,((y:Int),m)∈pre)/\y≠u)->pE v (pre++[((u:Int),m)]) x y:=fun ex x y h=>⟨h.1,fun⟨m',ag⟩=>by
     rcases List.mem_append.1 ag with ag|ag
     ·exact h.2.1 ⟨m',ag⟩
     ·have:=List.mem_singleton.1 ag
      injection this with e1 e2
      exact h.2.2 (by omega)⟩
    have cx:=zA cv;clear cv i2;by_cases bi:rd a u<0
    ·obtain⟨k1,k2,k3,k4⟩:=l2 bi
     have K2:=zA k2;have K3:=zA k3;have K4:=zA (k4.mF (cx.out (fun _=>True)));have fn:decide (rd a u<0)=true:=az bi;clear l1 l2 k1 k2 k3 k4;gi_wp2;have z3:=G.out.c3;have z4:=G.out.kl v a0;have z5:=(aj I5.out 0).trans rfl;have fo:wrap64 (rd a v+1)=rd a v+1:=by unfold wrap64;omega
     have hT:(0:Int)<=(u:Int):=by omega
     have hV:(0:Int)<=(v:Int):=by omega
     have bv:(v:Int)<(n:Int):=by omega
     refine ph [_,_,_,_,_,_,_,_] _ rfl (by kernel_rfl) rfl (by kernel_rfl) (by kernel_rfl) (by kernel_rfl) (by kernel_rfl) ?_;repeat(gi_big_quiet_step (fail))
     refine wpQuietIn_nil ?_;rintro _ ⟨nq,rfl⟩;have I:=zA (G.out.drewN nq);have J5:=zA (iQ I5.out nq);have J6:=zA (I6.out.below (bY (ao _ _) nq));have b0:r.heap.size<=(W.drewN nq).heap.size:=by simpa using aP
     have b1:=zA (dc (nw:=r.heap.size) (bY (ao W.heap.size W) nq));have b2:=zA (bY (ao w.heap.size W) nq);have b4:Aside0 (∀k,k≠go->(W.drewN nq).heap[k]? =W.heap[k]?):=⟨fun k _=>by simp⟩;clear z3 z4 z5 fo;have z5:=I.out.xd u aR;have z6:=I.out.kl u aR;generalize W.drewN nq=Wq at I J5 J6 b0 b1 b2 b4 z5 z6⊢;obtain⟨g1,g2,g3,g4⟩:=I.out.ld;obtain⟨n1,n2,n3,n4,n5⟩:=I.out.ne;have i:=zA (I.out.w_ u (rd a v+1));have ft:wr.heap.size≠go:=by omega
     have fv:=zA (aG (p:=⟨go,u,none⟩) J5.out ft (.int .i64 (rd a v+1)));have f0:Aside0 (cJ (b3+3) b ds (Wq.setCell ⟨go,u,none⟩ (.int .i64 (rd a v+1)))):=⟨by
      obtain⟨inner,ho⟩:=Kd.jr I.out.ro;obtain⟨cells,hc⟩:=jq ho go rfl;exact J6.out.set (p:=⟨go,u,none⟩) hc _⟩
     have f3:r.heap.size<=(Wq.setCell ⟨go,u,none⟩ (.int .i64 (rd a v+1))).heap.size:=by simpa using b0
     have f4:=zA (b1.out.trans (fX (bo:=go) (j:=u) Wq (.int .i64 (rd a v+1)) (show go<r.heap.size by omega)));have f5:Aside0 (∀k,k≠go->(Wq.setCell ⟨go,u,none⟩ (.int .i64 (rd a v+1))).heap[k]? =W.heap[k]?):=⟨fun k hk=>(Below.heap_setCell _ _ _ _ hk).trans (b4.out k hk)⟩;have f6:Aside0 (∀k,(Wq.setCell ⟨go,u,none⟩ (.int .i64 (rd a v+1))).heap.size<=k->k≠go/\(k<wr.heap.size\/wr.heap.size+3<=k)):=⟨fun k hk=>by
      simp only[World.size_setCell] at hk;omega⟩
     have f7:Aside0 (((Q'.map fun x:Nat=>(x:Int)).length+1)*8<=140737488355328):=⟨by
      have h1:=S.out;have z:=HK.out.1;have h3:=HK.out.2;rw[List.length_cons] at z;rw[List.length_map];omega⟩
     have f8:=zA (Below.setCell (p:=⟨go,u,none⟩) b2.out g4 (.int .i64 (rd a v+1)));have z4:=i.out.c4;have hY:go≠b3+1+1:=n3;clear G I5 I6 I J5 J6 b0 b1 b2 b4 aP O ar av aB;gi_wp2_with (gi_at_builtin;go_loud (refine wY (Kd.int .i64) (w0:=w) w.heap.size rfl (.tmp 51) (.tmp 53) 25 3 (.int .i64 0) 8 rfl Tryz.underlying25 gA rfl (by decide) (by omega) qv' (Q'.map fun x:Nat=>(x:Int)) (u:Int) [.int .i64 u] (fun k=>k≠go/\(k<wr.heap.size\/wr.heap.size+3<=k)) (fun _=>False) rfl (by rw[World.size_setCell];rfl) rfl (fun _ hk=>hk.elim) f6.out i.out.rq i.out.hb i.out.hb.size f7.out ?_;intro v1 h0 T c8 aS f9;obtain⟨A1,c1,bv, -⟩:=Kd.od T;obtain⟨nx,dd⟩:∃nx,nx=((Q'.map fun x:Nat=>(x:Int))++[(u:Int)]).length:=⟨_,rfl⟩;rw[<-dd] at bv;clear dd;subst bv;have f':=zA (i.out.push T aS c8);have X4:=zA (cT i.out.x4 aS (fun e=>(i.out.own _ e.symm).2.2.2.2 rfl));have ed:=dV X4.out;have h8:=bF X4.out 0;have gb:=zA aS;clear T aS f9 c8))
     have U:=gb.out;have T:=i.out.own;have Y:∀k,(k=wr.heap.size\/k=wr.heap.size+1\/k=wr.heap.size+1+1\/k=g)->some k≠qv'.ownBlock:=fun k hk e=>by
      have:=T k e.symm;rcases hk with rfl|rfl|rfl|rfl<;>omega
     have h9:=U.size;refine⟨(f4.out.trans (wZ i.out.rq U)).trans (fX _ _ (show b3+1+1<r.heap.size by omega)),⟨fun _=>Below.setCell (p:=⟨b3+1+1,0,none⟩) (f8.out.grown U i.out.hb.size (fun k e=>(T k e).2.2.1)) n5 _,fun k hk ck=>?_⟩,?_,_,_,Q'++[u],f'.out,?_,?_,aG (cT fv.out U (Y _ (.inl rfl))) (show wr.heap.size≠b3+1+1 by omega) _,(f0.out.wX i.out.rq U).set X4.out _⟩
     ·refine(Below.heap_setCell _ _ _ _ (show k≠b3+1+1 by rcases hk with rfl|rfl|rfl<;>omega)).trans ((U.block k ?_ (Y k (hk.elim (fun h=>.inr (.inl h)) (fun h=>.inr (.inr h))))).trans (f5.out k (by rcases hk with rfl|rfl|rfl<;>omega)))
      have h1:=f3;rcases hk with rfl|rfl|rfl<;>omega
     ·simp only[World.size_setCell];omega
     ·rw[K2.out];exact K4.out
     ·rw[K3.out,List.length_append]
      have h1:=S.out;have z:=jZ (a.set u (rd a v+1));rw[K3.out,List.length_set,e_.out] at z;simp only[List.length_cons,List.length_nil];omega
    ·have K4:=zA ((l1 (by omega)).mF (cx.out (fun _=>True)))
     have fn:decide (rd a u<0)=false:=aZ bi;clear l1 l2 O ar av a4 a5 aB;gi_wp2;exact⟨cu.refl _ _,⟨fun _=>ao _ _,fun _ _ _=>rfl⟩,aP,a,qv',Q',G.out,K4.out,S.out,I5.out,I6.out⟩
   case Iv=>
    rintro s' xs W W' _ rfl ⟨P,a,qv',Q',i1,i2,i4,i5,i6⟩ H b6;have G:=zA (i1.bk H (by omega)).free;have I2:=zA (Bf.done i2 (fun x y gd hex=>hex.2 (by rw[<-hex.1];exact gd)));have S:=zA i4;have I6:=zA (i6.bk H (by omega));have ge:=zA b6;have aP:r.heap.size<W'.heap.size:=(Array.getElem?_eq_some_iff.1 b6).1;clear i1 i2 i4 i5 i6 b6;gi_wp2;exact lI.intro (2*(n-b9 a)+Q'.length) (by rw[HK.out.1];have:=S.out;simp only[List.length_cons];omega) (HJ.out _ _ _ ⟨_,_,_,_,_,_,_,_,_,_,_,_,a,qv',Q',_,G,I2,by omega,⟨rfl,by have h1:=S.out;have z:=HK.out.1;have h3:=HK.out.2;rw[List.length_cons] at z;omega⟩,rfl⟩) (r.heap.size+1) (by omega) (I6.out.push (by omega) (by omega) ge.out)
end
section
attribute [local go_sem] jR jS jT jU mX mY mZ m_
def gI (xs:List Int):Nat->Int
 |0=>rd xs 0
 |k+1=>if gI xs k<rd xs ((k+1:Nat):Int) then rd xs ((k+1:Nat):Int) else gI xs k
theorem EU (A:Option Addr) (c:Nat) (xs:List Int) (w:World) (h:Kd.C (Kd.int .i64) w A xs.length xs) (h1:1<=xs.length):
  Calls Tryz.prog 167 #[.slice A xs.length c] w fun e w'=>e= .returned (.int .i64 (gI xs (xs.length-1)))/\Below w.heap.size w w':=by
 have v:xs.length<=9223372036854775807:=Kd.mR h;have b:=zA (ao w.heap.size w);have m:=zA h;obtain⟨a,n,g⟩:=Kd.bM h 0 (by omega) (by omega);subst n;have g:w.cell? a=some (.int .i64 (rd xs 0)):=by simpa [Addr.add] using g
 have x:(1:Int)<=(xs.length:Int):=by omega
 have B:((xs.length:Nat):Int)<=9223372036854775807:=by omega
 clear h;go_enter Tryz.func167,Tryz.ntmps167
 go_wp2;clear g;go_loopg [3,4] (xs.length-1) (fun o p q wr=>∃i:Nat,p= .int .i64 (gI xs (i-1))/\q= .int .i64 i/\1<=i/\i<=xs.length/\Aside0 (Below w.heap.size w wr)/\Aside0 (o=xs.length-i))
 case atStart=>exact⟨1,rfl,rfl,aI _,h1,b,⟨rfl⟩⟩
 case round=>
  clear b;obtain⟨i,rfl,rfl,D,E,b,r⟩:=hrel;by_cases F:i<xs.length
  ·have s:(0:Int)<=(i:Int):=by omega
   have u:(i:Int)<(xs.length:Int):=by omega
   obtain⟨a',k,g⟩:=Kd.bM (Kd.aq m.out b.out) (i:Int) s u;injection k with k
   subst k;rw[aV] at g;have l:Aside0 (gI xs (i+1-1)=if gI xs (i-1)<rd xs (i:Int) then rd xs (i:Int) else gI xs (i-1)):=⟨by
    obtain⟨j,rfl⟩:∃j,i=j+1:=⟨i-1,by omega⟩;rfl⟩
   generalize gI xs (i-1)=y at l⊢;generalize rd xs (i:Int)=z at g l;go_wp2
   all_goals
    go_roundg (xs.length- (i+1))
    case measure=>rw[r.out];omega
    case rel=>exact⟨i+1,(by rw[l.out];first|rw[if_pos (by assumption)]|rw[if_neg (by assumption)]|rw[if_neg (by omega)]),by go_num,by omega,by omega,b,⟨rfl⟩⟩
  ·obtain rfl:i=xs.length:=by omega
   go_wp2;go_ret;exact⟨rfl,b.out⟩
end
section
attribute [local go_sem] Oper.semAt_some
theorem EV (g n:Nat) (A0:Option Addr) (c0:Nat) (E:List S83) (q:Int) (dv Q:Value) (R:Int) (v:Nat) (lb:Array Value) (B:Nat->Bool) (w:World) (ab:Kd.C aW w A0 E.length E) (hE:eH n E) (hn:n<=1000) (hv:v<n) (i:ir w g n (.slice A0 E.length c0) q dv Q R)
  (hB:∀(W:World) (u:Int),Below w.heap.size w W->0<=u->u<n->Calls Tryz.prog 169 (#[.int .i64 u]++lb) W fun e w'=>e= .returned (.bool (B u.toNat))/\Below W.heap.size W w'):
  Calls Tryz.prog 168 #[.pointer (some ⟨g,0,none⟩),.int .i64 v,.func (.func 169) #[] lb] w fun e w'=>e= .returned (.int .i64 (eB B (cE E v E.length)))/\Below w.heap.size w w':=by
 have a9:=zA hB;have HE:=zA hE;have ak:=zA i;clear hB hE i;refine(callsIn_wide (n:=10)).1 ?_;refine callsIn_of_wp_marks Tryz.func168 rfl trivial ?_ rfl;simp only[Tryz.ntmps168,List.size_toArray,List.length_cons,List.length_nil,Nat.reduceAdd,Nat.reduceSub,Array.replicate_succ,Array.replicate_zero,List.push_toArray,List.append_toArray,List.nil_append,List.cons_append];gi_wp2_with (refine⟨trivial,?_⟩;gi_at_call 194;refine(callsIn_wide.2 (mw g v _)).mono ?_;rintro e w3 ⟨rfl,rfl⟩)
 obtain⟨p,am⟩:∃o:Obj,o= .cells #[.func (.func 169) #[] lb] 121:=⟨_,rfl⟩;obtain⟨on,an⟩:∃o:Obj,o= .cells #[.int .i64 0] 3:=⟨_,rfl⟩;obtain⟨r,ap⟩:∃o:Obj,o= .cells #[.pointer (some ⟨g,0,none⟩)] 135:=⟨_,rfl⟩;obtain⟨y,av⟩:∃o:Obj,o= .cells #[.int .i64 v] 3:=⟨_,rfl⟩;have Z0:=bs w p;have S:=bs (w.alloc p) on;have T:=bs ((w.alloc p).alloc on) r;have U:=bs (((w.alloc p).alloc on).alloc r) y;simp only[World.size_alloc] at S T U;have H0:=zA ((ay (ay (ay Z0 on) r) y).trans (by rw[am]:_=some (.cells #[.func (.func 169) #[] lb] 121 (0,0))));have H1:=zA ((ay (ay S r) y).trans (by rw[an]:_=some (.cells #[.int .i64 0] 3 (0,0))));have H2:=zA ((ay T y).trans (by rw[ap]:_=some (.cells #[.pointer (some ⟨g,0,none⟩)] 135 (0,0))));have H3:=zA (U.trans (by rw[av]:_=some (.cells #[.int .i64 v] 3 (0,0))));have z:=zA (au (au (au (au (ao w.heap.size w) p) on) r) y);have aP:Aside0 (ir ((((w.alloc p).alloc on).alloc r).alloc y) g n (.slice A0 E.length c0) q dv Q R):=⟨aM ak.out z.out⟩;have bv:g<w.heap.size:=aD ak.out;have bf:=zA (Kd.aq ab z.out);clear Z0 S T U;subst am an ap av;have bg:=z.out.size;have bi:((((w.alloc (.cells #[.func (.func 169) #[] lb] 121)).alloc (.cells #[.int .i64 0] 3)).alloc (.cells #[.pointer (some ⟨g,0,none⟩)] 135)).alloc (.cells #[.int .i64 v] 3)).heap.size=w.heap.size+4:=by simp
 generalize ((((w.alloc (.cells #[.func (.func 169) #[] lb] 121)).alloc (.cells #[.int .i64 0] 3)).alloc (.cells #[.pointer (some ⟨g,0,none⟩)] 135)).alloc (.cells #[.int .i64 v] 3))=j at H0 H1 H2 H3 z aP bf bg bi⊢;refine jb (σ:=Unit) (α:=Int×Int) (F:=Fence.wide) (n:=10) rfl (by decide) (gf:=207) (lb:=#[.pointer (some ⟨w.heap.size+1+1,0,none⟩),.pointer (some ⟨w.heap.size+1+1+1,0,none⟩)]) rfl trivial (enters_of Tryz.func207 (by kernel_rfl) rfl)
  (fun o=>o_ (w.heap.size+1+1) (w.heap.size+1+1+1) g n A0 c0 E q dv Q R v w _ ab HE.out hn hv (au (au z.out _) _) (ay (ay H2.out _) _) (ay (ay H3.out _) _) (ay (ay aP.out _) _)) (fun _=>rfl)
  (fun _=>True) ?eU ?st ?ar
  (fun _ pre W=>j.heap.size<=W.heap.size/\W.heap[w.heap.size]? =some (.cells #[.func (.func 169) #[] lb] 121 (0,0))/\W.heap[w.heap.size+1]? =some (.cells #[.int .i64 (eB B pre)] 3 (0,0))/\Below w.heap.size w W) (fun _ _ _ _=>False)
  ?is (fun _ _ _ _ _ _ h _=>h) ?ib (fun _ _ _ _ _ h _=>h) ?kt ?h0 ?a1 ?assign ?body ?done (fun _ _ _ _ _ _ _ h=>h.elim)
 case assign=>
  intro l x W K hK;gi_wp2;exact hK
 case eU=>
  intro o s W1 h;exact⟨trivial,by rw[h];exact cu.refl _ _⟩
 case st=>intro s A B _ h;exact dc h
 case ar=>intro s x A B _ h;exact dc h.2
 case is=>
  rintro s pre A B _ ⟨H,h1,V,X⟩ i;exact⟨Nat.le_trans H i.size,aM h1 i,aM V i,a7 X i⟩
 case ib=>
  rintro s pre A B ⟨H,h1,V,X⟩ hb;exact⟨by rw[hb.size];exact H,hb.cells h1,hb.cells V,X.trans (hb.below w.heap.size (by omega))⟩
 case kt=>
  intro s A B C D N aR aS;refine⟨fun a6=>((N.below w.heap.size (by omega)).trans (aR.1 (by rw[N.size];exact a6))).trans (aS.below w.heap.size (by omega)),fun k hk I=>?_⟩;have a0:k≠j.heap.size+1:=by rcases hk with rfl|rfl|rfl<;>omega
  exact(aS.heap k a0).trans ((aR.2 k hk (by rw[N.size];exact I)).trans (N.heap k a0))
 case h0=>
  rintro o s W1 rfl;exact⟨by simp;omega,ay (ay H0.out _) _,ay (ay H1.out _) _,au (au z.out _) _⟩
 case body=>
  rintro l s pre ⟨u,m⟩ Wb W1 W _ ⟨H,i1,i2,i3⟩ ⟨Y,J⟩ bn b;have Z:=zA (b.cells (aM i1 J));have L:=zA (b.cells (aM i2 J));have b3:=zA ((a7 i3 J).trans (b.below w.heap.size (by omega)));have bx:j.heap.size<=W.heap.size:=by have:=b.size;have:=J.size;omega
  clear i1 i2 i3 J b bn;simp only at Y;have b0:W.cell? ⟨w.heap.size,0,none⟩=some (.func (.func 169) #[] lb):=(aj Z.out 0).trans rfl;have O:=zA (a9.out W u b3.out Y.1 Y.2.1);have M:=zA (rf B pre (u,m));generalize eB B pre=s0 at L M;cases P:B u.toNat with
  |true=>
   rw[P] at O M;clear P;gi_wp2_with (refine⟨trivial,?_⟩;gi_at_call 169;refine(callsIn_wide.2 O.out).mono ?_;rintro e w5 ⟨rfl,G⟩;have a:=zA G;have D2:=zA (aM L.out G);have c5:w5.cell? ⟨w.heap.size+1,0,none⟩=some (.int .i64 s0):=(aj D2.out 0).trans rfl;have f5:=bF D2.out 0;clear G)
   have a6:=a.out.size;refine⟨(dc a.out).trans (fX _ _ (by show w.heap.size+1<j.heap.size;omega)),⟨fun a6=>Below.setCell (a.out.mono a6) (by show w.heap.size<=w.heap.size+1;omega) _,fun k hk I=>?_⟩,by simp;omega,?_,?_,Below.setCell (a7 b3.out a.out) (by show w.heap.size<=w.heap.size+1;omega) _⟩
   ·rw[Below.heap_setCell _ _ _ _ (by rcases hk with rfl|rfl|rfl<;>(show _≠w.heap.size+1)<;>omega)]
    exact a.out.block k I
   ·rw[Below.heap_setCell _ _ _ _ (by show w.heap.size≠w.heap.size+1;omega)]
    exact aM Z.out a.out
   ·have h:=bW D2.out 0 (.int .i64 (wrap64 (s0+m)))
    rw[M.out];simpa using h
  |false=>
   rw[P] at O M;clear P;gi_wp2_with (refine⟨trivial,?_⟩;gi_at_call 169;refine(callsIn_wide.2 O.out).mono ?_;rintro e w5 ⟨rfl,G⟩;have a:=zA G;clear G)
   have a6:=a.out.size;exact⟨dc a.out,⟨fun a6=>a.out.mono a6,fun k hk I=>a.out.block k I⟩,by omega,aM Z.out a.out,by rw[M.out];exact aM L.out a.out,a7 b3.out a.out⟩
 case done=>
  rintro s xs W W' _ rfl ⟨H,i1,i2,i3⟩ b a3;have L:=zA (b.cells i2);have b3:=zA (i3.trans (b.below w.heap.size (by omega)));have a4:=zA a3;clear i1 i2 i3 a3;have hc:W'.cell? ⟨w.heap.size+1,0,none⟩=some (.int .i64 (eB B (cE E v E.length))):=(aj L.out 0).trans rfl;gi_wp2_with fail
  have bo:Bk j.heap.size W' (W'.putObj j.heap.size (.deferred none)):=⟨_,_,a4.out,rfl,rfl⟩;exact jB (D:=j.heap.size) rfl a4.out (results_tmp rfl _ _ _) ⟨rfl,b3.out.trans (bo.below w.heap.size (by omega))⟩
end
section
attribute [local go_sem] Oper.semAt_some jR jS jT jU
theorem EW (gb a cr n:Nat) (B:Nat->Bool) (ok:Nat->Prop) (base:Nat) (W:World) (u:Int) (hb:W.heap[gb]? =some (.cells #[.slice (some ⟨a,0,none⟩) n cr] 43 (0,0))) (g:Kd.bool.R 4 W base ok (.slice (some ⟨a,0,none⟩) n cr) ((List.range n).map B)) (h:0<=u) (hn:u<n):
  Calls Tryz.prog 169 #[.int .i64 u,.pointer (some ⟨gb,0,none⟩)] W fun e w'=>e= .returned (.bool (B u.toNat))/\Below W.heap.size W w':=by
 have i:W.cell? ⟨gb,0,none⟩=some (.slice (some ⟨a,0,none⟩) n cr):=(aj hb 0).trans rfl;have b:=(Kd.bT false g u h hn).1;have e:bQ false ((List.range n).map B) u=B u.toNat:=by
  obtain⟨m,rfl⟩:=Int.eq_ofNat_of_zero_le h;have:m<n:=by omega
  simp[bQ,bc,List.getElem?_map,List.getElem?_range this]
 rw[e] at b;have b:W.cell? ⟨a,u.toNat,none⟩=some (.bool (B u.toNat)):=b;clear g hb e;go_enter Tryz.func169,Tryz.ntmps169
 go_wp2;go_ret;exact⟨rfl,ao _ _⟩
theorem EX (A:Option Addr) (c n:Nat) (xs:List Int) (w:World) (a:xs.length=n) (b:Kd.C (Kd.int .i64) w A xs.length xs) (h1:1<=n):
  Calls Tryz.prog 167 #[.slice A n c] w fun e w'=>e= .returned (.int .i64 (gI xs (n-1)))/\Below w.heap.size w w':=by
 subst a;exact EU A c xs w b h1
theorem xe (xs:List Int):∀k i:Nat,i<=k->rd xs (i:Int)<=gI xs k
 |0,i,h=>by
  obtain rfl:i=0:=by omega
  exact Int.le_refl _
 |k+1,i,h=>by
  unfold gI;by_cases e:i=k+1
  ·subst e;split<;>omega
  ·have:=xe xs k i (by omega)
   split<;>omega
theorem xf (xs:List Int):∀k:Nat,∃i,i<=k/\gI xs k=rd xs (i:Int)
 |0=>⟨0,aI _,rfl⟩
 |k+1=>by
  unfold gI;split
  ·exact⟨k+1,aI _,rfl⟩
  ·obtain⟨i,h1,a⟩:=xf xs k
   exact⟨i,by omega,a⟩
structure EY (n q:Nat) (t:Nat->Nat->Int) (out:List Int):Prop where
 len:out.length=n
 q0:rd out (q:Int)=0
 pos:∀v:Nat,v<n->0<=rd out (v:Int)/\rd out (v:Int)<n
 xg:∀u v:Nat,u<n->v<n->0<t u v->rd out (v:Int)<=rd out (u:Int)+1
 back:∀v:Nat,v<n->v≠q->∃u:Nat,u<n/\0<t v u/\rd out (u:Int)+1=rd out (v:Int)
theorem rW {n:Nat} {E:List S83} (h:bB n E) {u v:Nat} (hu:u<n) (g:v<n):lP E v u↔0<ai E v u:=by
 have h1:∀L:List (Int×Int),(∀x∈L,0<=x.1/\x.1<n/\x.1≠v/\1<=x.2/\x.2<=50)->0<=dW (fun w=>if w=u then 1 else 0) L/\(0<dW (fun w=>if w=u then 1 else 0) L↔∃m,((u:Int),m)∈L):=by
  intro L;induction L with
  |nil=>intro _;simp[dW]
  |cons x L i=>
   intro a;obtain⟨i1,i2⟩:=i (fun y j=>a y (List.mem_cons_of_mem _ j));have k:=a x (List.mem_cons_self ..);simp only[dW];by_cases e:x.1.toNat=u
   ·rw[if_pos e,Int.mul_one]
    refine⟨by omega,fun _=>⟨x.2,?_⟩,fun _=>by omega⟩;have:x=((u:Int),x.2):=by rw[<-e];ext<;>simp;omega
    rw[<-this];exact List.mem_cons_self ..
   ·rw[if_neg e,Int.mul_zero,Int.zero_add]
    refine⟨i1,fun h=>?_,fun⟨m,hm⟩=>?_⟩
    ·obtain⟨m,hm⟩:=i2.1 h
     exact⟨m,List.mem_cons_of_mem _ hm⟩
    ·rcases List.mem_cons.1 hm with rfl|hm
     ·exact absurd (show ((u:Int)).toNat=u by simp) e
     ·exact i2.2 ⟨m,hm⟩
 have b:=h1 _ (pn h E.length (aI _) (v:=v));rw[pk h _ g,T.jX hu (fun w _ hw=>by rw[if_neg hw,Int.mul_zero]),if_pos rfl,Int.mul_one] at b;exact b.2.symm
theorem Bf.dst {n q:Nat} {E:List S83} (h:bB n E) (m:T.dI n (ai E)) (o:q<n) {out:List Int} {D:Int} (hb:Bf n q (lP E) out [] D (fun _ _=>False)):EY n q (ai E) out:=by
 have i:∀v:Nat,v<n->0<=rd out (v:Int):=by
  intro v e;refine Classical.byContradiction fun p=>?_
  obtain⟨a,b,k,l,h1,g,j⟩:=m (fun v=>decide (0<=rd out (v:Int))) ⟨q,o,by simp[hb.q0]⟩ ⟨v,e,by simpa using p⟩;have:=hb.kO a k (aw h1) (by simp) b l ((rW h l k).2 j) (fun f=>f);exact(of_decide_eq_false g) this.1
 refine⟨hb.len,hb.q0,fun v e=>⟨i v e,?_⟩,fun u v hu e r=>(hb.kO u hu (i u hu) (by simp) v e ((rW h e hu).2 r) (fun f=>f)).2,fun v e s=>?_⟩
 ·have h1:=hb.hi v e
  have g:=jZ out;rw[hb.len] at g;omega
 ·obtain⟨u,hu,h1,g,j⟩:=hb.back v e s (i v e)
  exact⟨u,hu,by rw[h.wt.sym];exact(rW h e hu).1 h1,j⟩
structure LI (w0 w:World) (g gd gs go cd cs co n:Nat) (A0:Option Addr) (c0:Nat) (E:List S83) (q:Int) (out d s:List Int) (W:World):Prop where
 si:SI w0 g gd gs cd cs n A0 c0 E q d s W
 fo:(Kd.int .i64).R 3 W w.heap.size (fun _=>True) (.slice (some ⟨go,0,none⟩) n co) out
 hw:w0.heap.size<=w.heap.size/\gd<w.heap.size/\gs<w.heap.size/\g<w.heap.size/\w.heap.size<=go
namespace LI
variable {w0 w W W':World} {g gd gs go cd cs co n c0 l:Nat} {A0:Option Addr} {E:List S83} {q:Int} {out d s:List Int}
theorem below (h:LI w0 w g gd gs go cd cs co n A0 c0 E q out d s W) (hb:Below W.heap.size W W'):LI w0 w g gd gs go cd cs co n A0 c0 E q out d s W':=⟨h.si.below hb,Kd.da h.fo hb,h.hw⟩
theorem alloc (h:LI w0 w g gd gs go cd cs co n A0 c0 E q out d s W) (o:Obj):LI w0 w g gd gs go cd cs co n A0 c0 E q out d s (W.alloc o):=h.below (au (ao _ _) o)
theorem drewN (h:LI w0 w g gd gs go cd cs co n A0 c0 E q out d s W) (m:Nat):LI w0 w g gd gs go cd cs co n A0 c0 E q out d s (W.drewN m):=h.below (bY (ao _ _) m)
theorem drew (h:LI w0 w g gd gs go cd cs co n A0 c0 E q out d s W):LI w0 w g gd gs go cd cs co n A0 c0 E q out d s W.drew:=h.drewN 1
theorem iJ (h:LI w0 w g gd gs go cd cs co n A0 c0 E q out d s W) (p:Addr) (v:Value) (a:w.heap.size<=p.block) (h1:p.block≠go):LI w0 w g gd gs go cd cs co n A0 c0 E q out d s (W.setCell p v):=
 ⟨h.si.iJ p v (by have:=h.hw;omega) (by have:=h.hw;omega),Kd.a_ (Kd.fP (Kd.g_ rfl h.fo) (fun k hk=>Below.heap_setCell _ _ _ _ (fun e=>h1 (by rw[<-e];injection hk)))) (fun _ _=>trivial),h.hw⟩
theorem kl (h:LI w0 w g gd gs go cd cs co n A0 c0 E q out d s W) (v:Nat) (a:v<n):W.cell? ⟨go,v,none⟩=some (.int .i64 (rd out v)):=by
 have:=(Kd.bT 0 h.fo (v:Int) (by omega) (by omega)).1;rw[aV] at this;exact this
theorem EZ (h:LI w0 w g gd gs go cd cs co n A0 c0 E q out d s W) {d' s':List Int} (a:SI w0 g gd gs cd cs n A0 c0 E q d' s' W') (hk:∀k,k<W.heap.size->k≠gd->k≠gs->W'.heap[k]? =W.heap[k]?):LI w0 w g gd gs go cd cs co n A0 c0 E q out d' s' W':=
 ⟨a,Kd.a_ (Kd.fP (Kd.g_ rfl h.fo) (fun k e=>by
  injection e with e
  subst e;have h1:=h.hw;exact hk _ (Kd.bj h.fo _ rfl) (by omega) (by omega))) (fun _ _=>trivial),h.hw⟩
end LI
theorem E4 (g gd gs cd cs n:Nat) (A0:Option Addr) (c0:Nat) (E:List S83) (q:Nat) (d:List Int) (w0 w:World) (an:Kd.C aW w0 A0 E.length E) (hE:bB n E) (hl:E.length<=1000) (hC:fD n E) (hn:n<=12) (hq:q<n) (aa:T.sN (T.val n (ai E)) n<=19)
  (hd:∀v:Nat,v<n-> -200<=rd d v/\rd d v<=200) (bg:d.length=n) (h:SI w0 g gd gs cd cs n A0 c0 E q d (List.replicate n 0) w):
  Calls Tryz.prog 110 #[.pointer (some ⟨g,0,none⟩)] w fun e w'=>e= .returned (.tuple #[])/\∃(d' s':List Int),d'.length=n/\s'.length=n/\SI w0 g gd gs cd cs n A0 c0 E q d' s' w'/\(∀v:Nat,v<n->v≠q->0<=rd d' v)/\∃dist:Nat->Int,T.fE n (ai E) (fun v=>rd d (v:Nat)) dist 200 0 (fun v=>rd d' (v:Nat)) (fun v=>rd s' (v:Nat)):=by
 have e':=Tryz.underlying188;have hu:=Tryz.underlying24;have o:=zA hE;have HC:=zA hC;have HD:=zA hd;have bi:=h.hb.size;obtain⟨q1,q2,q3,q4,q5⟩:=h.ld;have HS:=zA h;have c9:1<=n:=by omega
 clear hE hC hd h;go_enter Tryz.func110,Tryz.ntmps110
 go_wp2_with (first|(go_at_call 165;refine(ET g n A0 c0 E q _ _ 0 _ (Kd.aq an HS.out.hb) o.out.ka (by omega) hq HS.out.st).mono ?_;rintro e w1 ⟨go,co,out,D,rfl,hO,K,bk⟩;have s:=zA (Bf.dst o.out (o.out.conn HC.out) hq bk);have ar:Aside0 (LI w0 w g gd gs go cd cs co n A0 c0 E q out d (List.replicate n 0) w1):=⟨HS.out.below K,hO,bi,q1,q2,q3,Kd.dF hO go rfl⟩;clear hO K bk)|(go_at_call 167;refine(EX _ _ n out _ s.out.len (Kd.aH ar.out.fo).2.2 c9).mono ?_;rintro e w2 ⟨rfl,K⟩;have L:=zA (ar.out.below K);clear K ar))
 obtain⟨im,c',dd⟩:=xf out (n-1);obtain⟨G,av⟩:∃G:Nat,gI out (n-1)=G:=⟨(gI out (n-1)).toNat,by have:=s.out.pos im (by omega);omega⟩;have aB:G<=n:=by have:=s.out.pos im (by omega);omega
 have HM:Aside0 (∀v:Nat,v<n->rd out (v:Int)<=G):=⟨fun v l=>by rw[<-av];exact xe out (n-1) v (by omega)⟩;have bv:Aside0 (T.fE n (ai E) (fun v=>rd d (v:Nat)) (fun v=>rd out (v:Nat)) 200 G (fun v=>rd d (v:Nat)) (fun v=>rd (List.replicate n 0) (v:Nat))):=⟨by
  have h:=T.fE.start (n:=n) (t:=ai E) (D:=fun v=>rd d (v:Nat)) (dist:=fun v=>rd out (v:Nat)) (B:=200) (k:=G) (by omega) (fun v l=>(HD.out v l).1) HM.out (by omega);rw[show (fun v:Nat=>rd (List.replicate n 0) (v:Int))=fun _=>0 from by
   funext v
   simp[rd,bc,List.getElem?_replicate];split<;>rfl]
  exact h⟩
 rw[av];clear av dd c';have dk:=zA bg;have dl:=zA (List.length_replicate (n:=n) (a:=(0:Int)));clear bg;go_loopg [4] (G) (fun M kv wr=>∃(k:Nat) (d' s':List Int),kv= .int .i64 k/\k<=n/\Aside0 (LI w0 w g gd gs go cd cs co n A0 c0 E q out d' s' wr)/\Aside0 (d'.length=n)/\Aside0 (s'.length=n)/\Aside0 (T.fE n (ai E) (fun v=>rd d (v:Nat)) (fun v=>rd out (v:Nat)) 200 k (fun v=>rd d' (v:Nat)) (fun v=>rd s' (v:Nat)))/\Aside0 (M=k))
 case atStart=>exact⟨G,d,List.replicate n 0,rfl,aB,L,dk,dl,bv,⟨rfl⟩⟩
 case round=>
  clear L bv HM aB HS;obtain⟨k,d',s',rfl,aB,b,O,P,I,HK⟩:=hrel;by_cases hk:0<k
  ·have fn:(0:Int)<(k:Int):=by omega
   have dv:(0:Int)<=(n:Int):=by omega
   have s5:=b.out.si.f5;have s0:=b.out.si.f0;go_wp2_with (first|((with_reducible refine aJ (N:=33) rfl ?_);refine Kd.jK Kd.bool _ 4 rfl (N:=33) rfl 43 _ _ rfl (n:Int) rfl rfl Tryz.underlying43 (.bool false) 1 l_ rfl (by decide) (by omega) false (ok:=fun _=>True) (okp:=fun _=>True) rfl (fun _ hk=>hk) trivial dv (by simp;omega) (ao _ _) (aI _) ?_;intro v1 w5 ho hb d1 d2;rw[aV] at ho;obtain⟨j,cr,l,fq,d3, -⟩:=Kd.fs ho (by rw[List.length_replicate];omega);rw[List.length_replicate] at l;subst l;have bx:=zA ho;have b4:=zA (b.out.below hb);clear ho hb d1 d2))
   have fr:=Kd.bj b.out.fo go rfl;have ft:=b.out.si.hb.size;have fv:=b.out.hw;have d4:w.heap.size<=wr.heap.size:=by omega
   have d5:j≠go:=by omega
   have d6:w.heap.size<=j:=by omega
   have ag:=zA (bs w5 (.cells #[.slice (some ⟨j,0,none⟩) n cr] 43));have aL:=zA (Kd.bh (Kd.aK bx.out (.cells #[.slice (some ⟨j,0,none⟩) n cr] 43)) (base':=w.heap.size) d4);have aO:=zA (b4.out.alloc (.cells #[.slice (some ⟨j,0,none⟩) n cr] 43));clear bx b4 s5 s0 b;generalize w5.alloc (.cells #[.slice (some ⟨j,0,none⟩) n cr] 43)=W6 at ag aL aO⊢;generalize w5.heap.size=gb at ag d3⊢;have b5:Aside0 (Kd.bool.R 4 W6 w.heap.size (fun _=>True) (.slice (some ⟨j,0,none⟩) n cr) ((List.range n).map fun u:Nat=>if u<0 then decide (rd out (u:Int)<k) else false)):=⟨by
    have h:=aL.out;rw[show (List.replicate n false:List Bool)=(List.range n).map fun u:Nat=>if u<0 then decide (rd out (u:Int)<k) else false from by
     refine List.ext_getElem (by simp) fun i h1 H=>?_
     simp] at h
    exact h⟩
   clear aL;go_loopg [36] (n) (fun M vv aR=>∃v:Nat,v<=n/\vv= .int .i64 v/\Aside0 (LI w0 w g gd gs go cd cs co n A0 c0 E q out d' s' aR)/\Aside0 (aR.heap[gb]? =some (.cells #[.slice (some ⟨j,0,none⟩) n cr] 43 (0,0)))/\Aside0 (Kd.bool.R 4 aR w.heap.size (fun _=>True) (.slice (some ⟨j,0,none⟩) n cr) ((List.range n).map fun u:Nat=>if u<v then decide (rd out (u:Int)<k) else false))/\Aside0 (M=n-v))
   case atStart=>exact⟨0,by omega,rfl,aO,ag,b5,⟨rfl⟩⟩
   case round=>
    clear aO ag b5;obtain⟨v,l,rfl,b,m,Q,J⟩:=hrel;by_cases p:v<n
    ·have d8:(0:Int)<=(v:Int):=by omega
     have d9:(v:Int)<(n:Int):=by omega
     have S:=dV m.out;have b1:=b.out.kl v p;obtain⟨U,hf⟩:=Kd.bT false Q.out (v:Int) (by omega) (by omega);rw[aV] at U hf;generalize bQ false ((List.range n).map fun u:Nat=>if u<v then decide (rd out (u:Int)<k) else false) (v:Int)=z at U;replace U:wr.cell? ⟨j,v,none⟩=some (.bool z):=U;have V:=Kd.dm Q.out (v:Int) (decide (rd out (v:Int)<k));rw[aV] at V;have em:(((List.range n).map fun u:Nat=>if u<v then decide (rd out (u:Int)<k) else false).set v (decide (rd out (v:Int)<k)))=(List.range n).map fun u:Nat=>if u<v+1 then decide (rd out (u:Int)<k) else false:=by
      refine List.ext_getElem (by simp) fun i h1 H=>?_
      rw[List.getElem_set];simp only[List.getElem_map,List.getElem_range];by_cases e:v=i
      ·subst e;simp
      ·rw[if_neg e]
       by_cases h:i<v
       ·rw[if_pos h,if_pos (by omega)]
       ·rw[if_neg h,if_neg (by omega)]
     rw[em] at V;have b6:=zA (Kd.bl V.1);have b_:=zA (eL (cT (g:=gb) m.out V.2 (fun e=>by injection e with e;omega)));have L:=zA ((b.out.iJ ⟨j,v,none⟩ (.bool (decide (rd out (v:Int)<k))) d6 d5).drew);clear V em b m Q;go_wp2;go_region
     clear S b1 U hf;generalize (wr.setCell ⟨j,v,none⟩ (.bool (decide (rd out (v:Int)<k)))).drew=W7 at L b_ b6⊢;go_wp2;go_roundg (n- (v+1))
     case measure=>rw[J.out];omega
     case rel=>exact⟨v+1,by omega,by go_num,L,b_,b6,⟨rfl⟩⟩
    ·obtain rfl:n=v:=by omega
     go_wp2;have r:Aside0 (Kd.bool.R 4 wr w.heap.size (fun _=>True) (.slice (some ⟨j,0,none⟩) n cr) ((List.range n).map (T.bH (fun v=>rd out (v:Nat)) k))):=⟨by
      have h:=Q.out;rw[show ((List.range n).map fun u:Nat=>if u<n then decide (rd out (u:Int)<k) else false)=(List.range n).map (T.bH (fun v=>rd out (v:Nat)) k) from List.map_congr_left fun u hu=>by
       rw[if_pos (List.mem_range.1 hu)];rfl] at h
      exact h⟩
     have ea:0<=T.fW n (ai E) (fun v=>rd out (v:Nat)) 200 k:=by have:=T.oV (n:=n) (t:=ai E) (fun v=>rd out (v:Nat)) (show (0:Int)<=200 by omega) k;omega
     have eb:=T.qU o.out.wt (fun v=>rd out (v:Nat)) (B:=200) (by omega) aa k;have b':Aside0 (∀v:Nat,v<n-> -T.fW n (ai E) (fun v=>rd out (v:Nat)) 200 k<=rd d' v):=⟨fun v l=>I.out.low v l⟩;clear Q J;obtain⟨Y,a0⟩:∃Y,Y=T.fW n (ai E) (fun v=>rd out (v:Nat)) 200 k:=⟨_,rfl⟩;rw[<-a0] at ea eb b';have ed:=zA a0;clear a0;go_loopg [51,7] (n) (fun M vv tv wr=>∃(v:Nat) (x:Int),v<=n/\vv= .int .i64 v/\tv= .int .i64 x/\0<=x/\x<=Y/\Aside0 (∀u:Nat,u<v->rd out u=k->rd d' u<0-> -rd d' u<=x*T.sN (fun w=>if T.bH (fun v=>rd out (v:Nat)) k w=true then ai E u w else 0) n)/\Aside0 (LI w0 w g gd gs go cd cs co n A0 c0 E q out d' s' wr)/\Aside0 (wr.heap[gb]? =some (.cells #[.slice (some ⟨j,0,none⟩) n cr] 43 (0,0)))/\Aside0 (Kd.bool.R 4 wr w.heap.size (fun _=>True) (.slice (some ⟨j,0,none⟩) n cr) ((List.range n).map (T.bH (fun v=>rd out (v:Nat)) k)))/\Aside0 (M=n-v))
     case atStart=>exact⟨0,0,by omega,rfl,rfl,by omega,by omega,⟨fun u hu=>by omega⟩,b,m,r,⟨rfl⟩⟩
     case round=>
      clear b m r;obtain⟨v,x,l,rfl,rfl,a1,a2,X,b,m,r,J⟩:=hrel;by_cases p:v<n
      ·have d8:(0:Int)<=(v:Int):=by omega
       have d9:(v:Int)<(n:Int):=by omega
       have S:=dV m.out;have b1:=b.out.kl v p;have b2:=b.out.si.kP v p;have b3:=b.out.si.f3;by_cases F:rd out v=k
       ·have el:(rd out v==(k:Int))=true:=by simpa using F
        by_cases ca:rd d' v<0
        ·have er:decide (rd d' v<0)=true:=az ca
         obtain⟨u,hu,cb,cc⟩:=s.out.back v p (fun e=>by have:=s.out.q0;rw[<-e] at this;omega);have ce:=zA (CP o.out.wt hu cb cc F);have cf:Aside0 (T.sN (fun w=>if T.bH (fun v=>rd out (v:Nat)) k w=true then ai E v w else 0) n<=600):=⟨by
          have h:=T.cN (f:=fun w=>if T.bH (fun v=>rd out (v:Nat)) k w=true then ai E v w else 0) (g:=fun _=>50) (n:=n) (fun w _=>by
           have:=o.out.ka.times v w;show (if T.bH (fun v=>rd out (v:Nat)) k w=true then ai E v w else 0)<=50
           split<;>omega)
          rw[T.iW] at h;omega⟩
         have ch:=zA (rz o.out hl (T.bH (fun v=>rd out (v:Nat)) k) p);have f2:=(nH o.out.wt hn aa (fun v l=>HD.out v l) (by omega) (by omega) I.out v p).1;have f4:=b'.out v p;have a3:=zA F;clear F cb cc;go_wp2_with (go_at_call 168;refine(EV g n A0 c0 E q _ _ 0 v #[.pointer (some ⟨gb,0,none⟩)] (T.bH (fun v=>rd out (v:Nat)) k) _ (Kd.aq an b.out.si.hb) o.out.ka (by omega) p b.out.si.st (fun W u ci es ev=>EW gb j cr n _ _ _ W u (aM m.out ci) (Kd.da r.out ci) es ev)).mono ?_;rintro e w8 ⟨rfl,ak⟩;have Z:=zA (b.out.below ak);have ex:=zA (aM m.out ak);have ey:=zA (Kd.da r.out ak);have c2:=Z.out.si.kP v p;have c3:=Z.out.si.f3;rw[ch.out];clear ak S b1 b2 b3 b m r;obtain⟨y,hy⟩:∃y,y=T.sN (fun w=>if T.bH (fun v=>rd out (v:Nat)) k w=true then ai E v w else 0) n:=⟨_,rfl⟩;rw[<-hy];have a4:=ce.out;have e0:=cf.out;rw[<-hy] at a4 e0;have HY:=zA hy;clear hy ce cf ch)
         all_goals
          have e2:=zA (CL (a:= -rd d' v) (x:=y) a4);have cj:=zA (CM (a:= -rd d' v) (x:=y) (by omega) a4);go_roundg (n- (v+1))
          case measure=>rw[J.out];omega
          case rel=>exact⟨v+1,_,by omega,by go_num,rfl,by have:=cj.out;omega,by have:=cj.out;omega,⟨fun u hu h1 H=>by
           have hc:=e2.out;by_cases e:u=v
           ·subst e
            rw[<-HY.out];first|exact hc|exact Int.le_trans hc (Int.mul_le_mul_of_nonneg_right (by assumption) (by omega))
           ·have hT:=X.out u (by omega) h1 H
            first|exact hT|exact Int.le_trans hT (Int.mul_le_mul_of_nonneg_right (by omega) (T.db fun w _=>by
             show 0<=(if T.bH (fun v=>rd out (v:Nat)) k w=true then ai E u w else 0)
             have:=o.out.wt.pos u w;split<;>omega))⟩,Z,ex,ey,⟨rfl⟩⟩
        ·have er:decide (rd d' v<0)=false:=aZ ca
         have a3:=zA F;clear F;go_wp2;go_roundg (n- (v+1))
         case measure=>rw[J.out];omega
         case rel=>exact⟨v+1,x,by omega,by go_num,rfl,a1,a2,⟨fun u hu h1 H=>by
          by_cases e:u=v
          ·subst e;omega
          ·exact X.out u (by omega) h1 H⟩,b,m,r,⟨rfl⟩⟩
       ·have el:(rd out v==(k:Int))=false:=by simpa using F
        have a3:=zA F;clear F;go_wp2;go_roundg (n- (v+1))
        case measure=>rw[J.out];omega
        case rel=>exact⟨v+1,x,by omega,by go_num,rfl,a1,a2,⟨fun u hu h1 H=>by
         by_cases e:u=v
         ·subst e;exact absurd h1 a3.out
         ·exact X.out u (by omega) h1 H⟩,b,m,r,⟨rfl⟩⟩
      ·obtain rfl:n=v:=by omega
       by_cases f6:0<x
       ·have S:=dV m.out
        obtain⟨cq,cv⟩:=CN o.out hn aa (fun v l=>HD.out v l) s.out.xg (show (1:Int)<=(k:Int) by omega) (by omega) O.out P.out I.out a1 (by rw[<-ed.out];exact a2) X.out;have e3:=zA cq;have e4:=zA cv;obtain⟨a5,a9⟩:=nF E (T.bH (fun v=>rd out (v:Nat)) k) x (d',s') n;have a5:=zA a5;have a9:=zA a9;clear cq cv;rename_i e5 e6;clear e5 e6;go_wp2_with (go_at_call 166;refine(ve g gd gs j cd cs cr n A0 c0 E q d' s' (T.bH (fun v=>rd out (v:Nat)) k) x w0 _ an o.out.ka (by omega) (by omega) b.out.si (Kd.bh r.out bi) ⟨by omega,by omega⟩ O.out P.out e4.out).mono ?_;rintro e w8 ⟨rfl,cx,c1,a6⟩;have Z:=zA (b.out.EZ cx c1);clear cx c1 b m r S)
        go_roundg (k-1)
        case measure=>rw[HK.out];omega
        case rel=>exact⟨k-1,_,_,by go_num,by omega,Z,⟨a5.out.trans O.out⟩,⟨a9.out.trans P.out⟩,⟨by
         have h:=e3.out;rw[show ((k:Int)-1)=((k-1:Nat):Int) by omega] at h;exact h⟩,⟨rfl⟩⟩
       ·obtain rfl:x=0:=by omega
        go_wp2;go_roundg (k-1)
        case measure=>rw[HK.out];omega
        case rel=>exact⟨k-1,d',s',by go_num,by omega,b,O,P,⟨by
         have h:=CO o.out aa s.out.xg I.out X.out;rw[show ((k:Int)-1)=((k-1:Nat):Int) by omega] at h;exact h⟩,⟨rfl⟩⟩
  ·obtain rfl:k=0:=by omega
   go_wp2;go_end0;exact⟨rfl,d',s',O.out,P.out,b.out.si,fun v l e_=>I.out.kM v l (by obtain⟨u,hu,h1,H⟩:=s.out.back v l e_;have:=s.out.pos u hu;show ((0:Nat):Int)<rd out (v:Int);omega),_,I.out⟩
end
section
attribute [local go_sem] Oper.semAt_some
theorem E5 (A0:Option Addr) (c0 n:Nat) (l0:List Int) (w:World) (h:l0.length=n) (h1:1<=n) (hn:n<=1000) (i:Kd.C (Kd.int .i64) w A0 l0.length l0) (j:l0.length<=c0):
  Calls Tryz.prog 57 #[.slice A0 n c0] w fun e w'=>∃gd a,e= .returned (.slice (some ⟨gd,0,none⟩) n a)/\(Kd.int .i64).R 3 w' w.heap.size (fun _=>True) (.slice (some ⟨gd,0,none⟩) n a) l0/\Below w.heap.size w w':=by
 subst h;refine(gD.calls A0 c0 l0 l0 w i j (by unfold gD.f clone.f;rw[if_pos (by omega)])).mono ?_;rintro e w1 ⟨v0,rfl,b,k⟩;obtain⟨g,cap,rfl, -⟩:=Kd.fs b (by omega);exact⟨g,cap,rfl,b,k⟩
abbrev Hg (w:World) (N:Int) (A0:Option Addr) (k c0:Nat) (w':World):Prop:=w'.heap[w.heap.size]? =some (.cells #[.int .i64 N,.slice A0 k c0] 24 (0,0))/\w'.cell? ⟨w.heap.size,0,none⟩=some (.int .i64 N)/\w'.cell? ⟨w.heap.size,1,none⟩=some (.slice A0 k c0)/\Below w.heap.size w w'
theorem Hg.of {w w':World} {N:Int} {A0:Option Addr} {k c0:Nat} (h:w'.heap[w.heap.size]? =some (.cells #[.int .i64 N,.slice A0 k c0] 24 (0,0))) (hb:Below w.heap.size w w'):Hg w N A0 k c0 w':=⟨h,(aj h 0).trans rfl,(aj h 1).trans rfl,hb⟩
theorem Hg.start (w:World) (N:Int) (A0:Option Addr) (k c0:Nat):Hg w N A0 k c0 (w.alloc (.cells #[.int .i64 N,.slice A0 k c0] 24)).drew:=Hg.of (eL (bs w _)) (bP (au (ao _ _) _))
theorem Hg.alloc {w w':World} {N:Int} {A0:Option Addr} {k c0:Nat} (h:w'.heap[w.heap.size]? =some (.cells #[.int .i64 N,.slice A0 k c0] 24 (0,0))) (hb:Below w.heap.size w w') (o:Obj):Hg w N A0 k c0 (w'.alloc o):=Hg.of (ay h o) (au hb o)
theorem Hg.below {w w' a:World} {N:Int} {A0:Option Addr} {k c0:Nat} (h:w'.heap[w.heap.size]? =some (.cells #[.int .i64 N,.slice A0 k c0] 24 (0,0))) (hb:Below w.heap.size w w') (b:Below w'.heap.size w' a):Hg w N A0 k c0 a:=Hg.of (aM h b) (a7 hb b)
theorem E6 (n:Nat) (q:Int) (A0:Option Addr) (c0:Nat) (E:List S83) (m:Option Addr) (cd:Nat) (d:List Int) (w:World) (hd:Kd.C (Kd.int .i64) w m d.length d) (r:d.length<=cd) (s:d.length=n) (h1:1<=n) (hn:n<=1000):
  Calls Tryz.prog 109 #[.agg #[.int .i64 n,.slice A0 E.length c0],.int .i64 q,.slice m n cd] w fun e w'=>∃g gd gs b x,e= .returned (.pointer (some ⟨g,0,none⟩))/\SI w g gd gs b x n A0 c0 E q d (List.replicate n 0) w':=by
 have hu:=Tryz.underlying24;have G:=Tryz.underlying188;have y:=zA s;have z:=zA r;have B:=zA hd;have H:(0:Int)<=(n:Int):=by omega
 have I:(n:Int)<=1000:=by omega
 obtain⟨zs,u,v⟩:=mz 29 Tryz.underlying29 n hn;have l:=zA v;clear s r hd v;go_enter Tryz.func109,Tryz.ntmps109
 go_wp2_with fail
 go_region_held3 (fun w'=>w'.heap[w.heap.size]? =some (.cells #[.int .i64 n,.slice A0 E.length c0] 24 (0,0))/\w'.cell? ⟨w.heap.size,0,none⟩=some (.int .i64 n)/\w'.cell? ⟨w.heap.size,1,none⟩=some (.slice A0 E.length c0)/\Below w.heap.size w w')
  (first
   |exact Hg.start w n A0 E.length c0
   |((try go_split_ands);refine⟨by assumption,by assumption,by assumption,by assumption⟩)
   |((try go_split_ands);exact Hg.alloc (by assumption) (by assumption) _)
   |((try go_split_ands);exact Hg.below (by assumption) (by assumption) (by assumption))
   |fail)
  ((go_at_call 57;refine(E5 m cd n d _ y.out h1 hn (Kd.aq B.out (by go_split_ands;assumption)) z.out).mono ?_;rintro e w1 ⟨gd,b,rfl,a,i⟩))
 ·rename_i hHeld
  obtain⟨-, -, -,j⟩:=hHeld;have D:=Kd.bj a gd rfl;have o:=Kd.dF a gd rfl;have p:=i.size;simp only[World.drew,World.size_alloc] at o p;have hS:=l.out w1 (fun _=>True) trivial;have k:=zA (SI.mk (g:=w1.heap.size+1) j (by have h:=bs (w1.alloc (.cells zs 3)) (.cells #[.int .i64 n,.slice A0 E.length c0,.int .i64 q,.slice (some ⟨gd,0,none⟩) n b,.slice (some ⟨w1.heap.size,0,none⟩) n n,.int .i64 0] 188);rw[World.size_alloc] at h;exact h)
   (Kd.aK (Kd.aK (Kd.bh a (by simp[World.drew])) _) _) (Kd.bh (Kd.aK hS _) (by omega)) ⟨by omega,by omega,by omega,by omega⟩)
  clear a i j hS l u;generalize (w1.alloc (.cells zs 3)).alloc (.cells #[.int .i64 n,.slice A0 E.length c0,.int .i64 q,.slice (some ⟨gd,0,none⟩) n b,.slice (some ⟨w1.heap.size,0,none⟩) n n,.int .i64 0] 188)=F at k⊢;go_wp2;go_ret;exact⟨_,_,_,_,_,rfl,k.out⟩
 ·rename_i hHeld
  obtain⟨-, -, -,j⟩:=hHeld;have D:=Kd.bj a gd rfl;have o:=Kd.dF a gd rfl;have p:=i.size;simp only[World.drew,World.size_alloc] at o p;have hS:=Kd.da (Kd.bl (l.out (w.alloc (.cells #[.int .i64 n,.slice A0 E.length c0] 24)) (fun _=>True) trivial)) i;rw[World.size_alloc] at hS;have k:=zA (SI.mk (g:=w1.heap.size) j (bs w1 (.cells #[.int .i64 n,.slice A0 E.length c0,.int .i64 q,.slice (some ⟨gd,0,none⟩) n b,.slice (some ⟨w.heap.size+1,0,none⟩) n n,.int .i64 0] 188))
   (Kd.aK (Kd.bh a (by simp[World.drew];omega)) _) (Kd.bh (Kd.aK hS _) (by omega)) ⟨by omega,by omega,by omega,by omega⟩)
  clear a i j hS l u;generalize w1.alloc (.cells #[.int .i64 n,.slice A0 E.length c0,.int .i64 q,.slice (some ⟨gd,0,none⟩) n b,.slice (some ⟨w.heap.size+1,0,none⟩) n n,.int .i64 0] 188)=F at k⊢;go_wp2;go_ret;exact⟨_,_,_,_,_,rfl,k.out⟩
end
section
attribute [local go_sem] Oper.semAt_some
def fl (s:List Int) (o:Int):Nat->List Int
 |0=>s
 |k+1=>(fl s o k).set k (rd (fl s o k) k-o)
theorem nT (s:List Int) (o:Int):∀k,(fl s o k).length=s.length
 |0=>rfl
 |k+1=>by simp[fl,nT s o k]
theorem pF (s:List Int) (o:Int):∀(k v:Nat),k<=s.length->v<s.length->rd (fl s o k) v=if v<k then rd s v-o else rd s v
 |0,v,_,a=>by rw[if_neg (by omega)];rfl
 |k+1,v,hk,a=>by
  have b:=pF s o k;unfold fl;by_cases e:k=v
  ·subst e
   rw[iI _ _ _ (by rw[nT];exact a),b k (by omega) a,if_neg (by omega),if_pos (by omega)]
  ·rw[gj _ _ _ _ e,b v (by omega) a]
   by_cases h:v<k
   ·rw[if_pos h,if_pos (by omega)]
   ·rw[if_neg h,if_neg (by omega)]
theorem E7 (g gd gs cd cs n:Nat) (A0:Option Addr) (c0:Nat) (E:List S83) (q:Nat) (d s:List Int) (w0 w:World) (z:1<=n) (hn:n<=12) (B:q<n) (h:SI w0 g gd gs cd cs n A0 c0 E q d s w) (C:d.length=n) (D:s.length=n)
  (hd:∀v:Nat,v<n-> -1048576<=rd d v/\rd d v<=1048576) (p:∀v:Nat,v<n->0<=rd s v/\rd s v<=2000000/\ -1048576<=rd s v-rd s q/\rd s v-rd s q<=1048576):
  Calls Tryz.prog 112 #[.pointer (some ⟨g,0,none⟩)] w fun e w'=>e= .returned (.tuple #[.slice (some ⟨gd,0,none⟩) n cd,.slice (some ⟨gs,0,none⟩) n cs,.int .i64 0])/\SI w0 g gd gs cd cs n A0 c0 E q d (fl s (rd s q) n) w':=by
 have ad:=Tryz.underlying188;have hu:=Tryz.underlying24;have O:=zA hd;have F:=zA p;have G:=zA C;have j:=zA D;have a:=zA h;obtain⟨P,Q, -, -⟩:=p q B;have ag:(q:Int)<(n:Int):=by omega
 have ak:(0:Int)<=(q:Int):=by omega
 clear hd p C D h;have R:=a.out.f5;have b:=a.out.f4;have s2:=a.out.f2;have r:=a.out.cells q B;go_enter Tryz.func112,Tryz.ntmps112
 go_wp2_with fail
 go_quiet (fail)
 clear R s2 r;rename_i nq;have k:=zA (a.out.drewN nq);clear a b;generalize w.drewN nq=W1 at k⊢;have b:=k.out.f4;generalize H:rd s q=o at P Q;have I:=zA H;clear H;go_wp2;go_loopg [31] (n) (fun S T wr=>∃v:Nat,v<=n/\T= .int .i64 v/\Aside0 (SI w0 g gd gs cd cs n A0 c0 E q d (fl s o v) wr)/\Aside0 (S=n-v))
 case atStart=>exact⟨0,by omega,rfl,k,⟨rfl⟩⟩
 case round=>
  clear k b;obtain⟨v,l,rfl,a,U⟩:=hrel;by_cases m:v<n
  ·have am:(0:Int)<=(v:Int):=by omega
   have an:(v:Int)<(n:Int):=by omega
   have b:=a.out.f4;have r:=a.out.cells v m;have sf:=a.out.uX v m;have J:Aside0 (∀W,SI w0 g gd gs cd cs n A0 c0 E q d ((fl s o v).set v (rd (fl s o v) v-o)) W->SI w0 g gd gs cd cs n A0 c0 E q d (fl s o (v+1)) W):=⟨fun W h=>h⟩;have V:0<=rd (fl s o v) v/\rd (fl s o v) v<=2000000:=by
    rw[pF s o v v (by rw[j.out];omega) (by rw[j.out];exact m),if_neg (by omega)];have:=F.out v m;omega
   obtain⟨X,Y⟩:=V;have i:=zA (J.out _ (a.out.pd v (rd (fl s o v) v-o)));clear J a;generalize rd (fl s o v) v=y at X Y r i;go_wp2;go_roundg (n- (v+1))
   case measure=>rw[U.out];omega
   case rel=>exact⟨v+1,by omega,by go_num,i,⟨rfl⟩⟩
  ·obtain rfl:n=v:=by omega
   have s0:=a.out.f0;have K:=a.out.f3;have b:=a.out.f4;obtain⟨Z,e2,L⟩:=Kd.aH a.out.d;obtain⟨e4,M,N⟩:=Kd.aH a.out.s;have u:=zA (And.intro e2 L);have x:=zA (And.intro M N);have ab:Aside0 (∀v:Nat,v<n-> -1048576<=rd (fl s o n) v/\rd (fl s o n) v<=1048576):=⟨fun v l=>by
    rw[pF s o n v (by rw[j.out];omega) (by rw[j.out];exact l),if_pos l];have:=F.out v l;rw[I.out] at this;omega⟩
   clear Z e2 L e4 M N;go_wp2_with fail
   go_quiet ((first|(go_at_call 87;with_reducible exact vu (some ⟨gd,0,none⟩) cd n d _ _ G.out z hn O.out (Kd.dR u.out.2 _) (by rw[G.out];exact u.out.1))|(go_at_call 87;with_reducible exact vu (some ⟨gs,0,none⟩) cs n (fl s o n) _ _ (by rw[nT];exact j.out) z hn ab.out (Kd.dR x.out.2 _) (by rw[nT,j.out];exact x.out.1))))
   have i:=zA (a.out.drewN nq);clear s0 K b a u x;generalize wr.drewN nq=W2 at i⊢;have K:=i.out.f3;have b:=i.out.f4;go_wp2_with fail
   go_quiet (fail)
   go_wp2;refine bodyPost_ret (results_tmp3 rfl _ _ _) rfl ?_;exact⟨rfl,by rw[I.out];exact i.out.drewN _⟩
end
def jF.f (k:Nat) (a:Int) (g:List (S83)) (e:Int) (l2:List Int):Option (Int):=(cz.f k a g).bind fun b=>(if b.2=0 then(if b.1=true then(if e<0 then(some 2) else(if e>=a then(some 2) else((bA.f k l2 a).bind fun t248=>(some t248)))) else(some 13)) else(some b.2))
theorem jF.calls (k:Nat) (g:Int) (m:Option Addr) (n:Nat) (i:List (S83)) (x:Int) (E:Option Addr) (c2:Nat) (l2:List Int) (r:Int) (w:World) (F:Kd.C aW w m i.length i) (G:i.length<=n) (I:Kd.C (Kd.int .i64) w E l2.length l2) (J:l2.length<=c2) (h:jF.f k g i x l2=some r):
  Calls Tryz.prog 108 #[.agg #[.int .i64 g,.slice m i.length n],.int .i64 x,.slice E l2.length c2] w fun e w'=>e= .returned (.int .i64 r)/\Below w.heap.size w w':=by
 have S:=Tryz.underlying24;have q:=zA F;have s:=zA G;clear F G;have K:=zA I;have L:=zA J;clear I J;have a:=zA (ao w.heap.size w);unfold jF.f at h;have H:=h;clear h;obtain⟨⟨t246,t247⟩,u,H⟩:=zo H;dsimp only at H;by_cases v:t247=0
 ·rw[if_pos v] at H
  obtain⟨M,O⟩:=bG v;clear v;by_cases y:t246=true
  ·subst y
   replace H:=zi H;by_cases o:x<0
   ·rw[if_pos o] at H
    have P:=az o;clear o;obtain rfl:=aE H;go_enter Tryz.func108,Tryz.ntmps108
    go_wp2_with (first|((with_reducible refine aJ (N:=3) rfl ?_);refine zX 3 #[.int .i64 g,.slice m i.length n] 24 ?_;intro z j T l hb;have b:=zA (l);have B:=zG a j;have D:=zG a j;replace a:=zS a hb;clear hb l j;obtain⟨U,V,W,X⟩:=ax b)|((with_reducible refine aC (f:=113) rfl ?_);refine zL (some 11) Tryz.func113 #[.agg #[.int .i64 g,.slice m i.length n]] ?_;(with_reducible refine(cz.calls k g _ _ i true t247 _ ?af ?ah u.out).mono ?_);(case af=>exact Kd.aq q.out zB);(case ah=>exact s.out);rintro e Y ⟨rfl,hb⟩;refine⟨_,rfl,?_⟩;replace b:=zb b hb;replace a:=zS a hb;(try clear hb)))
    go_ret;exact⟨zE,zB⟩
   ·rw[if_neg o] at H
    have P:=aZ o;clear o;by_cases p:x>=g
    ·rw[if_pos p] at H
     have Q:=az p;clear p;obtain rfl:=aE H;go_enter Tryz.func108,Tryz.ntmps108
     go_wp2_with (first|((with_reducible refine aJ (N:=3) rfl ?_);refine zX 3 #[.int .i64 g,.slice m i.length n] 24 ?_;intro z j Z l hb;have b:=zA (l);have B:=zG a j;have D:=zG a j;replace a:=zS a hb;clear hb l j;obtain⟨aa,ab,ad,ag⟩:=ax b)|((with_reducible refine aC (f:=113) rfl ?_);refine zL (some 11) Tryz.func113 #[.agg #[.int .i64 g,.slice m i.length n]] ?_;(with_reducible refine(cz.calls k g _ _ i true t247 _ ?af ?ah u.out).mono ?_);(case af=>exact Kd.aq q.out zB);(case ah=>exact s.out);rintro e ak ⟨rfl,hb⟩;refine⟨_,rfl,?_⟩;replace b:=zb b hb;replace a:=zS a hb;(try clear hb);obtain⟨am,an,ap,ar⟩:=ax b))
     go_ret;exact⟨zE,zB⟩
    ·rw[if_neg p] at H
     have Q:=aZ p;clear p;obtain⟨t248,R,H⟩:=zo H;obtain rfl:=aE H;go_enter Tryz.func108,Tryz.ntmps108
     go_wp2_with (first|((with_reducible refine aJ (N:=3) rfl ?_);refine zX 3 #[.int .i64 g,.slice m i.length n] 24 ?_;intro z j av l hb;have b:=zA (l);have B:=zG a j;have D:=zG a j;replace a:=zS a hb;clear hb l j;obtain⟨aB,aF,aL,aO⟩:=ax b)|((with_reducible refine aC (f:=113) rfl ?_);refine zL (some 11) Tryz.func113 #[.agg #[.int .i64 g,.slice m i.length n]] ?_;(with_reducible refine(cz.calls k g _ _ i true t247 _ ?af ?ah u.out).mono ?_);(case af=>exact Kd.aq q.out zB);(case ah=>exact s.out);rintro e aP ⟨rfl,hb⟩;refine⟨_,rfl,?_⟩;replace b:=zb b hb;replace a:=zS a hb;(try clear hb);obtain⟨aR,aS,a0,a2⟩:=ax b)|((with_reducible refine aC (f:=87) rfl ?_);refine zL (some 33) Tryz.func87 #[.slice E l2.length c2,.int .i64 g] ?_;(with_reducible refine(bA.calls k _ _ l2 g t248 _ ?af ?ah R.out).mono ?_);(case af=>exact Kd.aq K.out zB);(case ah=>exact L.out);rintro e w' ⟨rfl,⟨nd,rfl⟩⟩;refine⟨_,rfl,?_⟩))
     go_ret;exact⟨zE,zB⟩
  ·replace y:=Bool.eq_false_iff.mpr y
   subst y;replace H:=zj H;obtain rfl:=aE H;go_enter Tryz.func108,Tryz.ntmps108
   go_wp2_with (first|((with_reducible refine aJ (N:=3) rfl ?_);refine zX 3 #[.int .i64 g,.slice m i.length n] 24 ?_;intro z j a4 l hb;have b:=zA (l);have B:=zG a j;have D:=zG a j;replace a:=zS a hb;clear hb l j;obtain⟨a5,a9,be,bf⟩:=ax b)|((with_reducible refine aC (f:=113) rfl ?_);refine zL (some 11) Tryz.func113 #[.agg #[.int .i64 g,.slice m i.length n]] ?_;(with_reducible refine(cz.calls k g _ _ i false t247 _ ?af ?ah u.out).mono ?_);(case af=>exact Kd.aq q.out zB);(case ah=>exact s.out);rintro e bg ⟨rfl,hb⟩;refine⟨_,rfl,?_⟩;replace b:=zb b hb;replace a:=zS a hb;(try clear hb)))
   go_ret;exact⟨zE,zB⟩
 ·rw[if_neg v] at H
  obtain⟨M,O⟩:=bI v;obtain rfl:=aE H;go_enter Tryz.func108,Tryz.ntmps108
  go_wp2_with (first|((with_reducible refine aJ (N:=3) rfl ?_);refine zX 3 #[.int .i64 g,.slice m i.length n] 24 ?_;intro z j bi l hb;have b:=zA (l);have B:=zG a j;have D:=zG a j;replace a:=zS a hb;clear hb l j;obtain⟨bk,bn,bo,bv⟩:=ax b)|((with_reducible refine aC (f:=113) rfl ?_);refine zL (some 11) Tryz.func113 #[.agg #[.int .i64 g,.slice m i.length n]] ?_;(with_reducible refine(cz.calls k g _ _ i t246 t247 _ ?af ?ah u.out).mono ?_);(case af=>exact Kd.aq q.out zB);(case ah=>exact s.out);rintro e bw ⟨rfl,hb⟩;refine⟨_,rfl,?_⟩;replace b:=zb b hb;replace a:=zS a hb;(try clear hb)))
  go_ret;exact⟨zE,zB⟩
end Go.Proofs.YtffdiakgjakngaaGreat.P


namespace Go.Proofs.YtffdiakgjakngaaGreat.P
open Go.RowKit Go.Proofs.YtffdiakgjakngaaGreatW.PrintWords Go.Proofs.YtffdiakgjakngaaGreatW.PrintLast Go.Proofs.YtffdiakgjakngaaGreatW.PrintMore
set_option linter.unusedVariables false
set_option linter.unusedSimpArgs false
set_option maxHeartbeats 8000000
set_option maxRecDepth 100000
section
attribute [local go_sem] Oper.semAt_some
def kU.f (k:Nat) (N:Int) (E:List S83) (q:Int) (d:List Int):Option (List Int×List Int×Int):=
 (jF.f k N E q d).bind fun e=>if e=0 then(if gR N E q d=true then((iK N.toNat E q.toNat d k).bind fun s=>some (eO N.toNat E d s,s,0)) else none) else some ([],[],e)
theorem E8 {n q:Nat} {t:Nat->Nat->Int} (b:T.Wt n t) (a:q<n) (hn:n<=12) (e:T.sN (T.val n t) n<=19) {D dist:Nat->Int} (g:∀v,v<n-> -200<=D v/\D v<=200) {d s:List Int} (i:d.length=n) (j:s.length=n) (hp:∀v:Nat,v<n->v≠q->0<=rd d v)
  (h:T.fE n t D dist 200 0 (fun v=>rd d (v:Nat)) (fun v=>rd s (v:Nat))):jD n q t D d s:=by
 have hb:=nH b hn e g (by omega) (by omega) h;exact⟨i,j,h.eq,hp,(hb q a).1,fun v k=>(hb v k).2.2.1,(hb q a).2.2.2⟩
theorem E9 (k:Nat) (N:Int) (A0:Option Addr) (c0:Nat) (E:List S83) (q:Int) (a:Option Addr) (c2:Nat) (d:List Int) (t:Int) (w:World) (j:Kd.C aW w A0 E.length E) (l:E.length<=c0) (b:Kd.C (Kd.int .i64) w a d.length d) (g:d.length<=c2)
  (h:jF.f k N E q d=some t) (i:t≠0):
  Calls Tryz.prog 54 #[.agg #[.int .i64 N,.slice A0 E.length c0],.int .i64 q,.slice a d.length c2] w fun e w'=>e= .returned (.tuple #[.slice none 0 0,.slice none 0 0,.int .i64 t])/\Below w.heap.size w w':=by
 have hu:=Tryz.underlying24;have m:=zA h;have n:=zA b;have o:=zA g;have r:(t != 0)=true:=by simpa using i
 clear h i b g;go_enter Tryz.func54,Tryz.ntmps54
 go_wp2_with (go_at_call 108;refine(jF.calls k N A0 c0 E q a c2 d t _ (Kd.bz j _) l (Kd.bz n.out _) o.out m.out).mono ?_;rintro e w1 ⟨rfl,hb⟩;have p:=zA (a7 (au (ao w.heap.size w) _) hb);clear hb)
 refine bodyPost_ret (results_tmp3 rfl _ _ _) rfl ?_;exact⟨rfl,p.out⟩
theorem E_ (n:Nat) (q:Int) (A0:Option Addr) (c0:Nat) (E:List S83) (a:Option Addr) (cd:Nat) (d:List Int) (w:World) (hd:Kd.C (Kd.int .i64) w a d.length d) (b:d.length<=cd) (h:d.length=n) (h1:1<=n) (hn:n<=1000):
  Calls Tryz.prog 109 #[.agg #[.int .i64 n,.slice A0 E.length c0],.int .i64 q,.slice a d.length cd] w fun e w'=>∃g gd gs i j,e= .returned (.pointer (some ⟨g,0,none⟩))/\SI w g gd gs i j n A0 c0 E q d (List.replicate n 0) w':=by
 subst h;exact E6 d.length q A0 c0 E a cd d w hd b rfl h1 hn
theorem Fa (k n:Nat) (A0:Option Addr) (c0:Nat) (E:List S83) (q:Nat) (z:Option Addr) (c2:Nat) (d s:List Int) (w:World) (J:Kd.C aW w A0 E.length E) (ak:E.length<=c0) (K:Kd.C (Kd.int .i64) w z d.length d) (L:d.length<=c2)
  (M:jF.f k n E q d=some 0) (l:dX n q E d) (N:kR n E q d s=true):
  Calls Tryz.prog 54 #[.agg #[.int .i64 n,.slice A0 E.length c0],.int .i64 q,.slice z d.length c2] w fun e w'=>∃gd gs m o,e= .returned (.tuple #[.slice (some ⟨gd,0,none⟩) n m,.slice (some ⟨gs,0,none⟩) n o,.int .i64 0])/\gd≠gs/\(Kd.int .i64).R 3 w' w.heap.size (fun _=>True) (.slice (some ⟨gd,0,none⟩) n m) (eO n E d s)/\(Kd.int .i64).R 3 w' w.heap.size (fun _=>True) (.slice (some ⟨gs,0,none⟩) n o) s/\Below w.heap.size w w':=by
 have hu:=Tryz.underlying24;have HG:=zA M;have O:=zA K;have P:=zA L;have a:=zA l;have F:=(nJ l.right).1 N;have G:=zA F.2;have an:=zA F.1;have Q:=zA l.dl;clear M K L F N;have S:=l.n1;have r:=l.n12;have p:=l.q;clear l;go_enter Tryz.func54,Tryz.ntmps54
 go_wp2_with (go_at_call 108;refine(jF.calls k n A0 c0 E q z c2 d 0 _ (Kd.bz J _) ak (Kd.bz O.out _) P.out HG.out).mono ?_;rintro e w1 ⟨rfl,hb⟩;have H:=aM (bs w (.cells #[.int .i64 n,.slice A0 E.length c0] 24)) hb;have y0:=(aj H 0).trans rfl;have y1:=(aj H 1).trans rfl;have B:=zA (a7 (au (ao w.heap.size w) _) hb);clear hb H)
 refine(E_ n q A0 c0 E z c2 d w1 (Kd.aq O.out B.out) P.out Q.out S (by omega)).mono ?_;rintro e w2 ⟨g,gd,gs,m,o,rfl,j⟩;have U:=zA j;have V:=zA (Kd.aq J B.out);have W:=B.out.size;clear j y0 y1;go_wp2_with (go_at_call 110;refine(E4 g gd gs m o n A0 c0 E q d w1 _ V.out a.out.right a.out.len a.out.conn r p a.out.val a.out.d Q.out U.out).mono ?_;rintro e w3 ⟨rfl,d3,s3,l1,l2,j,hp,dist,hle⟩;have X:=zA j;have Y:=zA (E8 a.out.right.wt p r a.out.val a.out.d l1 l2 hp hle);clear l1 l2 j hp hle U)
 refine(EM g gd gs m o n A0 c0 E q (fun v=>rd d (v:Nat)) (fun v=>rd (eO n E d s) (v:Nat)) (fun v=>rd s (v:Nat)) d3 s3 w1 w3 V.out a.out.right a.out.len a.out.conn r p a.out.val a.out.d G.out Y.out X.out).mono ?_;rintro e w4 ⟨rfl,d4,b,j,x,Z⟩;have aa:=zA j;have aB:=zA (x.bounds a.out.right.wt (a.out.right.conn a.out.conn) p r a.out.val a.out.d G.out);have I:fa n q (ai E) (fun v=>rd d (v:Nat)) (fun v=>rd d4 (v:Nat)) (fun v=>rd b (v:Nat)-rd b q):=⟨⟨x.kM,Z⟩,fun v i=>by
  have h:=T.lC n (ai E) (fun u=>rd b (u:Nat)) (fun _=>rd b q) v;rw[T.jx] at h;rw[h,x.eq v i];omega,by show rd b q-rd b q=0;omega⟩
 have HU:=zA (fa.unique a.out.right.wt (a.out.right.conn a.out.conn) p I G.out);have ad:=zA (fa.bound a.out.right.wt (a.out.right.conn a.out.conn) p r a.out.val a.out.d I);have ag:=zA x.dl;have D:=zA x.sl;clear j x Z I X Y;go_wp2_with (go_at_call 112;refine(E7 g gd gs m o n A0 c0 E q d4 b w1 _ S r p aa.out ag.out D.out (fun v i=>by have:=ad.out v i;omega) (fun v i=>by have h1: -31536<=rd b v-rd b q/\rd b v-rd b q<=31536/\_:=ad.out v i;have h2:=aB.out v i;omega)).mono ?_;rintro e w5 ⟨rfl,j⟩;have aF:=zA j;clear j aa)
 refine bodyPost_ret (results_tmp3 rfl _ _ _) rfl ?_;have e1:d4=eO n E d s:=nI ag.out (rE n E d s) (fun v i=>(HU.out v i).1);have e2:fl b (rd b q) n=s:=nI ((nT _ _ _).trans D.out) an.out (fun v i=>by
  rw[pF _ _ _ _ (by rw[D.out];omega) (by rw[D.out];exact i),if_pos i];exact(HU.out v i).2)
 have y:=aF.out;rw[e1,e2] at y;exact⟨gd,gs,m,o,rfl,y.ne.1,Kd.bh y.d W,Kd.bh y.s W,a7 B.out y.hb⟩
theorem kU.calls (k:Nat) (b:Int) (g:Option Addr) (i:Nat) (a:List (S83)) (j:Int) (l:Option Addr) (c2:Nat) (l2:List Int) (y:List Int) (z:List Int) (B:Int) (w:World) (D:Kd.C aW w g a.length a) (E:a.length<=i) (F:Kd.C (Kd.int .i64) w l l2.length l2) (G:l2.length<=c2) (h:kU.f k b a j l2=some (y,z,B)):
  Calls Tryz.prog 54 #[.agg #[.int .i64 b,.slice g a.length i],.int .i64 j,.slice l l2.length c2] w fun e w'=>∃o p:Value,e= .returned (.tuple #[o,p,.int .i64 B])/\Kd.R (Kd.int .i64) 3 w' w.heap.size (fun r=>some r≠(p:Value).ownBlock) o y/\Kd.R (Kd.int .i64) 3 w' w.heap.size (fun r=>some r≠(o:Value).ownBlock) p z/\Below w.heap.size w w':=by
 unfold kU.f at h;obtain⟨e,he,u⟩:=Option.bind_eq_some_iff.1 h;clear h;have h:=u;by_cases v:e=0
 ·subst v
  rw[if_pos rfl] at h;by_cases x:gR b a j l2=true
  ·rw[if_pos x] at h
   obtain⟨n,q,rfl,rfl,hk⟩:=po x;obtain⟨s,m,u⟩:=Option.bind_eq_some_iff.1 h;clear h;have h:=u;simp only[aV,Option.some.injEq,Prod.mk.injEq] at m h;obtain⟨rfl,rfl,rfl⟩:=h;refine(Fa k n g i a q l c2 l2 s w D E F G he hk (rF m)).mono ?_;rintro e w' ⟨gd,gs,K,L,rfl,H,hd,m,hb⟩;exact⟨_,_,rfl,Kd.a_ (Kd.g_ rfl hd) (fun k hk e=>H (by have:=hk.symm.trans e;injection this)),Kd.a_ (Kd.g_ rfl m) (fun k hk e=>H (by have:=e.symm.trans hk;injection this)),hb⟩
  ·rw[if_neg x] at h;cases h
 ·rw[if_neg v] at h
  injection h with h
  injection h with h1 h
  injection h with I J
  subst h1 I J;refine(E9 k b g i a j l c2 l2 e w D E F G he v).mono ?_;rintro e' w' ⟨rfl,hb⟩;exact⟨_,_,rfl,Kd.cY _ _ _ _ _,Kd.cY _ _ _ _ _,hb⟩
end
section
attribute [local go_sem] Oper.semAt_some
theorem xh (W:World) (t:TypeId) {A B:Option Addr} {a b:List Int} {e cb:Nat} (h:Kd.C (Kd.int .i64) W A a.length a) (k:a.length<=e) (hb:Kd.C (Kd.int .i64) W B b.length b) (l:b.length<=cb):
  Kd.C (Kd.slice 3 (Kd.int .i64)) (W.alloc (.cells #[.slice A a.length e,.slice B b.length cb] t)) (some ⟨W.heap.size,0,none⟩) [a,b].length [a,b]:=by
 have g:=bs W (.cells #[.slice A a.length e,.slice B b.length cb] t);refine⟨rfl,by simp,fun _=>⟨_,rfl,fun j p hp=>?_⟩⟩;match j,hp with
 |0,hp=>
  obtain rfl:a=p:=by simpa using hp
  refine⟨[.slice A a.length e],rfl,⟨A,e,rfl,k,Kd.bz h _⟩,fun i u hu=>?_⟩;match i,hu with
  |0,hu=>
   obtain rfl:Value.slice A a.length e=u:=by simpa using hu
   rw[add_plain];exact(aj g 0).trans rfl
  |i+1,hu=>simp at hu
 |1,hp=>
  obtain rfl:b=p:=by simpa using hp
  refine⟨[.slice B b.length cb],rfl,⟨B,cb,rfl,l,Kd.bz hb _⟩,fun i u hu=>?_⟩;match i,hu with
  |0,hu=>
   obtain rfl:Value.slice B b.length cb=u:=by simpa using hu
   rw[add_plain];exact(aj g 1).trans rfl
  |i+1,hu=>simp at hu
 |j+2,hp=>simp at hp
theorem rX (W:World) (t:TypeId) {A:Option Addr} {a:List Int} {b:Nat} (e:Kd.C (Kd.int .i64) W A a.length a) (g:a.length<=b):
  Kd.C (Kd.slice 3 (Kd.int .i64)) (W.alloc (.cells #[.slice A a.length b] t)) (some ⟨W.heap.size,0,none⟩) [a].length [a]:=by
 have h:=bs W (.cells #[.slice A a.length b] t);refine⟨rfl,by simp,fun _=>⟨_,rfl,fun j p hp=>?_⟩⟩;match j,hp with
 |0,hp=>
  obtain rfl:a=p:=by simpa using hp
  refine⟨[.slice A a.length b],rfl,⟨A,b,rfl,g,Kd.bz e _⟩,fun i u hu=>?_⟩;match i,hu with
  |0,hu=>
   obtain rfl:Value.slice A a.length b=u:=by simpa using hu
   rw[add_plain];exact(aj h 0).trans rfl
  |i+1,hu=>simp at hu
 |j+1,hp=>simp at hp
def fc (a b:List Int) (k:Nat):List Int:=(List.range a.length).map fun v=>if v<k then rd a (v:Nat)-rd b (v:Nat) else 0
def cw (a b:List Int):List Int:=fc a b a.length
def nU (a b:List Int):Bool:=decide (a.length=b.length/\1<=a.length/\a.length<=12)&&a.all cI&&b.all cI
def iO.f (k:Nat) (a b:List Int):Option (List Int×Int):=
 (bN.f k [a,b]).bind fun e=>if e=0 then(if nU a b=true then(if(cw a b).all cI=true then some (cw a b,0) else some ([],11)) else none) else some ([],e)
theorem iO.mono:∀l0 l1 k,al (iO.f k l0 l1) (iO.f (k+1) l0 l1):=by
 intro a b k;unfold iO.f;exact al.bind (bN.mono _ _) (fun _=>al.refl _)
theorem Fb (x y:Int) (w:World) (a: -1048576<=x/\x<=1048576) (b: -1048576<=y/\y<=1048576):Calls Tryz.prog 59 #[.int .i64 x,.int .i64 y] w fun e w'=>e= .returned (.int .i64 (x-y))/\w'=w:=by
 obtain⟨h1,g⟩:=a;obtain⟨h,i⟩:=b;go_enter Tryz.func59,Tryz.ntmps59
 go_wp2;go_ret;exact⟨rfl,rfl⟩
theorem kn (a b:List Int) (k:Nat):(fc a b k).length=a.length:=by simp[fc]
theorem Fc {a b:List Int} {v:Nat} (g:v<a.length):(fc a b v).set v (rd a v-rd b v)=fc a b (v+1):=by
 unfold fc;refine List.ext_getElem (by simp) fun i h1 j=>?_
 rw[List.getElem_set];simp only[List.getElem_map,List.getElem_range];by_cases e:v=i
 ·subst e;simp
 ·rw[if_neg e]
  by_cases h:i<v
  ·rw[if_pos h,if_pos (by omega)]
  ·rw[if_neg h,if_neg (by omega)]
theorem mG {a b:List Int} {v:Nat} (e:v<a.length):rd (cw a b) v=rd a v-rd b v:=by
 rw[show rd (cw a b) (v:Int)=(cw a b).getD v 0 by simp[rd],cw,fc,bc,List.getElem?_map,List.getElem?_range e];simp[e]
theorem Fe (k:Nat) (A0:Option Addr) (c0:Nat) (a:List Int) (g:Option Addr) (c1:Nat) (b:List Int) (t:Int) (n:Value) (w:World) (h:Kd.C (Kd.int .i64) w A0 a.length a) (o:a.length<=c0) (i:Kd.C (Kd.int .i64) w g b.length b) (p:b.length<=c1)
  (j:bN.f k [a,b]=some t) (l:t≠0):
  Calls Tryz.prog 58 #[.slice A0 a.length c0,.slice g b.length c1,n] w fun e w'=>e= .returned (.tuple #[.slice none 0 0,.int .i64 t])/\Below w.heap.size w w':=by
 have q:=zA j;have r:=zA (xh w 26 h o i p);have s:(t != 0)=true:=by simpa using l
 clear j l h i;go_enter Tryz.func58,Tryz.ntmps58
 go_wp2_with (go_at_call 118;refine(bN.calls k (some ⟨w.heap.size,0,none⟩) 2 [a,b] t _ r.out (by simp) q.out).mono ?_;rintro e w1 ⟨rfl,⟨m,rfl⟩⟩)
 go_ret2;exact⟨rfl,bY (au (ao _ _) _) m⟩
def jn (n:Nat) (a b:List Int) (base:Nat) (e:Ending) (w':World):Prop:=if(cw a b).all cI=true then ∃go co,e= .returned (.tuple #[.slice (some ⟨go,0,none⟩) n co,.int .i64 0])/\(Kd.int .i64).R 3 w' base (fun _=>True) (.slice (some ⟨go,0,none⟩) n co) (cw a b) else e= .returned (.tuple #[.slice none 0 0,.int .i64 11])
theorem jn.bad {n:Nat} {a b:List Int} {base:Nat} {w':World} {v:Nat} (e:v<a.length) (h:cI (rd a v-rd b v)=false):jn n a b base (.returned (.tuple #[.slice none 0 0,.int .i64 11])) w':=by
 unfold jn;rw[if_neg];intro g;rw[List.all_eq_true] at g;have i:v<(cw a b).length:=by simpa [cw,kn] using e
 have h1:=g (cw a b)[v] (List.getElem_mem i);have j:=mG (b:=b) e;rw[show rd (cw a b) (v:Int)=(cw a b)[v] by simp[rd,bc,bS i]] at j;rw[j,h] at h1;cases h1
theorem Ff (k n:Nat) (A0:Option Addr) (c0:Nat) (a:List Int) (S:Option Addr) (c1:Nat) (b:List Int) (w:World) (E:Kd.C (Kd.int .i64) w A0 a.length a) (an:a.length<=c0) (F:Kd.C (Kd.int .i64) w S b.length b) (ap:b.length<=c1)
  (T:bN.f k [a,b]=some 0) (G:a.length=n) (H:b.length=n) (bv:1<=n) (hn:n<=12) (U:∀v:Nat,v<n-> -1048576<=rd a v/\rd a v<=1048576) (hb:∀v:Nat,v<n-> -1048576<=rd b v/\rd b v<=1048576):
  Calls Tryz.prog 58 #[.slice A0 n c0,.slice S n c1,.func (.func 59) #[] #[]] w fun e w'=>jn n a b w.heap.size e w'/\Below w.heap.size w w':=by
 have HG:=zA T;have I:=xh w 26 E an F ap;rw[G,H] at I;have HC:=zA I;have aB:=zA E;have aF:=zA F;have HA:=zA U;have HB:=zA hb;have q:=zA G;have aP:=zA H;have aR:(0:Int)<=(n:Int):=by omega
 clear T E F U hb I G H;go_enter Tryz.func58,Tryz.ntmps58
 go_wp2_with (first|(go_at_call 118;refine(bN.calls k (some ⟨w.heap.size,0,none⟩) 2 [a,b] 0 _ HC.out (by simp) HG.out).mono ?_;rintro e w1 ⟨rfl,⟨m,rfl⟩⟩)|((with_reducible refine aJ (N:=20) rfl ?_);refine Kd.jK (Kd.int .i64) (w0:=w) w.heap.size 3 rfl (N:=20) rfl 26 _ _ rfl (n:Int) rfl rfl Tryz.underlying26 (.int .i64 0) 8 gA rfl (by decide) (by omega) 0 (ok:=fun _=>True) (okp:=fun _=>True) rfl (fun _ hk=>hk) trivial aR (by simp;omega) (bY (au (ao _ _) _) m) (by simp) ?_;intro v1 w5 r hb a0 a1;rw[aV] at r;obtain⟨go,co,J,a2,bw, -⟩:=Kd.fs r (by rw[List.length_replicate];omega);rw[List.length_replicate] at J;subst J;have V:=zA r;have W:=zA hb;clear r hb a0 a1))
 have X:Aside0 ((Kd.int .i64).R 3 w5 w.heap.size (fun _=>True) (.slice (some ⟨go,0,none⟩) n co) (fc a b 0)):=⟨by
  have h:=V.out;rw[show List.replicate n (0:Int)=fc a b 0 from by
   rw[<-q.out];unfold fc;refine List.ext_getElem (by simp) fun i h1 h2=>?_
   simp] at h
  exact h⟩
 clear V;go_loopg [23] (n) (fun kq vv wr=>∃v:Nat,v<=n/\vv= .int .i64 v/\Aside0 ((Kd.int .i64).R 3 wr w.heap.size (fun _=>True) (.slice (some ⟨go,0,none⟩) n co) (fc a b v))/\Aside0 (Below w.heap.size w wr)/\Aside0 (∀u:Nat,u<v->cI (rd a u-rd b u)=true)/\Aside0 (kq=n-v))
 case atStart=>exact⟨0,by omega,rfl,X,W,⟨fun u hu=>by omega⟩,⟨rfl⟩⟩
 case round=>
  clear X W;obtain⟨v,J,rfl,s,l,Y,HK⟩:=hrel;by_cases Z:v<n
  ·have b0:(0:Int)<=(v:Int):=by omega
   have b1:(v:Int)<(n:Int):=by omega
   have ad:=q.out;have a9:=aP.out;obtain⟨aa,ea,K⟩:=Kd.bM (Kd.aq aB.out l.out) (v:Int) (by omega) (by omega);obtain⟨ab,eb,L⟩:=Kd.bM (Kd.aq aF.out l.out) (v:Int) (by omega) (by omega);subst ea eb;rw[aV] at K L;obtain⟨g,hf⟩:=Kd.bT 0 s.out (v:Int) (by omega) (by omega);rw[aV] at g hf;generalize bQ 0 (fc a b v) (v:Int)=z at g;replace g:wr.cell? ⟨go,v,none⟩=some (.int .i64 z):=g;have ag:=HA.out v Z;have ak:=HB.out v Z;have M:=Kd.dm (Kd.bl s.out) (v:Int) (rd a v-rd b v);rw[aV,Fc (show v<a.length by omega)] at M;have B:=zA M.1;have o:=zA (Below.setCell (p:=⟨go,v,none⟩) (bP l.out) a2 (.int .i64 (rd a v-rd b v)));have O:=zA (show cI (rd a v-rd b v)=true->∀u:Nat,u<v+1->cI (rd a u-rd b u)=true from fun h u hu=>by
    by_cases e:u=v
    ·subst e;exact h
    ·exact Y.out u (by omega))
   have P:Aside0 (cI (rd a v-rd b v)=false->∀w',jn n a b w.heap.size (.returned (.tuple #[.slice none 0 0,.int .i64 11])) w'):=⟨fun h w'=>jn.bad (by omega) h⟩;have b4:=zA ad;clear M s l ad a9;generalize rd a v=x at K ag B o O P;generalize rd b v=y at L ak B o O P;go_wp2_with fail
   refine wp_region_still_tail 13 (by kernel_rfl) (by kernel_rfl) ?_;simp only[List.take_succ_cons,List.take_zero,List.drop_succ_cons,List.drop_zero];repeat(first|still_step|still_call (Fb x y _ ag ak))
   refine wpStill_nil ?_;change wpList _ _ _ _ _ wr.drew
   have bg:wr.drew.cell? ⟨go,v,none⟩=some (.int .i64 z):=g;have bi:wr.drew.frozen? ⟨go,v,none⟩=false:=hf;clear g hf K L;generalize wr.drew=W2 at B o bg bi⊢;have D:=zA (vq (x-y));cases j:cI (x-y) with
   |true=>
    have Q:=zA j;rw[j] at D;clear j;go_wp2_with (go_at_call 119;refine(il.calls (x-y) true _ D.out).mono ?_;rintro e w8 ⟨rfl,⟨m8,rfl⟩⟩)
    go_roundg (n- (v+1))
    case measure=>rw[HK.out];omega
    case rel=>exact⟨v+1,by omega,by go_num,⟨Kd.bu B.out _⟩,⟨bY o.out _⟩,⟨O.out Q.out⟩,⟨rfl⟩⟩
   |false=>
    have Q:=zA j;rw[j] at D;clear j;go_wp2_with (go_at_call 119;refine(il.calls (x-y) false _ D.out).mono ?_;rintro e w8 ⟨rfl,⟨m8,rfl⟩⟩)
    go_ret2;exact⟨P.out Q.out _,bY o.out _⟩
  ·obtain rfl:n=v:=by omega
   go_wp2;go_ret2;have bn:(cw a b).all cI=true:=by
    rw[List.all_eq_true];intro x hx;obtain⟨u,hu,rfl⟩:=List.getElem_of_mem hx;have am:u<a.length:=by simpa [cw,kn] using hu
    have:=Y.out u (by rw[<-q.out];exact am);rw[<-mG am] at this;simpa [rd,bc,bS hu] using this
   refine⟨?_,l.out⟩;unfold jn;rw[if_pos bn];refine⟨go,co,rfl,?_⟩;have h:=s.out;unfold cw;rw[q.out];exact h
theorem xi {l:List Int}:l.all cI=true↔∀v:Nat,v<l.length-> -1048576<=rd l v/\rd l v<=1048576:=by
 have e:∀(v:Nat) (a:v<l.length),rd l (v:Int)=l[v]:=fun v a=>by simp[rd,bc,bS a]
 rw[List.all_eq_true];constructor
 ·intro h v a
  rw[e v a];simpa [cI] using h l[v] (List.getElem_mem a)
 ·intro h x b
  obtain⟨v,a,rfl⟩:=List.getElem_of_mem b;have:=h v a;rw[e v a] at this;simpa [cI] using this
theorem Fg (k:Nat) (A0:Option Addr) (c0:Nat) (a:List Int) (g:Option Addr) (c1:Nat) (b:List Int) (t:Int) (w:World) (h:Kd.C (Kd.int .i64) w A0 a.length a) (i:a.length<=c0) (j:Kd.C (Kd.int .i64) w g b.length b) (l:b.length<=c1)
  (m:bN.f k [a,b]=some t) (n:t≠0):
  Calls Tryz.prog 16 #[.slice A0 a.length c0,.slice g b.length c1] w fun e w'=>e= .returned (.tuple #[.slice none 0 0,.int .i64 t])/\Below w.heap.size w w':=by
 have o:=zA (Fe k A0 c0 a g c1 b t (.func (.func 59) #[] #[]) w h i j l m n);clear h i j l m n;go_enter Tryz.func16,Tryz.ntmps16
 go_wp2_with (go_at_call 58;refine o.out.mono ?_;rintro e w1 ⟨rfl,hb⟩;have p:=zA hb;clear hb)
 go_ret2;exact⟨rfl,p.out⟩
theorem Fh (k n:Nat) (A0:Option Addr) (c0:Nat) (a:List Int) (g:Option Addr) (c1:Nat) (b:List Int) (w:World) (m:Kd.C (Kd.int .i64) w A0 a.length a) (o:a.length<=c0) (p:Kd.C (Kd.int .i64) w g b.length b) (q:b.length<=c1)
  (r:bN.f k [a,b]=some 0) (i:a.length=n) (j:b.length=n) (z:1<=n) (hn:n<=12) (s:∀v:Nat,v<n-> -1048576<=rd a v/\rd a v<=1048576) (hb:∀v:Nat,v<n-> -1048576<=rd b v/\rd b v<=1048576):
  Calls Tryz.prog 16 #[.slice A0 a.length c0,.slice g b.length c1] w fun e w'=>jn n a b w.heap.size e w'/\Below w.heap.size w w':=by
 have B:=zA (Ff k n A0 c0 a g c1 b w m o p q r i j z hn s hb);rw[i,j];clear m o p q r s hb i j;have u:=zA (show ∀e w',jn n a b w.heap.size e w'->(∃go co,e= .returned (.tuple #[.slice (some ⟨go,0,none⟩) n co,.int .i64 0]))\/e= .returned (.tuple #[.slice none 0 0,.int .i64 11]) from fun e w' h=>by
  unfold jn at h;split at h
  ·obtain⟨go,co,he, -⟩:=h;exact .inl ⟨go,co,he⟩
  ·exact .inr h)
 go_enter Tryz.func16,Tryz.ntmps16
 go_wp2_with fail
 refine B.out.mono ?_;rintro e w1 ⟨l,hb⟩;have x:=zA l;have y:=zA hb;have hp:=u.out e w1 l;clear l hb u;rcases hp with⟨go,co,rfl⟩|rfl
 ·go_wp2
  go_ret2;exact⟨x.out,y.out⟩
 ·go_wp2
  go_ret2;exact⟨x.out,y.out⟩
theorem iO.calls (k:Nat) (A0:Option Addr) (c0:Nat) (l0:List Int) (g:Option Addr) (c1:Nat) (l1:List Int) (j:List Int) (l:Int) (w:World) (m:Kd.C (Kd.int .i64) w A0 l0.length l0) (n:l0.length<=c0) (o:Kd.C (Kd.int .i64) w g l1.length l1) (p:l1.length<=c1) (h:iO.f k l0 l1=some (j,l)):
  Calls Tryz.prog 16 #[.slice A0 l0.length c0,.slice g l1.length c1] w fun e w'=>∃q:Value,e= .returned (.tuple #[q,.int .i64 l])/\Kd.R (Kd.int .i64) 3 w' w.heap.size (fun _=>True) q j/\Below w.heap.size w w':=by
 unfold iO.f at h;obtain⟨e,he,r⟩:=Option.bind_eq_some_iff.1 h;clear h;have h:=r;clear r;by_cases i:e=0
 ·subst i
  rw[if_pos rfl] at h;by_cases a:nU l0 l1=true
  ·rw[if_pos a] at h
   unfold nU at a;simp only[Bool.and_eq_true,decide_eq_true_eq] at a;obtain⟨⟨⟨h1,u,x⟩,y⟩,z⟩:=a;refine(Fh k l0.length A0 c0 l0 g c1 l1 w m n o p he rfl h1.symm u x (xi.1 y) (fun v D=>xi.1 z v (by omega))).mono ?_;rintro e w' ⟨b,hb⟩;unfold jn at b;by_cases s:(cw l0 l1).all cI=true
   ·rw[if_pos s] at b h
    obtain⟨go,co,rfl,B⟩:=b;simp only[Option.some.injEq,Prod.mk.injEq] at h;obtain⟨rfl,rfl⟩:=h;exact⟨_,rfl,B,hb⟩
   ·rw[if_neg s] at b h
    simp only[Option.some.injEq,Prod.mk.injEq] at h;obtain⟨rfl,rfl⟩:=h;exact⟨_,b,Kd.cY _ _ _ _ _,hb⟩
  ·rw[if_neg a] at h;cases h
 ·rw[if_neg i] at h
  simp only[Option.some.injEq,Prod.mk.injEq] at h;obtain⟨rfl,rfl⟩:=h;refine(Fg k A0 c0 l0 g c1 l1 e w m n o p he i).mono ?_;rintro e' w' ⟨rfl,hb⟩;exact⟨_,rfl,Kd.cY _ _ _ _ _,hb⟩
end
def kV.f (k:Nat) (b:Int) (e:List (S83)) (l1:List Int):Option (Bool×List Int×List Int×Int):=(kU.f k b e 0 l1).bind fun a=>(if a.2.2=0 then(if 0<(a.1.length:Int) then(some (decide ((rd a.1 0)>=0),a.1,a.2.1,0)) else(none)) else(some (false,([]:List Int),([]:List Int),a.2.2)))
theorem kV.calls (k:Nat) (g:Int) (l:Option Addr) (m:Nat) (b:List (S83)) (q:Option Addr) (c1:Nat) (l1:List Int) (B:Bool) (D:List Int) (E:List Int) (F:Int) (w:World) (G:Kd.C aW w l b.length b) (I:b.length<=m) (J:Kd.C (Kd.int .i64) w q l1.length l1) (K:l1.length<=c1) (h:kV.f k g b l1=some (B,D,E,F)):
  Calls Tryz.prog 14 #[.agg #[.int .i64 g,.slice l b.length m],.slice q l1.length c1] w fun e w'=>∃u v:Value,e= .returned (.tuple #[.bool B,u,v,.int .i64 F])/\Kd.R (Kd.int .i64) 3 w' w.heap.size (fun x=>some x≠(v:Value).ownBlock) u D/\Kd.R (Kd.int .i64) 3 w' w.heap.size (fun x=>some x≠(u:Value).ownBlock) v E/\Below w.heap.size w w':=by
 have ag:=Tryz.underlying24;have L:=zA G;have M:=zA I;clear G I;have O:=zA J;have P:=zA K;clear J K;have a:=zA (ao w.heap.size w);unfold kV.f at h;have H:=h;clear h;obtain⟨⟨t250,t253,t256⟩,Q,H⟩:=zo H;dsimp only at H;by_cases c4:t256=0
 ·rw[if_pos c4] at H
  obtain⟨U,V⟩:=bG c4;clear c4;by_cases r:0<(t250.length:Int)
  ·rw[if_pos r] at H
   have ak:=az r;have am:decide (0<t250.length)=true:=az (by omega);clear r;simp only[Option.some.injEq,Prod.mk.injEq] at H;obtain⟨rfl,rfl,rfl,rfl⟩:=H;go_enter Tryz.func14,Tryz.ntmps14
   go_wp2_with (first|((with_reducible refine aJ (N:=2) rfl ?_);refine zX 2 #[.int .i64 g,.slice l b.length m] 24 ?_;intro W i w6 n hb;have j:=zA (n);have X:=zG a i;have Y:=zG a i;replace a:=zS a hb;clear hb n i;obtain⟨ap,ar,av,aB⟩:=ax j)|((with_reducible refine aC (f:=54) rfl ?_);refine zL (some 14) Tryz.func54 #[.agg #[.int .i64 g,.slice l b.length m],.int .i64 0,.slice q l1.length c1] ?_;(with_reducible refine(kU.calls k g _ _ b 0 _ _ l1 t250 t253 t256 _ ?af ?ah ?aU ?aT Q.out).mono ?_);(case af=>exact Kd.aq L.out zB);(case ah=>exact M.out);(case aU=>exact Kd.aq O.out zB);(case aT=>exact P.out);rintro e w8 ⟨Z,aa,rfl,o,p,hb⟩;refine⟨_,rfl,?_⟩;have s:=zA (Kd.bh o (ba zB));have S:=zA (Kd.bh p (ba zB));replace j:=zb j hb;replace a:=zS a hb;(try clear hb);(try clear o);(try clear p);obtain⟨aL,aO,ab⟩:=Kd.bm s.out;subst ab;have y:0<=(0:Int):=(by omega);have z:0<(t250.length:Int):=aw ‹_›;obtain⟨aP,ad,T⟩:=Kd.bM (Kd.aH s.out).2.2 0 y z;cases ad;have aR:(0<t250.length)=True:=eq_true (by omega);(try rw[show ((0:Int)).toNat=0 from rfl] at T);(try rw[Addr.add_zero'] at T);replace y:=eq_true y;replace z:=eq_true z))
   refine bodyPost_ret (s7 (rs:=[.tmp 4,.tmp 5,.tmp 6,.tmp 7]) rfl (by simp) (.tmp (.tmp (.tmp (.tmp .nil))))) rfl ?_;exact⟨_,_,zE,by(with_reducible repeat(first|apply Kd.aK|apply Kd.bu|apply Kd.bl));exact s.out,by(with_reducible repeat(first|apply Kd.aK|apply Kd.bu|apply Kd.bl));exact S.out,zB⟩
  ·rw[if_neg r] at H
   exact absurd H (by simp)
 ·rw[if_neg c4] at H
  obtain⟨U,V⟩:=bI c4;simp only[Option.some.injEq,Prod.mk.injEq] at H;obtain⟨rfl,rfl,rfl,rfl⟩:=H;go_enter Tryz.func14,Tryz.ntmps14
  go_wp2_with (first|((with_reducible refine aJ (N:=2) rfl ?_);refine zX 2 #[.int .i64 g,.slice l b.length m] 24 ?_;intro W i aS n hb;have j:=zA (n);have X:=zG a i;have Y:=zG a i;replace a:=zS a hb;clear hb n i;obtain⟨a0,a1,a2,a3⟩:=ax j)|((with_reducible refine aC (f:=54) rfl ?_);refine zL (some 14) Tryz.func54 #[.agg #[.int .i64 g,.slice l b.length m],.int .i64 0,.slice q l1.length c1] ?_;(with_reducible refine(kU.calls k g _ _ b 0 _ _ l1 t250 t253 t256 _ ?af ?ah ?aU ?aT Q.out).mono ?_);(case af=>exact Kd.aq L.out zB);(case ah=>exact M.out);(case aU=>exact Kd.aq O.out zB);(case aT=>exact P.out);rintro e a4 ⟨Z,aa,rfl,o,p,hb⟩;refine⟨_,rfl,?_⟩;have s:=zA (Kd.bh o (ba zB));have S:=zA (Kd.bh p (ba zB));replace j:=zb j hb;replace a:=zS a hb;(try clear hb);(try clear o);(try clear p)))
  refine bodyPost_ret (s7 (rs:=[.tmp 4,.tmp 5,.tmp 6,.tmp 7]) rfl (by simp) (.tmp (.tmp (.tmp (.tmp .nil))))) rfl ?_;exact⟨_,_,zE,by first|exact Kd.cY _ _ _ _ _|exact Kd.fQ _ _ _ _ _|exact Kd.fR _ _ _ _ _|exact Kd.Q_nil _ _ _ _ _|exact Kd.fw _ _ _ _ _,by first|exact Kd.cY _ _ _ _ _|exact Kd.fQ _ _ _ _ _|exact Kd.fR _ _ _ _ _|exact Kd.Q_nil _ _ _ _ _|exact Kd.fw _ _ _ _ _,zB⟩
def fL.l0:Nat->List (List Int)->Int->Int->Int->List (S83)->Option (Int)
 |0,_,_,_,_,_=>none
 |k+1,b,e,a,g,i=>if a<e then(if 0<=a then(if a<(b.length:Int) then((bA.f k (aY b a) g).bind fun h=>(if h=0 then(fL.l0 k b e (wrap64 (a+1)) g i) else(some h))) else(none)) else(none)) else(some 0)
def fL.f (k:Nat) (b:Int) (e:List (S83)) (l1:List (List Int)):Option (Int):=(cz.f k b e).bind fun a=>(if a.2=0 then(if a.1=true then(fL.l0 k l1 (l1.length:Int) 0 b e) else(some 13)) else(some a.2))
theorem fL.calls (k:Nat) (b:Int) (m:Option Addr) (n:Nat) (i:List (S83)) (U:Option Addr) (c1:Nat) (l1:List (List Int)) (r:Int) (w:World) (V:Kd.C aW w m i.length i) (W:i.length<=n) (X:Kd.C (Kd.slice 3 (Kd.int .i64)) w U l1.length l1) (Y:l1.length<=c1) (h:fL.f k b i l1=some r):
  Calls Tryz.prog 93 #[.agg #[.int .i64 b,.slice m i.length n],.slice U l1.length c1] w fun e w'=>e= .returned (.int .i64 r)/\Below w.heap.size w w':=by
 have a0:=Tryz.underlying24;have G:=zA V;have I:=zA W;clear V W;have Z:=zA X;have a1:=zA Y;clear X Y;have a:=zA (ao w.heap.size w);unfold fL.f at h;have H:=h;clear h;obtain⟨⟨aa,z⟩,J,H⟩:=zo H;dsimp only at H;by_cases c4:z=0
 ·rw[if_pos c4] at H
  obtain⟨ab,ad⟩:=bG c4;clear c4;by_cases B:aa=true
  ·subst B
   replace H:=zi H;have D:=zA H;clear H;go_enter Tryz.func93,Tryz.ntmps93
   go_wp2_with (first|((with_reducible refine aJ (N:=2) rfl ?_);refine zX 2 #[.int .i64 b,.slice m i.length n] 24 ?_;intro K l w6 o hb;have j:=zA (o);have ag:=zG a l;have ak:=zG a l;replace a:=zS a hb;clear hb o l;obtain⟨ar,av,aB,aF⟩:=ax j)|((with_reducible refine aC (f:=113) rfl ?_);refine zL (some 12) Tryz.func113 #[.agg #[.int .i64 b,.slice m i.length n]] ?_;(with_reducible refine(cz.calls k b _ _ i true z _ ?af ?ah J.out).mono ?_);(case af=>exact Kd.aq G.out zB);(case ah=>exact I.out);rintro e w8 ⟨rfl,hb⟩;refine⟨_,rfl,?_⟩;replace j:=zb j hb;replace a:=zS a hb;(try clear hb)))
   go_loopg [22] k (fun kq v22 w'=>∃(g:Int),v22= .int .i64 g/\Aside0 (fL.l0 kq l1 (l1.length:Int) g b i=some r)/\Aside0 (kq<=k)/\Aside0 (w'.heap[K]? =some (.cells #[.int .i64 b,(.slice m i.length n)] 24 (0,0)))/\Aside0 (Below w.heap.size w w'))
   case atStart=>exact⟨(0),zT,D,⟨aI _⟩,⟨zK j⟩,⟨zB⟩⟩
   case round=>
    clear D;clear ab ad ar av aB aF;obtain⟨g,rfl,L,an,j,a⟩:=hrel;cases gk with
    |zero=>exact absurd L.out (by simp[fL.l0])
    |succ M=>
     have H:=L.out;clear L;simp only[fL.l0] at H;by_cases u:g<(l1.length:Int)
     ·rw[if_pos u] at H
      have aL:=az u;clear u;by_cases E:0<=g
      ·rw[if_pos E] at H
       have a4:=az E;clear E;by_cases F:g<(l1.length:Int)
       ·rw[if_pos F] at H
        have a5:=az F;clear F;obtain⟨O,ap,H⟩:=zo H;by_cases v:O=0
        ·rw[if_pos v] at H
         obtain⟨aO,aP⟩:=bG v;clear v;have D:=zA H;clear H;have p:0<=(g:Int):=aw ‹_›;have q:g<(l1.length:Int):=aw ‹_›;obtain⟨aR,P,Q,R,s,x,y⟩:=fy Z.out g p q;cases R;replace s:=(a.out.cell (br w _ s)).trans s;have S:=zA y;have T:=zA x;clear y x;replace p:=eq_true p;replace q:=eq_true q;obtain⟨a9,be,bf,bg⟩:=ax j;go_wp2_with (first|((with_reducible refine aC (f:=87) rfl ?_);refine zL (some 29) Tryz.func87 #[.slice P (aY l1 g).length Q,.int .i64 b] ?_;(with_reducible refine(bA.calls M _ _ (aY l1 g) b O _ ?af ?ah ap.out).mono ?_);(case af=>exact Kd.aq S.out zB);(case ah=>exact T.out);rintro e w' ⟨rfl,⟨nd,rfl⟩⟩;refine⟨_,rfl,?_⟩))
         go_roundg M
         case measure=>have:=an.out;omega
         case rel=>exact⟨(wrap64 (g+1)),zT,D,⟨by have:=an.out;omega⟩,⟨zK j⟩,⟨zB⟩⟩
        ·rw[if_neg v] at H
         obtain⟨aO,aP⟩:=bI v;obtain rfl:=aE H;have p:0<=(g:Int):=aw ‹_›;have q:g<(l1.length:Int):=aw ‹_›;obtain⟨aR,P,Q,R,s,x,y⟩:=fy Z.out g p q;cases R;replace s:=(a.out.cell (br w _ s)).trans s;have S:=zA y;have T:=zA x;clear y x;replace p:=eq_true p;replace q:=eq_true q;obtain⟨bi,bk,bn,bo⟩:=ax j;go_wp2_with (first|((with_reducible refine aC (f:=87) rfl ?_);refine zL (some 29) Tryz.func87 #[.slice P (aY l1 g).length Q,.int .i64 b] ?_;(with_reducible refine(bA.calls M _ _ (aY l1 g) b O _ ?af ?ah ap.out).mono ?_);(case af=>exact Kd.aq S.out zB);(case ah=>exact T.out);rintro e w' ⟨rfl,⟨nd,rfl⟩⟩;refine⟨_,rfl,?_⟩))
         go_ret;exact⟨zE,zB⟩
       ·rw[if_neg F] at H
        exact absurd H (by simp)
      ·rw[if_neg E] at H
       exact absurd H (by simp)
     ·rw[if_neg u] at H
      have aL:=aZ u;clear u;obtain rfl:=aE H;go_wp2;go_ret;exact⟨zE,zB⟩
  ·replace B:=Bool.eq_false_iff.mpr B
   subst B;replace H:=zj H;obtain rfl:=aE H;go_enter Tryz.func93,Tryz.ntmps93
   go_wp2_with (first|((with_reducible refine aJ (N:=2) rfl ?_);refine zX 2 #[.int .i64 b,.slice m i.length n] 24 ?_;intro K l bv o hb;have j:=zA (o);have ag:=zG a l;have ak:=zG a l;replace a:=zS a hb;clear hb o l;obtain⟨bw,bx,b0,b1⟩:=ax j)|((with_reducible refine aC (f:=113) rfl ?_);refine zL (some 12) Tryz.func113 #[.agg #[.int .i64 b,.slice m i.length n]] ?_;(with_reducible refine(cz.calls k b _ _ i false z _ ?af ?ah J.out).mono ?_);(case af=>exact Kd.aq G.out zB);(case ah=>exact I.out);rintro e b2 ⟨rfl,hb⟩;refine⟨_,rfl,?_⟩;replace j:=zb j hb;replace a:=zS a hb;(try clear hb)))
   go_ret;exact⟨zE,zB⟩
 ·rw[if_neg c4] at H
  obtain⟨ab,ad⟩:=bI c4;obtain rfl:=aE H;go_enter Tryz.func93,Tryz.ntmps93
  go_wp2_with (first|((with_reducible refine aJ (N:=2) rfl ?_);refine zX 2 #[.int .i64 b,.slice m i.length n] 24 ?_;intro K l b3 o hb;have j:=zA (o);have ag:=zG a l;have ak:=zG a l;replace a:=zS a hb;clear hb o l;obtain⟨b4,b5,b6,b_⟩:=ax j)|((with_reducible refine aC (f:=113) rfl ?_);refine zL (some 12) Tryz.func113 #[.agg #[.int .i64 b,.slice m i.length n]] ?_;(with_reducible refine(cz.calls k b _ _ i aa z _ ?af ?ah J.out).mono ?_);(case af=>exact Kd.aq G.out zB);(case ah=>exact I.out);rintro e b' ⟨rfl,hb⟩;refine⟨_,rfl,?_⟩;replace j:=zb j hb;replace a:=zS a hb;(try clear hb)))
  go_ret;exact⟨zE,zB⟩
def dO.f (k:Nat) (b:Int) (e:List (S83)):Option (Int):=(cz.f k b e).bind fun a=>(if a.2=0 then(if a.1=true then(some 0) else(some 13)) else(some a.2))
theorem dO.mono:∀a0 a k,al (dO.f k a0 a) (dO.f (k+1) a0 a):=by
 intro a0 a k;unfold dO.f;with_reducible repeat' first|exact cz.mono _ _ _|exact al.refl _|exact al.none _|refine al.ite ?_ ?_|refine al.bind ?_ (fun _=>?_)
theorem dO.calls (k:Nat) (g:Int) (l:Option Addr) (m:Nat) (b:List (S83)) (r:Int) (w:World) (s:Kd.C aW w l b.length b) (u:b.length<=m) (h:dO.f k g b=some r):
  Calls Tryz.prog 55 #[.agg #[.int .i64 g,.slice l b.length m]] w fun e w'=>e= .returned (.int .i64 r)/\Below w.heap.size w w':=by
 have D:=Tryz.underlying24;have o:=zA s;have p:=zA u;clear s u;have a:=zA (ao w.heap.size w);unfold dO.f at h;have H:=h;clear h;obtain⟨⟨t198,t199⟩,q,H⟩:=zo H;dsimp only at H;by_cases c3:t199=0
 ·rw[if_pos c3] at H
  obtain⟨z,B⟩:=bG c3;clear c3;by_cases c4:t198=true
  ·subst c4
   replace H:=zi H;obtain rfl:=aE H;go_enter Tryz.func55,Tryz.ntmps55
   go_wp2_with (first|((with_reducible refine aJ (N:=1) rfl ?_);refine zX 1 #[.int .i64 g,.slice l b.length m] 24 ?_;intro v i E n hb;have j:=zA (n);have x:=zG a i;have y:=zG a i;replace a:=zS a hb;clear hb n i;obtain⟨F,G,I,J⟩:=ax j)|((with_reducible refine aC (f:=113) rfl ?_);refine zL (some 7) Tryz.func113 #[.agg #[.int .i64 g,.slice l b.length m]] ?_;(with_reducible refine(cz.calls k g _ _ b true t199 _ ?af ?ah q.out).mono ?_);(case af=>exact Kd.aq o.out zB);(case ah=>exact p.out);rintro e K ⟨rfl,hb⟩;refine⟨_,rfl,?_⟩;replace j:=zb j hb;replace a:=zS a hb;(try clear hb)))
   go_ret;exact⟨zE,zB⟩
  ·replace c4:=Bool.eq_false_iff.mpr c4
   subst c4;replace H:=zj H;obtain rfl:=aE H;go_enter Tryz.func55,Tryz.ntmps55
   go_wp2_with (first|((with_reducible refine aJ (N:=1) rfl ?_);refine zX 1 #[.int .i64 g,.slice l b.length m] 24 ?_;intro v i L n hb;have j:=zA (n);have x:=zG a i;have y:=zG a i;replace a:=zS a hb;clear hb n i;obtain⟨M,O,P,Q⟩:=ax j)|((with_reducible refine aC (f:=113) rfl ?_);refine zL (some 7) Tryz.func113 #[.agg #[.int .i64 g,.slice l b.length m]] ?_;(with_reducible refine(cz.calls k g _ _ b false t199 _ ?af ?ah q.out).mono ?_);(case af=>exact Kd.aq o.out zB);(case ah=>exact p.out);rintro e R ⟨rfl,hb⟩;refine⟨_,rfl,?_⟩;replace j:=zb j hb;replace a:=zS a hb;(try clear hb)))
   go_ret;exact⟨zE,zB⟩
 ·rw[if_neg c3] at H
  obtain⟨z,B⟩:=bI c3;obtain rfl:=aE H;go_enter Tryz.func55,Tryz.ntmps55
  go_wp2_with (first|((with_reducible refine aJ (N:=1) rfl ?_);refine zX 1 #[.int .i64 g,.slice l b.length m] 24 ?_;intro v i iB n hb;have j:=zA (n);have x:=zG a i;have y:=zG a i;replace a:=zS a hb;clear hb n i;obtain⟨S,T,U,V⟩:=ax j)|((with_reducible refine aC (f:=113) rfl ?_);refine zL (some 7) Tryz.func113 #[.agg #[.int .i64 g,.slice l b.length m]] ?_;(with_reducible refine(cz.calls k g _ _ b t198 t199 _ ?af ?ah q.out).mono ?_);(case af=>exact Kd.aq o.out zB);(case ah=>exact p.out);rintro e W ⟨rfl,hb⟩;refine⟨_,rfl,?_⟩;replace j:=zb j hb;replace a:=zS a hb;(try clear hb)))
  go_ret;exact⟨zE,zB⟩
theorem rY {n:Nat} {E:List S83} (g:E.length<=1000) (b:cD n E=0) (hp:partsOf E n=1):Ev (fun k=>cz.f k n E) (true,(0:Int)):=by
 obtain⟨h1,j,a⟩:=ig b;unfold cz.f;have e:=ma (n:Int) E g;rw[b] at e;refine Ev.bind e ?_;have h:kL (n:Int) E=true:=by
  unfold kL;rw[az (by omega),Bool.true_and];refine List.all_eq_true.2 fun x i=>?_
  have:=a.ok x i;simp[b8] at this⊢;omega
 simp only[if_true,if_pos h,aV];rw[show decide (b7 (aN E) n=1)=true from az ((qJ (by omega) (lD a.cI)).2 ((jz (by omega) a).1 hp))];exact Ev.const _
theorem mH {l:List Int} {n:Nat} (h1:1<=n) (a:n<=12) (b:l.length=n) (hb:∀v:Nat,v<n-> -1048576<=rd l v/\rd l v<=1048576):gF l n=0:=rD.2 ⟨by omega,by omega,by omega,fun v e=>hb v (by omega)⟩
theorem Fi {n q:Nat} {E:List S83} {d:List Int} (h:dX n q E d) (b:cD n E=0):Ev (fun k=>jF.f k n E q d) 0:=by
 unfold jF.f;have h1:=h.q;refine Ev.bind (rY h.len b ((jz h.n1 h.right).2 h.conn)) ?_;simp only[if_true,if_neg (show ¬(q:Int)<0 by omega),if_neg (show ¬(q:Int)>=(n:Int) by omega)];refine Ev.bind (a:=(0:Int)) ?_ (Ev.const _);have:=kQ d n (by have:=h.dl;have:=h.n12;omega);rw[mH h.n1 h.n12 h.dl (fun v e=>by have:=h.d v e;omega)] at this;exact this
theorem Fj {n q:Nat} {E:List S83} {d:List Int} (h:dX n q E d) (a:cD n E=0):∃s,Ev (fun k=>kU.f k n E q d) (eO n E d s,s,(0:Int))/\s.length=n/\fa n q (ai E) (fun v=>rd d (v:Nat)) (fun v=>rd (eO n E d s) (v:Nat)) (fun v=>rd s (v:Nat)):=by
 obtain⟨s,h1,b,e⟩:=CZ h.right h.conn h.q d;refine⟨s,?_,b,e⟩;unfold kU.f;refine Ev.bind (Fi h a) ?_;simp only[if_true,if_pos (h.ok a),aV];exact Ev.bind h1 (Ev.const _)
theorem Fk {n:Nat} {E:List S83} {d:List Int} (h:dX n 0 E d) (a:cD n E=0):∃s,Ev (fun k=>kV.f k n E d) (decide (rd (eO n E d s) 0>=0),eO n E d s,s,(0:Int))/\s.length=n/\fa n 0 (ai E) (fun v=>rd d (v:Nat)) (fun v=>rd (eO n E d s) (v:Nat)) (fun v=>rd s (v:Nat)):=by
 obtain⟨s,h1,b,e⟩:=Fj h a;refine⟨s,?_,b,e⟩;unfold kV.f;refine Ev.bind h1 ?_;have:=h.n1;simp only[if_true,if_pos (show (0:Int)<((eO n E d s).length:Int) by rw[rE];omega)];exact Ev.const _
theorem Fl {n:Nat} {E:List S83} {d:List Int} (h:dX n 0 E d) (b:cD n E=0):Ev (fun k=>fL.f k n E [d]) 0:=by
 unfold fL.f;refine Ev.bind (rY h.len b ((jz h.n1 h.right).2 h.conn)) ?_;simp only[if_true];refine Ev.of_succ ?_;simp only[fL.l0,List.length_singleton,if_pos (show (0:Int)<((1:Nat):Int) by decide),if_pos (show (0:Int)<=0 by decide),mE,nQ];have a:=kQ d n (by have:=h.dl;have:=h.n12;omega);rw[mH h.n1 h.n12 h.dl (fun v e=>by have:=h.d v e;omega)] at a;refine Ev.bind a ?_;simp only[if_true];refine Ev.of_succ ?_;simp only[fL.l0,if_neg (show ¬(1:Int)<((1:Nat):Int) by decide)];exact Ev.const _
section
namespace Small
variable {n q:Nat} {E:List S83}
end Small
end
section
attribute [local go_sem] Oper.semAt_some
def fe (d:List Int):Nat->Int
 |0=>0
 |k+1=>fe d k+rd d k
theorem rZ {d:List Int} {n:Nat} (hd:∀v:Nat,v<n-> -1048576<=rd d v/\rd d v<=1048576):∀k,k<=n-> -(k*1048576)<=fe d k/\fe d k<=k*1048576
 |0,_=>by simp[fe]
 |k+1,h=>by
  have h1:=rZ hd k (by omega);have a:=hd k (by omega);unfold fe;omega
theorem Fm (A0:Option Addr) (c0 n:Nat) (d:List Int) (w:World) (b:Kd.C (Kd.int .i64) w A0 d.length d) (p:d.length<=c0) (a:d.length=n) (K:1<=n) (hn:n<=12) (hd:∀v:Nat,v<n-> -1048576<=rd d v/\rd d v<=1048576):
  Calls Tryz.prog 148 #[.slice A0 n c0] w fun e w'=>e= .returned (.tuple #[.int .i64 (fe d n),.int .i64 0])/\Below w.heap.size w w':=by
 obtain⟨k,hk⟩:=(EH d (by omega)).get;rw[show rU d=0 from rD.2 ⟨by omega,by omega,rfl,fun v l=>hd v (by omega)⟩] at hk;have q:=zA hk;have g:=rX w 26 b p;rw[a] at g;have r:=zA g;have s:=zA b;have u:=zA hd;have z:=zA a;have B:=zA (rZ hd);clear hk b hd g a;go_enter Tryz.func148,Tryz.ntmps148
 go_wp2_with (go_at_call 118;refine(bN.calls k (some ⟨w.heap.size,0,none⟩) 1 [d] 0 _ r.out (by simp) q.out).mono ?_;rintro e w1 ⟨rfl,⟨m,rfl⟩⟩)
 have h:=zA (bY (au (ao w.heap.size w) (.cells #[.slice A0 n c0] 26)) m);generalize (w.alloc (.cells #[.slice A0 n c0] 26)).drewN m=W1 at h⊢;go_loopg [5,16] (n) (fun D E F wr=>∃v:Nat,v<=n/\F= .int .i64 v/\E= .int .i64 (fe d v)/\Aside0 (Below w.heap.size w wr)/\Aside0 (D=n-v))
 case atStart=>exact⟨0,by omega,rfl,rfl,h,⟨rfl⟩⟩
 case round=>
  clear h;obtain⟨v,l,rfl,rfl,i,G⟩:=hrel;by_cases H:v<n
  ·have L:(0:Int)<=(v:Int):=by omega
   have M:(v:Int)<(n:Int):=by omega
   have a:=z.out;obtain⟨N,I,o⟩:=Kd.bM (Kd.aq s.out i.out) (v:Int) (by omega) (by omega);subst I;rw[aV] at o;have h1:=u.out v H;have J:=B.out v l;have j:=zA (show fe d (v+1)=fe d v+rd d v from rfl);clear a;generalize rd d v=x at o h1 j;generalize fe d v=y at J j⊢;go_wp2;go_roundg (n- (v+1))
   case measure=>rw[G.out];omega
   case rel=>exact⟨v+1,by omega,by go_num,by rw[j.out],i,⟨rfl⟩⟩
  ·obtain rfl:n=v:=by omega
   go_wp2;go_ret2;exact⟨rfl,i.out⟩
end
end Go.Proofs.YtffdiakgjakngaaGreat.P
namespace Go.Proofs.YtffdiakgjakngaaGreat.P
open Go.RowKit Go.Maps Go.Proofs.YtffdiakgjakngaaGreatW.PrintWords Go.Proofs.YtffdiakgjakngaaGreatW.PrintLast Go.Proofs.YtffdiakgjakngaaGreatW.PrintMore
set_option linter.unusedVariables false
set_option linter.unusedSimpArgs false
set_option maxHeartbeats 8000000
set_option maxRecDepth 100000
section
theorem xj {α:Type} (f:α->α):∀(l:List α) (j:Nat) (e:α),l[j]? =some e->l.modify j f=l.set j (f e)
 |[],j,e,h=>by simp at h
 |x::l,0,e,h=>by
  obtain rfl:x=e:=by simpa using h
  rfl
 |x::l,j+1,e,h=>by
  have:=xj f l j e (by simpa using h);simp[this]
def eC (l:List Int):Value:=.agg (l.map (Value.int .i64)).toArray
def mI (l:List Int):Prop:=l.length=12/\∀x∈l, -1000000<=x/\x<=1000000
theorem kX:WideMaps.KeyLaw Tryz.prog 172:=deep_law (m:=2) (by decide) (by kernel_rfl) (by kernel_rfl) (by kernel_rfl)
theorem mapM_some {α β:Type} {f:α->Option β}:∀{l:List α},(∀x∈l,∃y,f x=some y)->∃ys,l.mapM f=some ys
 |[],_=>⟨[],rfl⟩
 |x::l,h=>by
  obtain⟨y,a⟩:=h x (List.mem_cons_self ..);obtain⟨ys,b⟩:=mapM_some (l:=l) (fun z e=>h z (List.mem_cons_of_mem _ e));exact⟨y::ys,by rw[List.mapM_cons,a,b];rfl⟩
theorem r6:Tryz.prog.underlying 172=some (.array 12 3):=by kernel_rfl
theorem xk:Tryz.prog.cellsOf 172=12:=by kernel_rfl
theorem Fo:Tryz.prog.cellsOf 3=1:=by kernel_rfl
theorem Fp:Tryz.prog.keyType 172=true:=by kernel_rfl
theorem Fq:∃m,Tryz.prog.types.size=m+1:=⟨Tryz.prog.types.size-1,by
 have h:decide (0<Tryz.prog.types.size)=true:=by kernel_rfl
 have a:=aw h;omega⟩
theorem pG {l:List Int} (h:mI l):∃s,keyOf Tryz.prog 172 (eC l)=some s:=by
 unfold keyOf;rw[r6];have hf:(eC l).formed Tryz.prog 172=true:=by
  unfold eC Value.formed;rw[r6,xk];simp[h.1]
 simp only[Fp,hf,Bool.and_self,if_true];obtain⟨m,hm⟩:=Fq;rw[hm];unfold Program.keyLits;rw[r6];have b:(eC l).cells.toList=l.map (Value.int .i64):=by simp[eC,Value.cells]
 rw[b];dsimp only;rw[xk,Fo];simp only[List.length_map,h.1,if_true];obtain⟨ys,g⟩:=mapM_some (f:=fun i=>Tryz.prog.keyLits (m+1) 3 (List.take 1 (List.drop (i*1) (l.map (Value.int .i64))))) (l:=List.range 12) (fun i hi=>by
  have hi:=List.mem_range.1 hi;have a:i<l.length:=by rw[h.1];exact hi
  have e:List.take 1 (List.drop (i*1) (l.map (Value.int .i64)))=[Value.int .i64 l[i]]:=by
   rw[Nat.mul_one,List.drop_eq_getElem_cons (by simpa using a)];simp
  have hb:=h.2 l[i] (List.getElem_mem a);refine⟨[.int .i64 l[i]],?_⟩;show Tryz.prog.keyLits (m+1) 3 (List.take 1 (List.drop (i*1) (l.map (Value.int .i64))))=_
  rw[e];unfold Program.keyLits;rw[Tryz.underlying3];simp only[true_and];rw[if_pos (WalkArith.wf_i64 (by omega))])
 rw[g];exact⟨_,rfl⟩
theorem Fs {a b:List Int} (h:eC a=eC b):a=b:=by
 unfold eC at h;injection h with h
 have e:=congrArg Array.toList h;simp only at e;have key:∀a b:List Int,a.map (Value.int .i64)=b.map (Value.int .i64)->a=b:=by
  intro a;induction a with
  |nil=>intro b h;cases b with|nil=>rfl|cons y b=>simp at h
  |cons x a g=>
   intro b h;cases b with
   |nil=>simp at h
   |cons y b=>
    simp only[List.map_cons,List.cons.injEq,Value.int.injEq,true_and] at h;rw[h.1,g b h.2]
 exact key a b e
def ep (G:List Int->Int->Prop) (w:World) (b:Nat):Prop:=∃es clock,w.heap[b]? =some (.map es clock)/\(∀e∈es.toList,∃l x,e.key=eC l/\e.val= .int .i64 x/\mI l/\G l x)/\(es.toList.map fun e=>e.key).Pairwise (· ≠ ·)
namespace ep
variable {G:List Int->Int->Prop} {w w':World} {b:Nat}
theorem lt (h:ep G w b):b<w.heap.size:=by
 obtain⟨es,c,h, -⟩:=h;exact aD h
theorem jd (h:ep G w b) (hk:w'.heap[b]? =w.heap[b]?):ep G w' b:=by
 obtain⟨es,c,h1,a,e⟩:=h;exact⟨es,c,hk.trans h1,a,e⟩
theorem below (h:ep G w b) (hb:Below w.heap.size w w'):ep G w' b:=h.jd (hb.block b h.lt)
theorem alloc (h:ep G w b) (o:Obj):ep G (w.alloc o) b:=h.below (au (ao _ _) o)
theorem iJ (h:ep G w b) (p:Addr) (v:Value) (hp:b≠p.block):ep G (w.setCell p v) b:=h.jd (Below.heap_setCell _ _ _ _ hp)
theorem made (w:World):ep G (w.alloc (.map #[] 0)) w.heap.size:=⟨#[],0,bs w _,fun e he=>by simp at he,by simp⟩
theorem look (h:ep G w b) (y:∀w,(zeroValue 3).run Tryz.prog w= .ok (.int .i64 0) w) {l:List Int} (o:mI l):
  (∃x,G l x/\∀w':World,w'.heap[b]? =w.heap[b]? ->(Instr.lookup 169 (.map (some b)) (eC l) true).run Tryz.prog w'= .ok (.tuple #[.int .i64 x,.bool true]) w')\/(∀w':World,w'.heap[b]? =w.heap[b]? ->(Instr.lookup 169 (.map (some b)) (eC l) true).run Tryz.prog w'= .ok (.tuple #[.int .i64 0,.bool false]) w'):=by
 obtain⟨es,c,hb,r,p⟩:=h;have u:∀e∈es.toList,∃l,keyOf Tryz.prog 172 e.key=some l:=fun e he=>by
  obtain⟨l,x,hk, -,o, -⟩:=r e he;rw[hk];exact pG o
 obtain⟨s,n⟩:=pG o;by_cases hex:∃(j:Nat) (e:MapEntry),es.toList[j]? =some e/\e.key=eC l
 ·left
  obtain⟨j,e,i,hk⟩:=hex;obtain⟨l',x,a,z,D,B⟩:=r e (List.mem_of_getElem? i);obtain rfl:=Fs (a.symm.trans hk);refine⟨x,B,fun w' q=>?_⟩;rcases kX.find w' n es.toList u with⟨h1,v⟩|⟨k,e',h1,g,a⟩
  ·exact absurd hk (v e (List.mem_of_getElem? i))
  ·have C:e'=e:=by
    have l1:=(List.getElem?_eq_some_iff.1 i).1;have l2:=(List.getElem?_eq_some_iff.1 g).1;have g1:=(List.getElem?_eq_some_iff.1 i).2;have g2:=(List.getElem?_eq_some_iff.1 g).2;rw[List.pairwise_iff_getElem] at p;rcases Nat.lt_trichotomy j k with m|m|m
    ·have:=p j k (by simpa using l1) (by simpa using l2) m
     simp only[List.getElem_map,g1,g2] at this;exact absurd (hk.trans a.symm) this
    ·subst m
     rw[i] at g;exact(aE g).symm
    ·have:=p k j (by simpa using l2) (by simpa using l1) m
     simp only[List.getElem_map,g1,g2] at this;exact absurd (a.trans hk.symm) this
   subst C;simp[Instr.lookup,run_underlying Tryz.underlying169,MapKept.run_getObj_map (q.trans hb),kX.check w' _ n,h1,z,Result.andThen]
 ·right
  intro w' q;rcases kX.find w' n es.toList u with⟨h1,v⟩|⟨k,e',h1,g,a⟩
  ·simp[Instr.lookup,run_underlying Tryz.underlying169,MapKept.run_getObj_map (q.trans hb),kX.check w' _ n,h1,y,Result.andThen]
  ·exact absurd ⟨k,e',g,a⟩ hex
theorem store (h:ep G w b) {l:List Int} {x:Int} (a:mI l) (o:G l x):
  ∃w',(Instr.mapUpdate 169 (.map (some b)) (eC l) (.int .i64 x)).run Tryz.prog w= .ok () w'/\ep G w' b/\w.grownBy w' (some b):=by
 obtain⟨es,c,hb,n,p⟩:=h;have u:∀e∈es.toList,∃l,keyOf Tryz.prog 172 e.key=some l:=fun e he=>by
  obtain⟨l,x,hk, -,a, -⟩:=n e he;rw[hk];exact pG a
 obtain⟨s,g⟩:=pG a;have q:=aD hb;rcases kX.find w g es.toList u with⟨h1,v⟩|⟨j,e,h1,m,hk⟩
 ·refine⟨w.putObj b (.map (es.push ⟨eC l,.int .i64 x,c⟩) (c+1)),?_,⟨_,_,World.putObj_heap_same q,fun e he=>?_,?_⟩,?_⟩
  ·simp[Instr.mapUpdate,run_underlying Tryz.underlying169,MapKept.run_getObj_map hb,kX.check w _ g,h1,MapKept.run_setObj_map _ hb,Result.andThen,World.putObj]
  ·simp only[Array.toList_push,List.mem_append,List.mem_singleton] at he
   rcases he with he|rfl
   ·exact n e he
   ·exact⟨l,x,rfl,rfl,a,o⟩
  ·simp only[Array.toList_push,List.map_append,List.map_cons,List.map_nil]
   refine List.pairwise_append.2 ⟨p,by simp,fun k hk k' y=>?_⟩;obtain rfl:=List.mem_singleton.1 y;obtain⟨e,he,rfl⟩:=List.mem_map.1 hk;exact v e he
  ·exact grownBy_putObj' w b _
 ·have z:j<es.toList.length:=(List.getElem?_eq_some_iff.1 m).1
  have B:es[j]? =some e:=by simpa using m
  have r:(es.modify j (fun e'=>{e' with key:=eC l,val:=.int .i64 x})).toList=es.toList.set j {e with key:=eC l,val:=.int .i64 x}:=by rw[Array.toList_modify,xj _ _ _ _ m]
  refine⟨w.putObj b (.map (es.modify j (fun e'=>{e' with key:=eC l,val:=.int .i64 x})) c),?_,⟨_,_,World.putObj_heap_same q,fun e' he=>?_,?_⟩,?_⟩
  ·simp[Instr.mapUpdate,run_underlying Tryz.underlying169,MapKept.run_getObj_map hb,kX.check w _ g,h1,B,hk,kX.stays w g,MapKept.run_setObj_map _ hb,Result.andThen,World.putObj]
  ·rw[r] at he
   rcases List.mem_or_eq_of_mem_set he with he|rfl
   ·exact n e' he
   ·exact⟨l,x,rfl,rfl,a,o⟩
  ·rw[r]
   have:(es.toList.set j {e with key:=eC l,val:=.int .i64 x}).map (fun e=>e.key)=es.toList.map (fun e=>e.key):=by
    rw[List.map_set];refine List.ext_getElem (by simp) fun i D a2=>?_
    rw[List.getElem_set];split
    ·rename_i C
     subst C;have:es.toList[j]=e:=by
      have:=bS z;rw[m] at this;exact(aE this).symm
     simp only[List.getElem_map,this];exact hk.symm
    ·rfl
   rw[this];exact p
  ·exact grownBy_putObj' w b _
theorem len (h:ep G w b) (ty:TypeId):∃m:Nat,(Builtin.len_ #[169] ty #[.map (some b)]).run Tryz.prog w= .ok (.int .i64 m) w/\∃a:List (List Int),a.length=m/\a.Pairwise (· ≠ ·)/\∀l∈a,∃x,G l x:=by
 obtain⟨es,c,hb,j,n⟩:=h;refine⟨es.size,by simp[Builtin.len_,run_underlying Tryz.underlying169,MapKept.run_getObj_map hb,goInt,Result.andThen],?_⟩;have key:∀L:List MapEntry,(∀e∈L,∃l x,e.key=eC l/\e.val= .int .i64 x/\mI l/\G l x)->(L.map fun e=>e.key).Pairwise (· ≠ ·)->∃a:List (List Int),a.length=L.length/\a.map eC=L.map (fun e=>e.key)/\a.Pairwise (· ≠ ·)/\∀l∈a,∃x,G l x:=by
  intro L;induction L with
  |nil=>intro _ _;exact⟨[],rfl,rfl,List.Pairwise.nil,fun l o=>by cases o⟩
  |cons e L p=>
   intro h i;obtain⟨l,x,hk, -, -,q⟩:=h e (List.mem_cons_self ..);rw[List.map_cons,List.pairwise_cons] at i;obtain⟨a,i1,i2,i3,i4⟩:=p (fun e he=>h e (List.mem_cons_of_mem _ he)) i.2;refine⟨l::a,by simp[i1],by simp[i2,hk],List.pairwise_cons.2 ⟨fun k g r=>?_,i3⟩,fun k g=>?_⟩
   ·subst r
    refine i.1 (eC l) ?_ hk;rw[<-i2];exact List.mem_map.2 ⟨l,g,rfl⟩
   ·rcases List.mem_cons.1 g with rfl|g
    ·exact⟨x,q⟩
    ·exact i4 k g
 obtain⟨a,i1, -,i3,i4⟩:=key es.toList j n;exact⟨a,by simpa using i1,i3,i4⟩
end ep
end
end Go.Proofs.YtffdiakgjakngaaGreat.P
namespace Go.Proofs.YtffdiakgjakngaaGreat.P
open Go.RowKit Go.Proofs.YtffdiakgjakngaaGreatW.PrintWords Go.Proofs.YtffdiakgjakngaaGreatW.PrintLast Go.Proofs.YtffdiakgjakngaaGreatW.PrintMore
set_option linter.unusedVariables false
set_option linter.unusedSimpArgs false
set_option maxHeartbeats 8000000
set_option maxRecDepth 100000
section
attribute [local go_sem] Oper.semAt_some jR jS jT jU
theorem pH (d:List Int):∀n,fe d n=T.sN (fun v=>rd d (v:Nat)) n
 |0=>rfl
 |n+1=>by
  show fe d n+_=T.sN _ n+_
  rw[pH d n]
def gV (W:World) (a:Nat) (n:Nat) (A0:Option Addr) (E:List S83) (c0:Nat) (g:Int) (b:Nat):Prop:=W.heap[a]? =some (.cells #[.int .i64 n,.slice A0 E.length c0,.int .i64 g,.map (some b)] 171 (0,0))
def fm (a:Nat) (W W':World):Prop:=Below a W W'/\∀k,k<W.heap.size->k≠a->W'.heap[k]? =W.heap[k]?
theorem fm.mJ {a:Nat} {W W':World} (h:Below W.heap.size W W') (hm:a<=W.heap.size):fm a W W':=⟨h.mono hm,fun k hk _=>h.block k hk⟩
theorem fm.trans {a:Nat} {A B C:World} (h:fm a A B) (b:fm a B C):fm a A C:=⟨h.1.trans b.1,fun k hk e=>(b.2 k (Nat.lt_of_lt_of_le hk h.1.size) e).trans (h.2 k hk e)⟩
theorem fm.xm {a:Nat} {W W':World} (h:fm a W W') {k:Nat} {cs:Array Value} {t:TypeId} (hk:W.heap[k]? =some (.cells cs t (0,0))) (b:k≠a):W'.heap[k]? =some (.cells cs t (0,0)):=(h.2 k (aD hk) b).trans hk
structure r7 (n:Nat) (E:List S83) (g:Int):Prop where
 n1:1<=n
 n12:n<=12
 right:bB n E
 conn:fD n E
 len:E.length<=1000
 val:T.sN (T.val n (ai E)) n<=19
 gen:T.e7 n (ai E) g
 g0: -100<=g/\g<=100
 nV:∀d:List Int,dX n 0 E d->∃k s,kV.f k n E d=some (decide (rd (eO n E d s) 0>=0),eO n E d s,s,0)/\kR n E 0 d s=true
 b9:∀a:List (List Int),a.Pairwise (· ≠ ·)->(∀l∈a,∃x,kc n (ai E) g l x)->a.length<16384
def pI (n:Nat) (d:List Int):Prop:=d.length=n/\∀v:Nat,v<n-> -200<=rd d v/\rd d v<=200
def r8 (n:Nat) (t:Nat->Nat->Int) (g:Int) (d:List Int) (a:Nat) (W:World) (e:Ending) (W':World):Prop:=∃r:Int,e= .returned (.tuple #[.int .i64 r,.int .i64 0])/\Rk n t d r/\ep (kc n t g) W' a/\fm a W W'
theorem xn (n:Nat) (A0:Option Addr) (c0:Nat) (E:List S83) (g:Int) (q i:Nat) (w0:World) (g2:Kd.C aW w0 A0 E.length E) (em:E.length<=c0) (hG:r7 n E g) (g3:w0.heap.size<=i)
  (d:List Int) (A:Option Addr) (c:Nat) (W:World) (hd:pI n d) (ih:0<=fe d n->∀(d':List Int) (A':Option Addr) (c':Nat) (W':World),pI n d'->fe d' n<fe d n->Below w0.heap.size w0 W'->gV W' q n A0 E c0 g i->ep (kc n (ai E) g) W' i->Kd.C (Kd.int .i64) W' A' d'.length d'->d'.length<=c'->Calls Tryz.prog 95 #[.pointer (some ⟨q,0,none⟩),.slice A' n c'] W' (r8 n (ai E) g d' i W')) (hB:Below w0.heap.size w0 W) (hF:gV W q n A0 E c0 g i) (hM:ep (kc n (ai E) g) W i) (ak:q≠i) (hC:Kd.C (Kd.int .i64) W A d.length d) (hc:d.length<=c):
  Calls Tryz.prog 95 #[.pointer (some ⟨q,0,none⟩),.slice A n c] W (r8 n (ai E) g d i W):=by
  have IH:=zA ih;have X:=zA hG;have HD:=zA hd;have HB:=zA hB;have HF:=zA hF;have HM:=zA hM;have HC:=zA hC;have c6:=zA hc;have ey:=hG.n1;have b5:=hG.n12;have e1:=hG.g0;have h6:=Tryz.underlying171;have hu:=Tryz.underlying24;have g5:=hM.lt;have h7:=aD hF;have e2:=zA (rZ (n:=n) (d:=d) (fun v Q=>by have:=hd.2 v Q;omega) n (aI n));have e3:=zA (pH d n);clear ih hG hd hB hF hM hC hc;go_enter Tryz.func95,Tryz.ntmps95
  go_wp2_with fail
  refine(Fm A c n d W HC.out c6.out HD.out.1 ey b5 (fun v Q=>by have:=HD.out.2 v Q;omega)).mono ?_;rintro e w1 ⟨rfl,hb⟩;have b6:=zA hb;have b_:=zA (show gV w1 q n A0 E c0 g i from aM HF.out hb);have ap:=zA (HM.out.below hb);clear hb;have b':=zA (a7 HB.out b6.out);have ca:=zA (fm.mJ b6.out (Nat.le_of_lt g5));have y2:w1.cell? ⟨q,2,none⟩=some (.int .i64 g):=(aj b_.out 2).trans rfl;have y0:w1.cell? ⟨q,0,none⟩=some (.int .i64 n):=(aj b_.out 0).trans rfl;have y1:w1.cell? ⟨q,1,none⟩=some (.slice A0 E.length c0):=(aj b_.out 1).trans rfl;have Z:0<n:=by omega
  have aa:=zA X.out.right.wt;have e4:=zA (X.out.right.conn X.out.conn);have hb:=e2.out;have bv:Aside0 (fe d n=T.sN (fun v=>rd d (v:Nat)) n):=e3;generalize g6:fe d n=S at hb IH bv⊢;have g7: -20000000<=S:=by omega
  have g8:S<=20000000:=by omega
  clear g6 hb e2 e3;by_cases e5:S<0
  ·have P:Aside0 (Rk n (ai E) d (-1)):=⟨vA aa.out Z (fun hw=>by have:=hw.bq aa.out;rw[<-bv.out] at this;omega)⟩
   have g9:decide (S<0)=true:=az e5;go_wp2;go_ret2;exact⟨-1,rfl,P.out,ap.out,ca.out⟩
  have g9:decide (S<0)=false:=aZ e5;by_cases cb:2*g-2<S
  ·have P:Aside0 (Rk n (ai E) d (S-g)):=⟨by rw[bv.out];exact C1 aa.out e4.out Z X.out.gen (by rw[<-bv.out];exact cb)⟩
   have g':decide (2*g-2<S)=true:=az cb;obtain⟨ha,he⟩:=e1;go_wp2;go_ret2;exact⟨S-g,rfl,P.out,ap.out,ca.out⟩
  have g':decide (2*g-2<S)=false:=aZ cb;obtain⟨ha,he⟩:=e1;obtain⟨kW,s,e_,hs⟩:=X.out.nV d ⟨ey,b5,Z,X.out.len,X.out.right,X.out.conn,X.out.val,HD.out.1,HD.out.2⟩;have cc:=(nJ X.out.right).1 hs;have cd:=zA cc.2;have Y:=zA (rE n E d s);have bw:=zA e_;have fd:=zA (Kd.aq g2 b'.out);have fn:=zA (Kd.aq HC.out b6.out);have c7:=zA (fa.bound aa.out e4.out Z b5 X.out.val HD.out.2 cc.2);have bx:Aside0 (T.bV n (ai E) (fun v=>rd d (v:Nat)) (fun v=>rd (eO n E d s) (v:Nat))):=⟨⟨_,cc.2.eq⟩⟩;have hf:=zA HD.out.1;clear e_ hs cc;generalize eO n E d s=cl at cd Y bw c7 bx;have hg:=hf.out;subst hg;cases aO:decide (rd cl 0>=0) with
  |false=>
   have aP:¬0<=rd cl (0:Nat):=by simpa using aO
   have P:Aside0 (Rk d.length (ai E) d (-1)):=⟨vA aa.out Z (fun hw=>aP ((T.oP aa.out Z cd.out.red).1 (hw.gB bx.out)))⟩;rw[aO] at bw;clear aO aP;go_wp2_with (go_at_call 14;refine(kV.calls kW d.length A0 c0 E A c d false cl s 0 _ fd.out em fn.out c6.out bw.out).mono ?_;rintro e w2 ⟨v1,v2,rfl,aR,c8,ad⟩;have ce:=zA (ca.out.trans (fm.mJ ad (Nat.le_of_lt ap.out.lt)));have aS:=zA (ap.out.below ad);clear aR c8 ad)
   go_ret2;exact⟨-1,rfl,P.out,aS.out,ce.out⟩
  |true=>
   have aP:0<=rd cl (0:Nat):=by simpa using aO
   have hh:Aside0 (T.bZ d.length (ai E) (fun v=>rd cl (v:Nat))):=⟨(T.oP aa.out Z cd.out.red).2 aP⟩;have hl:=zA aP;rw[aO] at bw;clear aO aP;go_wp2_with (go_at_call 14;refine(kV.calls kW d.length A0 c0 E A c d true cl s 0 _ fd.out em fn.out c6.out bw.out).mono ?_;rintro e w2 ⟨v1,v2,rfl,aR,c8,ad⟩;obtain⟨l,cr,rfl,h',ib, -⟩:=Kd.fs aR (by rw[Y.out];omega);rw[Y.out] at aR⊢;have cf:=zA (Kd.a_ aR (ok':=fun _=>True) (fun _ _=>trivial));have ce:=zA (ca.out.trans (fm.mJ ad (Nat.le_of_lt ap.out.lt)));have aS:=zA (ap.out.below ad);have fo:=zA (a7 b'.out ad);have fq:=zA (show gV w2 q d.length A0 E c0 g i from aM b_.out ad);have ii:=ad.size;clear aR c8 ad)
   obtain⟨qs,fr,c9⟩:∃qs:List Int,qs=jE cl/\qs.length=12:=⟨_,rfl,C4 (by rw[Y.out];exact b5)⟩;have HQ:=zA fr;have ft:=Kd.aH cf.out;have hm:=zA ft.2.2;rw[run_copy_row _ (w2.alloc (.cells #[.int .i64 0,.int .i64 0,.int .i64 0,.int .i64 0,.int .i64 0,.int .i64 0,.int .i64 0,.int .i64 0,.int .i64 0,.int .i64 0,.int .i64 0,.int .i64 0] 172)) 25 26 3 3 w2.heap.size 0 12 12 ⟨l,0,none⟩ d.length cr _ 172 (cl.map (Value.int .i64)) Tryz.underlying25 (by kernel_rfl) (bs w2 _) (by rw[List.length_map,Y.out];show d.length=min d.length 12;omega) (fun j v hj=>by
    obtain⟨dk,ho⟩:=List.getElem?_eq_some_iff.1 hj;rw[List.length_map] at dk;have h:=(Kd.bT 0 (Kd.aK cf.out (.cells #[.int .i64 0,.int .i64 0,.int .i64 0,.int .i64 0,.int .i64 0,.int .i64 0,.int .i64 0,.int .i64 0,.int .i64 0,.int .i64 0,.int .i64 0,.int .i64 0] 172)) (j:Int) (by omega) (by rw[Y.out] at dk;omega)).1;rw[aV] at h;rw[add_plain,h,<-ho];simp[bQ,bc,bS dk]) (by rw[List.length_map,Y.out];simp;omega) (fun v Q=>by obtain⟨x, -,rfl⟩:=List.mem_map.1 Q;rfl)]
   have hp:∃z B D F G H I J K M N O:Int,qs=[z,B,D,F,G,H,I,J,K,M,N,O]:=by
    match qs,c9 with
    |[z,B,D,F,G,H,I,J,K,M,N,O],_=>exact⟨_,_,_,_,_,_,_,_,_,_,_,_,rfl⟩
   obtain⟨z,B,D,F,G,H,I,J,K,M,N,O,hk⟩:=hp;rw[show ((#[.int .i64 0,.int .i64 0,.int .i64 0,.int .i64 0,.int .i64 0,.int .i64 0,.int .i64 0,.int .i64 0,.int .i64 0,.int .i64 0,.int .i64 0,.int .i64 0]:Array Value).toList.take 0++cl.map (Value.int .i64)++(#[.int .i64 0,.int .i64 0,.int .i64 0,.int .i64 0,.int .i64 0,.int .i64 0,.int .i64 0,.int .i64 0,.int .i64 0,.int .i64 0,.int .i64 0,.int .i64 0]:Array Value).toList.drop (0+(cl.map (Value.int .i64)).length)).toArray=#[.int .i64 z,.int .i64 B,.int .i64 D,.int .i64 F,.int .i64 G,.int .i64 H,.int .i64 I,.int .i64 J,.int .i64 K,.int .i64 M,.int .i64 N,.int .i64 O] from by
    rw[show (#[.int .i64 0,.int .i64 0,.int .i64 0,.int .i64 0,.int .i64 0,.int .i64 0,.int .i64 0,.int .i64 0,.int .i64 0,.int .i64 0,.int .i64 0,.int .i64 0]:Array Value).toList=List.replicate 12 (Value.int .i64 0) from rfl,List.take_zero,List.nil_append,List.length_map,Nat.zero_add,List.drop_replicate];have h:qs.map (Value.int .i64)=cl.map (Value.int .i64)++List.replicate (12-cl.length) (Value.int .i64 0):=by rw[HQ.out,jE,List.map_append,List.map_replicate]
    rw[<-h,hk];rfl]
   have dl:=zA hk;have U:=zA (setRow_heap (w2.alloc (.cells #[.int .i64 0,.int .i64 0,.int .i64 0,.int .i64 0,.int .i64 0,.int .i64 0,.int .i64 0,.int .i64 0,.int .i64 0,.int .i64 0,.int .i64 0,.int .i64 0] 172)) w2.heap.size _ #[.int .i64 z,.int .i64 B,.int .i64 D,.int .i64 F,.int .i64 G,.int .i64 H,.int .i64 I,.int .i64 J,.int .i64 K,.int .i64 M,.int .i64 N,.int .i64 O] _ _ (bs w2 _));have ar:=zA (below_setRow (g:=w2.heap.size) (au (ao w2.heap.size w2) (.cells #[.int .i64 0,.int .i64 0,.int .i64 0,.int .i64 0,.int .i64 0,.int .i64 0,.int .i64 0,.int .i64 0,.int .i64 0,.int .i64 0,.int .i64 0,.int .i64 0] 172)) (aI _) #[.int .i64 z,.int .i64 B,.int .i64 D,.int .i64 F,.int .i64 G,.int .i64 H,.int .i64 I,.int .i64 J,.int .i64 K,.int .i64 M,.int .i64 N,.int .i64 O]);clear hk fr ft;rw[Result.andThen_ok];generalize (w2.alloc (.cells #[.int .i64 0,.int .i64 0,.int .i64 0,.int .i64 0,.int .i64 0,.int .i64 0,.int .i64 0,.int .i64 0,.int .i64 0,.int .i64 0,.int .i64 0,.int .i64 0] 172)).setRow w2.heap.size #[.int .i64 z,.int .i64 B,.int .i64 D,.int .i64 F,.int .i64 G,.int .i64 H,.int .i64 I,.int .i64 J,.int .i64 K,.int .i64 M,.int .i64 N,.int .i64 O]=y at U ar⊢;rw[Oper.upon_value];have fv:=zA (a7 fo.out ar.out);have ds:=zA (show gV y q d.length A0 E c0 g i from aM fq.out ar.out);have a0:=zA (aS.out.below ar.out);have dv:=zA (ce.out.trans (fm.mJ ar.out (Nat.le_of_lt aS.out.lt)));have f0:=zA (Kd.da cf.out ar.out);have f1:l≠i:=by have:=ap.out.lt;omega
   have f2:w2.heap.size≠i:=by have:=aS.out.lt;omega
   have d0:l≠w2.heap.size:=by omega
   clear fo fq aS ce cf ar hm;have f4:Aside0 (mI qs):=⟨⟨c9,fun x hx=>by
    rw[HQ.out,jE] at hx;rcases List.mem_append.1 hx with hx|hx
    ·obtain⟨v,Q,rfl⟩:=List.getElem_of_mem hx
     have h:=c7.out v (by rw[<-Y.out];exact Q);have e:rd cl (v:Int)=cl[v]:=by simp[rd,bc,bS Q]
     rw[e] at h;omega
    ·rw[List.eq_of_mem_replicate hx];omega⟩⟩
   have d1:=a0.out.look qG f4.out;rw[dl.out] at d1;have x0:y.cell? ⟨w2.heap.size,0,none⟩=some (.int .i64 z):=(aj U.out 0).trans rfl;have x1:y.cell? ⟨w2.heap.size,1,none⟩=some (.int .i64 B):=(aj U.out 1).trans rfl;have x2:y.cell? ⟨w2.heap.size,2,none⟩=some (.int .i64 D):=(aj U.out 2).trans rfl;have x3:y.cell? ⟨w2.heap.size,3,none⟩=some (.int .i64 F):=(aj U.out 3).trans rfl;have x4:y.cell? ⟨w2.heap.size,4,none⟩=some (.int .i64 G):=(aj U.out 4).trans rfl;have x5:y.cell? ⟨w2.heap.size,5,none⟩=some (.int .i64 H):=(aj U.out 5).trans rfl;have x6:y.cell? ⟨w2.heap.size,6,none⟩=some (.int .i64 I):=(aj U.out 6).trans rfl;have x7:y.cell? ⟨w2.heap.size,7,none⟩=some (.int .i64 J):=(aj U.out 7).trans rfl;have x8:y.cell? ⟨w2.heap.size,8,none⟩=some (.int .i64 K):=(aj U.out 8).trans rfl;have x9:y.cell? ⟨w2.heap.size,9,none⟩=some (.int .i64 M):=(aj U.out 9).trans rfl;have be:y.cell? ⟨w2.heap.size,10,none⟩=some (.int .i64 N):=(aj U.out 10).trans rfl;have bf:y.cell? ⟨w2.heap.size,11,none⟩=some (.int .i64 O):=(aj U.out 11).trans rfl;have f3:y.cell? ⟨q,3,none⟩=some (.map (some i)):=(aj ds.out 3).trans rfl;have b0:eC [z,B,D,F,G,H,I,J,K,M,N,O]= .agg #[.int .i64 z,.int .i64 B,.int .i64 D,.int .i64 F,.int .i64 G,.int .i64 H,.int .i64 I,.int .i64 J,.int .i64 K,.int .i64 M,.int .i64 N,.int .i64 O]:=rfl;rw[b0] at d1;clear b0 c9;rcases d1 with⟨x,hx,b1⟩|b1
   ·have d2:∀m,(Instr.lookup 169 (.map (some i)) (.agg #[.int .i64 z,.int .i64 B,.int .i64 D,.int .i64 F,.int .i64 G,.int .i64 H,.int .i64 I,.int .i64 J,.int .i64 K,.int .i64 M,.int .i64 N,.int .i64 O]) true).run Tryz.prog (y.drewN m)= .ok (.tuple #[.int .i64 x,.bool true]) (y.drewN m):=fun m=>b1 _ rfl
    have hq:Aside0 (Rk d.length (ai E) d x):=⟨by
     obtain⟨c',hr,f5,ht, -⟩:=hx;rw[<-dl.out,HQ.out] at f5;obtain rfl:=C5 Y.out hr f5;exact T.cg.gB bx.out.symm ht⟩
    clear b1 hx;go_wp2_with fail
    go_quiet (fail)
    clear d2 x0 x1 x2 x3 x4 x5 x6 x7 x8 x9 be bf f3;have bg:=zA (a0.out.below (bY (ao _ _) nq));have b2:=zA (dv.out.trans (fm.mJ (bY (ao _ _) nq) (Nat.le_of_lt a0.out.lt)));go_wp2;go_ret2;exact⟨x,rfl,hq.out,bg.out,b2.out⟩
   ·have d2:∀m,(Instr.lookup 169 (.map (some i)) (.agg #[.int .i64 z,.int .i64 B,.int .i64 D,.int .i64 F,.int .i64 G,.int .i64 H,.int .i64 I,.int .i64 J,.int .i64 K,.int .i64 M,.int .i64 N,.int .i64 O]) true).run Tryz.prog (y.drewN m)= .ok (.tuple #[.int .i64 0,.bool false]) (y.drewN m):=fun m=>b1 _ rfl
    clear b1;go_wp2_with fail
    go_quiet (fail)
    clear d2 x0 x1 x2 x3 x4 x5 x6 x7 x8 x9 be bf f3;have av:=bY (ao y.heap.size y) nq;have bg:=zA (a0.out.below av);have b2:=zA (dv.out.trans (fm.mJ av (Nat.le_of_lt a0.out.lt)));have ci:=zA (show gV (y.drewN nq) q d.length A0 E c0 g i from aM ds.out av);have d3:=zA (Kd.da f0.out av);have d4:=zA (a7 fv.out av);have cj:=zA (aM U.out av);clear av a0 dv ds f0 fv U;generalize y.drewN nq=W4 at bg b2 ci d3 d4 cj⊢;obtain⟨ml,hlen,ks,hD,f6,f7⟩:=bg.out.len 3;have hE:=X.out.b9 ks f6 f7;have im:((ml:Int)==16384)=false:=by simp;omega
    have f3:W4.cell? ⟨q,3,none⟩=some (.map (some i)):=(aj ci.out 3).trans rfl;clear hD f6 f7 hE;have f8:T.sN (fun v=>rd cl (v:Nat)) d.length=S:=by rw[bv.out];exact T.bV.bq aa.out bx.out
    have ck:Aside0 (∀v:Nat,v<d.length->0<=rd cl v):=⟨fun v Q=>by
     by_cases e:v=0
     ·subst e;exact hl.out
     ·exact(c7.out v Q).2.2.2.2 e |>.1⟩
    have f9:Aside0 (∀v:Nat,v<d.length->rd cl v<=198):=⟨fun v Q=>by
     have h:=T.fA (f:=fun v=>rd cl (v:Nat)) Q ck.out;have h2:rd cl (v:Nat)<=T.sN (fun v=>rd cl (v:Nat)) d.length:=h;omega⟩
    have d5:=zA f8;clear f8;go_wp2;clear hlen f3;generalize d6:w2.heap.size=o at f2 d0 cj⊢;have io:=Nat.le_of_eq d6;have ip:=Nat.le_of_eq d6.symm;clear d6;have it:(d.length:Int)<=12:=by omega
    go_loopg [81,14] (d.length) (fun kq vv lv wr=>∃(v:Nat) (L:Int),v<=d.length/\vv= .int .i64 v/\lv= .int .i64 L/\ -20000000<=L/\L<=20000000/\Aside0 (∀u,u<v->∀k,T.cg d.length (ai E) (fun w=>rd cl (w:Nat)-T.one u w) k->L<=k+1)/\Aside0 (L=S\/∃u,u<v/\∃k,T.cg d.length (ai E) (fun w=>rd cl (w:Nat)-T.one u w) k/\L=k+1)/\Aside0 ((Kd.int .i64).R 3 wr w1.heap.size (fun _=>True) (.slice (some ⟨l,0,none⟩) d.length cr) cl)/\Aside0 (ep (kc d.length (ai E) g) wr i)/\Aside0 (fm i W wr)/\Aside0 (Below w0.heap.size w0 wr)/\Aside0 (gV wr q d.length A0 E c0 g i)/\Aside0 (wr.heap[o]? =some (.cells #[.int .i64 z,.int .i64 B,.int .i64 D,.int .i64 F,.int .i64 G,.int .i64 H,.int .i64 I,.int .i64 J,.int .i64 K,.int .i64 M,.int .i64 N,.int .i64 O] 172 (0,0)))/\Aside0 (kq=d.length-v))
    case atStart=>exact⟨0,S,by omega,rfl,rfl,g7,g8,⟨fun u hu=>by omega⟩,⟨.inl rfl⟩,d3,bg,b2,d4,ci,cj,⟨rfl⟩⟩
    case round=>
     clear d3 bg b2 d4 ci cj;obtain⟨v,L,Q,rfl,rfl,hK,hL,d7,f',HR,HM,HK,gb,HF,V,hN⟩:=hrel;by_cases b3:v<d.length
     ·have iv:(0:Int)<=(v:Int):=by omega
      have i0:(v:Int)<(d.length:Int):=by omega
      have d8:=Y.out;obtain⟨z1,z2⟩:=Kd.bT 0 HR.out (v:Int) (by omega) (by omega);rw[aV] at z1 z2;replace z1:wr.cell? ⟨l,v,none⟩=some (.int .i64 (rd cl v)):=z1;have hO:=ck.out v b3;have hP:=f9.out v b3;have P:=Kd.dm HR.out (v:Int) (rd cl v-1);rw[aV] at P;have bk:=zA P.1;have cv:=zA (show gV (wr.setCell ⟨l,v,none⟩ (.int .i64 (rd cl v-1))) q d.length A0 E c0 g i from aG HF.out (by show q≠l;have:=HF.out;intro e;subst e;have h2:=(Kd.gM HR.out q rfl);obtain⟨cs,b4⟩:=h2;rw[gV,b4] at this;injection this with h;injection h with _ h _;exact absurd h (by decide)) _);have d9:=zA (HM.out.iJ ⟨l,v,none⟩ (.int .i64 (rd cl v-1)) (fun e=>f1 e.symm));have ea:=zA (aG (p:=⟨l,v,none⟩) V.out (fun e=>d0 e.symm) (.int .i64 (rd cl v-1)));have cx:=zA (Below.setCell (p:=⟨l,v,none⟩) gb.out (by show w0.heap.size<=l;have:=b'.out.size;omega) (.int .i64 (rd cl v-1)));have i1:W.heap.size<=l:=by have:=b6.out.size;omega
      have eb:Aside0 (fm i W (wr.setCell ⟨l,v,none⟩ (.int .i64 (rd cl v-1)))):=⟨Below.setCell (p:=⟨l,v,none⟩) HK.out.1 (by show i<=l;omega) _,fun k hk ak=>(Below.heap_setCell _ _ _ _ (by show k≠l;omega)).trans (HK.out.2 k hk ak)⟩;have c1:∀u,u<d.length->rd (cl.set v (rd cl v-1)) (u:Nat)=rd cl u-T.one v u:=C2 d8 b3;have gc:fe (cl.set v (rd cl v-1)) d.length=S-1:=by
       rw[pH,T.bJ c1,T.dB,d5.out,T.fB b3]
      have gd:=zA (IH.out (by omega) (cl.set v (rd cl v-1)) (some ⟨l,0,none⟩) cr _ ⟨by rw[List.length_set];exact d8,fun u hu=>by
       rw[c1 u hu];have a:=ck.out u hu;have b:=f9.out u hu;unfold T.one;split<;>omega⟩ (by omega) cx.out cv.out d9.out (Kd.aH bk.out).2.2 (by have h:=(Kd.aH bk.out);rw[<-h.1];exact h.2.1))
      have ge:=zA c1;have gf:=zA (C3 (c:=cl) (v:=v) (by omega) (rd cl v-1));have hQ:=zA (show (cl.set v (rd cl v-1)).length=cl.length from by rw[List.length_set]);clear P c1 d8 HR HM HK gb HF V;generalize gg:rd cl v=xv at z1 hO hP gc bk cv d9 ea cx eb gd gf hQ ge;have i2:=zA gg;clear gg;go_wp2_with fail
      refine gd.out.mono ?_;rintro e w6 ⟨r,rfl,c3,gi,bn⟩;have i3: -1<=r:=c3.1;have ed:Aside0 (T.cg d.length (ai E) (fun w=>rd cl (w:Nat)-T.one v w) r):=⟨rG (fun u hu=>(ge.out u hu).symm) c3⟩;have i4:r<=S:=by
       by_cases e0:0<=r
       ·have h:=T.cg.oQ aa.out Z c3 e0
        rw[<-pH,gc] at h;omega
       ·omega
      clear c3;have eg:=zA (Kd.a_ (ok':=fun _=>True) (Kd.fP (Kd.g_ rfl bk.out) (fun k hk=>bn.2 k (by obtain⟨cs,b4⟩:=Kd.gM bk.out k hk.symm;exact aD b4) (by have:=aE (show some l=some k from hk.symm);omega))) (fun _ _=>trivial));have gl:=zA (show gV w6 q d.length A0 E c0 g i from bn.xm cv.out ak);have hT:=zA (bn.xm ea.out f2);have hV:=zA (show Below w0.heap.size w0 w6 from cx.out.trans (bn.1.mono g3));have gm:=zA (eb.out.trans bn);have hW:=zA gi;clear gi bn bk cv ea cx eb d9;obtain⟨z3,z4⟩:=Kd.bT 0 eg.out (v:Int) (by omega) (by omega);rw[aV] at z3 z4;have gn:bQ 0 (cl.set v (xv-1)) (v:Int)=xv-1:=iI _ _ _ (by rw[Y.out];exact b3);rw[gn] at z3;have P:=Kd.dm eg.out (v:Int) xv;rw[aV,gf.out] at P;have go:=zA P.1;clear P gn;have gp:=zA (show gV (w6.setCell ⟨l,v,none⟩ (.int .i64 xv)) q d.length A0 E c0 g i from aG gl.out (by show q≠l;have:=gl.out;intro e;subst e;have h2:=(Kd.gM eg.out q rfl);obtain⟨cs,b4⟩:=h2;rw[gV,b4] at this;injection this with h;injection h with _ h _;exact absurd h (by decide)) _);have gq:=zA (hW.out.iJ ⟨l,v,none⟩ (.int .i64 xv) (fun e=>f1 e.symm));have gs:=zA (aG (p:=⟨l,v,none⟩) hT.out (fun e=>d0 e.symm) (.int .i64 xv));have gt:=zA (Below.setCell (p:=⟨l,v,none⟩) hV.out (by show w0.heap.size<=l;have:=b'.out.size;omega) (.int .i64 xv));have gx:Aside0 (fm i W (w6.setCell ⟨l,v,none⟩ (.int .i64 xv))):=⟨Below.setCell (p:=⟨l,v,none⟩) gm.out.1 (by show i<=l;omega) _,fun k hk ak=>(Below.heap_setCell _ _ _ _ (by show k≠l;omega)).trans (gm.out.2 k hk ak)⟩;go_wp2
      all_goals
       go_roundg (d.length- (v+1))
       case measure=>rw[hN.out];omega
      case rel=>exact⟨v+1,r+1,by omega,by go_num,rfl,by omega,by omega,⟨fun u hu k hk=>by
       by_cases e:u=v
       ·subst e
        have:=T.cg.unique Z hk ed.out;omega
       ·have:=d7.out u (by omega) k hk
        omega⟩,⟨.inr ⟨v,by omega,r,ed.out,rfl⟩⟩,go,gq,gx,gt,gp,gs,⟨rfl⟩⟩
      exact⟨v+1,L,by omega,by go_num,rfl,hK,hL,⟨fun u hu k hk=>by
       by_cases e:u=v
       ·subst e
        have:=T.cg.unique Z hk ed.out;omega
       ·exact d7.out u (by omega) k hk⟩,⟨f'.out.imp id (fun⟨u,hu,h⟩=>⟨u,by omega,h⟩)⟩,go,gq,gx,gt,gp,gs,⟨rfl⟩⟩
     ·obtain rfl:v=d.length:=by omega
      have P:Aside0 (Rk d.length (ai E) cl L):=⟨C0 aa.out Z hh.out d7.out (by rw[d5.out];exact f'.out)⟩;have hX:Aside0 (Rk d.length (ai E) d L):=⟨T.cg.gB bx.out.symm P.out⟩;have hY:Aside0 (kc d.length (ai E) g qs L):=⟨cl,Y.out,HQ.out,P.out,ck.out,fun v Q h0=>T.oT aa.out cd.out.red.2 Q h0,by rw[d5.out];simpa using cb⟩;obtain⟨w9,ek,g1,el⟩:=ep.store (HM.out.jd (w':=wr.drew) rfl) f4.out hY.out;have x0:wr.cell? ⟨o,0,none⟩=some (.int .i64 z):=(aj V.out 0).trans rfl;have x1:wr.cell? ⟨o,1,none⟩=some (.int .i64 B):=(aj V.out 1).trans rfl;have x2:wr.cell? ⟨o,2,none⟩=some (.int .i64 D):=(aj V.out 2).trans rfl;have x3:wr.cell? ⟨o,3,none⟩=some (.int .i64 F):=(aj V.out 3).trans rfl;have x4:wr.cell? ⟨o,4,none⟩=some (.int .i64 G):=(aj V.out 4).trans rfl;have x5:wr.cell? ⟨o,5,none⟩=some (.int .i64 H):=(aj V.out 5).trans rfl;have x6:wr.cell? ⟨o,6,none⟩=some (.int .i64 I):=(aj V.out 6).trans rfl;have x7:wr.cell? ⟨o,7,none⟩=some (.int .i64 J):=(aj V.out 7).trans rfl;have x8:wr.cell? ⟨o,8,none⟩=some (.int .i64 K):=(aj V.out 8).trans rfl;have x9:wr.cell? ⟨o,9,none⟩=some (.int .i64 M):=(aj V.out 9).trans rfl;have be:wr.cell? ⟨o,10,none⟩=some (.int .i64 N):=(aj V.out 10).trans rfl;have bf:wr.cell? ⟨o,11,none⟩=some (.int .i64 O):=(aj V.out 11).trans rfl;have f3:wr.cell? ⟨q,3,none⟩=some (.map (some i)):=(aj HF.out 3).trans rfl;rw[dl.out] at ek;have b0:eC [z,B,D,F,G,H,I,J,K,M,N,O]= .agg #[.int .i64 z,.int .i64 B,.int .i64 D,.int .i64 F,.int .i64 G,.int .i64 H,.int .i64 I,.int .i64 J,.int .i64 K,.int .i64 M,.int .i64 N,.int .i64 O]:=rfl;rw[b0] at ek;have h3:=zA g1;have h4:=HM.out.lt;have h5:Aside0 (fm i W w9):=⟨⟨Below.grown (iC HK.out.1) el (Nat.le_of_lt h4) (fun k e=>by cases e;exact aI _),fun k hk ak=>(el.block k (Nat.lt_of_lt_of_le hk (HK.out.1.size)) (fun e=>ak (aE e))).trans (HK.out.2 k hk ak)⟩⟩;clear g1 el b0;go_wp2_with fail
      refine wp_region_still_tail 6 (by kernel_rfl) (by kernel_rfl) ?_;simp only[List.take_succ_cons,List.take_zero,List.drop_succ_cons,List.drop_zero];repeat still_step
      refine wpStill_nil ?_;change wpList _ _ _ _ _ wr.drew
      replace x0:wr.drew.cell? ⟨o,0,none⟩=some (.int .i64 z):=x0;replace x1:wr.drew.cell? ⟨o,1,none⟩=some (.int .i64 B):=x1;replace x2:wr.drew.cell? ⟨o,2,none⟩=some (.int .i64 D):=x2;replace x3:wr.drew.cell? ⟨o,3,none⟩=some (.int .i64 F):=x3;replace x4:wr.drew.cell? ⟨o,4,none⟩=some (.int .i64 G):=x4;replace x5:wr.drew.cell? ⟨o,5,none⟩=some (.int .i64 H):=x5;replace x6:wr.drew.cell? ⟨o,6,none⟩=some (.int .i64 I):=x6;replace x7:wr.drew.cell? ⟨o,7,none⟩=some (.int .i64 J):=x7;replace x8:wr.drew.cell? ⟨o,8,none⟩=some (.int .i64 K):=x8;replace x9:wr.drew.cell? ⟨o,9,none⟩=some (.int .i64 M):=x9;replace be:wr.drew.cell? ⟨o,10,none⟩=some (.int .i64 N):=be;replace bf:wr.drew.cell? ⟨o,11,none⟩=some (.int .i64 O):=bf;replace f3:wr.drew.cell? ⟨q,3,none⟩=some (.map (some i)):=f3;generalize wr.drew=wd at x0 x1 x2 x3 x4 x5 x6 x7 x8 x9 be bf f3 ek⊢;go_wp2;go_ret2;exact⟨L,rfl,hX.out,h3.out,h5.out⟩
theorem xo (n:Nat) (A0:Option Addr) (c0:Nat) (E:List S83) (g:Int) (b a:Nat) (w0:World) (e:Kd.C aW w0 A0 E.length E) (i:E.length<=c0) (j:r7 n E g) (k:w0.heap.size<=a) (l:b≠a):
  ∀(m:Nat) (d:List Int) (A:Option Addr) (c:Nat) (W:World),pI n d->fe d n<m->Below w0.heap.size w0 W->gV W b n A0 E c0 g a->ep (kc n (ai E) g) W a->Kd.C (Kd.int .i64) W A d.length d->d.length<=c->
   Calls Tryz.prog 95 #[.pointer (some ⟨b,0,none⟩),.slice A n c] W (r8 n (ai E) g d a W)
 |0,d,A,c,W,hd,r,o,hF,p,hC,q=>xn n A0 c0 E g b a w0 e i j k d A c W hd (fun h=>by omega) o hF p l hC q
 |m+1,d,A,c,W,hd,r,o,hF,p,hC,q=>xn n A0 c0 E g b a w0 e i j k d A c W hd (fun h d' A' s W' u B v w x y z=>xo n A0 c0 E g b a w0 e i j k l m d' A' s W' u (by omega) v w x y z) o hF p l hC q
end
end Go.Proofs.YtffdiakgjakngaaGreat.P
namespace Go.Proofs.YtffdiakgjakngaaGreat.P
open Go.RowKit Go.Maps Go.Proofs.YtffdiakgjakngaaGreatW.PrintWords Go.Proofs.YtffdiakgjakngaaGreatW.PrintLast Go.Proofs.YtffdiakgjakngaaGreatW.PrintMore
set_option linter.unusedVariables false
set_option linter.unusedSimpArgs false
set_option maxHeartbeats 8000000
set_option maxRecDepth 100000
section
attribute [local go_sem] Oper.semAt_some
theorem Ft (G:List Int->Int->Prop) (k n:Nat) (A0:Option Addr) (c0:Nat) (E:List S83) (n' g:Int) (a:List S83) (w:World) (m:Kd.C aW w A0 E.length E) (v:E.length<=c0) (o:fk.f k n E=some (n',a,0)) (p:fj.f k n' a=some (g,0)):
  Calls Tryz.prog 94 #[.agg #[.int .i64 n,.slice A0 E.length c0]] w fun e w'=>∃h b,e= .returned (.tuple #[.pointer (some ⟨h,0,none⟩),.int .i64 0])/\gV w' h n A0 E c0 g b/\ep G w' b/\h≠b/\w.heap.size<=b/\Below w.heap.size w w':=by
 have hu:=Tryz.underlying24;have J:=Tryz.underlying171;have x:=zA o;have y:=zA p;have z:=zA m;clear o p m;go_enter Tryz.func94,Tryz.ntmps94
 have q:=bs w (.cells #[.int .i64 n,.slice A0 E.length c0] 24);go_wp2_with (go_at_call 30;refine(fk.calls k n A0 c0 E n' a 0 _ (Kd.bz z.out _) v x.out).mono ?_;rintro e w1 ⟨v1,rfl,i,j⟩;obtain⟨B,c1,rfl⟩:=Kd.bm i;have r:=zA (Kd.aH i);have D:=zA (a7 (au (ao w.heap.size w) _) j);have F:=zA (aM q j);clear i j)
 refine(fj.calls k n' B c1 a g 0 _ (Kd.bz r.out.2.2 _) r.out.2.1 y.out).mono ?_;rintro e w2 ⟨rfl,l⟩;have s:=zA (aM (ay F.out _) l);have u:=zA (a7 (au D.out _) l);have K:w2.cell? ⟨w.heap.size,0,none⟩=some (.int .i64 n):=(aj s.out 0).trans rfl;have L:w2.cell? ⟨w.heap.size,1,none⟩=some (.slice A0 E.length c0):=(aj s.out 1).trans rfl;have a6:=u.out.size;clear l q;have M:=@run_makeMap Tryz.prog;go_wp2_with fail
 have H:=au (ao w2.heap.size w2) (.map #[] 0);have I:=au H (.cells #[.int .i64 n,.slice A0 E.length c0,.int .i64 g,.map (some w2.heap.size)] 171);go_ret2;refine⟨_,w2.heap.size,rfl,?_,(ep.made w2).alloc _,by omega,by omega,a7 u.out I⟩;have:=bs (w2.alloc (.map #[] 0)) (.cells #[.int .i64 n,.slice A0 E.length c0,.int .i64 g,.map (some w2.heap.size)] 171);rw[show (w2.alloc (.map #[] 0)).heap.size=w2.heap.size+1 from by simp] at this;exact this
noncomputable def xp (n:Nat) (t:Nat->Nat->Int) (d:List Int):Int:=@Classical.epsilon Int ⟨0⟩ fun r=>Rk n t d r
theorem xr {n:Nat} {t:Nat->Nat->Int} {d:List Int} (hn:0<n) {r:Int} (h:Rk n t d r):xp n t d=r:=
 T.cg.unique hn (@Classical.epsilon_spec_aux Int ⟨0⟩ (fun r=>Rk n t d r) ⟨r,h⟩) h
noncomputable def eJ.f (k:Nat) (N:Int) (E:List S83) (d:List Int):Option (Int×Int):=
 (fL.f k N E [d]).bind fun e=>if e=0 then(if gR N E 0 d=true then((fk.f k N E).bind fun p=>if p.2.2=0 then((fj.f k p.1 p.2.1).bind fun g=>if g.2=0 then(if T.sN (T.can N.toNat (ai E)) N.toNat=2*g.1-2 then some (xp N.toNat (ai E) d,0) else none) else none) else none) else none) else some (0,e)
theorem Fu (k:Nat) (N:Int) (A0:Option Addr) (c0:Nat) (E:List S83) (a:Option Addr) (c2:Nat) (d:List Int) (t:Int) (w:World) (l:Kd.C aW w A0 E.length E) (m:E.length<=c0) (g:Kd.C (Kd.int .i64) w a d.length d) (h:d.length<=c2)
  (i:fL.f k N E [d]=some t) (j:t≠0):
  Calls Tryz.prog 41 #[.agg #[.int .i64 N,.slice A0 E.length c0],.slice a d.length c2] w fun e w'=>e= .returned (.tuple #[.int .i64 0,.int .i64 t])/\Below w.heap.size w w':=by
 have hu:=Tryz.underlying24;have n:=zA i;have o:=zA g;have p:=zA h;have r:(t != 0)=true:=by simpa using j
 clear i j g h;go_enter Tryz.func41,Tryz.ntmps41
 have b:=rX (w.alloc (.cells #[.int .i64 N,.slice A0 E.length c0] 24)) 26 (Kd.bz o.out _) p.out;rw[show (w.alloc (.cells #[.int .i64 N,.slice A0 E.length c0] 24)).heap.size=w.heap.size+1 from by simp] at b;go_wp2_with fail
 refine(fL.calls k N A0 c0 E (some ⟨w.heap.size+1,0,none⟩) 1 [d] t _ (Kd.bz (Kd.bz l _) _) m b (aI 1) n.out).mono ?_;rintro e w1 ⟨rfl,hb⟩;have q:=zA (a7 (au (au (ao w.heap.size w) (.cells #[.int .i64 N,.slice A0 E.length c0] 24)) (.cells #[.slice a d.length c2] 26)) hb);clear hb b;go_wp2;go_ret2;exact⟨rfl,q.out⟩
theorem Fv {n:Nat} {t:Nat->Nat->Int} (a:T.Wt n t) (hn:n<=12) (h:T.sN (T.val n t) n<=19) {g:Int} (b:T.e7 n t g): -100<=g/\g<=100:=by
 have h1:T.sN (T.can n t) n=T.sN (T.val n t) n-2*n:=by
  have key:∀m:Nat,T.sN (T.can n t) m=T.sN (T.val n t) m-2*m:=by
   intro m;induction m with
   |zero=>simp[T.sN]
   |succ m e=>
    show T.sN (T.can n t) m+T.can n t m=T.sN (T.val n t) m+T.val n t m-_
    rw[e];unfold T.can;omega
  exact key n
 have i:T.sN (T.can n t) n=2*g-2:=b;have j:0<=T.sN (T.val n t) n:=T.db fun v _=>T.db fun u _=>a.pos v u
 omega
theorem Fw {n:Nat} {E:List S83} {d:List Int} {g:Int} (h:dX n 0 E d) (i:cD n E=0) (a:T.e7 n (ai E) g):r7 n E g where
 n1:=h.n1
 n12:=h.n12
 right:=h.right
 conn:=h.conn
 len:=h.len
 val:=h.val
 gen:=a
 g0:=Fv h.right.wt h.n12 h.val a
 nV:=fun d' e=>by
  obtain⟨s,h1,b,j⟩:=Fk e i;obtain⟨k,hk⟩:=h1.get;exact⟨k,s,hk,(nJ e.right).2 ⟨b,j⟩⟩
 b9:=fun l h1 b=>C_ h.right.wt h.n1 a h.val l h1 b
theorem Fx (k n:Nat) (A0:Option Addr) (c0:Nat) (E:List S83) (a:Option Addr) (c2:Nat) (d:List Int) (n' g:Int) (h:List S83) (w:World) (i:Kd.C aW w A0 E.length E) (j:E.length<=c0) (p:Kd.C (Kd.int .i64) w a d.length d) (q:d.length<=c2)
  (s:fL.f k n E [d]=some 0) (b:dX n 0 E d) (u:cD n E=0) (v:fk.f k n E=some (n',h,0)) (x:fj.f k n' h=some (g,0)) (K:T.e7 n (ai E) g):
  Calls Tryz.prog 41 #[.agg #[.int .i64 n,.slice A0 E.length c0],.slice a d.length c2] w fun e w'=>∃r,e= .returned (.tuple #[.int .i64 r,.int .i64 0])/\Rk n (ai E) d r/\Below w.heap.size w w':=by
 have hu:=Tryz.underlying24;have L:=zA s;have M:=zA v;have N:=zA x;have y:=zA p;have z:=zA q;have O:=zA (Fw b u K);have P:Aside0 (pI n d):=⟨b.dl,b.d⟩;have Q:=zA b.dl;clear s v x p q b u;have B:=bs w (.cells #[.int .i64 n,.slice A0 E.length c0] 24);have l:=rX (w.alloc (.cells #[.int .i64 n,.slice A0 E.length c0] 24)) 26 (Kd.bz y.out _) z.out;rw[show (w.alloc (.cells #[.int .i64 n,.slice A0 E.length c0] 24)).heap.size=w.heap.size+1 from by simp] at l;go_enter Tryz.func41,Tryz.ntmps41
 go_wp2_with fail
 refine(fL.calls k n A0 c0 E (some ⟨w.heap.size+1,0,none⟩) 1 [d] 0 _ (Kd.bz (Kd.bz i _) _) j l (aI 1) L.out).mono ?_;rintro e w1 ⟨rfl,hb⟩;have D:=zA (aM (ay B (.cells #[.slice a d.length c2] 26)) hb);have m:=zA (a7 (au (au (ao w.heap.size w) (.cells #[.int .i64 n,.slice A0 E.length c0] 24)) (.cells #[.slice a d.length c2] 26)) hb);have Z:w1.cell? ⟨w.heap.size,0,none⟩=some (.int .i64 n):=(aj D.out 0).trans rfl;have y1:w1.cell? ⟨w.heap.size,1,none⟩=some (.slice A0 E.length c0):=(aj D.out 1).trans rfl;clear hb l B;go_wp2_with fail
 refine(Ft (kc n (ai E) g) k n A0 c0 E n' g h w1 (Kd.aq i m.out) j M.out N.out).mono ?_;rintro e w2 ⟨R,F,rfl,hF,G,S,ab,H⟩;have o:=zA (a7 m.out H);have U:=zA hF;have V:=zA G;have I:w.heap.size<=F:=by have:=m.out.size;omega
 clear hF G H;go_wp2_with fail
 have W:=Q.out;subst W;refine(xo d.length A0 c0 E g R F w i j O.out I S ((fe d d.length).toNat+1) d a c2 w2 P.out (by omega) o.out U.out V.out (Kd.aq y.out o.out) z.out).mono ?_;rintro e w3 ⟨r,rfl,J, -,hk⟩;have X:=zA J;have Y:=zA (o.out.trans (hk.1.mono I));clear J hk;go_wp2;go_ret2;exact⟨r,rfl,X.out,Y.out⟩
theorem eJ.calls (k:Nat) (j:Int) (l:Option Addr) (m:Nat) (b:List (S83)) (o:Option Addr) (c1:Nat) (l1:List Int) (s:Int) (u:Int) (w:World) (v:Kd.C aW w l b.length b) (x:b.length<=m) (y:Kd.C (Kd.int .i64) w o l1.length l1) (z:l1.length<=c1) (h:eJ.f k j b l1=some (s,u)):
  Calls Tryz.prog 41 #[.agg #[.int .i64 j,.slice l b.length m],.slice o l1.length c1] w fun e w'=>e= .returned (.tuple #[.int .i64 s,.int .i64 u])/\Below w.heap.size w w':=by
 unfold eJ.f at h;obtain⟨e,he,a⟩:=Option.bind_eq_some_iff.1 h;clear h;by_cases q:e=0
 ·subst q
  rw[if_pos rfl] at a;by_cases i:gR j b 0 l1=true
  ·rw[if_pos i] at a
   obtain⟨⟨n',E,F⟩,G,a⟩:=Option.bind_eq_some_iff.1 a;have H:cD j b=0:=by
    unfold gR at i;rw[Bool.and_eq_true,decide_eq_true_eq] at i;exact i.1.2.2.2.2.2.1
   obtain⟨n,I,rfl,L,hO⟩:=po i;obtain rfl:I=0:=by omega
   simp only at a;by_cases B:F=0
   ·subst B
    rw[if_pos rfl] at a;obtain⟨⟨g,e2⟩,J,a⟩:=Option.bind_eq_some_iff.1 a;simp only at a;by_cases D:e2=0
    ·subst D
     rw[if_pos rfl] at a;by_cases p:T.sN (T.can (n:Int).toNat (ai b)) (n:Int).toNat=2*g-2
     ·rw[if_pos p] at a
      simp only[Option.some.injEq,Prod.mk.injEq,aV] at a;obtain⟨rfl,rfl⟩:=a;rw[aV] at p;refine(Fx k n l m b o c1 l1 n' g E w v x y z he hO H G J p).mono ?_;rintro e w' ⟨r,rfl,K,hb⟩;rw[xr hO.n1 K];exact⟨rfl,hb⟩
     ·rw[if_neg p] at a;cases a
    ·rw[if_neg D] at a;cases a
   ·rw[if_neg B] at a;cases a
  ·rw[if_neg i] at a;cases a
 ·rw[if_neg q] at a
  simp only[Option.some.injEq,Prod.mk.injEq] at a;obtain⟨rfl,rfl⟩:=a;exact Fu k j l m b o c1 l1 e w v x y z he q
end
end Go.Proofs.YtffdiakgjakngaaGreat.P


