/- Orients answers true whatever the input (text 4 of 7): own walks and plain laws; no conditions. -/
import Derived.AtR
import Derived.BigQuiet
import Derived.BigRegion
import Derived.BigRegionIn
import Derived.Deep.QuietTactic
import Derived.Deep.RegionHeld3
import Derived.Deep.RegionLaw
import Derived.Laws.CopyOwn
import Derived.Lib.SliceRun
import Derived.RegionTactic
import Derived.Sort.QuietIn
import Derived.Test.YtffdiakgjakngaaGreatOrients3
namespace Go.Proofs.YtffdiakgjakngaaGreat.P
open Go.RowKit Go.Proofs.YtffdiakgjakngaaGreatW.PrintWords Go.Proofs.YtffdiakgjakngaaGreatW.PrintLast Go.Proofs.YtffdiakgjakngaaGreatW.PrintMore
set_option linter.unusedVariables false
set_option linter.unusedSimpArgs false
set_option maxHeartbeats 8000000
set_option maxRecDepth 100000
section
attribute [local go_sem] Oper.semAt_some
theorem EU (k n:Nat) (A0:Option Addr) (c0:Nat) (E:List S83) (q:Nat) (l:List Int) (w:World) (aO:Kd.C aM w A0 E.length E) (aP:E.length<=c0) (hf:gy.f k n E q=some (l,0)) (aS:(dZ n E q).length<=16384):
  Calls Tryz.prog 114 #[.agg #[.int .i64 n,.slice A0 E.length c0],.int .i64 q] w fun e w'=>∃v,e= .returned (.tuple #[v,.int .i64 0])/\(Kd.slice 3 (Kd.int .i64)).R 26 w' w.heap.size (fun _=>True) v (dZ n E q)/\Below w.heap.size w w':=by
 have hu:=Tryz.underlying24;obtain⟨hr,hm,an, -⟩:=wR hf;obtain⟨_,⟨_,hn⟩,_,cb,cc⟩:=lM hr;have a0:n<=12:=by omega
 have cd:=zA (fun c (hc:jl n q c)=>EE hr an hc);have ce:Aside0 (∀(p:List Int) (x Q:Nat),b9 n (af E) q (p++(x:Int)::List.replicate Q 0)=true->p.length+1+Q=n->p.length≠q->x+1<py):=⟨fun p x Q h hp cf=>by
  have h1:=r7 an a0 (v:=p.length) (by omega) cf h;have hx:rd (p++(x:Int)::List.replicate Q 0) p.length=x:=by simp[rd,aW]
  rw[hx] at h1;show x+1<1000
  omega⟩
 have ch:=zA aS;have Hf:=zA hf;have m:=zA (nO w (.cells #[.int .i64 n,.slice A0 E.length c0] 24) (.cells #[.slice none 0 0] 33) (.cells #[.int .i64 0] 30));have cj:(((w.alloc (.cells #[.int .i64 n,.slice A0 E.length c0] 24)).alloc (.cells #[.slice none 0 0] 33)).alloc (.cells #[.int .i64 0] 30)).cell? ⟨w.heap.size,0,none⟩=some (.int .i64 n):=(ah m.out.1 0).trans rfl;have ck:(((w.alloc (.cells #[.int .i64 n,.slice A0 E.length c0] 24)).alloc (.cells #[.slice none 0 0] 33)).alloc (.cells #[.int .i64 0] 30)).cell? ⟨w.heap.size,1,none⟩=some (.slice A0 E.length c0):=(ah m.out.1 1).trans rfl;clear hf hr hm an aS cb cc hn;refine(callsIn_wide (n:=10)).1 ?_;refine callsIn_of_wp_marks Tryz.func114 rfl trivial ?_ rfl;simp only[Tryz.ntmps114,List.size_toArray,List.length_cons,List.length_nil,Nat.reduceAdd,Nat.reduceSub,Array.replicate_succ,Array.replicate_zero,List.push_toArray,List.append_toArray,List.nil_append,List.cons_append];gi_wp2_with (first|(refine⟨trivial,?_⟩;gi_at_call 173;refine(callsIn_wide.2 (gy.calls k n A0 c0 E q l 0 _ (Kd.bC (Kd.bC (Kd.bC aO _) _) _) aP Hf.out)).mono ?_;rintro e w1 ⟨v,rfl,cl,hb⟩;have HB:=zA ((ai (ai (ai (aj w.heap.size w) _) _) _).trans (hb.mono (by simp;omega)));have X0:=zA (az m.out.1 hb);have z:=zA (az m.out.2.1 hb);have L:=zA (az m.out.2.2 hb);have y0:(w1.alloc (.cells #[.slice none 0 0] 33)).cell? ⟨w.heap.size,0,none⟩=some (.int .i64 n):=(ah (aq X0.out _) 0).trans rfl;have y1:(w1.alloc (.cells #[.slice none 0 0] 33)).cell? ⟨w.heap.size,1,none⟩=some (.slice A0 E.length c0):=(ah (aq X0.out _) 1).trans rfl;clear cl hb)|(refine⟨trivial,?_⟩;gi_at_call 174;refine(callsIn_wide.2 (EP n A0 c0 E q _)).mono ?_;rintro e w3 ⟨rfl,rfl⟩))
 have cq:w.heap.size+1+1<w1.heap.size:=ay L.out;have cs:=HB.out.size;obtain⟨S,a2⟩:∃o:Obj,o= .cells #[.int .i64 n,.slice A0 E.length c0] 24:=⟨_,rfl⟩;obtain⟨T,a3⟩:∃o:Obj,o= .cells #[.int .i64 q] 3:=⟨_,rfl⟩;obtain⟨U,a4⟩:∃o:Obj,o= .cells #[.slice none 0 0] 33:=⟨_,rfl⟩;obtain⟨Z0,Z1,Z2⟩:=nO w1 U S T;have M:=zA (Z0.trans (by rw[a4]:_=some (.cells #[.slice none 0 0] 33 (0,0))));have V:=zA (Z1.trans (by rw[a2]:_=some (.cells #[.int .i64 n,.slice A0 E.length c0] 24 (0,0))));have X:=zA (Z2.trans (by rw[a3]:_=some (.cells #[.int .i64 q] 3 (0,0))));have Y:=zA (ai (ai (ai HB.out U) S) T);have be:=zA (aq (aq (aq z.out U) S) T);have bf:=zA (aq (aq (aq L.out U) S) T);clear Z0 Z1 Z2;subst a2 a3 a4;clear y0 y1 cj ck X0 z L HB m;generalize (((w1.alloc (.cells #[.slice none 0 0] 33)).alloc (.cells #[.int .i64 n,.slice A0 E.length c0] 24)).alloc (.cells #[.int .i64 q] 3))=a at M V X Y be bf⊢;have c2:=ay M.out;have c3:=ay V.out;have c4:=ay X.out;generalize c5:w1.heap.size+1+1=qx at X c4⊢;generalize c6:w1.heap.size+1=gx at V c3 c5⊢;generalize w1.heap.size=bo at M cq cs c2 c6⊢;have d9:=Y.out.size;refine gU (σ:=Unit) (α:=List Int×Value) (F:=Fence.wide) (n:=10) rfl (by decide) (gf:=199) (lb:=#[.pointer (some ⟨gx,0,none⟩),.pointer (some ⟨qx,0,none⟩)]) rfl trivial (enters_of Tryz.func199 (by kernel_rfl) rfl)
  (fun o=>EG (w0:=w) (B:=py) (K:=k+20) (n:=n) (A0:=A0) (c0:=c0) (E:=E) (q:=q) (gx:=gx) (qx:=qx) (calm:=b9 n (af E) q) _ (a.heap.size+2) (by simp) a0 aO aP cd.out ce.out (by decide) (by decide) ch.out (aq (aq V.out _) _) (aq (aq X.out _) _) (ai (ai Y.out _) _)) (fun _=>rfl)
  (fun _=>True) ?dH ?st ?ar
  (fun _ pre W=>a.heap.size+2<=W.heap.size/\∃v,W.heap[bo]? =some (.cells #[v] 33 (0,0))/\W.heap[w.heap.size+1]? =some (.cells #[.slice none 0 0] 33 (0,0))/\W.heap[w.heap.size+1+1]? =some (.cells #[.int .i64 0] 30 (0,0))/\(Kd.slice 3 (Kd.int .i64)).R 26 W w.heap.size (fun k=>¬(k=gx\/k=qx\/a.heap.size+2<=k/\k<a.heap.size+2+4)) v (pre.map Prod.fst)/\Below w.heap.size w W) (fun _ _ _ _=>False)
  ?is (fun _ _ _ _ _ _ h _=>h) ?ib (fun _ _ _ _ _ h _=>h) ?kt ?h0 ?a1 ?assign ?body ?done (fun _ _ _ _ _ _ _ h=>h.elim)
 case assign=>
  intro l x W K hK;gi_wp2;exact hK
 case dH=>
  intro o s W1 h;exact⟨trivial,by rw[h];exact b8.refl _ _⟩
 case st=>intro s A B _ h k o h1 H g _;exact(h.block k (Array.getElem?_eq_some_iff.1 g).1 (fun e=>by injection e;omega)).trans g
 case ar=>intro s x A B _ h k o h1 H g _;exact(h.1.block k (Array.getElem?_eq_some_iff.1 g).1 (fun e=>by injection e;omega)).trans g
 case is=>
  rintro s pre A B _ ⟨N,v,h1,H,g,h4,Z⟩ I;exact⟨Nat.le_trans N I.size,v,(I.block bo (ay h1) (fun e=>by injection e;omega)).trans h1,(I.block _ (ay H) (fun e=>by injection e;omega)).trans H,(I.block _ (ay g) (fun e=>by injection e;omega)).trans g,Kd.iB h4 I (fun k hk e=>hk (.inr (.inr (by injection e;omega)))),iY Z _ Z.size I (fun k e=>by injection e;omega)⟩
 case ib=>
  rintro s pre A B ⟨N,v,h1,H,g,h4,Z⟩ hb;exact⟨by rw[hb.size];exact N,v,hb.cells h1,hb.cells H,hb.cells g,cQ h4 hb,Z.trans (hb.below w.heap.size (by omega))⟩
 case kt=>
  intro s A B C D aa bg bi;refine⟨fun aT=>((aa.below w.heap.size (by omega)).trans (bg.1 (by rw[aa.size];exact aT))).trans (bi.below w.heap.size (by omega)),fun k hk aT=>?_⟩;have bk:k≠a.heap.size+1:=by rcases hk with rfl|rfl|hk<;>omega
  exact(bi.heap k bk).trans ((bg.2 k hk (by rw[aa.size];exact aT)).trans (aa.heap k bk))
 case h0=>
  rintro o s W1 rfl;exact⟨by simp,_,aq (aq M.out _) _,aq (aq be.out _) _,aq (aq bf.out _) _,Kd.df _ _ _ _ _,ai (ai Y.out _) _⟩
 case body=>
  rintro l s pre ⟨xl,xv⟩ O W1 W _ ⟨N,v,i1,i2,i3,i4,i5⟩ ⟨G,ab,eb⟩ bn b;simp only at ab;obtain⟨Ax,cx,rfl⟩:=Kd.bh ab;have ed:O.heap.size<=W.heap.size:=by have:=b.size;have:=G.size;omega
  have r:=zA (b.cells ((G.block bo (ay i1) (fun e=>by injection e;omega)).trans i1));have y:=zA (b.cells ((G.block _ (ay i2) (fun e=>by injection e;omega)).trans i2));have b3:=zA (b.cells ((G.block _ (ay i3) (fun e=>by injection e;omega)).trans i3));have b4:=zA (cQ (Kd.iB i4 G (fun k hk e=>hk (.inr (.inr (by injection e;omega))))) b);have b5:=zA ((iY i5 _ i5.size G (fun k e=>by injection e;omega)).trans (b.below w.heap.size (by omega)));have bx:=zA (Kd.lq (Kd.bc (Kd.a_ (ok':=fun k=>O.heap.size<=k) (Kd.dJ (cQ ab b)) (fun k hk=>hk.2.1)) i5.size));have bq:∀k,v.ownBlock=some k->k<O.heap.size:=fun k hk=>Kd.a8 i4 k hk
  have bv:=zA bq;have dd:=zA (Kd.f_ i4);clear i1 i2 i3 i4 i5 G ab b bq;obtain⟨Ar,cr,rfl⟩:=Kd.bh b4.out;have b0:(pre.map Prod.fst).length=pre.length:=by simp
  rw[b0] at r b4 bv dd;have hc:=dc r.out;have hf:=bE r.out 0;have eg:(((pre.length:Nat):Int)==16384)=false:=by simp;omega
  have LN:Aside0 (((pre.map Prod.fst).length+1)*24<=140737488355328):=⟨by rw[b0];omega⟩;have dl:Aside0 (∀k,O.heap.size<=k->¬(k=gx\/k=qx\/a.heap.size+2<=k/\k<a.heap.size+2+4)/\some k≠(Value.slice Ar pre.length cr).ownBlock):=⟨fun k hk=>⟨by omega,fun e=>by have:=bv.out k e.symm;omega⟩⟩;have ds:Aside0 (∀k,W.heap.size<=k->¬(k=gx\/k=qx\/a.heap.size+2<=k/\k<a.heap.size+2+4)):=⟨fun k hk=>by omega⟩;gi_wp2_with (gi_at_builtin;go_loud (refine kB (Kd.slice 3 (Kd.int .i64)) (w0:=w) w.heap.size rfl (.tmp 26) (.tmp 28) 33 26 (.slice none 0 0) 24 rfl Tryz.underlying33 o7 rfl (by decide) (by omega) (.slice Ar pre.length cr) (pre.map Prod.fst) xl [.slice Ax xl.length cx] (fun k=>¬(k=gx\/k=qx\/a.heap.size+2<=k/\k<a.heap.size+2+4)) (fun k=>O.heap.size<=k) rfl rfl bx.out dl.out ds.out b4.out b5.out b5.out.size LN.out ?_;intro v1 ek aF hb P dv;obtain⟨A1,c1,rfl⟩:=Kd.bh aF;have z:=zA ((P.block bo (ay r.out) (Kd.dm b4.out r.out (by decide))).trans r.out);have L:=zA ((P.block _ (ay y.out) (Kd.dm b4.out y.out (by decide))).trans y.out);have J:=zA ((P.block _ (ay b3.out) (Kd.dm b4.out b3.out (by decide))).trans b3.out);have el:=dc z.out;have em:=bE z.out 0;have dx:=zA aF;have d0:=zA hb;have ag:=zA P;clear aF hb P dv))
  refine⟨(nz b4.out ag.out).trans (eU _ _ (ay M.out)),⟨fun aT=>Below.setCell ((aj w.heap.size W).grown ag.out aT (Kd.dK b4.out)) (by show w.heap.size<=bo;omega) _,fun k hk d1=>?_⟩,by have:=ag.out.size;simp;omega,.slice A1 (pre.length+1) c1,by simpa using bV z.out 0 (.slice A1 (pre.length+1) c1),aG L.out (by show w.heap.size+1≠bo;omega) _,aG J.out (by show w.heap.size+1+1≠bo;omega) _,?_,eK d0.out (by show w.heap.size<=bo;omega)⟩
  ·have d2:k≠bo:=by rcases hk with rfl|rfl|hk<;>omega
   rw[Below.heap_setCell _ _ _ _ d2];exact ag.out.block k d1 (fun e=>(b4.out.1 k e.symm) hk)
  ·have h:=Kd.fg dx.out z.out (by decide) 0 (.slice A1 (pre.length+1) c1)
   simpa using h
 case done=>
  rintro s xs W W' _ b6 ⟨N,v,i1,i2,i3,i4,i5⟩ b b_;obtain⟨i,j,hv⟩:=Kd.bh i4;rw[List.length_map] at hv;subst hv;have r:=zA (b.cells i1);have y:=zA (b.cells i2);have b3:=zA (b.cells i3);have b4:=zA (cQ i4 b);have b5:=zA (i5.trans (b.below w.heap.size (by omega)));have d3:=zA b_;have m:=zA (show xs.map Prod.fst=dZ n E q from b6);clear i1 i2 i3 i4 i5 b_ b6 b;have hc:=dc r.out;have q1:W'.cell? ⟨w.heap.size+1,0,none⟩=some (.slice none 0 0):=(ah y.out 0).trans rfl;have q2:W'.frozen? ⟨w.heap.size+1,0,none⟩=false:=bE y.out 0;have J:=zA (aG (p:=⟨w.heap.size+1,0,none⟩) b3.out (by show w.heap.size+1+1≠w.heap.size+1;omega) (.slice i xs.length j));have q3:(W'.setCell ⟨w.heap.size+1,0,none⟩ (.slice i xs.length j)).cell? ⟨w.heap.size+1+1,0,none⟩=some (.int .i64 0):=(ah J.out 0).trans rfl;have q4:=bE J.out 0;have Y1:=zA (aG (p:=⟨w.heap.size+1+1,0,none⟩) (bV y.out 0 (.slice i xs.length j)) (by show w.heap.size+1≠w.heap.size+1+1;omega) (.int .i64 0));have Y2:=zA (bV J.out 0 (.int .i64 0));have bn:w.heap.size+1≠a.heap.size:=by omega
  have d6:w.heap.size+1+1≠a.heap.size:=by omega
  have Y3:=zA (show ((W'.setCell ⟨w.heap.size+1,0,none⟩ (.slice i xs.length j)).setCell ⟨w.heap.size+1+1,0,none⟩ (.int .i64 0)).heap[a.heap.size]? =some (.deferred (some [])) from by rw[Below.heap_setCell _ _ _ _ (fun e=>d6 e.symm),Below.heap_setCell _ _ _ _ (fun e=>bn e.symm)];exact d3.out);have Y4:=zA (Kd.fg (Kd.fg b4.out y.out (by decide) 0 (.slice i xs.length j)) J.out (by decide) 0 (.int .i64 0));have Y5:=zA ((b5.out.setCell (p:=⟨w.heap.size+1,0,none⟩) (by show w.heap.size<=w.heap.size+1;omega) (.slice i xs.length j)).setCell (p:=⟨w.heap.size+1+1,0,none⟩) (by show w.heap.size<=w.heap.size+1+1;omega) (.int .i64 0));gi_wp2_with fail
  have ak:Bk a.heap.size ((W'.setCell ⟨w.heap.size+1,0,none⟩ (.slice i xs.length j)).setCell ⟨w.heap.size+1+1,0,none⟩ (.int .i64 0)) (((W'.setCell ⟨w.heap.size+1,0,none⟩ (.slice i xs.length j)).setCell ⟨w.heap.size+1+1,0,none⟩ (.int .i64 0)).putObj a.heap.size (.deferred none)):=⟨_,_,Y3.out,rfl,rfl⟩;refine iG (D:=a.heap.size) rfl Y3.out (r8 (p:=4) (u:=5) rfl _ _ ⟨w.heap.size+1,0,none⟩ ⟨w.heap.size+1+1,0,none⟩ (.slice i xs.length j) (.int .i64 0) rfl rfl Tryz.underlying33 Tryz.underlying30 rfl rfl ((ah (ak.cells Y1.out) 0).trans (by simp)) ((ah (ak.cells Y2.out) 0).trans (by simp))) ⟨_,rfl,?_,Y5.out.trans (ak.below w.heap.size (by omega))⟩;rw[<-m.out];exact Kd.a_ (cQ Y4.out ak) (fun _ _=>trivial)
theorem eY.calls (k:Nat) (b:Int) (g:Option Addr) (i:Nat) (a:List (S83)) (j:Int) (r:List (List Int)) (s:Int) (w:World) (u:Kd.C aM w g a.length a) (x:a.length<=i) (h:eY.f k b a j=some (r,s)):
  Calls Tryz.prog 114 #[.agg #[.int .i64 b,.slice g a.length i],.int .i64 j] w fun e w'=>∃y:Value,e= .returned (.tuple #[y,.int .i64 s])/\Kd.N (Kd.slice 3 (Kd.int .i64)) 26 w' w.heap.size (fun z=>(w.heap.size<=z)) y r/\Below w.heap.size w w':=by
 unfold eY.f at h;obtain⟨⟨l,t⟩,o,H⟩:=Option.bind_eq_some_iff.mp h;simp only at H;by_cases p:t=0
 ·subst p
  rw[if_pos rfl] at H;by_cases m:(dZ b.toNat a j.toNat).length<=16384
  ·rw[if_pos m] at H
   simp only[Option.some.injEq,Prod.mk.injEq] at H;obtain⟨rfl,rfl⟩:=H;obtain⟨B, -, -, -⟩:=wR o;obtain⟨_,⟨D,G⟩,_,E,_⟩:=lM B;obtain⟨n,rfl⟩:=Int.eq_ofNat_of_zero_le D;obtain⟨q,rfl⟩:=Int.eq_ofNat_of_zero_le E;rw[aD,aD] at m⊢;refine(EU k n g i a q l w u x o m).mono ?_;rintro e w' ⟨v,rfl,h1,F⟩;exact⟨v,rfl,Kd.l8 (Kd.a_ (Kd.dJ h1) (fun k hk=>hk.2.1)),F⟩
  ·rw[if_neg m] at H;cases H
 ·rw[if_neg p] at H
  simp only[Option.some.injEq,Prod.mk.injEq] at H;obtain⟨rfl,rfl⟩:=H;refine(ET k b g i a j l t w u x o p).mono ?_;rintro e w' ⟨rfl,hb⟩;exact⟨_,rfl,Kd.l8 (Kd.df _ _ _ _ _),hb⟩
end
def pz (qx gx:Nat) (row:Option Nat) (a:World) (l:List (List Int)) (del:List Int->Bool):Prop:=
 ∀(W':World) (A0:Option Addr) (c0:Nat) (x:List Int),a.grownBy W' row->x∈l->x.length<=c0->Kd.C (Kd.int .i64) W' A0 x.length x->
  Calls Tryz.prog 116 #[.slice A0 x.length c0,.pointer (some ⟨qx,0,none⟩),.pointer (some ⟨gx,0,none⟩)] W' fun e w'=>e= .returned (.bool (del x))/\Below W'.heap.size W' w'
theorem wS {l:List (List Int)} {i:Nat} (h:i<l.length):aZ l i∈l:=by
 have e:aZ l i=l[i]:=by simp[aZ,aW,bp h]
 rw[e];exact List.getElem_mem h
theorem wT (qx gx base:Nat) (row:Option Nat) (A:Option Addr) (cap:Nat) (ok:Nat->Prop) (l:List (List Int)) (del:List Int->Bool) (o W:World) (p:Kd.N (Kd.slice 3 (Kd.int .i64)) 26 W base ok (.slice A l.length cap) l) (q:o.grownBy W row) (s:pz qx gx row o l del):
  Calls Tryz.prog 175 #[.slice A l.length cap,.func (.func 116) #[] #[.pointer (some ⟨qx,0,none⟩),.pointer (some ⟨gx,0,none⟩)]] W fun e w'=>∃r:Int,e= .returned (.int .i64 r)/\((r= -1/\∀j:Nat,j<l.length->del (aZ l j)=false)\/∃i:Nat,r=i/\i<l.length/\del (aZ l i)=true/\∀j:Nat,j<i->del (aZ l j)=false)/\Below W.heap.size W w':=by
 have x:=zA p;have y:=zA q;have z:=zA s;clear p q s;go_enter Tryz.func175,Tryz.ntmps175
 go_wp2;go_loopw [8] (fun i wr=>∃k:Nat,k<=l.length/\i= .int .i64 k/\Aside0 (∀j:Nat,j<k->del (aZ l j)=false)/\Aside0 (Below W.heap.size W wr)) (fun i _=>l.length- (intOf i).toNat)
 case atStart=>exact⟨0,by omega,rfl,⟨fun j B=>by omega⟩,⟨aj _ _⟩⟩
 case round=>
  obtain⟨k,hk,rfl,h,a⟩:=hrel;by_cases u:k<l.length
  ·obtain⟨-,C,hC⟩:=Kd.jc (Kd.fh x.out a.out)
   obtain⟨ad,D,cc,rfl,E,v,w⟩:=gT hC k (by omega) (by omega);rw[aD] at E;have g:=zA (z.out wr D cc (aZ l k) (y.out.trans (iZ a.out _)) (wS u) v w);have F:=zA (rfl:aZ l k=aZ l k);have G:(0:Int)<=(k:Int):=by omega
   have H:(k:Int)<(l.length:Int):=by omega
   have I:l.length<=9223372036854775807:=Kd.mS hC;clear hC w v C;cases hb:del (aZ l k) with
   |true=>
    rw[hb] at g;have m:=zA hb;clear hb;go_wp2_with (go_at_call 116;refine g.out.mono ?_;rintro e w1 ⟨rfl,b⟩;have n:=zA b;clear b)
    go_ret;exact⟨k,rfl,.inr ⟨k,rfl,u,m.out,h.out⟩,a.out.trans (n.out.mono a.out.size)⟩
   |false=>
    rw[hb] at g;have m:=zA hb;clear hb;go_wp2_with (go_at_call 116;refine g.out.mono ?_;rintro e w1 ⟨rfl,b⟩;have n:=zA b;clear b)
    go_roundw
    case rel=>exact⟨k+1,by omega,by go_num,⟨fun j B=>by
     by_cases e:j=k
     ·subst e;exact m.out
     ·exact h.out j (by omega)⟩,⟨a.out.trans (n.out.mono a.out.size)⟩⟩
    case measure=>exact(show l.length- ((k:Int)+1).toNat<l.length- ((k:Int)).toNat by omega)
  ·obtain rfl:k=l.length:=by omega
   go_wp2;go_ret;exact⟨-1,rfl,.inl ⟨rfl,h.out⟩,a.out⟩
theorem EV {ys:List (List Int)} {i m:Nat} (h:i≠m) (x:List Int):aZ (ys.set i x) m=aZ ys m:=by
 simp[aZ,aW,List.getElem?_set,h]
theorem EW (i:Nat):((i:Int)== -1)=false:=by
 rw[beq_eq_false_iff_ne];omega
theorem wU {l:List (List Int)} {j:Nat} (h:j<l.length):l.take (j+1)=l.take j++[aZ l j]:=by
 rw[List.take_succ_eq_append_getElem h];simp[aZ,aW,bp h]
theorem EX {ys:List (List Int)} {i:Nat} (h:i<ys.length) (x:List Int):(ys.set i x).take (i+1)=ys.take i++[x]:=by
 rw[List.take_succ_eq_append_getElem (by simpa using h)];simp[List.take_set_of_le]
theorem EY {l:List (List Int)} {del:List Int->Bool} {j:Nat} (h:j<l.length):(l.take (j+1)).filter (fun x=> !del x)=(l.take j).filter (fun x=> !del x)++(if del (aZ l j) then[] else[aZ l j]):=by
 rw[wU h,List.filter_append];cases hd:del (aZ l j)<;>simp[hd]
theorem EZ (w:World):(zeroValue 26).run Tryz.prog w= .ok (.slice none 0 0) w:=by kernel_rfl
theorem E4 {l:List (List Int)} {del:List Int->Bool} {i:Nat} (h1:del (aZ l i)=true) (b:∀j:Nat,j<i->del (aZ l j)=false) (h:i<l.length):l.take i=(l.take (i+1)).filter fun x=> !del x:=by
 rw[wU h,List.filter_append];rw[show[aZ l i].filter (fun x=> !del x)=[] by simp[h1],List.append_nil];symm
 rw[List.filter_eq_self];intro x g;obtain⟨j,k,rfl⟩:=List.mem_take_iff_getElem.1 g;have a:=b j (by omega);have e:aZ l j=l[j]'(by omega):=by simp[aZ,aW,bp (by omega:j<l.length)]
 rw[e] at a;simp[a]
theorem pA {W:World} {base g0 n cap:Nat} {ok:Nat->Prop} {ys:List (List Int)} {x:List Int} {v:Value} {i:Nat} (h:Kd.N (Kd.slice 3 (Kd.int .i64)) 26 W base ok (.slice (some ⟨g0,0,none⟩) n cap) ys) (l:Kd.FK (Kd.slice 3 (Kd.int .i64)) W (fun k=>ok k/\k≠g0) x [v]) (hi:i<n):
  (∃u,W.cell? ⟨g0,i,none⟩=some u)/\W.frozen? ⟨g0,i,none⟩=false/\Kd.N (Kd.slice 3 (Kd.int .i64)) 26 (W.setCell ⟨g0,i,none⟩ v) base ok (.slice (some ⟨g0,0,none⟩) n cap) (ys.set i x)/\W.grownBy (W.setCell ⟨g0,i,none⟩ v) (some g0):=by
 obtain⟨c,b, -,a,m⟩:=Kd.qG h [] (i:Int) (by omega) (by omega);obtain⟨u,rfl⟩:∃u,c=[u]:=List.length_eq_one_iff.1 b;have e:=Kd.BW h (i:Int) (by omega) (by omega) (c:=[u]) (seg:=[v]) (j:=0) (x':=x) (okp:=fun k=>ok k/\k≠g0) b a (by simp[Kd.slice]) (by simpa using l) (fun k hk=>hk);rw[aD] at a e;have o:=a 0 u rfl;have g:=m 0;rw[aD] at g;refine⟨⟨u,by simpa [Kd.slice] using o⟩,by simpa [Kd.slice] using g,?_⟩;simpa [Kd.slice,World.setCells] using e
theorem E5 {base g0 n cap:Nat} {ok:Nat->Prop}:∀(m i:Nat) (W:World) (ys:List (List Int)),i+m=n->ys.length=n->Kd.N (Kd.slice 3 (Kd.int .i64)) 26 W base ok (.slice (some ⟨g0,0,none⟩) n cap) ys->
  ∃zs:List (List Int),zs.length=n/\zs.take i=ys.take i/\Kd.N (Kd.slice 3 (Kd.int .i64)) 26 (W.setCells g0 i (List.replicate m (.slice none 0 0))) base ok (.slice (some ⟨g0,0,none⟩) n cap) zs/\W.grownBy (W.setCells g0 i (List.replicate m (.slice none 0 0))) (some g0):=by
 intro m;induction m with
 |zero=>intro i W ys _ a h;exact⟨ys,a,rfl,h,⟨rfl,rfl,rfl,aI _,fun _ _ _=>rfl⟩⟩
 |succ m e=>
  intro i W ys hi a h;obtain⟨-, -,h1,g⟩:=pA (x:=[]) (v:=.slice none 0 0) (i:=i) h (fun W' _=>⟨none,0,rfl,aI _,Kd.oD _ _⟩) (by omega);obtain⟨zs,z1,z2,z3,z4⟩:=e (i+1) _ (ys.set i []) (by omega) (by rw[List.length_set];exact a) h1;refine⟨zs,z1,?_,by rw[List.replicate_succ,World.setCells];exact z3,by rw[List.replicate_succ,World.setCells];exact g.trans z4⟩;have b:=congrArg (List.take i) z2;rw[List.take_take,List.take_take,show min i (i+1)=i by omega] at b;rw[b,List.take_set_of_le (aI i)]
theorem E6 (qx gx base g0 cap:Nat) (ok:Nat->Prop) (l:List (List Int)) (del:List Int->Bool) (y W:World) (g:Kd.N (Kd.slice 3 (Kd.int .i64)) 26 W base ok (.slice (some ⟨g0,0,none⟩) l.length cap) l) (z:y.grownBy W (some g0)) (B:pz qx gx (some g0) y l del) (hex:∃j:Nat,j<l.length/\del (aZ l j)=true):
  Calls Tryz.prog 115 #[.slice (some ⟨g0,0,none⟩) l.length cap,.func (.func 116) #[] #[.pointer (some ⟨qx,0,none⟩),.pointer (some ⟨gx,0,none⟩)]] W fun e w'=>∃m:Nat,e= .returned (.slice (some ⟨g0,0,none⟩) m cap)/\m=(l.filter fun x=> !del x).length/\Kd.N (Kd.slice 3 (Kd.int .i64)) 26 w' base ok (.slice (some ⟨g0,0,none⟩) m cap) (l.filter fun x=> !del x)/\W.grownBy w' (some g0):=by
 have HN:=zA g;have an:=zA z;have HD:=zA B;have ap:=zA hex;have J:Aside0 (Calls Tryz.prog 175 #[.slice (some ⟨g0,0,none⟩) l.length cap,.func (.func 116) #[] #[.pointer (some ⟨qx,0,none⟩),.pointer (some ⟨gx,0,none⟩)]] W fun e w'=>∃i:Nat,e= .returned (.int .i64 i)/\i<l.length/\del (aZ l i)=true/\(∀j:Nat,j<i->del (aZ l j)=false)/\Below W.heap.size W w'):=⟨(wT qx gx base (some g0) (some ⟨g0,0,none⟩) cap ok l del y W g z B).mono (by
  rintro e w' ⟨r,rfl,h|⟨i,rfl,h1,h2,h3⟩,hb⟩
  ·obtain⟨j,k,K⟩:=hex
   rw[h.2 j k] at K;cases K
  ·exact⟨i,rfl,h1,h2,h3,hb⟩)⟩
 obtain⟨-,a1,L⟩:=Kd.jc g;have a2:l.length<=9223372036854775807:=Kd.mS L;clear g z B hex L;go_enter Tryz.func115,Tryz.ntmps115
 go_wp2_with (go_at_call 175;refine J.out.mono ?_;rintro e w1 ⟨i0,rfl,M,O,Q,hb⟩;have R:=zA O;have S:=zA Q;have C:=zA hb;have aB:=EW i0;clear O Q hb)
 have T:=zA (E4 R.out S.out M);have U:=zA (iZ C.out (some g0));have V:=zA (Kd.fh HN.out C.out);clear J R S C ap aB;go_loopw [5,6] (fun ii D wr=>∃(i j:Nat) (ys:List (List Int)),i<j/\j<=l.length/\ii= .int .i64 i/\D= .int .i64 j/\Aside0 (ys.length=l.length)/\Aside0 (ys.take i=(l.take j).filter fun x=> !del x)/\Aside0 (∀m:Nat,j<=m->aZ ys m=aZ l m)/\Aside0 (Kd.N (Kd.slice 3 (Kd.int .i64)) 26 wr base ok (.slice (some ⟨g0,0,none⟩) l.length cap) ys)/\Aside0 (W.grownBy wr (some g0))) (fun _ D _=>l.length- (intOf D).toNat)
 case atStart=>exact⟨i0,i0+1,l,by omega,by omega,rfl,by go_num,⟨rfl⟩,T,⟨fun _ _=>rfl⟩,V,U⟩
 case round=>
  clear T U V;obtain⟨i,j,ys,a3,k,rfl,rfl,n,E,F,b,o⟩:=hrel;by_cases X:j<l.length
  ·obtain⟨c,G,p,H, -⟩:=Kd.qG b.out [] (j:Int) (by omega) (by omega)
   rw[show ys.getD (j:Int).toNat []=aZ l j from F.out j (aI _)] at p;rw[aD] at H;obtain⟨Y,Z,rfl,hle,hF⟩:=Kd.kz p;have a4:wr.cell? ⟨g0,j,none⟩=some (.slice Y (aZ l j).length Z):=by have h:=H 0 _ rfl;simpa [Kd.slice] using h
   have q:=zA (HD.out wr Y Z (aZ l j) (an.out.trans o.out) (wS X) hle (Kd.jb hF));have aF:=zA p;have a5:(0:Int)<=(j:Int):=by omega
   have a9:(j:Int)<(l.length:Int):=by omega
   have bb:(0:Int)<=(i:Int):=by omega
   have aL:(i:Int)<(l.length:Int):=by omega
   have s:=zA (show (l.take (j+1)).filter (fun x=> !del x)=(l.take j).filter (fun x=> !del x)++(if del (aZ l j) then[] else[aZ l j]) from EY X);have be:=zA (show ∃x,x=aZ l j from⟨_,rfl⟩);clear G p H hle hF;cases hb:del (aZ l j) with
   |true=>
    rw[hb] at q s;clear hb;go_wp2_with (go_at_call 116;refine q.out.mono ?_;rintro e w2 ⟨rfl,a⟩;have w:=zA a;clear a)
    go_roundw
    case rel=>exact⟨i,j+1,ys,by omega,by omega,rfl,by go_num,n,⟨by rw[s.out,E.out];simp⟩,⟨fun m hm=>F.out m (by omega)⟩,⟨Kd.fh b.out w.out⟩,⟨o.out.trans (iZ w.out _)⟩⟩
    case measure=>exact(show l.length- ((j:Int)+1).toNat<l.length- ((j:Int)).toNat by omega)
   |false=>
    rw[hb] at q s;clear hb;go_wp2_with (go_at_call 116;refine q.out.mono ?_;rintro e w2 ⟨rfl,a⟩;obtain⟨q1,q2,I⟩:=pA (Kd.fh b.out a) (Kd.BH aF.out a) (show i<l.length by omega);have w:=zA a;have aO:=zA I.1;have aP:=zA I.2;obtain⟨q0,q1⟩:=q1;clear I a)
    go_roundw
    case rel=>exact⟨i+1,j+1,ys.set i (aZ l j),by omega,by omega,by go_num,by go_num,⟨by rw[List.length_set];exact n.out⟩,⟨by rw[EX (by rw[n.out];omega),s.out,E.out];simp⟩,⟨fun m hm=>by rw[EV (by omega)];exact F.out m (by omega)⟩,aO,⟨(o.out.trans (iZ w.out _)).trans aP.out⟩⟩
    case measure=>exact(show l.length- ((j:Int)+1).toNat<l.length- ((j:Int)).toNat by omega)
  ·obtain rfl:j=l.length:=by omega
   have G:=Lib.run_clear_slice (P:=Tryz.prog) wr 33 26 0 (.slice none 0 0) Tryz.underlying33 EZ rfl rfl g0 i (l.length-i) (cap-i) (by omega) (fun j k=>by
    obtain⟨⟨u,hu⟩, -⟩:=pA (x:=[]) (v:=.slice none 0 0) (i:=i+j) b.out (fun W' _=>⟨none,0,rfl,aI _,Kd.oD _ _⟩) (by omega);rw[hu];rfl) (fun j k=>(pA (x:=[]) (v:=.slice none 0 0) (i:=i+j) b.out (fun W' _=>⟨none,0,rfl,aI _,Kd.oD _ _⟩) (by omega)).2.1)
   obtain⟨zs,z1,z2,z3,z4⟩:=E5 (l.length-i) i wr ys (by omega) n.out b.out;have ab:=zA z1;have aS:=zA z2;have ad:=zA z3;have ag:=zA z4;have M:(0:Int)<=(i:Int):=by omega
   have aL:(i:Int)<=(l.length:Int):=by omega
   have bg:(i:Int)<=(cap:Int):=by omega
   have bi:¬cap=i:=by omega
   clear z1 z2 z3 z4;generalize wr.setCells g0 i (List.replicate (l.length-i) (.slice none 0 0))=w9 at G ad ag;go_wp2;go_ret;have ak:(l.filter fun x=> !del x)=zs.take i:=by
    have h:=E.out;rw[List.take_length] at h;rw[<-h,aS.out]
   have a0:i=(l.filter fun x=> !del x).length:=by rw[ak,List.length_take,ab.out];omega
   refine⟨i,rfl,a0,?_,o.out.trans ag.out⟩;rw[ak];exact Kd.BU ad.out (by rw[ab.out];omega)
theorem filter_none {l:List (List Int)} {del:List Int->Bool} (h:∀j:Nat,j<l.length->del (aZ l j)=false):(l.filter fun x=> !del x)=l:=by
 rw[List.filter_eq_self];intro x g;obtain⟨j,a,rfl⟩:=List.mem_iff_getElem.1 g;have b:=h j a;have e:aZ l j=l[j]:=by simp[aZ,aW,bp a]
 rw[e] at b;simp[b]
theorem E7 (qx gx base:Nat) (row:Option Nat) (A:Option Addr) (cap:Nat) (ok:Nat->Prop) (l:List (List Int)) (del:List Int->Bool) (a W:World) (b:Kd.N (Kd.slice 3 (Kd.int .i64)) 26 W base ok (.slice A l.length cap) l) (g:a.grownBy W row) (k:pz qx gx row a l del) (hex:∀j:Nat,j<l.length->del (aZ l j)=false):
  Calls Tryz.prog 115 #[.slice A l.length cap,.func (.func 116) #[] #[.pointer (some ⟨qx,0,none⟩),.pointer (some ⟨gx,0,none⟩)]] W fun e w'=>e= .returned (.slice A l.length cap)/\Below W.heap.size W w':=by
 have n:Aside0 (Calls Tryz.prog 175 #[.slice A l.length cap,.func (.func 116) #[] #[.pointer (some ⟨qx,0,none⟩),.pointer (some ⟨gx,0,none⟩)]] W fun e w'=>e= .returned (.int .i64 (-1))/\Below W.heap.size W w'):=⟨(wT qx gx base row A cap ok l del a W b g k).mono (by
  rintro e w' ⟨r,rfl,⟨rfl,h⟩|⟨i,rfl,h1,m,p⟩,hb⟩
  ·exact⟨rfl,hb⟩
  ·rw[hex i h1] at m;cases m)⟩
 clear b g k hex;go_enter Tryz.func115,Tryz.ntmps115
 go_wp2_with (go_at_call 175;refine n.out.mono ?_;rintro e w1 ⟨rfl,hb⟩;have o:=zA hb;clear hb)
 go_ret;exact⟨rfl,o.out⟩
def cT.l0:Nat->Int->List Int->Int->Int->List (S83)->Option (List Int)
 |0,_,_,_,_,_=>none
 |k+1,x1,x2,x3,a,b=>(eV.f k a b x1 x2).bind fun e=>(if e=true then(if 0<=x3 then(if x3<(x2.length:Int) then(cT.l0 k x1 (x2.set (x3:Int).toNat (wrap64 ((rd x2 x3)+1))) x3 a b) else(none)) else(none)) else(if 0<=x3 then(if x3<(x2.length:Int) then(some (x2.set (x3:Int).toNat (wrap64 ((rd x2 x3)-1)))) else(none)) else(none)))
def cT.f (k:Nat) (b:Int) (e:List (S83)) (g:Int) (l2:List Int) (a3:Int):Option (List Int):=(fN.f l2).bind fun a=>(if 0<=a3 then(if a3<(a.length:Int) then(cT.l0 k g (a.set (a3:Int).toNat (wrap64 ((rd a a3)+1))) a3 b e) else(none)) else(none))
theorem cT.cE:∀k,(∀a b e g i,al (cT.l0 k a b e g i) (cT.l0 (k+1) a b e g i))
 |0=>fun _ _ _ _ _ r h=>by simp[cT.l0] at h
 |k+1=>by
  have j:=cT.cE k
  ·intro a b e g i
   unfold cT.l0;with_reducible repeat' first|exact j _ _ _ _ _|exact eV.mono _ _ _ _ _|exact al.refl _|exact al.none _|refine al.ite ?_ ?_|refine al.bind ?_ (fun _=>?_)
theorem cT.mono:∀a0 a a2 a3 a4 k,al (cT.f k a0 a a2 a3 a4) (cT.f (k+1) a0 a a2 a3 a4):=by
 intro a0 a a2 a3 a4 k;have b:=cT.cE k;unfold cT.f;with_reducible repeat' first|exact b _ _ _ _ _|exact eV.mono _ _ _ _ _|exact al.refl _|exact al.none _|refine al.ite ?_ ?_|refine al.bind ?_ (fun _=>?_)
theorem cT.calls (k:Nat) (m:Int) (u:Option Addr) (x:Nat) (j:List (S83)) (o:Int) (U:Option Addr) (c2:Nat) (l2:List Int) (a3:Int) (r:List Int) (w:World) (a2:Kd.C aM w u j.length j) (a4:j.length<=x) (a5:Kd.C (Kd.int .i64) w U l2.length l2) (a9:l2.length<=c2) (h:cT.f k m j o l2 a3=some r):
  Calls Tryz.prog 117 #[.agg #[.int .i64 m,.slice u j.length x],.int .i64 o,.slice U l2.length c2,.int .i64 a3] w fun e w'=>∃bb:Value,e= .returned (bb)/\Kd.R (Kd.int .i64) 3 w' w.heap.size (fun _=>True) bb r/\Below w.heap.size w w':=by
 have cq:=Tryz.underlying24;have be:=zA a2;have bf:=zA a4;clear a2 a4;have b3:=zA a5;have b4:=zA a9;clear a5 a9;have i:=zA (aj w.heap.size w);unfold cT.f at h;have H:=h;clear h;obtain⟨n,A5,H⟩:=zo H;by_cases D:0<=a3
 ·rw[if_pos D] at H
  have b6:=aE D;clear D;by_cases E:a3<(n.length:Int)
  ·rw[if_pos E] at H
   have b_:=aE E;clear E;obtain⟨V,W⟩:∃B:List Int,B=(n.set (a3:Int).toNat (wrap64 ((rd n a3)+1))):=⟨_,rfl⟩;replace H:(cT.l0 k o V a3 m j)=some r:=zh W H;have b':=zA W;clear W;have F:=zA H;clear H;go_enter Tryz.func117,Tryz.ntmps117
   go_wp2_with (first|((with_reducible refine aU (N:=4) rfl ?_);refine zX 4 #[.int .i64 m,.slice u j.length x] 24 ?_;intro ca hg w9 bg hb;have g:=zA (bg);have cs:=zG i hg;have cv:=zG i hg;replace i:=zS i hb;clear hb bg hg)|((with_reducible refine aR (f:=57) rfl ?_);refine zL (some 10) Tryz.func57 #[.slice U l2.length c2] ?_;(with_reducible refine(fN.calls _ _ l2 n _ ?au ?aw A5.out).mono ?_);(case au=>exact Kd.ax b3.out zB);(case aw=>exact b4.out);rintro e bi ⟨cx,rfl,bk,hb⟩;refine⟨_,rfl,?_⟩;have q:=zA (Kd.bc bk (bO zB));replace g:=zb g hb;replace i:=zS i hb;(try clear hb);(try clear bk);obtain⟨c0,y,cb⟩:=Kd.bh q.out;subst cb;have G:0<=(a3:Int):=aA ‹_›;have I:a3<(n.length:Int):=aA ‹_›;obtain⟨c1,cc,bl⟩:=Kd.cI (Kd.aN q.out).2.2 a3 G I;cases cc;replace G:=eq_true G;replace I:=eq_true I;have J:0<=(a3:Int):=aA ‹_›;have K:(a3:Int)<((n.length:Int):Int):=aA ‹_›;obtain⟨l,c3,bn,bo,cd,c4,bq⟩:=Kd.gC q.out (by omega);(first|cases bn|(injection bn with L ce cf;(first|subst L|(injection L with L;subst L));subst cf;clear ce));have X:=zA bo;have c5:=zA bq;clear bo cd bq;(first|simp only[add_plain] at bl|skip);obtain⟨cg,c8⟩:=Kd.bP 0 q.out (a3:Int) J K;replace J:=eq_true J;replace K:=eq_true K;obtain⟨c9,c'⟩:=Kd.bP 0 q.out (a3:Int) (aA ‹_›) (aA ‹_›);have Y:=Kd.dg q.out (a3:Int) (wrap64 ((rd n a3)+1)))|((with_reducible refine kr (t:=3) (p:=16) rfl ?_);refine kp (t:=3) (p:=16) (v:=?KM) (w1:=(bi.setCell ⟨l,(a3:Int).toNat,none⟩ (.int .i64 (wrap64 ((rd n a3)+1))))) ?hg ?ho ?hn ?hr ?_;(case ho=>rfl);(case hg=>rfl);(case hn=>rfl);(case hr=>first|(go_simp;done)|(go_simp;rfl));intro Z hw;have hg:bi.grownBy Z (some l):=(by rw[hw];exact Y.2);have s:Kd.R (Kd.int .i64) 3 Z w.heap.size (fun _=>True) (.slice (some ⟨l,0,none⟩) n.length y) V:=(by rw[hw,b'.out];exact Y.1);clear Y;replace g:=zA (di (zK g) hg (Kd.dm q.out g.out (by decide)));replace q:=zA (s);replace i:=zA ((by rw[hw];exact eK (i.out) X.out:Below w.heap.size w Z));clear hg hw s))
   go_loopg [] k (fun kq w'=>∃(b:List Int),Aside0 (cT.l0 kq o b a3 m j=some r)/\Aside0 (kq<=k)/\Aside0 (Kd.R (Kd.int .i64) 3 w' w.heap.size (fun _=>True) (.slice (some ⟨l,0,none⟩) n.length y) b)/\Aside0 (w'.heap[ca]? =some (.cells #[.int .i64 m,(.slice u j.length x)] 24 (0,0)))/\Aside0 (Below w.heap.size w w'))
   case atStart=>exact⟨(V),F,⟨aI _⟩,⟨zR q⟩,⟨zK g⟩,⟨zB⟩⟩
   case round=>
    clear F;clear b6 b_ J K bl cg G I;obtain⟨b,HA,bw,a,g,i⟩:=hrel;have z:=(Kd.aN a.out).1;rw[z] at a
    (try simp only[z])
    (try simp only[z] at g)
    cases gk with
    |zero=>exact absurd HA.out (by simp[cT.l0])
    |succ M=>
     have H:=HA.out;clear HA;simp only[cT.l0] at H;obtain⟨ch,bx,H⟩:=zo H;by_cases O:ch=true
     ·subst O
      replace H:=zi H;by_cases P:0<=a3
      ·rw[if_pos P] at H
       have dd:=aE P;clear P;by_cases Q:a3<(b.length:Int)
       ·rw[if_pos Q] at H
        have dk:=aE Q;clear Q;obtain⟨ab,ad⟩:∃B:List Int,B=(b.set (a3:Int).toNat (wrap64 ((rd b a3)+1))):=⟨_,rfl⟩;replace H:(cT.l0 M o ab a3 m j)=some r:=zh ad H;have ci:=zA ad;clear ad;have F:=zA H;clear H;obtain⟨dl,ds,dv,dx⟩:=aC g;go_wp2_with (first|((with_reducible refine aR (f:=176) rfl ?_);refine zL (some 20) Tryz.func176 #[.agg #[.int .i64 m,.slice u j.length x],.int .i64 o,.slice (some ⟨l,0,none⟩) b.length y] ?_;(with_reducible refine(eV.calls M m _ _ j o _ _ b true _ ?au ?aw ?bs ?br bx.out).mono ?_);(case au=>exact Kd.ax be.out zB);(case aw=>exact bf.out);(case bs=>exact zC (Kd.aN a.out).2.2);(case br=>exact(Kd.aN a.out).2.1);rintro e b0 ⟨rfl,hb⟩;refine⟨_,rfl,?_⟩;replace a:=bF a hb;replace g:=zb g hb;replace i:=zS i hb;(try clear hb);have ag:0<=(a3:Int):=aA ‹_›;have ak:a3<(b.length:Int):=aA ‹_›;obtain⟨cj,ck,am⟩:=Kd.cI (Kd.aN a.out).2.2 a3 ag ak;obtain rfl:(⟨l,0,none⟩:Addr)=cj:=(by injection ck);(first|simp only[add_plain] at am|simp only[ja] at am|simp only[Addr.add,Nat.zero_add] at am|skip);replace ag:=eq_true ag;replace ak:=eq_true ak;have an:0<=(a3:Int):=aA ‹_›;have ao:(a3:Int)<((b.length:Int):Int):=aA ‹_›;obtain⟨d0,d1⟩:=Kd.bP 0 a.out (a3:Int) an ao;replace an:=eq_true an;replace ao:=eq_true ao;obtain⟨d2,d3⟩:=Kd.bP 0 a.out (a3:Int) (aA ‹_›) (aA ‹_›);have ap:=Kd.dg a.out (a3:Int) (wrap64 ((rd b a3)+1)))|((with_reducible refine kr (t:=3) (p:=26) rfl ?_);refine kp (t:=3) (p:=26) (v:=?MT) (w1:=(b0.setCell ⟨l,(a3:Int).toNat,none⟩ (.int .i64 (wrap64 ((rd b a3)+1))))) ?hg ?ho ?hn ?hr ?_;(case ho=>rfl);(case hg=>rfl);(case hn=>rfl);(case hr=>first|(go_simp;done)|(go_simp;rfl));intro ar hw;have hg:b0.grownBy ar (some l):=(by rw[hw];exact ap.2);have s:Kd.R (Kd.int .i64) 3 ar w.heap.size (fun _=>True) (.slice (some ⟨l,0,none⟩) b.length y) ab:=(by rw[hw,ci.out];exact ap.1);clear ap;replace g:=zA (di (zK g) hg (Kd.dm a.out g.out (by decide)));replace a:=zA (s);replace i:=zA ((by rw[hw];exact eK (i.out) X.out:Below w.heap.size w ar));clear hg hw s))
        (try simp only[<-z])
        go_roundg M
        case measure=>have:=bw.out;omega
        case rel=>exact⟨(ab),F,⟨by have:=bw.out;omega⟩,⟨by(try simp only[z]);(with_reducible repeat(first|apply Kd.aK|apply Kd.bJ|apply Kd.bA));exact a.out⟩,⟨by(try simp only[z]);exact zK g⟩,⟨zB⟩⟩
       ·rw[if_neg Q] at H
        exact absurd H (by simp)
      ·rw[if_neg P] at H
       exact absurd H (by simp)
     ·replace O:=Bool.eq_false_iff.mpr O
      subst O;replace H:=zj H;by_cases S:0<=a3
      ·rw[if_pos S] at H
       have d4:=aE S;clear S;by_cases T:a3<(b.length:Int)
       ·rw[if_pos T] at H
        have d5:=aE T;clear T;obtain⟨b1,av⟩:∃B:List Int,B=(b.set (a3:Int).toNat (wrap64 ((rd b a3)-1))):=⟨_,rfl⟩;replace H:(some b1)=some r:=zh av H;have cl:=zA av;clear av;obtain rfl:=aX H;obtain⟨d6,d7,d8,d9⟩:=aC g;go_wp2_with (first|((with_reducible refine aR (f:=176) rfl ?_);refine zL (some 20) Tryz.func176 #[.agg #[.int .i64 m,.slice u j.length x],.int .i64 o,.slice (some ⟨l,0,none⟩) b.length y] ?_;(with_reducible refine(eV.calls M m _ _ j o _ _ b false _ ?au ?aw ?bs ?br bx.out).mono ?_);(case au=>exact Kd.ax be.out zB);(case aw=>exact bf.out);(case bs=>exact zC (Kd.aN a.out).2.2);(case br=>exact(Kd.aN a.out).2.1);rintro e b2 ⟨rfl,hb⟩;refine⟨_,rfl,?_⟩;replace a:=bF a hb;replace g:=zb g hb;replace i:=zS i hb;(try clear hb);have aB:0<=(a3:Int):=aA ‹_›;have aF:a3<(b.length:Int):=aA ‹_›;obtain⟨co,cp,aL⟩:=Kd.cI (Kd.aN a.out).2.2 a3 aB aF;obtain rfl:(⟨l,0,none⟩:Addr)=co:=(by injection cp);(first|simp only[add_plain] at aL|simp only[ja] at aL|simp only[Addr.add,Nat.zero_add] at aL|skip);replace aB:=eq_true aB;replace aF:=eq_true aF;have aO:0<=(a3:Int):=aA ‹_›;have aP:(a3:Int)<((b.length:Int):Int):=aA ‹_›;obtain⟨ea,eb⟩:=Kd.bP 0 a.out (a3:Int) aO aP;replace aO:=eq_true aO;replace aP:=eq_true aP;obtain⟨ed,eg⟩:=Kd.bP 0 a.out (a3:Int) (aA ‹_›) (aA ‹_›);have aS:=Kd.dg a.out (a3:Int) (wrap64 ((rd b a3)-1)))|((with_reducible refine kr (t:=3) (p:=32) rfl ?_);refine kp (t:=3) (p:=32) (v:=?MS) (w1:=(b2.setCell ⟨l,(a3:Int).toNat,none⟩ (.int .i64 (wrap64 ((rd b a3)-1))))) ?hg ?ho ?hn ?hr ?_;(case ho=>rfl);(case hg=>rfl);(case hn=>rfl);(case hr=>first|(go_simp;done)|(go_simp;rfl));intro a0 hw;have hg:b2.grownBy a0 (some l):=(by rw[hw];exact aS.2);have s:Kd.R (Kd.int .i64) 3 a0 w.heap.size (fun _=>True) (.slice (some ⟨l,0,none⟩) b.length y) b1:=(by rw[hw,cl.out];exact aS.1);clear aS;replace g:=zA (di (zK g) hg (Kd.dm a.out g.out (by decide)));replace a:=zA (s);replace i:=zA ((by rw[hw];exact eK (i.out) X.out:Below w.heap.size w a0));clear hg hw s))
        go_ret;exact⟨_,zE,by(with_reducible repeat(first|apply Kd.aK|apply Kd.bJ|apply Kd.bA));exact a.out,zB⟩
       ·rw[if_neg T] at H
        exact absurd H (by simp)
      ·rw[if_neg S] at H
       exact absurd H (by simp)
  ·rw[if_neg E] at H
   exact absurd H (by simp)
 ·rw[if_neg D] at H
  exact absurd H (by simp)
def eZ (x:List Int) (q:Int) (r:Nat->List Int) (k:Nat):Bool:=(List.range k).any fun v=>decide ((v:Int)≠q)&&decide (rd x v<rd (r v) v)
theorem pB (x:List Int) (q:Int) (r:Nat->List Int) (k:Nat):eZ x q r (k+1)=(eZ x q r k||(decide ((k:Int)≠q)&&decide (rd x k<rd (r k) k))):=by simp[eZ,List.range_succ,List.any_append]
theorem E8 {x:List Int} {q:Int} {r:Nat->List Int} {k n:Nat} (hk:k<n) (a:(k:Int)≠q) (h:rd x k<rd (r k) k):eZ x q r n=true:=by
 unfold eZ;rw[List.any_eq_true];exact⟨k,List.mem_range.2 hk,by simp[a,h]⟩
theorem E9 (K:Nat) (N:Int) (A0:Option Addr) (c0:Nat) (E:List S83) (q:Int) (qx gx:Nat) (A:Option Addr) (c:Nat) (x:List Int) (r:Nat->List Int) (W:World) (w:Kd.C aM W A0 E.length E) (J:E.length<=c0) (y:W.heap[gx]? =some (.cells #[.int .i64 N,.slice A0 E.length c0] 24 (0,0))) (z:W.heap[qx]? =some (.cells #[.int .i64 q] 3 (0,0)))
  (l:Kd.C (Kd.int .i64) W A x.length x) (L:x.length<=c) (B:∀v:Nat,v<x.length->(v:Int)≠q->cT.f K N E q x v=some (r v)/\v<(r v).length):
  Calls Tryz.prog 116 #[.slice A x.length c,.pointer (some ⟨qx,0,none⟩),.pointer (some ⟨gx,0,none⟩)] W fun e w'=>e= .returned (.bool (eZ x q r x.length))/\Below W.heap.size W w':=by
 have M:=zA w;have D:=zA y;have O:=zA z;have P:=zA l;have Q:=zA B;have Z:x.length<=9223372036854775807:=Kd.mS l;clear w y z l B;go_enter Tryz.func116,Tryz.ntmps116
 go_wp2;go_loopw [10] (fun i wr=>∃k:Nat,k<=x.length/\i= .int .i64 k/\Aside0 (eZ x q r k=false)/\Aside0 (Below W.heap.size W wr)) (fun i _=>x.length- (intOf i).toNat)
 case atStart=>exact⟨0,by omega,rfl,⟨rfl⟩,⟨aj _ _⟩⟩
 case round=>
  obtain⟨k,hk,rfl,m,a⟩:=hrel;have aa:wr.cell? ⟨qx,0,none⟩=some (.int .i64 q):=(ah (az O.out a.out) 0).trans rfl;have ab:wr.cell? ⟨gx,0,none⟩=some (.int .i64 N):=(ah (az D.out a.out) 0).trans rfl;have ag:wr.cell? ⟨gx,1,none⟩=some (.slice A0 E.length c0):=(ah (az D.out a.out) 1).trans rfl;have hu:=Tryz.underlying24;by_cases F:k<x.length
  ·have hC:=Kd.ax P.out a.out
   have R:=zA hC;obtain⟨ad,rfl,S⟩:=Kd.cI hC k (by omega) (by omega);rw[aD] at S;have ak:(0:Int)<=(k:Int):=by omega
   have am:(k:Int)<(x.length:Int):=by omega
   clear hC;by_cases b:(k:Int)=q
   ·have o:=zA (show eZ x q r (k+1)=false from by rw[pB,m.out];simp[b])
    have T:((k:Int)==q)=true:=by simpa using b
    have G:=zA b;clear b;go_wp2;go_roundw
    case rel=>exact⟨k+1,by omega,by go_num,o,a⟩
    case measure=>exact(show x.length- ((k:Int)+1).toNat<x.length- ((k:Int)).toNat by omega)
   ·have T:((k:Int)==q)=false:=by simpa using b
    obtain⟨H,an⟩:=Q.out k F b;have I:=zA (cT.calls K N A0 c0 E q (some ad) c x k (r k) wr (Kd.ax M.out a.out) J R.out L H);have G:=zA b;clear b H;by_cases p:rd x k<rd (r k) k
    ·have U:=zA (E8 (n:=x.length) F G.out p)
     have V:(k:Int)<((r k).length:Int):=by omega
     go_wp2_with (go_at_call 117;refine I.out.mono ?_;rintro e w1 ⟨v1,rfl,g,h⟩;obtain⟨X,cr,rfl⟩:=Kd.bh g;obtain⟨-, -,j⟩:=Kd.aN g;obtain⟨Y,rfl,s⟩:=Kd.cI j k (by omega) (by omega);rw[aD] at s;have u:=zA h;clear g h j)
     go_ret;exact⟨by rw[U.out];rfl,a.out.trans (u.out.mono a.out.size)⟩
    ·have o:=zA (show eZ x q r (k+1)=false from by rw[pB,m.out];simp[p])
     have ao:¬rd (r k) k>rd x k:=p;have V:(k:Int)<((r k).length:Int):=by omega
     go_wp2_with (go_at_call 117;refine I.out.mono ?_;rintro e w1 ⟨v1,rfl,g,h⟩;obtain⟨X,cr,rfl⟩:=Kd.bh g;obtain⟨-, -,j⟩:=Kd.aN g;obtain⟨Y,rfl,s⟩:=Kd.cI j k (by omega) (by omega);rw[aD] at s;have u:=zA h;clear g h j)
     go_roundw
     case rel=>exact⟨k+1,by omega,by go_num,o,⟨a.out.trans (u.out.mono a.out.size)⟩⟩
     case measure=>exact(show x.length- ((k:Int)+1).toNat<x.length- ((k:Int)).toNat by omega)
  ·obtain rfl:k=x.length:=by omega
   go_wp2;go_ret;exact⟨by rw[m.out];rfl,a.out⟩
theorem E_ (k:Nat) (N:Int) (A0:Option Addr) (c0:Nat) (E:List S83) (q:Int) (l:List (List Int)) (t:Int) (w:World) (g:Kd.C aM w A0 E.length E) (h:E.length<=c0) (hf:eY.f k N E q=some (l,t)) (a:t≠0):
  Calls Tryz.prog 56 #[.agg #[.int .i64 N,.slice A0 E.length c0],.int .i64 q] w fun e w'=>e= .returned (.tuple #[.slice none 0 0,.int .i64 t])/\Below w.heap.size w w':=by
 have hu:=Tryz.underlying24;have i:=zA hf;have n:(t != 0)=true:=by simpa using a
 have b:=zA (aq (a6 w (.cells #[.int .i64 N,.slice A0 E.length c0] 24)) (.cells #[.int .i64 q] 3));have o:((w.alloc (.cells #[.int .i64 N,.slice A0 E.length c0] 24)).alloc (.cells #[.int .i64 q] 3)).cell? ⟨w.heap.size,0,none⟩=some (.int .i64 N):=(ah b.out 0).trans rfl;have p:((w.alloc (.cells #[.int .i64 N,.slice A0 E.length c0] 24)).alloc (.cells #[.int .i64 q] 3)).cell? ⟨w.heap.size,1,none⟩=some (.slice A0 E.length c0):=(ah b.out 1).trans rfl;clear hf a;go_enter Tryz.func56,Tryz.ntmps56
 go_wp2_with (go_at_call 114;refine(eY.calls k N A0 c0 E q l t _ (Kd.bC (Kd.bC g _) _) h i.out).mono ?_;rintro e w1 ⟨v,rfl,j,hb⟩;have m:=zA (aQ (ai (ai (aj w.heap.size w) _) _) hb);clear j hb)
 go_ret2;exact⟨rfl,m.out⟩
theorem Fa (k K:Nat) (N:Int) (A0:Option Addr) (c0:Nat) (E:List S83) (q:Int) (l:List (List Int)) (r:List Int->Nat->List Int) (w:World) (F:Kd.C aM w A0 E.length E) (G:E.length<=c0) (hf:eY.f k N E q=some (l,0)) (H:∀x∈l,∀v:Nat,v<x.length->(v:Int)≠q->cT.f K N E q x v=some (r x v)/\v<(r x v).length):
  Calls Tryz.prog 56 #[.agg #[.int .i64 N,.slice A0 E.length c0],.int .i64 q] w fun e w'=>∃v,e= .returned (.tuple #[v,.int .i64 0])/\Kd.N (Kd.slice 3 (Kd.int .i64)) 26 w' w.heap.size (fun R=>(w.heap.size<=R)) v (l.filter fun x=> !eZ x q (r x) x.length)/\Below w.heap.size w w':=by
 have hu:=Tryz.underlying24;have S:=zA hf;have i:=zA (aq (a6 w (.cells #[.int .i64 N,.slice A0 E.length c0] 24)) (.cells #[.int .i64 q] 3));have T:=zA (heap_alloc2_new w (.cells #[.int .i64 N,.slice A0 E.length c0] 24) (.cells #[.int .i64 q] 3));have ag:((w.alloc (.cells #[.int .i64 N,.slice A0 E.length c0] 24)).alloc (.cells #[.int .i64 q] 3)).cell? ⟨w.heap.size,0,none⟩=some (.int .i64 N):=(ah i.out 0).trans rfl;have ak:((w.alloc (.cells #[.int .i64 N,.slice A0 E.length c0] 24)).alloc (.cells #[.int .i64 q] 3)).cell? ⟨w.heap.size,1,none⟩=some (.slice A0 E.length c0):=(ah i.out 1).trans rfl;have U:=zA H;clear hf H;go_enter Tryz.func56,Tryz.ntmps56
 go_wp2_with (go_at_call 114;refine(eY.calls k N A0 c0 E q l 0 _ (Kd.bC (Kd.bC F _) _) G S.out).mono ?_;rintro e w1 ⟨v,rfl,n,hb⟩;obtain⟨I,o,rfl⟩:=Kd.m_ n;have a:=zA (aQ (ai (ai (aj w.heap.size w) _) _) hb);have J:=zA (az i.out hb);have L:=zA (az T.out hb);have b:=zA n;clear n hb)
 have p:w.heap.size+2=((w.alloc (.cells #[.int .i64 N,.slice A0 E.length c0] 24)).alloc (.cells #[.int .i64 q] 3)).heap.size:=by simp
 rw[<-p] at b;have M:Aside0 (∀row,(∀g,row=some g->w.heap.size+2<=g)->pz (w.heap.size+1) w.heap.size row w1 l (fun x=>eZ x q (r x) x.length)):=⟨fun row s W' A c x u V W X=>by
  have Y:Below w.heap.size w W':=iY a.out row a.out.size u (fun g e=>by have:=s g e;omega);refine E9 K N A0 c0 E q (w.heap.size+1) w.heap.size A c x (r x) W' (Kd.ax F Y) G ((u.block _ (ay J.out) (fun e=>by have:=s _ e.symm;omega)).trans J.out) ((u.block _ (ay L.out) (fun e=>by have:=s _ e.symm;omega)).trans L.out) X W (U.out x V)⟩
 have aT:=a.out.size;by_cases hex:∃j:Nat,j<l.length/\(fun x=>eZ x q (r x) x.length) (aZ l j)=true
 ·obtain⟨g0,cap,Z,am, -, -⟩:=Kd.BP b.out (by obtain⟨j,O,_⟩:=hex;omega)
  injection Z with aa an ab
  subst aa ab;refine(E6 (w.heap.size+1) w.heap.size (w.heap.size+2) g0 o (fun k=>w.heap.size+2<=k) l _ w1 w1 b.out ⟨rfl,rfl,rfl,aI _,fun _ _ _=>rfl⟩ (M.out (some g0) (fun g e=>by injection e with e;omega)) hex).mono ?_;rintro e w2 ⟨m,rfl,hm,P,Q⟩;have y:=zA (Kd.eT (Kd.mZ (base':=w.heap.size) P (by omega)) (ok':=fun k=>w.heap.size<=k) (fun k hk=>by omega));have z:=zA (iY a.out (some g0) a.out.size Q (fun k e=>by injection e with e;omega));clear hm P Q hex p;go_wp2;go_ret2;exact⟨_,rfl,y.out,z.out⟩
 ·have B:∀j:Nat,j<l.length->(fun x=>eZ x q (r x) x.length) (aZ l j)=false:=fun j O=>by
   cases h:(fun x=>eZ x q (r x) x.length) (aZ l j) with
   |false=>rfl
   |true=>exact absurd ⟨j,O,h⟩ hex
  have ad:=zA (filter_none (l:=l) (del:=fun x=>eZ x q (r x) x.length) B);refine(E7 (w.heap.size+1) w.heap.size (w.heap.size+2) none I o (fun k=>w.heap.size+2<=k) l _ w1 w1 b.out ⟨rfl,rfl,rfl,aI _,fun _ _ _=>rfl⟩ (M.out none (fun g e=>by cases e)) B).mono ?_;rintro e w2 ⟨rfl,D⟩;have y:=zA (Kd.fh (Kd.eT (Kd.mZ (base':=w.heap.size) b.out (by omega)) (ok':=fun k=>w.heap.size<=k) (fun k hk=>by omega)) D);have z:=zA (a.out.trans (D.mono a.out.size));clear D hex B p;go_wp2;go_ret2;exact⟨.slice I l.length o,rfl,by rw[ad.out];exact y.out,z.out⟩
def kN (k:Nat) (N:Int) (E:List S83) (q:Int) (l:List (List Int)):Bool:=l.all fun c=>(List.range c.length).all fun v=>decide ((v:Int)=q)||match cT.f k N E q c v with|some r=>decide (v<r.length)|none=>false
def gY (k:Nat) (N:Int) (E:List S83) (q:Int) (c:List Int) (v:Nat):List Int:=(cT.f k N E q c v).getD []
theorem wV {k:Nat} {N:Int} {E:List S83} {q:Int} {l:List (List Int)} (h:kN k N E q l=true):∀x∈l,∀v:Nat,v<x.length->(v:Int)≠q->cT.f k N E q x v=some (gY k N E q x v)/\v<(gY k N E q x v).length:=by
 intro x b v e g;have h1:=List.all_eq_true.1 (List.all_eq_true.1 h x b) v (List.mem_range.2 e);rw[ba g,Bool.false_or] at h1;unfold gY;cases a:cT.f k N E q x v with
 |none=>rw[a] at h1;cases h1
 |some r=>rw[a] at h1;exact⟨rfl,by simpa using h1⟩
def gN.f (k:Nat) (N:Int) (E:List S83) (q:Int):Option (List (List Int)×Int):=
 (eY.f k N E q).bind fun t=>if t.2=0 then(if kN k N E q t.1=true then some (t.1.filter fun x=> !eZ x q (gY k N E q x) x.length,0) else none) else some ([],t.2)
theorem wW {x:List Int} {q:Int} {r a:Nat->List Int}:∀k,(∀v:Nat,v<k->(v:Int)≠q->r v=a v)->eZ x q r k=eZ x q a k
 |0,_=>rfl
 |k+1,h=>by
  rw[pB,pB,wW k (fun v e=>h v (by omega))];by_cases b:(k:Int)=q
  ·simp[b]
  ·rw[h k (by omega) b]
theorem gN.mono:∀h i j k,al (gN.f k h i j) (gN.f (k+1) h i j):=by
 intro N E q k;unfold gN.f;refine al.bind (eY.mono _ _ _ _) (fun t=>?_);refine al.ite ?_ (al.refl _);intro r g;by_cases hk:kN k N E q t.1=true
 ·rw[if_pos hk] at g
  have l:=wV hk;have m:∀x∈t.1,∀v:Nat,v<x.length->(v:Int)≠q->cT.f (k+1) N E q x v=some (gY k N E q x v):=fun x e v a b=>cT.mono _ _ _ _ _ _ _ (l x e v a b).1
  have n:∀x∈t.1,∀v:Nat,v<x.length->(v:Int)≠q->gY k N E q x v=gY (k+1) N E q x v:=fun x e v a b=>by
   have h1:=m x e v a b;generalize gY k N E q x v=y at h1;unfold gY;rw[h1];rfl
  have o:kN (k+1) N E q t.1=true:=by
   refine List.all_eq_true.2 fun x e=>List.all_eq_true.2 fun v a=>?_
   have a:=List.mem_range.1 a;by_cases b:(v:Int)=q
   ·simp[b]
   ·rw[m x e v a b]
    simp[(l x e v a b).2]
  rw[if_pos o,<-g];congr 2
  refine List.filter_congr fun x e=>?_
  rw[wW x.length (fun v a b=>(n x e v a b).symm)]
 ·rw[if_neg hk] at g;cases g
theorem gN.calls (k:Nat) (b:Int) (i:Option Addr) (j:Nat) (a:List (S83)) (g:Int) (o:List (List Int)) (p:Int) (w:World) (q:Kd.C aM w i a.length a) (r:a.length<=j) (h:gN.f k b a g=some (o,p)):
  Calls Tryz.prog 56 #[.agg #[.int .i64 b,.slice i a.length j],.int .i64 g] w fun e w'=>∃s:Value,e= .returned (.tuple #[s,.int .i64 p])/\Kd.N (Kd.slice 3 (Kd.int .i64)) 26 w' w.heap.size (fun v=>(w.heap.size<=v)) s o/\Below w.heap.size w w':=by
 unfold gN.f at h;obtain⟨⟨l,t⟩,u,H⟩:=Option.bind_eq_some_iff.mp h;simp only at H;by_cases m:t=0
 ·subst m
  rw[if_pos rfl] at H;by_cases n:kN k b a g l=true
  ·rw[if_pos n] at H
   simp only[Option.some.injEq,Prod.mk.injEq] at H;obtain⟨rfl,rfl⟩:=H;exact Fa k k b i j a g l _ w q r u (wV n)
  ·rw[if_neg n] at H;cases H
 ·rw[if_neg m] at H
  simp only[Option.some.injEq,Prod.mk.injEq] at H;obtain⟨rfl,rfl⟩:=H;refine(E_ k b i j a g l t w q r u m).mono ?_;rintro e w' ⟨rfl,hb⟩;exact⟨_,rfl,Kd.iE _ _ _ _ _,hb⟩
theorem bt.wX {N:Int} {E:List S83} (h:bt N E) (a:E.length<=40):dh E=true:=by
 unfold dh;rw[aE a,Bool.true_and];refine List.all_eq_true.2 fun x b=>?_
 have:=h.ok x b;simp[bQ] at this⊢;omega
theorem wY {l:List Int} {i:Nat} (h:i<l.length):l.drop i=rd l i::l.drop (i+1):=by
 rw[List.drop_eq_getElem_cons h];simp[rd,aW,bp h]
def ke:Nat->Nat->Nat->List Int
 |0,_,_=>[]
 |m+1,i,d=>(if d%2=1 then[(i:Int)] else[])++ke m (i+1) (d/2)
def Fb (n:Nat):List (List Int):=(List.range (2 ^ n)).map (ke n 0)
def fT (E:List S83) (s:List Int) (v:Int):Nat->Int
 |0=>0
 |u+1=>fT E s v u+(if(u:Int)∈s then 0 else dr E v u)
theorem r9 {N:Int} {E:List S83} (h:bt N E) (s:List Int) (v:Int):∀u:Nat,0<=fT E s v u/\fT E s v u<=50*u
 |0=>by simp[fT]
 |u+1=>by
  have h1:=r9 h s v u;have a:=rM h v u;simp only[fT];split<;>omega
def nP (E:List S83) (n:Nat) (c s:List Int):Int->List Int->Bool
 |a,[]=>decide (a>0)
 |a,v::l=>if rd c v<fT E s v n then false else nP E n c s (a+fT E s v n) l
def r_ (E:List S83) (n:Nat) (q:Int) (c s:List Int):Bool:=decide (0<s.length)&& !decide (q∈s)&&nP E n c s 0 s
theorem pC:∀{m i d:Nat} {x:Int},x∈ke m i d↔∃j:Nat,j<m/\x=((i+j:Nat):Int)/\d.testBit j=true
 |0,i,d,x=>by simp[ke]
 |m+1,i,d,x=>by
  rw[ke,List.mem_append,pC (m:=m)];constructor
  ·rintro(h|⟨j,b,h1,a⟩)
   ·split at h
    ·rename_i h1
     simp at h;exact⟨0,by omega,by simpa using h,by rw[Nat.testBit_zero];simpa using h1⟩
    ·simp at h
   ·exact⟨j+1,by omega,by rw[h1];congr 1;omega,by rw[Nat.testBit_succ];exact a⟩
  ·rintro⟨j,b,h1,a⟩
   cases j with
   |zero=>
    left
    rw[Nat.testBit_zero] at a;rw[if_pos (by simpa using a)];simpa using h1
   |succ j=>exact .inr ⟨j,by omega,by rw[h1];congr 1;omega,by rw[Nat.testBit_succ] at a;exact a⟩
def pD (E:List S83) (n:Nat) (q:Int) (c:List Int):Bool:=(Fb n).all fun s=> !r_ E n q c s
theorem wZ (S:Nat->Bool):∀n,∃d,d<2 ^ n/\∀j,j<n->d.testBit j=S j
 |0=>⟨0,by simp,fun j a=>by omega⟩
 |n+1=>by
  obtain⟨d,hd,h⟩:=wZ (fun j=>S (j+1)) n;refine⟨(if S 0 then 1 else 0)+2*d,?_,fun j a=>?_⟩
  ·rw[Nat.pow_succ];split<;>omega
  ·cases j with
   |zero=>
    rw[Nat.testBit_zero];cases b:S 0<;>simp<;>omega
   |succ j=>
    rw[Nat.testBit_succ,show ((if S 0 then 1 else 0)+2*d)/2=d by split<;>omega];exact h j (by omega)
theorem sa {n:Nat} {E:List S83} (a:bt n E) (s:List Int) (v:Nat) (b:(v:Int)∈s):∀u,fT E s v u=db (af E) (fun u=> !decide ((u:Int)∈s)) v u
 |0=>rfl
 |u+1=>by
  rw[fT,db,sa a s v b u];congr 1
  by_cases h:(u:Int)∈s
  ·simp[h]
  ·have g:v≠u:=fun e=>by subst e;exact h b
   simp only[if_neg h,h,decide_false,Bool.not_false,if_true];exact(lK a v u g).symm
theorem sb (E:List S83) (n:Nat) (c s:List Int):∀(l:List Int) (a:Int),nP E n c s a l=true↔(∀v∈l,fT E s v n<=rd c v)/\0<a+(l.map fun v=>fT E s v n).sum
 |[],a=>by simp[nP]
 |v::l,a=>by
  rw[nP];by_cases h:rd c v<fT E s v n
  ·rw[if_pos h]
   simp;intro b;omega
  ·rw[if_neg h,sb E n c s l]
   simp only[List.mem_cons,forall_eq_or_imp,List.map_cons,List.sum_cons];constructor
   ·rintro⟨h1,b⟩;exact⟨⟨by omega,h1⟩,by omega⟩
   ·rintro⟨⟨_,h1⟩,b⟩;exact⟨h1,by omega⟩
theorem w_ {f:Int->Int}:∀{l:List Int},(∀v∈l,0<=f v)->(∃v∈l,0<f v)->0<(l.map f).sum
 |[],_,⟨v,a,_⟩=>by simp at a
 |x::l,b,⟨v,a,h1⟩=>by
  have g:=b x (List.mem_cons_self ..);have e:∀v∈l,0<=f v:=fun v a=>b v (List.mem_cons_of_mem _ a)
  have i:0<=(l.map f).sum:=by
   clear h1 a b g;induction l with
   |nil=>simp
   |cons y l h=>
    have:=h (fun v a=>e v (List.mem_cons_of_mem _ a));have:=e y (List.mem_cons_self ..);simp only[List.map_cons,List.sum_cons];omega
  simp only[List.map_cons,List.sum_cons];rcases List.mem_cons.1 a with rfl|a
  ·omega
  ·have:=w_ e ⟨v,a,h1⟩
   omega
theorem Fc {n q:Nat} {E:List S83} (l:bt n E) (hC:fC n E) (I:q<n) (c:List Int):pD E n q c=true↔kL n (af E) q (fun v=>rd c v):=by
 unfold pD;rw[List.all_eq_true];constructor
 ·intro h S hS B
  obtain⟨d,hd,hb⟩:=wZ S n;have m:∀v:Nat,v<n->((v:Int)∈ke n 0 d↔S v=true):=fun v g=>by
   rw[pC];constructor
   ·rintro⟨j,k,h1,i⟩
    rw[hb j k] at i;rw[show v=j by omega];exact i
   ·intro h1;exact⟨v,g,by simp,by rw[hb v g];exact h1⟩
  have h1:=h (ke n 0 d) (List.mem_map.2 ⟨d,List.mem_range.2 hd,rfl⟩);generalize C:ke n 0 d=s at h1 m;have D:∀v∈s,∃j:Nat,j<n/\v=(j:Int):=fun v g=>by
   rw[<-C] at g;obtain⟨j,k,i,_⟩:=pC.1 g;exact⟨j,k,by simpa using i⟩
  obtain⟨v0,o,J⟩:=hS;have r:0<s.length:=List.length_pos_of_mem ((m v0 o).2 J);have p:¬((q:Int)∈s):=fun i=>by rw[(m q I).1 i] at B;cases B
  have T:∀v:Nat,v<n->(v:Int)∈s->fT E s v n=db (af E) (fun u=> !S u) v n:=fun v g w=>by
   rw[sa l s v w n];refine wL v n fun u hu=>?_
   have:=m u hu;cases F:S u with
   |true=>simp[this.2 F]
   |false=>simp[show ¬((u:Int)∈s) from fun i=>by rw[this.1 i] at F;cases F]
  unfold r_ at h1;rw[aE r,ba p,Bool.true_and,Bool.not_false,Bool.true_and,Bool.not_eq_true'] at h1;have i:=mt (sb E n c s s 0).2 (by rw[h1];decide);by_cases G:∀v∈s,fT E s v n<=rd c v
  ·exfalso
   refine i ⟨G,?_⟩;rw[Int.zero_add];refine w_ (fun v g=>(r9 l s v n).1) ?_;obtain⟨x,K,y⟩:=hC S ⟨v0,o,J⟩ ⟨q,I,B⟩;have L:=wG l K;have U:=l.ok x K;simp[bQ] at U;have M:∀(a b:Nat),a<n->b<n->S a=true->S b=false->dr E a b>0->∃v∈s,0<fT E s v n:=fun a b V N W O ag=>by
    refine⟨a,(m a V).2 W,?_⟩;have X:¬((b:Int)∈s):=fun P=>by rw[(m b N).1 P] at O;cases O
    have key:∀u,b<u->0<fT E s a u:=fun u=>by
     induction u with
     |zero=>omega
     |succ u Y=>
      intro hu;have ak:=r9 l s a u;have am:=rM l a u;rw[fT];by_cases e:b=u
      ·subst e;rw[if_neg X];omega
      ·have:=Y (by omega)
       split<;>omega
    exact key n N
   have Q:((x.f0.toNat:Nat):Int)=x.f0:=by omega
   have R:((x.f1.toNat:Nat):Int)=x.f1:=by omega
   cases z:S x.f0.toNat with
   |true=>
    refine M x.f0.toNat x.f1.toNat (by omega) (by omega) z ?_ (by rw[Q,R];exact L);cases H:S x.f1.toNat with
    |false=>rfl
    |true=>rw[z,H] at y;exact absurd rfl y
   |false=>
    refine M x.f1.toNat x.f0.toNat (by omega) (by omega) ?_ z (by rw[Q,R,pw];exact L);cases H:S x.f1.toNat with
    |true=>rfl
    |false=>rw[z,H] at y;exact absurd rfl y
  ·simp only[Classical.not_forall] at G
   obtain⟨v,g,P⟩:=G;obtain⟨j,k,rfl⟩:=D v g;refine⟨j,k,(m j k).1 g,?_⟩;rw[<-T j k g];show rd c j<_
   omega
 ·intro h s C
  obtain⟨d,hd,rfl⟩:=List.mem_map.1 C;generalize Z:ke n 0 d=s;have D:∀v∈s,∃j:Nat,j<n/\v=(j:Int):=fun v g=>by
   rw[<-Z] at g;obtain⟨j,k,i,_⟩:=pC.1 g;exact⟨j,k,by simpa using i⟩
  unfold r_;by_cases r:0<s.length
  ·by_cases p:(q:Int)∈s
   ·simp[p]
   ·rw[aE r,ba p,Bool.true_and,Bool.not_false,Bool.true_and,Bool.not_eq_true',Bool.eq_false_iff]
    intro hm;have h1:=((sb E n c s s 0).1 hm).1;obtain⟨v0,o⟩:=List.exists_mem_of_length_pos r;obtain⟨j0,aa,rfl⟩:=D v0 o;obtain⟨v,g,ab,ad⟩:=h (fun u=>decide ((u:Int)∈s)) ⟨j0,aa,by simpa using o⟩ (by simpa using p);have w:(v:Int)∈s:=by simpa using ab
    have i:=h1 v w;rw[sa l s v w n] at i;have an:rd c v<db (af E) (fun u=> !decide ((u:Int)∈s)) v n:=ad;omega
  ·simp[show s.length=0 by omega]
end Go.Proofs.YtffdiakgjakngaaGreat.P
namespace Go.Proofs.YtffdiakgjakngaaGreat.P
open Go.RowKit Go.Proofs.YtffdiakgjakngaaGreatW.PrintWords Go.Proofs.YtffdiakgjakngaaGreatW.PrintLast Go.Proofs.YtffdiakgjakngaaGreatW.PrintMore
set_option linter.unusedVariables false
set_option linter.unusedSimpArgs false
def fU (E:List S83) (v:Nat):Nat->Int
 |0=>0
 |u+1=>fU E v u+(if u=v then 0 else dr E u v)
def jJ (E:List S83) (n q:Nat) (v:Nat):Nat:=if v=q then 0 else(fU E v n-1).toNat
theorem Fe {α:Type} (l:List α) (c:Nat):(l.map fun _=>c).sum=l.length*c:=by
 induction l with
 |nil=>simp
 |cons x l a=>simp only[List.map_cons,List.sum_cons,a,List.length_cons,Nat.succ_mul];omega
def e7:List S83->Int
 |[]=>0
 |x::E=>x.f2+e7 E
theorem xc:∀(A B:List S83),e7 (A++B)=e7 A+e7 B
 |[],B=>by simp[e7]
 |x::A,B=>by rw[List.cons_append,e7,e7,xc A B];omega
theorem nQ {N:Int} {E:List S83} (a:bt N E):∀k,k<=E.length->((cV E k:Nat):Int)=e7 (E.take k)
 |0,_=>rfl
 |k+1,hk=>by
  have e:ae E k=E[k]:=by simp[ae,aW,bp (by omega:k<E.length)]
  have:=a.ok E[k] (List.getElem_mem _);simp[bQ] at this;rw[List.take_succ_eq_append_getElem (by omega),xc,<-nQ a k (by omega),cV,e];simp only[e7];omega
theorem Ff {E:List S83} (h:∀x∈E,1<=x.f2) (a b:Int):0<=dr E a b:=by
 unfold dr;split
 ·rename_i x e;have:=h x (List.mem_of_find?_eq_some e);omega
 ·omega
theorem xd {x:S83} {E:List S83} (h:∀y∈x::E,1<=y.f2) (v:Nat):∀u:Nat,fU (x::E) v u<=fU E v u+(if(∃w:Nat,w<u/\w≠v/\x.f0=min (w:Int) v/\x.f1=max (w:Int) v) then x.f2 else 0)
 |0=>by simp[fU]
 |u+1=>by
  have g:=xd h v u;have j:=h x (List.mem_cons_self ..);have k:=Ff (fun y i=>h y (List.mem_cons_of_mem _ i)) (u:Int) v;have l:(if(∃w:Nat,w<u/\w≠v/\x.f0=min (w:Int) v/\x.f1=max (w:Int) v) then x.f2 else 0)<=(if(∃w:Nat,w<u+1/\w≠v/\x.f0=min (w:Int) v/\x.f1=max (w:Int) v) then x.f2 else 0):=by
   by_cases h1:∃w:Nat,w<u/\w≠v/\x.f0=min (w:Int) v/\x.f1=max (w:Int) v
   ·obtain⟨w,hw,a⟩:=h1
    rw[if_pos ⟨w,hw,a⟩,if_pos ⟨w,by omega,a⟩];exact Int.le_refl _
   ·rw[if_neg h1];split<;>omega
  simp only[fU];by_cases e:u=v
  ·rw[if_pos e,if_pos e];omega
  ·rw[if_neg e,if_neg e,we]
   by_cases b:x.f0=min (u:Int) v/\x.f1=max (u:Int) v
   ·rw[if_pos b,if_pos (show ∃w:Nat,w<u+1/\w≠v/\x.f0=min (w:Int) v/\x.f1=max (w:Int) v from⟨u,by omega,e,b⟩)]
    rw[if_neg (show ¬∃w:Nat,w<u/\w≠v/\x.f0=min (w:Int) v/\x.f1=max (w:Int) v from by rintro⟨w,hw,m,h1,a⟩;omega)] at g;omega
   ·rw[if_neg b];omega
theorem xe:∀{E:List S83},(∀y∈E,1<=y.f2)->∀v u:Nat,fU E v u<=e7 E
 |[],_,v,u=>by
  have:∀u,fU [] v u=0:=fun u=>by
   induction u with
   |zero=>rfl
   |succ u a=>simp[fU,a,dr]
  simp[this,e7]
 |x::E,h,v,u=>by
  have h1:=xd h v u;have e:=xe (fun y b=>h y (List.mem_cons_of_mem _ b)) v u;have g:=h x (List.mem_cons_self ..);simp only[e7];split at h1<;>omega
theorem sd {n:Nat} {E:List S83} (a:bt n E) (v:Nat):∀u,db (af E) (fun u=> !decide (u=v)) v u=fU E v u
 |0=>rfl
 |u+1=>by
  rw[db,fU,sd a v u];congr 1
  by_cases h:u=v
  ·simp[h]
  ·simp only[h,decide_false,Bool.not_false,if_true,if_neg h]
   rw[lK a v u (fun e=>h e.symm),pw];simp
theorem xf:∀{a b:List Int} (v:Nat),dQ a b->rd a v<=rd b v
 |[],[],v,_=>Int.le_refl _
 |x::a,y::b,0,h=>by simpa [rd] using h.1
 |x::a,y::b,v+1,h=>by
  have:=xf v h.2;simpa [rd] using this
 |[],y::b,v,h=>h.elim
 |x::a,[],v,h=>h.elim
theorem xg {a:Nat->Nat} {q:Nat} (g:a q=0) (hm:∀v,a v<=7):∀v:Nat,(dX a v).length<=8 ^ (v- (if q<v then 1 else 0))
 |0=>by simp[dX]
 |v+1=>by
  have b:=xg g hm v;have hlen:(dX a (v+1)).length=(dX a v).length*(a v+1):=by
   show (kF a v (dX a v)).length=_
   unfold kF;rw[List.length_flatMap];simp only[List.length_map,List.length_range];exact Fe _ _
  rw[hlen];by_cases e:q=v
  ·subst e
   rw[g,if_pos (by omega)];rw[if_neg (by omega)] at b;simpa using b
  ·by_cases h:q<v
   ·rw[if_pos h] at b
    rw[if_pos (by omega),show v+1-1=(v-1)+1 by omega,Nat.pow_succ];exact Nat.mul_le_mul b (by have:=hm v;omega)
   ·rw[if_neg h] at b
    rw[if_neg (by omega),show v+1-0=(v-0)+1 by omega,Nat.pow_succ];exact Nat.mul_le_mul b (by have:=hm v;omega)
structure Small (n q:Nat) (E:List S83):Prop where
 right:bt n E
 conn:fC n E
 len:E.length<=40
 n1:1<=n
 n5:n<=5
 q:q<n
 size:cV E E.length<=8
namespace Small
variable {n q:Nat} {E:List S83}
theorem se (h:Small n q E) (v:Nat):fU E v n<=8:=by
 have h1:=xe (E:=E) (fun y a=>by have:=h.right.ok y a;simp[bQ] at this;omega) v n;have b:=nQ h.right E.length (aI _);rw[List.take_length] at b;have:=h.size;omega
theorem sg (h:Small n q E) (v:Nat):jJ E n q v<=7:=by
 unfold jJ;split
 ·omega
 ·have:=h.se v;omega
theorem pE (E:List S83) (n q:Nat):jJ E n q q=0:=by simp[jJ]
theorem Fg (h:Small n q E) {v:Nat} (a:v<=n):(dX (jJ E n q) v).length<=4096:=by
 have h1:=xg (pE E n q) h.sg v;have b:8 ^ (v- (if q<v then 1 else 0))<=8 ^ 4:=Nat.pow_le_pow_right (by omega) (by have:=h.n5;have:=h.q;split<;>omega);omega
theorem xh (h:Small n q E) (c:List Int):b9 n (af E) q c=pD E n q c:=by
 rw[Bool.eq_iff_iff,kM (fun i j=>((jE h.right.c_).times i j).1),Fc h.right h.conn h.q]
theorem pF (h:Small n q E):dZ n E q=(dX (jJ E n q) n).filter (pD E n q):=by
 unfold dZ;have e:=(jE h.right.c_).times;have o:∀a b:List Int,a.length=n->dQ a b->b9 n (af E) q b=true->b9 n (af E) q a=true:=fun a b _ p hb=>by
  rw[kM (fun i j=>(e i j).1)] at hb⊢;exact hb.down (fun v _=>xf v p)
 rw[Dd q py (b9 n (af E) q) (jJ E n q) n o (fun l v u g k r=>by
   have h1:=(r7 h.right.c_ (by have:=h.n5;omega) g k r).1;unfold valOf at h1;rw[sd h.right] at h1;unfold jJ;rw[if_neg k];omega) (pE E n q) (fun v _=>by have:=h.sg v;show _<=1000;omega) n [] (by simp) ?_]
 ·rw[<-Df]
  refine List.filter_congr fun c _=>h.xh c
 ·by_cases w:n=1
  ·left
   rw[kM (fun i j=>(e i j).1)];rintro S ⟨v,g,m⟩ s;have:=h.q;rw[show v=q by omega,s] at m;cases m
  ·right
   have:=h.q;have:=h.n1;by_cases x:q=0
   ·exact⟨1,by simp,by omega,by omega⟩
   ·exact⟨0,by simp,by omega,by omega⟩
theorem sh (h:Small n q E):(dZ n E q).length<=4096:=by
 rw[h.pF];exact Nat.le_trans (List.length_filter_le _ _) (h.Fg (aI n))
end Small
namespace Small
variable {n q:Nat} {E:List S83}
theorem Fh (h:Small n q E) (a:cL n E=0):fD n E q=0:=by
 unfold fD;rw[if_pos a,aD,if_pos ((jI h.n1 h.right).2 h.conn),if_pos ⟨by omega,by have:=h.q;omega⟩]
theorem Fi (h:Small n q E):lN n E=true:=by
 unfold lN;rw[h.right.wX h.len,h.right.c_];rfl
theorem Fj (h:Small n q E) (b:fD n E q=0):Ev (fun k=>gy.f k n E q) (gM (gF n E) q n n,(0:Int)):=by
 unfold gy.f iA.f;refine Ev.bind (a:=(gM (gF n E) q n n,(0:Int))) ?_ (Ev.const _);have:=wJ n E q (by have:=h.len;omega);rw[b] at this;refine Ev.bind this ?_;simp only[if_true,h.Fi,aD];exact Ev.const _
theorem Fk (h:Small n q E) (a:fD n E q=0):Ev (fun k=>eY.f k n E q) (dZ n E q,(0:Int)):=by
 unfold eY.f;refine Ev.bind (h.Fj a) ?_;simp only[if_true,aD,if_pos (show (dZ n E q).length<=16384 by have:=h.sh;omega)];exact Ev.const _
theorem nR (h:Small n q E) {c:List Int} (e:c∈dZ n E q):c.length=n/\∀v:Nat,0<=rd c v/\rd c v<=8:=by
 rw[h.pF] at e;have h1:=(List.mem_filter.1 e).1;have a:=mr _ _ _ h1;have key:∀(m:Nat) (l:List Int),l∈dX (jJ E n q) m->∀v:Nat,0<=rd l v/\rd l v<=8:=by
  intro m;induction m with
  |zero=>intro l a v;simp[dX] at a;subst a;simp[rd]
  |succ m i=>
   intro l a v;simp only[dX,kF,List.mem_flatMap,List.mem_map,List.mem_range] at a;obtain⟨p,hp,x,j,rfl⟩:=a;have g:=i p hp v;have hm:=h.sg m;have k:=mr _ _ _ hp;simp only[rd,aD,aW] at g⊢;rcases Nat.lt_trichotomy v p.length with b|b|b
   ·rw[List.getElem?_append_left b];exact g
   ·rw[b,List.getElem?_append_right (aI _),Nat.sub_self];simp;omega
   ·rw[List.getElem?_eq_none (by simp;omega)];simp
 exact⟨a,key n c h1⟩
end Small
def kO (x:Int):Bool:=decide (-1048576<=x)&&decide (x<=1048576)
def fV:List Int->Int
 |[]=>0
 |x::l=>if kO x=true then fV l else 2
def jt (q:Int):Nat->List Int->Int
 |_,[]=>0
 |i,x::l=>if(i:Int)=q then jt q (i+1) l else if x<0 then 2 else jt q (i+1) l
def jK (N:Int) (E:List S83) (q:Int) (c:List Int):Int:=
 if fD N E q=0 then(if(c.length:Int)=N then(if fV c=0 then jt q 0 c else fV c) else 8) else fD N E q
def lO (N:Int) (E:List S83) (q:Int) (c:List Int):Int:=if jK N E q c=0 then(if rd c q=0 then 0 else 3) else jK N E q c
theorem Fl (x:Int):ir.f x=some (kO x):=by
 unfold ir.f kO;by_cases h:x>= -1048576
 ·rw[if_pos h,aE (show -1048576<=x from h),Bool.true_and]
 ·rw[if_neg h,ba (show ¬ -1048576<=x from h),Bool.false_and]
theorem xi (c:List Int) (a:c.length<=1000):∀(m i:Nat),i+m=c.length->Ev (fun k=>bz.l0 k c c.length i) (fV (c.drop i))
 |0,i,hi=>by
  refine Ev.of_succ ?_;simp only[bz.l0,if_neg (show ¬(i:Int)<c.length by omega),List.drop_eq_nil_of_le (show c.length<=i by omega),fV];exact Ev.const _
 |m+1,i,hi=>by
  refine Ev.of_succ ?_;simp only[bz.l0,if_pos (show (i:Int)<c.length by omega),if_pos (show (0:Int)<=i by omega),Fl,Option.bind_some,eX (show i<=1000000 by omega)];rw[wY (by omega),fV];by_cases h:kO (rd c i)=true
  ·simp only[if_pos h];exact xi c a m (i+1) (by omega)
  ·simp only[if_neg h];exact Ev.const _
theorem xj (q:Int) (c:List Int) (e:c.length<=1000):∀(m i:Nat),i+m=c.length->Ev (fun k=>cW.l0 k q c c.length i) (jt q i (c.drop i))
 |0,i,hi=>by
  refine Ev.of_succ ?_;simp only[cW.l0,if_neg (show ¬(i:Int)<c.length by omega),List.drop_eq_nil_of_le (show c.length<=i by omega),jt];exact Ev.const _
 |m+1,i,hi=>by
  refine Ev.of_succ ?_;have a:=xj q c e m (i+1) (by omega);simp only[cW.l0,if_pos (show (i:Int)<c.length by omega),if_pos (show (0:Int)<=i by omega),eX (show i<=1000000 by omega)];rw[wY (by omega),jt];by_cases h:(i:Int)=q
  ·simp only[if_pos h];exact a
  ·simp only[if_neg h]
   by_cases b:rd c i<0
   ·simp only[if_pos b];exact Ev.const _
   ·simp only[if_neg b];exact a
theorem sj {N:Int} {E:List S83} {q:Int} (h:fD N E q=0):1<=N/\N<=12/\0<=q/\q<N:=by
 unfold fD at h;by_cases a:cL N E=0
 ·rw[if_pos a] at h
  obtain⟨h1,e,_⟩:=jq a;by_cases hp:partsOf E N.toNat=1
  ·rw[if_pos hp] at h
   by_cases b:0<=q/\q<N
   ·exact⟨h1,e,b⟩
   ·rw[if_neg b] at h;exact absurd h (by decide)
  ·rw[if_neg hp] at h;exact absurd h (by decide)
 ·rw[if_neg a] at h;exact absurd h a
theorem Fm (c:List Int) (N:Int) (a:1<=N/\N<=12):Ev (fun k=>bz.f k c N) (if(c.length:Int)=N then fV c else 8):=by
 unfold bz.f jF.f;simp only[if_neg (show ¬N<1 by omega),if_neg (show ¬N>12 by omega),Option.bind_some,if_true];by_cases h:(c.length:Int)=N
 ·simp only[if_pos h]
  exact xi c (by omega) c.length 0 (by omega)
 ·simp only[if_neg h];exact Ev.const _
theorem Fo (N:Int) (E:List S83) (q:Int) (c:List Int) (g:E.length<=1000):Ev (fun k=>cW.f k N E q c) (jK N E q c):=by
 unfold cW.f jK;refine Ev.bind (wJ N E q g) ?_;by_cases a:fD N E q=0
 ·have b:=sj a
  simp only[if_pos a];refine Ev.bind (Fm c N ⟨b.1,b.2.1⟩) ?_;by_cases h:(c.length:Int)=N
  ·simp only[if_pos h]
   by_cases e:fV c=0
   ·simp only[if_pos e]
    exact xj q c (by omega) c.length 0 (by omega)
   ·simp only[if_neg e];exact Ev.const _
  ·simp only[if_neg h];exact Ev.const _
 ·simp only[if_neg a];exact Ev.const _
theorem xk {N:Int} {E:List S83} {q:Int} {c:List Int} (h:jK N E q c=0):fD N E q=0/\(c.length:Int)=N/\fV c=0/\jt q 0 c=0:=by
 unfold jK at h;by_cases a:fD N E q=0
 ·rw[if_pos a] at h
  by_cases e:(c.length:Int)=N
  ·rw[if_pos e] at h
   by_cases b:fV c=0
   ·rw[if_pos b] at h;exact⟨a,e,b,h⟩
   ·rw[if_neg b] at h;exact absurd h b
  ·rw[if_neg e] at h;exact absurd h (by decide)
 ·rw[if_neg a] at h;exact absurd h a
theorem Fp (N:Int) (E:List S83) (q:Int) (c:List Int) (b:E.length<=1000):Ev (fun k=>gH.f k N E q c) (lO N E q c):=by
 unfold gH.f lO;refine Ev.bind (Fo N E q c b) ?_;by_cases h:jK N E q c=0
 ·obtain⟨e,i,_,_⟩:=xk h
  have g:=sj e;simp only[if_pos h,if_pos g.2.2.1,if_pos (show q<c.length by omega)];by_cases a:rd c q=0
  ·simp only[if_pos a];exact Ev.const _
  ·simp only[if_neg a];exact Ev.const _
 ·simp only[if_neg h];exact Ev.const _
theorem xm:∀{c:List Int},fV c=0->∀x∈c, -1048576<=x/\x<=1048576
 |[],_,x,a=>absurd a (by simp)
 |y::c,h,x,a=>by
  rw[fV] at h;by_cases b:kO y=true
  ·rw[if_pos b] at h
   simp[kO] at b;rcases List.mem_cons.1 a with rfl|a
   ·exact b
   ·exact xm h x a
  ·rw[if_neg b] at h;exact absurd h (by decide)
theorem sk (q:Int):∀{c:List Int} {i:Nat},jt q i c=0->∀j:Nat,j<c.length->((i+j:Nat):Int)≠q->0<=rd c j
 |[],i,_,j,a,_=>absurd a (by simp)
 |y::c,i,h,j,a,b=>by
  rw[jt] at h;by_cases hi:(i:Int)=q
  ·rw[if_pos hi] at h
   cases j with
   |zero=>exact absurd hi b
   |succ j=>
    have:=sk q h j (by simpa using a) (by rw[show i+1+j=i+(j+1) by omega];exact b);simpa [rd,aW] using this
  ·rw[if_neg hi] at h
   by_cases e:y<0
   ·rw[if_pos e] at h;exact absurd h (by decide)
   ·rw[if_neg e] at h
    cases j with
    |zero=>simp[rd,aW];omega
    |succ j=>
     have:=sk q h j (by simpa using a) (by rw[show i+1+j=i+(j+1) by omega];exact b);simpa [rd,aW] using this
structure pG (n q:Nat) (c:List Int):Prop where
 len:c.length=n
 pos:∀v:Nat,0<=rd c v
 up:∀v:Nat,rd c v<=1048576
 sink:rd c q=0
theorem nS {c:List Int} {v:Nat} (h:c.length<=v):rd c v=0:=by simp[rd,aW,List.getElem?_eq_none h]
theorem Fq {n q:Nat} {E:List S83} {c:List Int} (h:lO n E q c=0):fD n E q=0/\pG n q c:=by
 unfold lO at h;by_cases he:jK n E q c=0
 ·rw[if_pos he] at h
  by_cases b:rd c q=0
  ·obtain⟨h1,j,g,i⟩:=xk he
   refine⟨h1,⟨by omega,fun v=>?_,fun v=>?_,b⟩⟩
   ·by_cases a:v<c.length
    ·by_cases e:v=q
     ·subst e;omega
     ·exact sk q i v a (by omega)
    ·rw[nS (by omega)];exact Int.le_refl _
   ·by_cases a:v<c.length
    ·have:=xm g c[v] (List.getElem_mem _)
     simp only[rd,aD,aW,bp a,Option.getD_some];omega
    ·rw[nS (by omega)];decide
  ·rw[if_neg b] at h;exact absurd h (by decide)
 ·rw[if_neg he] at h;exact absurd h he
theorem Fs {n q:Nat} {E:List S83} {c:List Int} (b:E.length<=1000) (hn:n<=12) (g:jf n E=true) (h:lO n E q c=0):Ev (fun k=>gI.f k n E q c) (b9 n (af E) q c,(0:Int)):=by
 obtain⟨i,j⟩:=Fq h;have m:=j.len;have o:=sj i;unfold gI.f iK.f;have hb:=Fp n E q c b;rw[h] at hb;have hw:mo n E q c=true:=by simp only[mo,Bool.and_eq_true,decide_eq_true_eq];exact⟨by omega,g⟩
 refine Ev.bind (a:=((q:Int)::(jZ n E q c).map Int.ofNat,gE (cP (cJ q) (jZ n E q c)) n,(0:Int))) ?_ ?_
 ·refine Ev.bind hb ?_
  simp only[if_true,hw,aD];exact Ev.const _
 ·simp only[if_true]
  have l:=r6 (cP (cJ q) (jZ n E q c)) n;have e:(((gE (cP (cJ q) (jZ n E q c)) n).length:Int)==0)=b9 n (af E) q c:=by
   rw[Bool.eq_iff_iff];unfold b9;rw[show eL n (cD n (af E) c) (cJ q)=jZ n E q c from rfl,<-l];simp
  rw[e];exact Ev.const _
theorem Ft {l:List Int} (h:l.length<=1000):fN.f l=some l:=if_pos (by omega)
theorem et {l:List Int} {v:Nat} (h:v<l.length) (x:Int):rd (l.set v x) v=x:=by simp[rd,aW,List.getElem?_set,h]
theorem eM {l:List Int} {v u:Nat} (h:v≠u) (x:Int):rd (l.set v x) u=rd l u:=by simp[rd,aW,List.getElem?_set,h]
theorem xn (l:List Int) (v:Nat) (x y:Int):(l.set v x).set v y=l.set v y:=by simp
theorem Fu {l:List Int} {v:Nat} (h:v<l.length):l.set v (rd l v)=l:=by
 apply List.ext_getElem
 ·simp
 ·intro i h1 a
  rw[List.getElem_set];split
  ·rename_i e;subst e;simp[rd,aW,bp h]
  ·rfl
namespace Small
variable {n q:Nat} {E:List S83}
theorem Fv (h:Small n q E) {a b:List Int} (g:∀v:Nat,v<n->rd a v<=rd b v) (hb:b9 n (af E) q b=true):b9 n (af E) q a=true:=by
 have e:∀i j,0<=af E i j:=fun i j=>((jE h.right.c_).times i j).1
 exact(kM e q a).2 (((kM e q b).1 hb).down g)
theorem pH (h:Small n q E) {a:List Int} {v:Nat} (b:v<n) (e:v≠q) (g:b9 n (af E) q a=true):rd a v<fU E v n:=by
 have:=(r7 h.right.c_ (by have:=h.n5;omega) b e g).1;unfold valOf at this;rwa [sd h.right v n] at this
theorem Fw (h:Small n q E) {c:List Int} (s:c.length=n) {v:Nat} (b:v<n) (g:v≠q) (j:b9 n (af E) q c=true) (w:0<=rd c v):
  ∃M:Nat,rd c v<=M/\(M:Int)<fU E v n/\∀x:Int,b9 n (af E) q (c.set v x)=true↔x<=M:=by
 have z:=h.se v;have B:=h.pH b g j;have down:∀x y:Int,x<=y->b9 n (af E) q (c.set v y)=true->b9 n (af E) q (c.set v x)=true:=fun x y m o=>by
  refine h.Fv (fun u hu=>?_) o;by_cases e:v=u
  ·subst e;rw[et (by omega),et (by omega)];exact m
  ·rw[eM e,eM e];exact Int.le_refl _
 have key:∀d:Nat,∀x:Nat,rd c v<=x->fU E v n<=x+d->b9 n (af E) q (c.set v x)=true->∃M:Nat,x<=M/\(M:Int)<fU E v n/\b9 n (af E) q (c.set v M)=true/\b9 n (af E) q (c.set v ((M:Int)+1))=false:=by
  intro d;induction d with
  |zero=>
   intro x _ p a;have:=h.pH b g a;rw[et (by omega)] at this;omega
  |succ d r=>
   intro x h1 p a;have k:=h.pH b g a;rw[et (by omega)] at k;cases l:b9 n (af E) q (c.set v ((x:Int)+1)) with
   |false=>exact⟨x,aI _,k,a,l⟩
   |true=>
    obtain⟨M,m1,m2,m3,m4⟩:=r (x+1) (by omega) (by omega) (by rw[Int.natCast_add,Int.natCast_one];exact l);exact⟨M,by omega,m2,m3,m4⟩
 obtain⟨M,m1,m2,m3,m4⟩:=key 9 (rd c v).toNat (by omega) (by omega) (by rw[show ((rd c v).toNat:Int)=rd c v by omega,Fu (by omega)];exact j);refine⟨M,by omega,m2,fun x=>⟨fun i=>?_,fun i=>down x M i m3⟩⟩;by_cases hle:x<=M
 ·exact hle
 ·have:=down ((M:Int)+1) x (by omega) i
  rw[m4] at this;cases this
theorem xo (h:Small n q E) (m:fD n E q=0) {c:List Int} (b:pG n q c) {v:Nat} (B:v<n) (o:v≠q) {x:Int} (p:0<=x/\x<=1048576):Ev (fun k=>eV.f k n E q (c.set v x)) (b9 n (af E) q (c.set v x)):=by
 have a:=b.len;have hp:∀u:Nat,0<=rd (c.set v x) u/\rd (c.set v x) u<=1048576:=fun u=>by
  by_cases e:v=u
  ·subst e;rw[et (by omega)];exact p
  ·rw[eM e];exact⟨b.pos u,b.up u⟩
 have he:lO n E q (c.set v x)=0:=by
  have h1:∀l:List Int,(∀y∈l,0<=y/\y<=1048576)->fV l=0:=fun l=>by
   induction l with
   |nil=>intro _;rfl
   |cons y l g=>
    intro a;have:=a y (List.mem_cons_self ..);rw[fV,if_pos (by simp[kO];omega)];exact g fun z j=>a z (List.mem_cons_of_mem _ j)
  have r:∀(l:List Int) (i:Nat),(∀y∈l,0<=y/\y<=1048576)->jt q i l=0:=fun l=>by
   induction l with
   |nil=>intro i _;rfl
   |cons y l g=>
    intro i a;have:=a y (List.mem_cons_self ..);rw[jt,if_neg (show ¬y<0 by omega),g (i+1) fun z j=>a z (List.mem_cons_of_mem _ j)];split<;>rfl
  have hm:∀y∈c.set v x,0<=y/\y<=1048576:=fun y s=>by
   obtain⟨i,hi,rfl⟩:=List.getElem_of_mem s;have:=hp i;simp only[rd,aD,aW,bp hi,Option.getD_some] at this;exact this
  have w:jK n E q (c.set v x)=0:=by
   unfold jK;rw[if_pos m,if_pos (by simp[a]),h1 _ hm,if_pos rfl,r _ 0 hm]
  unfold lO;rw[if_pos w,if_pos (by rw[eM o];exact b.sink)]
 unfold eV.f;refine Ev.bind (Fs (by have:=h.len;omega) (by have:=h.n5;omega) h.right.c_ he) ?_;cases b9 n (af E) q (c.set v x)<;>exact Ev.const _
theorem Fx (h:Small n q E) (b:fD n E q=0) {c:List Int} (a:pG n q c) {v:Nat} (g:v<n) (i:v≠q) {M:Nat} (h1:rd c v<=M) (r:(M:Int)<fU E v n) (j:∀x:Int,b9 n (af E) q (c.set v x)=true↔x<=M):
  Ev (fun k=>cT.f k n E q c v) (c.set v M):=by
 have s:=a.len;have u:=h.se v;have w:=a.pos v;have loop:∀(m:Nat) (x:Int),rd c v+1<=x->x+m=M+1->Ev (fun k=>cT.l0 k q (c.set v x) v n E) (c.set v M):=by
  intro m;induction m with
  |zero=>
   intro x l o;refine Ev.of_succ ?_;simp only[cT.l0];refine Ev.bind (h.xo b a g i (by omega)) ?_;have:b9 n (af E) q (c.set v x)=false:=by
    cases e:b9 n (af E) q (c.set v x) with
    |false=>rfl
    |true=>have:=(j x).1 e;omega
   simp only[this,Bool.false_eq_true,if_false,if_pos (show (0:Int)<=v by omega),if_pos (show (v:Int)<(c.set v x).length by simp;omega),aD,xn,et (show v<c.length by omega),jm (show -1000000000<=x-1/\x-1<=1000000000 by omega),show x-1=(M:Int) by omega,jm (show -1000000000<=(M:Int)/\(M:Int)<=1000000000 by omega)];exact Ev.const _
  |succ m p=>
   intro x l o;refine Ev.of_succ ?_;simp only[cT.l0];refine Ev.bind (h.xo b a g i (by omega)) ?_;simp only[(j x).2 (by omega),if_true,if_pos (show (0:Int)<=v by omega),if_pos (show (v:Int)<(c.set v x).length by simp;omega),aD,xn,et (show v<c.length by omega),jm (show -1000000000<=x+1/\x+1<=1000000000 by omega)];exact p (x+1) (by omega) (by omega)
 unfold cT.f;simp only[Ft (show c.length<=1000 by have:=h.n5;omega),Option.bind_some,if_pos (show (0:Int)<=v by omega),if_pos (show (v:Int)<c.length by omega),aD,jm (show -1000000000<=rd c v+1/\rd c v+1<=1000000000 by omega)];exact loop (M- (rd c v).toNat) (rd c v+1) (by omega) (by omega)
end Small
theorem Fy {p l:List Int} {v:Nat} (h:v<p.length):rd (p++l) v=rd p v:=by simp[rd,aW,List.getElem?_append_left h]
theorem Fz (p:List Int) (x:Int):rd (p++[x]) p.length=x:=by simp[rd,aW]
theorem FA {l:List Int} {m v:Nat} (h:v<m):rd (l.take m) v=rd l v:=by simp[rd,aW,List.getElem?_take,h]
theorem sm (b:Nat->Nat):∀(m:Nat) (l:List Int),l∈dX b m↔l.length=m/\∀v:Nat,v<m->0<=rd l v/\rd l v<=b v
 |0,l=>by
  simp only[dX,List.mem_singleton];constructor
  ·rintro rfl;exact⟨rfl,fun v g=>by omega⟩
  ·rintro⟨h,_⟩;exact List.length_eq_zero_iff.1 h
 |m+1,l=>by
  simp only[dX,kF,List.mem_flatMap,List.mem_map,List.mem_range];constructor
  ·rintro⟨p,hp,x,j,rfl⟩
   obtain⟨h1,a⟩:=(sm b m p).1 hp;refine⟨by simp[h1],fun v g=>?_⟩;by_cases e:v<m
   ·rw[Fy (by omega)];exact a v e
   ·rw[show v=p.length by omega,Fz];rw[h1];omega
  ·rintro⟨h1,a⟩
   refine⟨l.take m,(sm b m _).2 ⟨by simp;omega,fun v g=>by rw[FA g];exact a v (by omega)⟩,(rd l m).toNat,by have:=a m (by omega);omega,?_⟩;have k:=a m (by omega);have i:l.take (m+1)=l.take m++[l[m]]:=List.take_succ_eq_append_getElem (by omega);rw[List.take_of_length_le (by omega)] at i;rw[show ((rd l m).toNat:Int)=l[m] by
    have:rd l m=l[m]:=by simp[rd,aW,bp (show m<l.length by omega)]
    omega]
   exact i.symm
namespace Small
variable {n q:Nat} {E:List S83}
theorem iQ (h:Small n q E) (c:List Int):c∈dZ n E q↔c.length=n/\(∀v:Nat,0<=rd c v)/\rd c q=0/\b9 n (af E) q c=true:=by
 rw[h.pF,List.mem_filter,sm,<-h.xh];constructor
 ·rintro⟨⟨h1,a⟩,b⟩
  refine⟨h1,fun v=>?_,?_,b⟩
  ·by_cases e:v<n
   ·exact(a v e).1
   ·rw[nS (by omega)];exact Int.le_refl _
  ·have:=a q h.q
   rw[pE] at this;omega
 ·rintro⟨h1,a,b,i⟩
  refine⟨⟨h1,fun v e=>⟨a v,?_⟩⟩,i⟩;by_cases g:v=q
  ·subst g;rw[pE,b];exact Int.le_refl _
  ·have:=h.pH e g i
   unfold jJ;rw[if_neg g];omega
theorem FB (h:Small n q E) {c:List Int} (a:c∈dZ n E q):pG n q c:=by
 obtain⟨h1,b,e,g⟩:=(h.iQ c).1 a;exact⟨h1,b,fun v=>by have:=((h.nR a).2 v).2;omega,e⟩
end Small
theorem sn {ι:Type} {P:ι->Nat->Prop}:∀(l:List ι),(∀x∈l,∃B,∀K,B<=K->P x K)->∃B,∀K,B<=K->∀x∈l,P x K
 |[],_=>⟨0,fun _ _ x a=>absurd a (by simp)⟩
 |y::l,h=>by
  obtain⟨B,b⟩:=sn l fun x a=>h x (List.mem_cons_of_mem _ a)
  obtain⟨C,hC⟩:=h y (List.mem_cons_self ..);refine⟨max B C,fun K e x a=>?_⟩;rcases List.mem_cons.1 a with rfl|a
  ·exact hC K (by omega)
  ·exact b K (by omega) x a
namespace Small
variable {n q:Nat} {E:List S83}
theorem FC (h:Small n q E) (j:fD n E q=0):∃B,∀K,B<=K->∀c∈dZ n E q,∀v∈List.range n,v≠q->∃r,cT.f K n E q c v=some r/\v<r.length/\(rd c v<rd r v↔b9 n (af E) q (c.set v (rd c v+1))=true):=by
 refine sn _ fun c i=>sn _ fun v k=>?_
 have b:=List.mem_range.1 k;by_cases g:v=q
 ·exact⟨0,fun _ _ e=>absurd g e⟩
 ·have a:=h.FB i
  obtain⟨M,m1,m2,m3⟩:=h.Fw a.len b g ((h.iQ c).1 i).2.2.2 (a.pos v);obtain⟨B,l⟩:=h.Fx j a b g m1 m2 m3;refine⟨B,fun K m _=>⟨_,l K m,by rw[List.length_set,a.len];exact b,?_⟩⟩;rw[et (by rw[a.len];exact b),m3];omega
end Small
end Go.Proofs.YtffdiakgjakngaaGreat.P


namespace Go.Proofs.YtffdiakgjakngaaGreat.T
set_option linter.unusedVariables false
set_option linter.unusedSimpArgs false
set_option maxHeartbeats 8000000
set_option maxRecDepth 100000
theorem FD {f:Nat->Int} {n:Nat} {M:Int} (a:0<=M) (S:Nat->Bool) (h:∀v,v<n->S v=true->f v<=M):sN (fun v=>if S v=true then f v else 0) n<=n*M:=by
 rw[<-iw];refine cZ fun v b=>?_
 show (if S v=true then f v else 0)<=M
 split
 ·exact h v b ‹_›
 ·exact a
theorem pI {n:Nat} {t:Nat->Nat->Int} (e:Wt n t) (g:dS n t) {q:Nat} (i:q<n) {b:Nat->Int} (hb:b q=0) {M:Int} (a:0<=M) (h:∀v,v<n->0<b v->aY n t b v<=M):∀v,v<n->b v<=n*(n*M):=by
 refine ky e g i (by omega) (Int.mul_nonneg (by omega) a) fun x l=>?_
 refine FD a (fun v=>decide (x<b v)) fun v j k=>h v j ?_
 have:=of_decide_eq_true k;omega
theorem FE {n:Nat} {t:Nat->Nat->Int} (g:Wt n t) (i:dS n t) {q:Nat} (j:q<n) {s s':Nat->Int} (l:s q=s' q) (h:∀v,v<n->aY n t s v=aY n t s' v):∀v,v<n->s v=s' v:=by
 have h1:=pI g i j (b:=fun u=>s u-s' u) (by show s q-s' q=0;omega) (M:=0) (by omega) (fun v e _=>by rw[mw,h v e];omega);have k:=pI g i j (b:=fun u=>s' u-s u) (by show s' q-s q=0;omega) (M:=0) (by omega) (fun v e _=>by rw[mw,h v e];omega);intro v e;have a:=h1 v e;have b:=k v e;simp only[Int.mul_zero] at a b;omega
theorem pJ {n:Nat} {t:Nat->Nat->Int} (a:Wt n t) {q:Nat} {c:Nat->Int} (h:iN n t q c) {v:Nat} (b:v<n) (g:v≠q):c v<val n t v:=by
 obtain⟨u,hu,i,j⟩:=h (fun u=>decide (u=v)) ⟨v,b,by simp⟩ (by simpa using fun e=>g e.symm);obtain rfl:u=v:=of_decide_eq_true i;refine Int.lt_of_lt_of_le j ?_;unfold val;refine cZ fun w hw=>?_
 show (if decide (w=u)=false then t u w else 0)<=t u w
 have:=a.pos u w;split<;>omega
theorem FF {n:Nat} {t:Nat->Nat->Int} (h:Wt n t) (i:dS n t) {q:Nat} (j:q<n) {D c s:Nat->Int} (k:j6 n t q c) (l:∀v,v<n->c v=D v-aY n t s v) (o:s q=0) {B V:Int} (x:0<=B) (y:0<=V) (m:∀v,v<n-> -B<=D v/\D v<=B) (p:∀v,v<n->val n t v<=V):∀v,v<n-> -(n*(n*(B+V)))<=s v/\s v<=n*(n*(B+V)):=by
 have h1:=pI h i j (b:=s) o (M:=B+V) (by omega) (fun v g hp=>by
  have:=l v g;have:=k.1 v g (fun e=>by subst e;omega);have:=m v g;omega)
 have r:=pI h i j (b:=fun u=> -s u) (by show -s q=0;omega) (M:=B+V) (by omega) (fun v g hp=>by
  rw[mu];have:=l v g;have w:v≠q:=fun e=>by subst e;omega
  have:=pJ h k.2 g w;have:=p v g;have:=m v g;omega)
 intro v g;have a:=h1 v g;have b: -s v<=_:=r v g;omega
theorem FG (f:Nat->Int) {q n:Nat} (a:q<n):sN (fun v=>if v=q then 0 else f v) n=sN f n-f q:=by
 have h:=dF (fun v=>if v=q then 0 else f v) (fun v=>if v=q then f v else 0) n;have b:sN (fun v=>if v=q then f v else 0) n=f q:=by
  rw[jH a (fun u _ hu=>if_neg hu)];simp
 have g:sN (fun v=>(if v=q then 0 else f v)+(if v=q then f v else 0)) n=sN f n:=bK fun v _=>by
  by_cases e:v=q<;>simp[e]
 have i:sN (fun v=>(if v=q then 0 else f v)+(if v=q then f v else 0)) n=sN (fun v=>if v=q then 0 else f v) n+sN (fun v=>if v=q then f v else 0) n:=h;omega
theorem FH {f:Nat->Int} {q n:Nat} (g:q<n) {a b:Int} (i:a<=0) (hb:0<=b) (h:∀v,v<n->v≠q->a<=f v/\f v<=b):sN f n-n*b<=f q/\f q<=sN f n-n*a:=by
 have h1:=FG f g;have j:sN (fun v=>if v=q then 0 else f v) n<=sN (fun _=>b) n:=cZ fun v e=>by
  show (if v=q then 0 else f v)<=b
  split
  ·exact hb
  ·exact(h v e ‹_›).2
 have k:sN (fun _=>a) n<=sN (fun v=>if v=q then 0 else f v) n:=cZ fun v e=>by
  show a<=(if v=q then 0 else f v)
  split
  ·exact i
  ·exact(h v e ‹_›).1
 rw[iw] at j k;omega
theorem pK {f:Nat->Int} {n:Nat} {B:Int} (h:∀v,v<n-> -B<=f v/\f v<=B): -(n*B)<=sN f n/\sN f n<=n*B:=by
 have h1:sN (fun _=> -B) n<=sN f n:=cZ fun v a=>(h v a).1
 have b:sN f n<=sN (fun _=>B) n:=cZ fun v a=>(h v a).2
 rw[iw] at h1 b;rw[Int.mul_neg] at h1;omega
theorem so {n:Nat} {t:Nat->Nat->Int} (b:Wt n t) (e:dS n t) {q:Nat} (g:q<n) {D c σ d s:Nat->Int} (i:j6 n t q c) (j:∀v,v<n->c v=D v-aY n t σ v) (k:σ q=0) (hd:∀v,v<n->d v=D v-aY n t s v) (hp:∀v,v<n->v≠q->0<=d v):∀v,v<n->s v<=σ v+s q:=by
 have:=rC b e g i hp (s:=fun u=>s u-σ u) (fun v a=>by rw[mw,j v a,hd v a];omega);intro v a;have h:s v-σ v<=s q-σ q:=this v a;omega
theorem FJ {n:Nat} {t:Nat->Nat->Int} (b:Wt n t) {L:Nat->Bool} {d:Nat->Int} {T:Int} (e:0<=T) (h:∀v,v<n->L v=true->T*sN (fun u=>if L u=false then t v u else 0) n<=d v):∀v,v<n->(L v=true->0<=d v-T*aY n t (ind L) v)/\(L v=false->d v<=d v-T*aY n t (ind L) v):=by
 intro v g;rw[rA];refine⟨fun a=>?_,fun a=>?_⟩
 ·rw[if_pos a]
  have:=h v g a;omega
 ·rw[if_neg (by simp[a]),Int.mul_neg]
  have:0<=T*sN (fun u=>if L u=true then t v u else 0) n:=Int.mul_nonneg e (dR fun u _=>by
   show 0<=(if L u=true then t v u else 0)
   have:=b.pos v u;split<;>omega)
  omega
def e8 (n:Nat) (t:Nat->Nat->Int) (dist:Nat->Int) (v:Nat):Int:=sN (fun u=>if dist v<dist u then t v u else 0) n
theorem mI {n:Nat} {t:Nat->Nat->Int} (a:Wt n t) (dist:Nat->Int) (v:Nat):0<=e8 n t dist v:=dR fun u _=>by
 show 0<=(if dist v<dist u then t v u else 0)
 have:=a.pos v u;split<;>omega
theorem FL {n:Nat} {t:Nat->Nat->Int} (a:Wt n t) (dist:Nat->Int):2*sN (e8 n t dist) n<=sN (val n t) n:=by
 have h1:sN (e8 n t dist) n=sN (fun v=>sN (fun u=>if dist u<dist v then t v u else 0) n) n:=by
  show sN (fun v=>sN (fun u=>if dist v<dist u then t v u else 0) n) n=_
  rw[nH];refine bK fun u _=>bK fun v _=>?_
  rw[a.sym v u]
 have b:sN (fun v=>e8 n t dist v+sN (fun u=>if dist u<dist v then t v u else 0) n) n<=sN (val n t) n:=by
  refine cZ fun v e=>?_
  show sN (fun u=>if dist v<dist u then t v u else 0) n+sN (fun u=>if dist u<dist v then t v u else 0) n<=sN (fun u=>t v u) n
  rw[<-dF];refine cZ fun u hu=>?_
  show (if dist v<dist u then t v u else 0)+(if dist u<dist v then t v u else 0)<=t v u
  have:=a.pos v u;split<;>split<;>omega
 rw[dF,<-h1] at b;omega
def eN (n:Nat) (t:Nat->Nat->Int) (dist:Nat->Int) (k:Int):Int:=sN (fun v=>if k<=dist v then e8 n t dist v else 0) n
theorem xp {n:Nat} {t:Nat->Nat->Int} (a:Wt n t) (dist:Nat->Int) (k:Int):0<=eN n t dist k/\eN n t dist k<=sN (e8 n t dist) n:=by
 refine⟨dR fun v _=>?_,cZ fun v _=>?_⟩
 ·show 0<=(if k<=dist v then e8 n t dist v else 0)
  have:=mI a dist v;split<;>omega
 ·show (if k<=dist v then e8 n t dist v else 0)<=_
  have:=mI a dist v;split<;>omega
theorem FM {n:Nat} {t:Nat->Nat->Int} (a:Wt n t) (dist:Nat->Int) (k:Int) {v:Nat} (b:v<n) (hd:dist v=k-1):eN n t dist k+e8 n t dist v<=eN n t dist (k-1):=by
 have h1:sN (fun u=>(if k<=dist u then e8 n t dist u else 0)+(if u=v then e8 n t dist u else 0)) n<=eN n t dist (k-1):=by
  refine cZ fun u _=>?_
  show (if k<=dist u then e8 n t dist u else 0)+(if u=v then e8 n t dist u else 0)<=(if k-1<=dist u then e8 n t dist u else 0)
  have:=mI a dist u;by_cases e:u=v
  ·subst e
   rw[if_neg (show ¬k<=dist u by omega),if_pos rfl,if_pos (by omega)];omega
  ·rw[if_neg e]
   split
   ·rw[if_pos (by omega)];omega
   ·split<;>omega
 rw[dF] at h1;have g:sN (fun u=>if u=v then e8 n t dist u else 0) n=e8 n t dist v:=by
  rw[jH b (fun u _ hu=>if_neg hu)];simp
 unfold eN at h1⊢;omega
theorem lP (m:Nat):1+(m:Int)<=2 ^ m:=by
 induction m with
 |zero=>decide
 |succ m a=>rw[Int.pow_succ];omega
def fW (n:Nat) (t:Nat->Nat->Int) (dist:Nat->Int) (B k:Int):Int:=B*2 ^ (eN n t dist k).toNat
theorem pL {n:Nat} {t:Nat->Nat->Int} (dist:Nat->Int) {B:Int} (a:0<=B) (k:Int):B<=fW n t dist B k:=by
 unfold fW;have h:(1:Int)<=2 ^ (eN n t dist k).toNat:=by have:=lP (eN n t dist k).toNat;omega
 have:=Int.mul_le_mul_of_nonneg_left h a;omega
theorem sr {n:Nat} {t:Nat->Nat->Int} (a:Wt n t) (dist:Nat->Int) {B:Int} (e:0<=B) (g:sN (val n t) n<=19) (k:Int):fW n t dist B k<=B*512:=by
 unfold fW;have h1:=xp a dist k;have h:=FL a dist;have b:(eN n t dist k).toNat<=9:=by omega
 refine Int.mul_le_mul_of_nonneg_left ?_ e;generalize (eN n t dist k).toNat=m at b;have:∀m:Nat,m<=9->(2:Int) ^ m<=512:=by decide
 exact this m b
theorem FN {n:Nat} {t:Nat->Nat->Int} (e:Wt n t) (dist:Nat->Int) {B:Int} (i:0<=B) (k:Int) {v:Nat} (j:v<n) (hd:dist v=k-1):fW n t dist B k*(1+e8 n t dist v)<=fW n t dist B (k-1):=by
 unfold fW;have h1:=FM e dist k j hd;have l:=xp e dist k;have o:=mI e dist v;obtain⟨m,hm⟩:=Int.eq_ofNat_of_zero_le o;obtain⟨a,g⟩:=Int.eq_ofNat_of_zero_le l.1;rw[hm,g];rw[hm,g] at h1;obtain⟨b,hb⟩:∃b:Nat,eN n t dist (k-1)=((a+m+b:Nat):Int):=⟨(eN n t dist (k-1)).toNat-a-m,by omega⟩;rw[hb,Int.toNat_natCast,Int.toNat_natCast,Int.mul_assoc];refine Int.mul_le_mul_of_nonneg_left ?_ i;have p:=lP m;have h:(0:Int)<=2 ^ a:=by have:=lP a;omega
 have s:=Int.mul_le_mul_of_nonneg_left p h;have q:(1:Int)<=2 ^ b:=by have:=lP b;omega
 have r:(0:Int)<=2 ^ a*2 ^ m:=Int.mul_nonneg h (by have:=lP m;omega);have u:=Int.mul_le_mul_of_nonneg_left q r;rw[Int.pow_add,Int.pow_add];omega
theorem FO {n:Nat} {t:Nat->Nat->Int} (a:Wt n t) (dist:Nat->Int) {B:Int} (e:0<=B) (k:Int):fW n t dist B k<=fW n t dist B (k-1):=by
 unfold fW;have h1:eN n t dist k<=eN n t dist (k-1):=cZ fun v _=>by
  show (if k<=dist v then e8 n t dist v else 0)<=(if k-1<=dist v then e8 n t dist v else 0)
  have:=mI a dist v;split
  ·rw[if_pos (by omega)];omega
  ·split<;>omega
 refine Int.mul_le_mul_of_nonneg_left ?_ e;obtain⟨b,hb⟩:∃b:Nat,(eN n t dist (k-1)).toNat=(eN n t dist k).toNat+b:=⟨(eN n t dist (k-1)).toNat- (eN n t dist k).toNat,by omega⟩;rw[hb,Int.pow_add];have g:(0:Int)<=2 ^ (eN n t dist k).toNat:=by have:=lP (eN n t dist k).toNat;omega
 have h:(1:Int)<=2 ^ b:=by have:=lP b;omega
 have:=Int.mul_le_mul_of_nonneg_left h g;omega
def bI (dist:Nat->Int) (k:Int) (u:Nat):Bool:=decide (dist u<k)
structure fE (n:Nat) (t:Nat->Nat->Int) (D dist:Nat->Int) (B k:Int) (d s:Nat->Int):Prop where
 eq:∀v,v<n->d v=D v-aY n t s v
 kP:∀v,v<n->k<dist v->0<=d v
 low:∀v,v<n-> -fW n t dist B k<=d v
 s0:∀v,v<n->0<=s v/\s v<=(n-k)*(B*512)
theorem fE.start {n:Nat} {t:Nat->Nat->Int} {D dist:Nat->Int} {B k:Int} (b:0<=B) (e:∀v,v<n-> -B<=D v) (hk:∀v,v<n->dist v<=k) (g:k<=n):fE n t D dist B k D (fun _=>0):=by
 refine⟨fun v _=>by rw[kI];omega,fun v a h=>by have:=hk v a;omega,fun v a=>?_,fun v _=>⟨Int.le_refl _,Int.mul_nonneg (by omega) (by omega)⟩⟩;have:=pL (n:=n) (t:=t) dist b k;have:=e v a;omega
theorem fE.step {n:Nat} {t:Nat->Nat->Int} (b:Wt n t) {D dist:Nat->Int} {B k:Int} (i:0<=B) (x:sN (val n t) n<=19) (o:∀u v,u<n->v<n->0<t u v->dist v<=dist u+1) {d s:Nat->Int} (h:fE n t D dist B k d s) {T:Int} (j:0<=T) (y:T<=fW n t dist B k)
  (z:∀v,v<n->dist v=k->d v<0-> -d v<=T*sN (fun u=>if bI dist k u=true then t v u else 0) n) {d' s':Nat->Int} (l:∀v,v<n->d' v=d v-T*aY n t (ind (bI dist k)) v) (p:∀v,v<n->s' v=s v+T*ind (bI dist k) v):fE n t D dist B (k-1) d' s':=by
 have g:∀v,v<n->(k<dist v->aY n t (ind (bI dist k)) v=0)/\(dist v=k->aY n t (ind (bI dist k)) v= -sN (fun u=>if bI dist k u=true then t v u else 0) n)/\(dist v<k-1->aY n t (ind (bI dist k)) v=0)/\(dist v=k-1->0<=aY n t (ind (bI dist k)) v/\aY n t (ind (bI dist k)) v<=e8 n t dist v):=by
  intro v a;rw[rA];refine⟨fun hk=>?_,fun hk=>?_,fun hk=>?_,fun hk=>?_⟩
  ·rw[if_neg (by unfold bI;simp;omega),gK fun u hu=>?_]; · rfl
   show (if bI dist k u=true then t v u else 0)=0
   split
   ·rename_i hn
    have h1:=of_decide_eq_true hn;have m:=b.pos v u;by_cases e:0<t v u
    ·rw[b.sym] at e
     have:=o u v hu a e;omega
    ·omega
   ·rfl
  ·rw[if_neg (by unfold bI;simp;omega)]
  ·rw[if_pos (by unfold bI;simp;omega)]
   refine gK fun u hu=>?_
   show (if bI dist k u=false then t v u else 0)=0
   split
   ·rename_i hn
    have h1:=of_decide_eq_false hn;have m:=b.pos v u;by_cases e:0<t v u
    ·have:=o v u a hu e
     omega
    ·omega
   ·rfl
  ·rw[if_pos (by unfold bI;simp;omega)]
   refine⟨dR fun u _=>?_,cZ fun u _=>?_⟩
   ·show 0<=(if bI dist k u=false then t v u else 0)
    have:=b.pos v u;split<;>omega
   ·show (if bI dist k u=false then t v u else 0)<=(if dist v<dist u then t v u else 0)
    have:=b.pos v u;by_cases e:bI dist k u=false
    ·have h1:=of_decide_eq_false e
     rw[if_pos e,if_pos (by omega)];omega
    ·rw[if_neg e];split<;>omega
 have G:0<=fW n t dist B k:=by have:=pL (n:=n) (t:=t) dist i k;omega
 refine⟨fun v a=>?_,fun v a hk=>?_,fun v a=>?_,fun v a=>?_⟩
 ·have e:aY n t s' v=aY n t s v+T*aY n t (ind (bI dist k)) v:=by
   rw[my (r:=fun u=>s u+T*ind (bI dist k) u) (fun u hu=>p u hu) a,lJ,vP]
  rw[l v a,h.eq v a,e];omega
 ·rw[l v a]
  by_cases e:k<dist v
  ·rw[(g v a).1 e]
   have:=h.kP v a e;omega
  ·have q:dist v=k:=by omega
   rw[(g v a).2.1 q,Int.mul_neg];have h1:0<=T*sN (fun u=>if bI dist k u=true then t v u else 0) n:=Int.mul_nonneg j (dR fun u _=>by
    show 0<=(if bI dist k u=true then t v u else 0)
    have:=b.pos v u;split<;>omega)
   by_cases C:d v<0
   ·have:=z v a q C
    omega
   ·omega
 ·rw[l v a]
  have H:=h.low v a;have hm:=FO b dist i k;by_cases E:k<dist v
  ·rw[(g v a).1 E];omega
  by_cases e2:dist v=k
  ·rw[(g v a).2.1 e2,Int.mul_neg]
   have h1:0<=T*sN (fun u=>if bI dist k u=true then t v u else 0) n:=Int.mul_nonneg j (dR fun u _=>by
    show 0<=(if bI dist k u=true then t v u else 0)
    have:=b.pos v u;split<;>omega)
   omega
  by_cases F:dist v<k-1
  ·rw[(g v a).2.2.1 F];omega
  have w:dist v=k-1:=by omega
  obtain⟨l1,l2⟩:=(g v a).2.2.2 w;have h1:=FN b dist i k a w;have m:=Int.mul_le_mul_of_nonneg_left l2 j;have I:=Int.mul_le_mul_of_nonneg_right y (mI b dist v);rw[Int.mul_add] at h1;omega
 ·have h1:=h.s0 v a
  have m:=sr b dist i x k;rw[p v a];have e:(n- (k-1))*(B*512)=(n-k)*(B*512)+B*512:=by
   rw[show (n:Int)- (k-1)=(n-k)+1 by omega,Int.add_mul,Int.one_mul]
  rw[e];unfold ind;split
  ·rw[Int.mul_one];omega
  ·rw[Int.mul_zero];omega
end Go.Proofs.YtffdiakgjakngaaGreat.T
namespace Go.Proofs.YtffdiakgjakngaaGreat.P
open Go.RowKit Go.Proofs.YtffdiakgjakngaaGreatW.PrintWords Go.Proofs.YtffdiakgjakngaaGreatW.PrintLast Go.Proofs.YtffdiakgjakngaaGreatW.PrintMore
set_option linter.unusedVariables false
set_option linter.unusedSimpArgs false
set_option maxHeartbeats 8000000
set_option maxRecDepth 100000
def ct (out:List Int):Nat:=(out.filter fun x=>decide (0<=x)).length
theorem j5 (out:List Int):ct out<=out.length:=List.length_filter_le ..
theorem kQ (xs:List Int) (v:Nat):rd xs (v:Int)=xs.getD v 0:=by simp[rd]
theorem ss:∀(out:List Int) (u:Nat) (x:Int),u<out.length->out.getD u 0<0->0<=x->ct (out.set u x)=ct out+1
 |[],u,x,h,_,_=>by simp at h
 |y::out,0,x,_,h,a=>by
  have b:y<0:=h;simp[ct,a,Int.not_le.2 b]
 |y::out,u+1,x,hu,h,a=>by
  have:=ss out u x (by simpa using hu) (by simpa using h) a;simp only[ct,List.set_cons_succ,List.filter_cons] at this⊢;split<;>simp[this]
theorem kf (xs:List Int) (u:Nat) (x:Int) (h:u<xs.length):rd (xs.set u x) (u:Int)=x:=by
 rw[kQ,aW,List.getElem?_set_self h];rfl
theorem ju (xs:List Int) (u v:Nat) (x:Int) (h:u≠v):rd (xs.set u x) (v:Int)=rd xs (v:Int):=by
 rw[kQ,kQ,aW,aW,List.getElem?_set_ne h]
structure Bf (n q:Nat) (nb:Nat->Nat->Prop) (out:List Int) (Q:List Nat) (D:Int) (ex:Nat->Nat->Prop):Prop where
 len:out.length=n
 q0:rd out (q:Int)=0
 lo:∀v:Nat,v<n-> -1<=rd out (v:Int)
 hi:∀v:Nat,v<n->rd out (v:Int)+1<=ct out
 qv:∀x,x∈Q->x<n/\D<=rd out (x:Int)
 nT:Q.Pairwise fun (x y:Nat)=>rd out (x:Int)<=rd out (y:Int)
 top:∀v:Nat,v<n->rd out (v:Int)<=D+1
 d0:0<=D
 back:∀v:Nat,v<n->v≠q->0<=rd out (v:Int)->∃u:Nat,u<n/\nb u v/\0<=rd out (u:Int)/\rd out (u:Int)+1=rd out (v:Int)
 kR:∀v:Nat,v<n->0<=rd out (v:Int)->v∉Q->∀u:Nat,u<n->nb v u->¬ex v u->0<=rd out (u:Int)/\rd out (u:Int)<=rd out (v:Int)+1
theorem Bf.start {n q:Nat} {nb:Nat->Nat->Prop} (b:q<n):Bf n q nb ((List.replicate n (-1)).set q 0) [q] 0 (fun _ _=>False):=by
 have h1:∀v:Nat,v<n->rd ((List.replicate n (-1)).set q 0) (v:Int)=if q=v then 0 else -1:=fun v a=>by
  split
  ·rename_i e;subst e;exact kf _ _ _ (by simpa using a)
  ·rename_i e
   rw[ju _ _ _ _ e,kQ,aW,List.getElem?_replicate,if_pos a];rfl
 have g:ct ((List.replicate n (-1)).set q 0)=ct (List.replicate n (-1))+1:=ss _ q 0 (by simpa using b) (by rw[aW,List.getElem?_replicate,if_pos b];decide) (by decide);refine⟨by simp,by rw[h1 q b,if_pos rfl],fun v a=>?_,fun v a=>?_,fun x i=>?_,by simp,fun v a=>?_,by decide,fun v a j h=>?_,fun v a h hn=>?_⟩
 ·rw[h1 v a];split<;>omega
 ·rw[h1 v a,g];split<;>omega
 ·obtain rfl:=List.mem_singleton.1 i
  exact⟨b,by rw[h1 x b,if_pos rfl];omega⟩
 ·rw[h1 v a];split<;>omega
 ·rw[h1 v a,if_neg (fun e=>j e.symm)] at h;omega
 ·rw[h1 v a] at h
  by_cases e:q=v
  ·exact absurd (List.mem_singleton.2 e.symm) hn
  ·rw[if_neg e] at h;omega
theorem Bf.pop {n q:Nat} {nb:Nat->Nat->Prop} {out:List Int} {v:Nat} {Q:List Nat} {D:Int} (h:Bf n q nb out (v::Q) D (fun _ _=>False)):Bf n q nb out Q (rd out (v:Int)) (fun x _=>x=v):=by
 have j:=h.qv v (List.mem_cons_self ..);have b:=List.pairwise_cons.1 h.nT;refine⟨h.len,h.q0,h.lo,h.hi,fun x a=>⟨(h.qv x (List.mem_cons_of_mem _ a)).1,b.1 x a⟩,b.2,fun u hu=>?_,by have:=h.d0;omega,h.back,fun x a g hn u hu i hex=>?_⟩
 ·have:=h.top u hu;omega
 ·exact h.kR x a g (fun hm=>by rcases List.mem_cons.1 hm with e|e;exact hex e;exact hn e) u hu i (fun f=>f)
theorem Bf.look {n q:Nat} {nb:Nat->Nat->Prop} {out:List Int} {v u:Nat} {Q:List Nat} {ex:Nat->Prop} (h:Bf n q nb out Q (rd out (v:Int)) (fun x y=>x=v/\ex y)) (hu:u<n) (z:v<n) (G:nb v u):
  (0<=rd out (u:Int)->Bf n q nb out Q (rd out (v:Int)) (fun x y=>x=v/\ex y/\y≠u))/\
  (rd out (u:Int)<0->u≠v/\rd (out.set u (rd out (v:Int)+1)) (v:Int)=rd out (v:Int)/\ct (out.set u (rd out (v:Int)+1))=ct out+1/\Bf n q nb (out.set u (rd out (v:Int)+1)) (Q++[u]) (rd out (v:Int)) (fun x y=>x=v/\ex y/\y≠u)):=by
 have hd:=h.d0;refine⟨fun k=>⟨h.len,h.q0,h.lo,h.hi,h.qv,h.nT,h.top,hd,h.back,fun x g i hn y j l hex=>?_⟩,fun k=>?_⟩
 ·by_cases e:x=v/\ex y
  ·have:y=u:=Classical.byContradiction fun e2=>hex ⟨e.1,e.2,e2⟩
   subst this;have:=h.top y j;rw[e.1];exact⟨k,this⟩
  ·exact h.kR x g i hn y j l e
 ·have B:u≠v:=fun e=>by rw[e] at k;omega
  have C:u<out.length:=by rw[h.len];exact hu
  have r:rd (out.set u (rd out (v:Int)+1)) (v:Int)=rd out (v:Int):=ju _ _ _ _ B;have e2:∀x:Nat,x<n->rd (out.set u (rd out (v:Int)+1)) (x:Int)=if u=x then rd out (v:Int)+1 else rd out (x:Int):=fun x g=>by
   split
   ·rename_i e;subst e;exact kf _ _ _ C
   ·rename_i e;exact ju _ _ _ _ e
  have D:=ss out u (rd out (v:Int)+1) C (by rw[<-kQ];exact k) (by omega);have m:∀x:Nat,x<n->0<=rd out (x:Int)->rd (out.set u (rd out (v:Int)+1)) (x:Int)=rd out (x:Int):=fun x g i=>by
   rw[e2 x g,if_neg (fun e=>by subst e;omega)]
  have o:∀x,x∈Q->rd (out.set u (rd out (v:Int)+1)) (x:Int)=rd out (x:Int):=fun x g=>m x (h.qv x g).1 (by have:=(h.qv x g).2;omega)
  refine⟨B,r,D,by rw[List.length_set];exact h.len,?_,fun x g=>?_,fun x g=>?_,fun x g=>?_,?_,fun x g=>?_,hd,fun x g H i=>?_,fun x g i hn y j l hex=>?_⟩
  ·rw[ju _ _ _ _ (fun e=>by subst e;have:=h.q0;omega)];exact h.q0
  ·rw[e2 x g];split
   ·omega
   ·exact h.lo x g
  ·rw[e2 x g,D];split
   ·have:=h.hi v z;omega
   ·have:=h.hi x g;omega
  ·rcases List.mem_append.1 g with g|g
   ·exact⟨(h.qv x g).1,by rw[o x g];exact(h.qv x g).2⟩
   ·obtain rfl:=List.mem_singleton.1 g
    exact⟨hu,by rw[e2 x hu,if_pos rfl];omega⟩
  ·refine List.pairwise_append.2 ⟨h.nT.imp_of_mem fun {a b} p hb I=>by rw[o a p,o b hb];exact I,by simp,fun a p b hb=>?_⟩
   obtain rfl:=List.mem_singleton.1 hb;rw[o a p,e2 b hu,if_pos rfl];have:=h.top a (h.qv a p).1;omega
  ·rw[e2 x g];split
   ·omega
   ·exact h.top x g
  ·by_cases e:u=x
   ·subst e
    exact⟨v,z,G,by rw[r];omega,by rw[r,e2 u hu,if_pos rfl]⟩
   ·rw[e2 x g,if_neg e] at i⊢
    obtain⟨y,s,J,w,K⟩:=h.back x g H i;exact⟨y,s,J,by rw[m y s w];exact w,by rw[m y s w];exact K⟩
  ·have L:u≠x:=fun e=>hn (List.mem_append.2 (.inr (List.mem_singleton.2 e.symm)))
   rw[e2 x g,if_neg L] at i⊢;by_cases E:y=u
   ·subst E
    rw[e2 y j,if_pos rfl];by_cases F:x=v
    ·rw[F];omega
    ·have:=h.kR x g i (fun hm=>hn (List.mem_append.2 (.inl hm))) y j l (fun f=>F f.1)
     omega
   ·have:=h.kR x g i (fun hm=>hn (List.mem_append.2 (.inl hm))) y j l (fun f=>hex ⟨f.1,f.2,E⟩)
    rw[m y j this.1];exact this
section
attribute [local go_sem] Oper.semAt_some
def eu (B:Nat->Bool) (L:List (Int×Int)):Int:=L.foldl (fun s x=>if B x.1.toNat=true then wrap64 (s+x.2) else s) 0
theorem su (B:Nat->Bool) (L:List (Int×Int)) (x:Int×Int):eu B (L++[x])=if B x.1.toNat=true then wrap64 (eu B L+x.2) else eu B L:=by simp[eu,List.foldl_append]
end
section
attribute [local go_sem] Oper.semAt_some
theorem FP (g n:Nat) (A0:Option Addr) (c0:Nat) (E:List S83) (q:Int) (dv Q:Value) (R:Int) (v:Nat) (lb:Array Value) (B:Nat->Bool) (w:World) (ab:Kd.C aM w A0 E.length E) (hE:eE n E) (hn:n<=1000) (hv:v<n) (i:iu w g n (.slice A0 E.length c0) q dv Q R)
  (hB:∀(W:World) (u:Int),Below w.heap.size w W->0<=u->u<n->Calls Tryz.prog 195 (#[.int .i64 u]++lb) W fun e w'=>e= .returned (.bool (B u.toNat))/\Below W.heap.size W w'):
  Calls Tryz.prog 168 #[.pointer (some ⟨g,0,none⟩),.int .i64 v,.func (.func 195) #[] lb] w fun e w'=>e= .returned (.int .i64 (eu B (cK E v E.length)))/\Below w.heap.size w w':=by
 have a9:=zA hB;have HE:=zA hE;have ak:=zA i;clear hB hE i;refine(callsIn_wide (n:=10)).1 ?_;refine callsIn_of_wp_marks Tryz.func168 rfl trivial ?_ rfl;simp only[Tryz.ntmps168,List.size_toArray,List.length_cons,List.length_nil,Nat.reduceAdd,Nat.reduceSub,Array.replicate_succ,Array.replicate_zero,List.push_toArray,List.append_toArray,List.nil_append,List.cons_append];gi_wp2_with (refine⟨trivial,?_⟩;gi_at_call 194;refine(callsIn_wide.2 (mq g v _)).mono ?_;rintro e w3 ⟨rfl,rfl⟩)
 obtain⟨p,am⟩:∃o:Obj,o= .cells #[.func (.func 195) #[] lb] 121:=⟨_,rfl⟩;obtain⟨on,an⟩:∃o:Obj,o= .cells #[.int .i64 0] 3:=⟨_,rfl⟩;obtain⟨r,ao⟩:∃o:Obj,o= .cells #[.pointer (some ⟨g,0,none⟩)] 135:=⟨_,rfl⟩;obtain⟨y,ap⟩:∃o:Obj,o= .cells #[.int .i64 v] 3:=⟨_,rfl⟩;have Z0:=a6 w p;have S:=a6 (w.alloc p) on;have T:=a6 ((w.alloc p).alloc on) r;have U:=a6 (((w.alloc p).alloc on).alloc r) y;simp only[World.size_alloc] at S T U;have H0:=zA ((aq (aq (aq Z0 on) r) y).trans (by rw[am]:_=some (.cells #[.func (.func 195) #[] lb] 121 (0,0))));have H1:=zA ((aq (aq S r) y).trans (by rw[an]:_=some (.cells #[.int .i64 0] 3 (0,0))));have H2:=zA ((aq T y).trans (by rw[ao]:_=some (.cells #[.pointer (some ⟨g,0,none⟩)] 135 (0,0))));have H3:=zA (U.trans (by rw[ap]:_=some (.cells #[.int .i64 v] 3 (0,0))));have z:=zA (ai (ai (ai (ai (aj w.heap.size w) p) on) r) y);have aO:Aside0 (iu ((((w.alloc p).alloc on).alloc r).alloc y) g n (.slice A0 E.length c0) q dv Q R):=⟨az ak.out z.out⟩;have bn:g<w.heap.size:=ay ak.out;have be:=zA (Kd.ax ab z.out);clear Z0 S T U;subst am an ao ap;have bf:=z.out.size;have bg:((((w.alloc (.cells #[.func (.func 195) #[] lb] 121)).alloc (.cells #[.int .i64 0] 3)).alloc (.cells #[.pointer (some ⟨g,0,none⟩)] 135)).alloc (.cells #[.int .i64 v] 3)).heap.size=w.heap.size+4:=by simp
 generalize ((((w.alloc (.cells #[.func (.func 195) #[] lb] 121)).alloc (.cells #[.int .i64 0] 3)).alloc (.cells #[.pointer (some ⟨g,0,none⟩)] 135)).alloc (.cells #[.int .i64 v] 3))=j at H0 H1 H2 H3 z aO be bf bg⊢;refine gU (σ:=Unit) (α:=Int×Int) (F:=Fence.wide) (n:=10) rfl (by decide) (gf:=207) (lb:=#[.pointer (some ⟨w.heap.size+1+1,0,none⟩),.pointer (some ⟨w.heap.size+1+1+1,0,none⟩)]) rfl trivial (enters_of Tryz.func207 (by kernel_rfl) rfl)
  (fun o=>pg (w.heap.size+1+1) (w.heap.size+1+1+1) g n A0 c0 E q dv Q R v w _ ab HE.out hn hv (ai (ai z.out _) _) (aq (aq H2.out _) _) (aq (aq H3.out _) _) (aq (aq aO.out _) _)) (fun _=>rfl)
  (fun _=>True) ?dH ?st ?ar
  (fun _ pre W=>j.heap.size<=W.heap.size/\W.heap[w.heap.size]? =some (.cells #[.func (.func 195) #[] lb] 121 (0,0))/\W.heap[w.heap.size+1]? =some (.cells #[.int .i64 (eu B pre)] 3 (0,0))/\Below w.heap.size w W) (fun _ _ _ _=>False)
  ?is (fun _ _ _ _ _ _ h _=>h) ?ib (fun _ _ _ _ _ h _=>h) ?kt ?h0 ?a1 ?assign ?body ?done (fun _ _ _ _ _ _ _ h=>h.elim)
 case assign=>
  intro l x W K hK;gi_wp2;exact hK
 case dH=>
  intro o s W1 h;exact⟨trivial,by rw[h];exact b8.refl _ _⟩
 case st=>intro s A B _ h;exact cS h
 case ar=>intro s x A B _ h;exact cS h.2
 case is=>
  rintro s pre A B _ ⟨H,h1,V,X⟩ i;exact⟨Nat.le_trans H i.size,az h1 i,az V i,aQ X i⟩
 case ib=>
  rintro s pre A B ⟨H,h1,V,X⟩ hb;exact⟨by rw[hb.size];exact H,hb.cells h1,hb.cells V,X.trans (hb.below w.heap.size (by omega))⟩
 case kt=>
  intro s A B C D N aP aS;refine⟨fun aT=>((N.below w.heap.size (by omega)).trans (aP.1 (by rw[N.size];exact aT))).trans (aS.below w.heap.size (by omega)),fun k hk I=>?_⟩;have a0:k≠j.heap.size+1:=by rcases hk with rfl|rfl|rfl<;>omega
  exact(aS.heap k a0).trans ((aP.2 k hk (by rw[N.size];exact I)).trans (N.heap k a0))
 case h0=>
  rintro o s W1 rfl;exact⟨by simp;omega,aq (aq H0.out _) _,aq (aq H1.out _) _,ai (ai z.out _) _⟩
 case body=>
  rintro l s pre ⟨u,m⟩ Wb W1 W _ ⟨H,i1,i2,i3⟩ ⟨Y,J⟩ bk b;have Z:=zA (b.cells (az i1 J));have L:=zA (b.cells (az i2 J));have b3:=zA ((aQ i3 J).trans (b.below w.heap.size (by omega)));have bq:j.heap.size<=W.heap.size:=by have:=b.size;have:=J.size;omega
  clear i1 i2 i3 J b bk;simp only at Y;have bv:W.cell? ⟨w.heap.size,0,none⟩=some (.func (.func 195) #[] lb):=(ah Z.out 0).trans rfl;have O:=zA (a9.out W u b3.out Y.1 Y.2.1);have M:=zA (su B pre (u,m));generalize eu B pre=s0 at L M;cases P:B u.toNat with
  |true=>
   rw[P] at O M;clear P;gi_wp2_with (refine⟨trivial,?_⟩;gi_at_call 195;refine(callsIn_wide.2 O.out).mono ?_;rintro e w5 ⟨rfl,G⟩;have a:=zA G;have D2:=zA (az L.out G);have c5:w5.cell? ⟨w.heap.size+1,0,none⟩=some (.int .i64 s0):=(ah D2.out 0).trans rfl;have f5:=bE D2.out 0;clear G)
   have aT:=a.out.size;refine⟨(cS a.out).trans (eU _ _ (by show w.heap.size+1<j.heap.size;omega)),⟨fun aT=>Below.setCell (a.out.mono aT) (by show w.heap.size<=w.heap.size+1;omega) _,fun k hk I=>?_⟩,by simp;omega,?_,?_,Below.setCell (aQ b3.out a.out) (by show w.heap.size<=w.heap.size+1;omega) _⟩
   ·rw[Below.heap_setCell _ _ _ _ (by rcases hk with rfl|rfl|rfl<;>(show _≠w.heap.size+1)<;>omega)]
    exact a.out.block k I
   ·rw[Below.heap_setCell _ _ _ _ (by show w.heap.size≠w.heap.size+1;omega)]
    exact az Z.out a.out
   ·have h:=bV D2.out 0 (.int .i64 (wrap64 (s0+m)))
    rw[M.out];simpa using h
  |false=>
   rw[P] at O M;clear P;gi_wp2_with (refine⟨trivial,?_⟩;gi_at_call 195;refine(callsIn_wide.2 O.out).mono ?_;rintro e w5 ⟨rfl,G⟩;have a:=zA G;clear G)
   have aT:=a.out.size;exact⟨cS a.out,⟨fun aT=>a.out.mono aT,fun k hk I=>a.out.block k I⟩,by omega,az Z.out a.out,by rw[M.out];exact az L.out a.out,aQ b3.out a.out⟩
 case done=>
  rintro s xs W W' _ rfl ⟨H,i1,i2,i3⟩ b a3;have L:=zA (b.cells i2);have b3:=zA (i3.trans (b.below w.heap.size (by omega)));have a4:=zA a3;clear i1 i2 i3 a3;have hc:W'.cell? ⟨w.heap.size+1,0,none⟩=some (.int .i64 (eu B (cK E v E.length))):=(ah L.out 0).trans rfl;gi_wp2_with fail
  have bl:Bk j.heap.size W' (W'.putObj j.heap.size (.deferred none)):=⟨_,_,a4.out,rfl,rfl⟩;exact iG (D:=j.heap.size) rfl a4.out (results_tmp rfl _ _ _) ⟨rfl,b3.out.trans (bl.below w.heap.size (by omega))⟩
end
theorem FQ (gb a cr n:Nat) (B:Nat->Bool) (ok:Nat->Prop) (base:Nat) (W:World) (u:Int) (hb:W.heap[gb]? =some (.cells #[.slice (some ⟨a,0,none⟩) n cr] 43 (0,0))) (g:Kd.bool.R 4 W base ok (.slice (some ⟨a,0,none⟩) n cr) ((List.range n).map B)) (h:0<=u) (hn:u<n):
  Calls Tryz.prog 195 #[.int .i64 u,.pointer (some ⟨gb,0,none⟩)] W fun e w'=>e= .returned (.bool (B u.toNat))/\Below W.heap.size W w':=by
 have i:W.cell? ⟨gb,0,none⟩=some (.slice (some ⟨a,0,none⟩) n cr):=(ah hb 0).trans rfl;have b:=(Kd.bP false g u h hn).1;have e:bL false ((List.range n).map B) u=B u.toNat:=by
  obtain⟨m,rfl⟩:=Int.eq_ofNat_of_zero_le h;have:m<n:=by omega
  simp[bL,aW,List.getElem?_map,List.getElem?_range this]
 rw[e] at b;have b:W.cell? ⟨a,u.toNat,none⟩=some (.bool (B u.toNat)):=b;clear g hb e;go_enter Tryz.func195,Tryz.ntmps195
 go_wp2;go_ret;exact⟨rfl,aj _ _⟩
theorem FT (n:Nat) (B:Nat->Bool) (v:Nat):((List.range n).map B).set v true=(List.range n).map (ei B v):=by
 refine List.ext_getElem (by simp) fun i h1 a=>?_
 rw[List.getElem_set];simp only[List.getElem_map,List.getElem_range];unfold ei;by_cases e:v=i
 ·subst e;simp
 ·rw[if_neg e,if_neg (fun h=>e h.symm)]
theorem FU (n q:Nat):(List.replicate n false).set q true=(List.range n).map (cJ q):=by
 refine List.ext_getElem (by simp) fun i h1 a=>?_
 rw[List.getElem_set];simp only[List.getElem_map,List.getElem_range,List.getElem_replicate];unfold cJ;by_cases e:q=i
 ·subst e;simp
 ·rw[if_neg e,if_neg (fun h=>e h.symm)]
theorem FV {n:Nat} {c:(Nat->Bool)->Nat->Bool} {b F:Nat->Bool} (hm:∀(b b':Nat->Bool) v,(∀u,u<n->b u=true->b' u=true)->b' v=false->c b v=true->c b' v=true) (hF:∀v,v<n->c F v=false) (hb:∀v,v<n->b v=true->F v=true):
  ∀(f:Nat) (b:Nat->Bool),(∀v,v<n->b v=true->F v=true)->∀v,v<n->cP b (gh n c f b) v=true->F v=true:=by
 intro f;induction f with
 |zero=>intro b hb v a h;exact hb v a h
 |succ f j=>
  intro b hb v a h;cases g:jY n c b with
  |none=>simp only[gh,g] at h;exact hb v a h
  |some v0=>
   have h1:=List.find?_some g;have l:=List.mem_range.1 (List.mem_of_find?_eq_some g);simp only[gh,g,rY] at h;refine j (ei b v0) (fun u hu i=>?_) v a h;unfold ei at i;by_cases e:u=v0
   ·subst e
    cases k:F u with
    |true=>rfl
    |false=>have:=hm b F u hb k (by simpa using h1);rw[hF u hu] at this;cases this
   ·rw[if_neg e] at i;exact hb u hu i
def bG (n:Nat) (t:Nat->Nat->Int) (q:Nat) (d:List Int):Nat->Bool:=cP (cJ q) (eL n (cD n t d) (cJ q))
theorem xr {n:Nat} {t:Nat->Nat->Int} (e:∀i j,0<=t i j) {d:List Int} (b b':Nat->Bool) (v:Nat) (h:∀u,u<n->b u=true->b' u=true) (g:b' v=false) (a:cD n t d b v=true):cD n t d b' v=true:=by
 unfold cD at a⊢;simp only[Bool.and_eq_true,decide_eq_true_eq] at a⊢;have hf:∀m,m<=n->db t b v m<=db t b' v m:=by
  intro m;induction m with
  |zero=>intro _;exact Int.le_refl _
  |succ m k=>
   intro hm;have h1:=k (by omega);have o:=e v m;have l:=h m (by omega);simp only[db];by_cases hb:b m=true
   ·rw[if_pos hb,if_pos (l hb)];omega
   ·rw[if_neg hb];split<;>omega
 exact⟨by simp[g],Int.lt_of_lt_of_le a.2 (hf n (aI _))⟩
theorem FW {n:Nat} {t:Nat->Nat->Int} (k:∀i j,0<=t i j) {q:Nat} {d:List Int} {B:Nat->Bool} (l:B q=true) (m:∀v,v<n->B v=true->bG n t q d v=true) (o:∀v,v<n->cD n t d B v=false):∀v,v<n->bG n t q d v=B v:=by
 intro v a;cases g:B v with
 |true=>exact m v a g
 |false=>
  cases hF:bG n t q d v with
  |false=>rfl
  |true=>
   have h:∀u,u<n->cJ q u=true->B u=true:=fun u _ hu=>by
    unfold cJ at hu;by_cases e:u=q
    ·rw[e];exact l
    ·rw[if_neg e] at hu;cases hu
   have:=FV (b:=cJ q) (fun b b' v h1 p r=>xr k b b' v h1 p r) o h _ (cJ q) h v a hF;rw[g] at this;cases this
theorem FX {n:Nat} {t:Nat->Nat->Int} (g:∀i j,0<=t i j) {q:Nat} {d:List Int} {B:Nat->Bool} (a:∀v,v<n->B v=true->bG n t q d v=true) {v:Nat} (m:v<n) (k:cD n t d B v=true):∀u,u<n->ei B v u=true->bG n t q d u=true:=by
 intro u hu h;unfold ei at h;by_cases e:u=v
 ·subst e
  cases hF:bG n t q d u with
  |true=>rfl
  |false=>
   have h1:=rZ (n:=n) (c:=cD n t d) (fun b v h=>ny b v h) (dV n (cJ q)) (cJ q) (aI _) u hu;have l:=xr g B (bG n t q d) u a hF k;rw[show cD n t d (cP (cJ q) (gh n (cD n t d) (dV n (cJ q)) (cJ q))) u=cD n t d (bG n t q d) u from rfl,l] at h1;cases h1
 ·rw[if_neg e] at h;exact a u hu h
theorem FY (g n:Nat) (A0:Option Addr) (c0:Nat) (E:List S83) (q:Nat) (Ad:Option Addr) (cd:Nat) (d:List Int) (sv:Value) (er:Int) (w:World) (cv:Kd.C aM w A0 E.length E) (hE:eE n E) (hn:n<=1000) (hq:q<n) (aL:iu w g n (.slice A0 E.length c0) q (.slice Ad d.length cd) sv er)
  (hd:Kd.C (Kd.int .i64) w Ad d.length d) (b1:d.length=n) (b2:∀(B:Nat->Bool) (v:Nat),v<n->B v=false->eu B (cK E v E.length)=db (af E) B v n):
  Calls Tryz.prog 170 #[.pointer (some ⟨g,0,none⟩)] w fun e w'=>∃G cl,e= .returned (.tuple #[.slice (some ⟨G,0,none⟩) n cl,.bool ((List.range n).any fun v=> !bG n (af E) q d v)])/\Kd.bool.R 4 w' w.heap.size (fun _=>True) (.slice (some ⟨G,0,none⟩) n cl) ((List.range n).map fun v=> !bG n (af E) q d v)/\Below w.heap.size w w':=by
 have d6:=Tryz.underlying188;have hu:=Tryz.underlying24;have cx:=zA b2;have HE:=zA hE;have ap:=zA aL;have HD:=zA hd;have s0:w.cell? ⟨g,0,none⟩=some (.int .i64 n):=(ah aL 0).trans rfl;have b6:=b1;have c1:=zA b6;clear b2 hE aL hd b1 b6;have b_:(0:Int)<=(n:Int):=by omega
 go_enter Tryz.func170,Tryz.ntmps170
 go_wp2_with (first|((with_reducible refine aU (N:=16) rfl ?_);refine Kd.lr Kd.bool _ 4 rfl (N:=16) rfl 43 _ _ rfl (n:Int) rfl rfl Tryz.underlying43 (.bool false) 1 lF rfl (by decide) (by omega) false (ok:=fun _=>True) (okp:=fun _=>True) rfl (fun _ hk=>hk) trivial b_ (by simp;omega) (aj _ _) (aI _) ?_;intro v1 w1 H hb aO aP;rw[aD] at H;obtain⟨l,cr,K,ca,aS, -⟩:=Kd.gC H (by rw[List.length_replicate];omega);rw[List.length_replicate] at K;subst K;have cb:=zA H;have a0:=zA hb;clear H hb aO aP))
 have c2:=a0.out.size;have L:=zA (a6 w1 (.cells #[.slice (some ⟨l,0,none⟩) n cr] 43));have T:=zA (Kd.aK cb.out (.cells #[.slice (some ⟨l,0,none⟩) n cr] 43));have M:=zA (ai a0.out (.cells #[.slice (some ⟨l,0,none⟩) n cr] 43));have a1:=zA (az ap.out M.out);have cc:=zA (Kd.ax HD.out M.out);have d7:g<w.heap.size:=ay ap.out;have c3:l<w1.heap.size:=aS;clear cb a0 aS s0;generalize w1.alloc (.cells #[.slice (some ⟨l,0,none⟩) n cr] 43)=W2 at L T M a1 cc⊢;generalize w1.heap.size=gb at L c3 c2⊢;have b0:W2.cell? ⟨gb,0,none⟩=some (.slice (some ⟨l,0,none⟩) n cr):=(ah L.out 0).trans rfl;have s2:W2.cell? ⟨g,2,none⟩=some (.int .i64 q):=(ah a1.out 2).trans rfl;obtain⟨o,hf⟩:=Kd.bP false T.out (q:Int) (by omega) (by omega);rw[aD] at o hf;have ce:W2.cell? ⟨l,q,none⟩=some (.bool (bL false (List.replicate n false) q)):=o;have d8:(0:Int)<=(q:Int):=by omega
 have d9:(q:Int)<(n:Int):=by omega
 clear o;generalize bL false (List.replicate n false) q=x0 at ce;go_region
 go_wp2;have y:=Kd.dg T.out (q:Int) true;rw[aD,FU] at y;have a2:=zA (Kd.bA y.1);have a3:=zA (ff (di (g:=gb) L.out y.2 (fun e=>by injection e with e;omega)));have a4:=zA (bY (Below.setCell (p:=⟨l,q,none⟩) M.out ca (.bool true)));have ht:∀i j,0<=af E i j:=fun i j=>(HE.out.times i j).1
 have HT:=zA ht;have ch:=zA (show cJ q q=true by simp[cJ]);have ci:Aside0 (∀v,v<n->cJ q v=true->bG n (af E) q d v=true):=⟨fun v K h=>rX _ h⟩;have c4:gb≠l:=by omega
 clear y T L a1 M cc b0 s2 ce hf ht;generalize (W2.setCell ⟨l,q,none⟩ (.bool true)).drew=W3 at a2 a3 a4⊢;go_loopg [6] (2*n+2) (fun kq ag wr=>∃(B:Nat->Bool) (b:Bool),ag= .bool b/\Aside0 (B q=true)/\Aside0 (∀v,v<n->B v=true->bG n (af E) q d v=true)/\Aside0 (b=false->∀v,v<n->cD n (af E) d B v=false)/\Aside0 (wr.heap[gb]? =some (.cells #[.slice (some ⟨l,0,none⟩) n cr] 43 (0,0)))/\Aside0 (Kd.bool.R 4 wr w.heap.size (fun _=>True) (.slice (some ⟨l,0,none⟩) n cr) ((List.range n).map B))/\Aside0 (Below w.heap.size w wr)/\Aside0 (2*dV n B+(if b=true then 1 else 0)<=kq))
 case atStart=>exact⟨cJ q,true,rfl,ch,ci,⟨fun h=>by cases h⟩,a3,a2,a4,⟨by have:=uP n (cJ q);simp;omega⟩⟩
 case round=>
  clear ch ci a3 a2 a4;obtain⟨B,b,rfl,I,J,bb,D,F,r,HK⟩:=hrel;have O:=zA (az ap.out r.out);have s0:wr.cell? ⟨g,0,none⟩=some (.int .i64 n):=(ah O.out 0).trans rfl;cases b with
  |true=>
   go_wp2;go_loopg [6,30] (n) (fun kq ag Z wr=>∃(v:Nat) (m:Nat->Bool) (b':Bool),ag= .bool b'/\Z= .int .i64 v/\v<=n/\Aside0 (m q=true)/\Aside0 (∀v,v<n->m v=true->bG n (af E) q d v=true)/\Aside0 (b'=false->m=B/\∀u,u<v->cD n (af E) d B u=false)/\Aside0 (dV n m+(if b'=true then 1 else 0)<=dV n B)/\Aside0 (wr.heap[gb]? =some (.cells #[.slice (some ⟨l,0,none⟩) n cr] 43 (0,0)))/\Aside0 (Kd.bool.R 4 wr w.heap.size (fun _=>True) (.slice (some ⟨l,0,none⟩) n cr) ((List.range n).map m))/\Aside0 (Below w.heap.size w wr)/\Aside0 (kq=n-v))
   case atStart=>exact⟨0,B,false,rfl,rfl,by omega,I,J,⟨fun _=>⟨rfl,fun u hu=>by omega⟩⟩,⟨by simp⟩,D,F,r,⟨rfl⟩⟩
   case round=>
    clear O s0 I J bb D F r;obtain⟨v,m,b',rfl,rfl,K,I,J,P,HU,D,F,r,be⟩:=hrel;by_cases Q:v<n
    ·have c6:(0:Int)<=(v:Int):=by omega
     have c7:(v:Int)<(n:Int):=by omega
     have b0:wr.cell? ⟨gb,0,none⟩=some (.slice (some ⟨l,0,none⟩) n cr):=(ah D.out 0).trans rfl;obtain⟨o,hf⟩:=Kd.bP false F.out (v:Int) (by omega) (by omega);rw[aD] at o hf;have e1:bL false ((List.range n).map m) v=m v:=by simp[bL,aW,List.getElem?_map,List.getElem?_range Q]
     rw[e1] at o;replace o:wr.cell? ⟨l,v,none⟩=some (.bool (m v)):=o;clear e1;cases V:m v with
     |true=>
      rw[V] at o;have ab:=zA V;clear V;go_wp2_with fail
      go_quiet (fail)
      go_wp2;go_roundg (n- (v+1))
      case measure=>rw[be.out];omega
      case rel=>exact⟨v+1,m,b',rfl,by go_num,by omega,I,J,⟨fun h=>⟨(P.out h).1,fun u hu=>by
       by_cases e:u=v
       ·subst e
        have:=(P.out h).1;have h3:=ab.out;rw[this] at h3;unfold cD;rw[h3];rfl
       ·exact(P.out h).2 u (by omega)⟩⟩,HU,⟨by repeat(first|exact D.out|apply i'|apply ff)⟩,⟨by repeat(first|exact F.out|apply Kd.bJ|apply Kd.bA)⟩,⟨by repeat(first|exact r.out|apply bU|apply bY)⟩,⟨rfl⟩⟩
     |false=>
      rw[V] at o;have ab:=zA V;have O:=zA (az ap.out r.out);have s3:wr.cell? ⟨g,3,none⟩=some (.slice Ad d.length cd):=(ah O.out 3).trans rfl;have c9:=c1.out;obtain⟨a,ea,hx⟩:=Kd.cI (Kd.ax HD.out r.out) v (by omega) (by omega);subst ea;rw[aD] at hx;have eg:(v:Int)<(d.length:Int):=by omega
      have ek:=ay D.out;have el:=Kd.a8 F.out l rfl;have es:=ay O.out;have ev:=bm _ _ hx;clear V c9;go_wp2_with fail
      go_region_held3 (fun w'=>w'.cell? ⟨gb,0,none⟩=some (.slice (some ⟨l,0,none⟩) n cr)/\w'.cell? ⟨l,v,none⟩=some (.bool false)/\w'.cell? ⟨g,3,none⟩=some (.slice (some a) d.length cd)/\w'.cell? (a.add v)=some (.int .i64 (rd d v)))
       (first|go_keep|(go_split_ands;exact⟨(S.cell (p:=⟨gb,0,none⟩) (by simp;omega)).trans (by go_simp),(S.cell (p:=⟨l,v,none⟩) (by simp;omega)).trans (by go_simp),(S.cell (p:=⟨g,3,none⟩) (by simp;omega)).trans (by go_simp),(S.cell (p:=a.add v) (by simp;omega)).trans (by go_simp)⟩))
       (first|(go_at_call 168;refine(FP g n A0 c0 E q _ sv er v #[.pointer (some ⟨gb,0,none⟩)] m _ (Kd.ax cv zB) HE.out hn Q (zK O) (fun W u cj dd dk=>FQ gb l cr n m _ _ W u (az (zK D) cj) (Kd.cz (zR F) cj) dd dk)).mono ?_;rintro e w5 ⟨rfl,S⟩))
      have U:=zb D S;have X:=bF F S;have am:=zS r S;have ck:=zA (cx.out m v Q ab.out);have co:cD n (af E) d m v=decide (rd d v<eu m (cK E v E.length)):=by unfold cD;rw[ab.out,ck.out];rfl
      have bg:=zA co;rename_i hHeld;clear hHeld co S D F r O o hf b0 s3 hx;generalize eu m (cK E v E.length)=x at bg ck⊢;have b5:w5.cell? ⟨gb,0,none⟩=some (.slice (some ⟨l,0,none⟩) n cr):=(ah U.out 0).trans rfl;obtain⟨o,hf⟩:=Kd.bP false X.out (v:Int) (by omega) (by omega);rw[aD] at o hf;generalize bL false ((List.range n).map m) (v:Int)=z at o;replace o:w5.cell? ⟨l,v,none⟩=some (.bool z):=o;by_cases cp:rd d v<x
      ·have an:decide (rd d v<x)=true:=aE cp
       have bk:Aside0 (cD n (af E) d m v=true):=⟨bg.out.trans an⟩;have y:=Kd.dg X.out (v:Int) true;rw[aD,FT] at y;have dl:=zA y.1;have ds:=zA (di (g:=gb) U.out y.2 (fun e=>by injection e with e;exact c4 e));have dv:=zA (Below.setCell (p:=⟨l,v,none⟩) am.out ca (.bool true));clear y;simp only[an];go_wp2;go_roundg (n- (v+1))
       case measure=>rw[be.out];omega
       case rel=>exact⟨v+1,ei m v,true,rfl,by go_num,by omega,⟨by unfold ei;split;rfl;exact I.out⟩,⟨FX HT.out J.out Q bk.out⟩,⟨fun h=>by cases h⟩,⟨by have h1:=nt Q ab.out;have h2:=HU.out;simp;split at h2<;>omega⟩,ds,dl,dv,⟨rfl⟩⟩
      ·have an:decide (rd d v<x)=false:=ba cp
       have bk:Aside0 (cD n (af E) d m v=false):=⟨bg.out.trans an⟩;clear o hf b5;simp only[an];go_wp2;go_roundg (n- (v+1))
       case measure=>rw[be.out];omega
       case rel=>exact⟨v+1,m,b',rfl,by go_num,by omega,I,J,⟨fun h=>⟨(P.out h).1,fun u hu=>by
        by_cases e:u=v
        ·subst e
         have h3:=bk.out;rw[(P.out h).1] at h3;exact h3
        ·exact(P.out h).2 u (by omega)⟩⟩,HU,U,X,am,⟨rfl⟩⟩
    ·obtain rfl:v=n:=by omega
     go_wp2;go_roundg (2*dV v m+(if b'=true then 1 else 0))
     case measure=>
      have h1:=HK.out;have h2:=HU.out;cases b'<;>simp at h1 h2⊢ <;>omega
     case rel=>exact⟨m,b',rfl,I,J,⟨fun h u hu=>by rw[(P.out h).1];exact(P.out h).2 u hu⟩,D,F,r,⟨aI _⟩⟩
  |false=>
   go_wp2_with (first|((with_reducible refine aU (N:=61) rfl ?_);refine Kd.lr Kd.bool _ 4 rfl (N:=61) rfl 43 _ _ rfl (n:Int) rfl rfl Tryz.underlying43 (.bool false) 1 lF rfl (by decide) (by omega) false (ok:=fun _=>True) (okp:=fun _=>True) rfl (fun _ hk=>hk) trivial b_ (by simp;omega) (aj _ _) (aI _) ?_;intro v1 w5 H hb aO aP;rw[aD] at H;obtain⟨G,cl,K,dx,aS, -⟩:=Kd.gC H (by rw[List.length_replicate];omega);rw[List.length_replicate] at K;subst K;have cq:=zA H;have am:=zA (aQ r.out hb);have U:=zA (az D.out hb);have X:=zA (Kd.a_ (Kd.cz (Kd.dJ F.out) hb) (ok':=fun k=>k≠G) (fun k hk=>by have:=hk.2.2;omega));have d0:gb≠G:=(fun e=>by have:=ay D.out;omega);have d1:w.heap.size<=G:=Nat.le_trans r.out.size dx;have b5:w5.cell? ⟨gb,0,none⟩=some (.slice (some ⟨l,0,none⟩) n cr):=(ah U.out 0).trans rfl;clear H hb aO aP))
   have bl:=zA (FW HT.out I.out J.out (bb.out (by simp)));have d2:=r.out.size;clear O s0 I J bb D F r b5;have cs:Aside0 (Kd.bool.R 4 w5 w.heap.size (fun _=>True) (.slice (some ⟨G,0,none⟩) n cl) ((List.range n).map fun u=>if u<0 then !B u else false)):=⟨by
    have h:=Kd.bc cq.out (base':=w.heap.size) d2;rw[show (List.replicate n false:List Bool)=(List.range n).map fun u=>if u<0 then !B u else false from by
     refine List.ext_getElem (by simp) fun i h1 h2=>?_
     simp] at h
    exact h⟩
   clear cq;go_loopw [9,64] (fun d3 Z wr=>∃v:Nat,v<=n/\Z= .int .i64 v/\d3= .bool ((List.range v).any fun u=> !B u)/\Aside0 (wr.heap[gb]? =some (.cells #[.slice (some ⟨l,0,none⟩) n cr] 43 (0,0)))/\Aside0 (Kd.bool.R 4 wr w.heap.size (fun k=>k≠G) (.slice (some ⟨l,0,none⟩) n cr) ((List.range n).map B))/\Aside0 (Kd.bool.R 4 wr w.heap.size (fun _=>True) (.slice (some ⟨G,0,none⟩) n cl) ((List.range n).map fun u=>if u<v then !B u else false))/\Aside0 (Below w.heap.size w wr)) (fun _ Z _=>n- (intOf Z).toNat)
   case atStart=>exact⟨0,by omega,rfl,rfl,U,X,cs,am⟩
   case round=>
    clear U X cs am;obtain⟨v,K,rfl,rfl,D,F,HL,r⟩:=hrel;by_cases Q:v<n
    ·have c6:(0:Int)<=(v:Int):=by omega
     have c7:(v:Int)<(n:Int):=by omega
     have b0:wr.cell? ⟨gb,0,none⟩=some (.slice (some ⟨l,0,none⟩) n cr):=(ah D.out 0).trans rfl;obtain⟨o, -⟩:=Kd.bP false F.out (v:Int) (by omega) (by omega);obtain⟨hz,hf⟩:=Kd.bP false HL.out (v:Int) (by omega) (by omega);rw[aD] at o hz hf;have e1:bL false ((List.range n).map B) v=B v:=by simp[bL,aW,List.getElem?_map,List.getElem?_range Q]
     rw[e1] at o;replace o:wr.cell? ⟨l,v,none⟩=some (.bool (B v)):=o;generalize bL false ((List.range n).map fun u=>if u<v then !B u else false) (v:Int)=z at hz;replace hz:wr.cell? ⟨G,v,none⟩=some (.bool z):=hz;have y:=Kd.dg HL.out (v:Int) (!B v);rw[aD] at y;have em:(((List.range n).map fun u=>if u<v then !B u else false).set v (!B v))=(List.range n).map fun u=>if u<v+1 then !B u else false:=by
      refine List.ext_getElem (by simp) fun i h1 h2=>?_
      rw[List.getElem_set];simp only[List.getElem_map,List.getElem_range];by_cases e:v=i
      ·subst e;simp
      ·rw[if_neg e]
       by_cases h:i<v
       ·rw[if_pos h,if_pos (by omega)]
       ·rw[if_neg h,if_neg (by omega)]
     rw[em] at y;have bo:=zA y.1;have L:=zA (di (g:=gb) D.out y.2 (fun e=>by injection e with e;exact d0 e));have T:=zA (Kd.iB F.out y.2 (fun k hk e=>hk (by injection e)));have M:=zA (Below.setCell (p:=⟨G,v,none⟩) r.out d1 (.bool (!B v)));have Y:=(Kd.bP false bo.out (v:Int) (by omega) (by omega)).1;rw[aD] at Y;have e2:bL false ((List.range n).map fun u=>if u<v+1 then !B u else false) v= !B v:=by simp[bL,aW,List.getElem?_map,List.getElem?_range Q]
     rw[e2] at Y;have HA:=zA (show ((List.range (v+1)).any fun u=> !B u)=(((List.range v).any fun u=> !B u)|| !B v) by simp[List.range_succ,List.any_append]);replace Y:(wr.setCell ⟨G,v,none⟩ (.bool (!B v))).cell? ⟨G,v,none⟩=some (.bool (!B v)):=Y;have ew:=zA Y;clear y em e1 e2 Y;generalize hs:((List.range v).any fun u=> !B u)=s at HA⊢;clear hs;cases s with
     |true=>
      go_wp2;go_roundw
      case rel=>exact⟨v+1,by omega,by go_num,by rw[HA.out];rfl,L,T,bo,M⟩
      case measure=>exact(show n- ((v:Int)+1).toNat<n- ((v:Int)).toNat by omega)
     |false=>
      go_wp2;go_roundw
      case rel=>exact⟨v+1,by omega,by go_num,by rw[HA.out,Bool.false_or],L,T,bo,M⟩
      case measure=>exact(show n- ((v:Int)+1).toNat<n- ((v:Int)).toNat by omega)
    ·obtain rfl:v=n:=by omega
     go_wp2;go_ret2;refine⟨G,cl,?_,?_,r.out⟩
     ·rw[show ((List.range v).any fun u=> !bG v (af E) q d u)=((List.range v).any fun u=> !B u) from by
       rw[Bool.eq_iff_iff,List.any_eq_true,List.any_eq_true];constructor
       ·rintro⟨u,hu,h⟩;exact⟨u,hu,by rw[<-bl.out u (List.mem_range.1 hu)];exact h⟩
       ·rintro⟨u,hu,h⟩;exact⟨u,hu,by rw[bl.out u (List.mem_range.1 hu)];exact h⟩]
      rfl
     ·have h:=HL.out
      rw[show ((List.range v).map fun u=>if u<v then !B u else false)=(List.range v).map fun u=> !bG v (af E) q d u from List.map_congr_left fun u hu=>by
       have:=List.mem_range.1 hu;rw[if_pos this,bl.out u this]] at h
      exact h
section
structure SI (w0:World) (g gd gs cd cs n:Nat) (A0:Option Addr) (c0:Nat) (E:List S83) (q:Int) (d s:List Int) (W:World):Prop where
 hb:Below w0.heap.size w0 W
 st:iu W g n (.slice A0 E.length c0) q (.slice (some ⟨gd,0,none⟩) n cd) (.slice (some ⟨gs,0,none⟩) n cs) 0
 d:(Kd.int .i64).R 3 W w0.heap.size (fun _=>True) (.slice (some ⟨gd,0,none⟩) n cd) d
 s:(Kd.int .i64).R 3 W w0.heap.size (fun _=>True) (.slice (some ⟨gs,0,none⟩) n cs) s
 ne:gd≠gs/\g≠gd/\g≠gs/\w0.heap.size<=g
namespace SI
variable {w0 W W':World} {g gd gs cd cs n c0 l:Nat} {A0:Option Addr} {E:List S83} {q:Int} {d s:List Int}
theorem ld (h:SI w0 g gd gs cd cs n A0 c0 E q d s W):gd<W.heap.size/\gs<W.heap.size/\g<W.heap.size/\w0.heap.size<=gd/\w0.heap.size<=gs:=⟨Kd.a8 h.d gd rfl,Kd.a8 h.s gs rfl,ay h.st,Kd.dK h.d gd rfl,Kd.dK h.s gs rfl⟩
theorem below (h:SI w0 g gd gs cd cs n A0 c0 E q d s W) (hb:Below W.heap.size W W'):SI w0 g gd gs cd cs n A0 c0 E q d s W':=⟨aQ h.hb hb,az h.st hb,Kd.cz h.d hb,Kd.cz h.s hb,h.ne⟩
theorem alloc (h:SI w0 g gd gs cd cs n A0 c0 E q d s W) (o:Obj):SI w0 g gd gs cd cs n A0 c0 E q d s (W.alloc o):=h.below (ai (aj _ _) o)
theorem drewN (h:SI w0 g gd gs cd cs n A0 c0 E q d s W) (m:Nat):SI w0 g gd gs cd cs n A0 c0 E q d s (W.drewN m):=h.below (bU (aj _ _) m)
theorem bk (h:SI w0 g gd gs cd cs n A0 c0 E q d s W) (hb:Bk l W W') (a:w0.heap.size<=l):SI w0 g gd gs cd cs n A0 c0 E q d s W':=⟨h.hb.trans (hb.below _ a),hb.cells h.st,cQ h.d hb,cQ h.s hb,h.ne⟩
theorem fin (h:SI w0 g gd gs cd cs n A0 c0 E q d s W) {b:Nat} (hf:gu b W W') (hb:w0.heap.size<=b):SI w0 g gd gs cd cs n A0 c0 E q d s W':=⟨h.hb.trans (hf.gG.mono hb),hf.cells h.st,hf.R h.d,hf.R h.s,h.ne⟩
theorem iR (h:SI w0 g gd gs cd cs n A0 c0 E q d s W) (p:Addr) (v:Value) (a:p.block≠g/\p.block≠gd/\p.block≠gs) (hb:w0.heap.size<=p.block):SI w0 g gd gs cd cs n A0 c0 E q d s (W.setCell p v):=
 ⟨Below.setCell h.hb hb v,aG h.st (fun e=>a.1 e.symm) v,
  Kd.a_ (Kd.fK (Kd.gD rfl h.d) (fun k hk=>Below.heap_setCell _ _ _ _ (fun e=>a.2.1 (by rw[<-e];injection hk)))) (fun _ _=>trivial),
  Kd.a_ (Kd.fK (Kd.gD rfl h.s) (fun k hk=>Below.heap_setCell _ _ _ _ (fun e=>a.2.2 (by rw[<-e];injection hk)))) (fun _ _=>trivial),h.ne⟩
theorem pM (h:SI w0 g gd gs cd cs n A0 c0 E q d s W) (v:Nat) (x:Int):SI w0 g gd gs cd cs n A0 c0 E q (d.set v x) s (W.setCell ⟨gd,v,none⟩ (.int .i64 x)):=by
 obtain⟨h1,i,j,b,k⟩:=h.ld;have a:=Kd.dg h.d (v:Int) x;rw[aD] at a;exact⟨Below.setCell h.hb b _,aG h.st h.ne.2.1 _,a.1,Kd.jd h.s rfl a.2 (fun e=>by cases e;exact h.ne.1 rfl),h.ne⟩
theorem pN (h:SI w0 g gd gs cd cs n A0 c0 E q d s W) (v:Nat) (x:Int):SI w0 g gd gs cd cs n A0 c0 E q d (s.set v x) (W.setCell ⟨gs,v,none⟩ (.int .i64 x)):=by
 obtain⟨h1,i,j,k,b⟩:=h.ld;have a:=Kd.dg h.s (v:Int) x;rw[aD] at a;exact⟨Below.setCell h.hb b _,aG h.st h.ne.2.2.1 _,Kd.jd h.d rfl a.2 (fun e=>by cases e;exact h.ne.1 rfl),a.1,h.ne⟩
theorem kS (h:SI w0 g gd gs cd cs n A0 c0 E q d s W) (v:Nat) (a:v<n):W.cell? ⟨gd,v,none⟩=some (.int .i64 (rd d v)):=by
 have:=(Kd.bP 0 h.d (v:Int) (by omega) (by omega)).1;rw[aD] at this;exact this
theorem cells (h:SI w0 g gd gs cd cs n A0 c0 E q d s W) (v:Nat) (a:v<n):W.cell? ⟨gs,v,none⟩=some (.int .i64 (rd s v)):=by
 have:=(Kd.bP 0 h.s (v:Int) (by omega) (by omega)).1;rw[aD] at this;exact this
theorem pO (h:SI w0 g gd gs cd cs n A0 c0 E q d s W) (v:Nat) (a:v<n):W.frozen? ⟨gd,v,none⟩=false:=by
 have:=(Kd.bP 0 h.d (v:Int) (by omega) (by omega)).2;rw[aD] at this;exact this
theorem xt (h:SI w0 g gd gs cd cs n A0 c0 E q d s W) (v:Nat) (a:v<n):W.frozen? ⟨gs,v,none⟩=false:=by
 have:=(Kd.bP 0 h.s (v:Int) (by omega) (by omega)).2;rw[aD] at this;exact this
theorem f0 (h:SI w0 g gd gs cd cs n A0 c0 E q d s W):W.cell? ⟨g,0,none⟩=some (.int .i64 n):=(ah h.st 0).trans rfl
theorem f2 (h:SI w0 g gd gs cd cs n A0 c0 E q d s W):W.cell? ⟨g,2,none⟩=some (.int .i64 q):=(ah h.st 2).trans rfl
theorem f3 (h:SI w0 g gd gs cd cs n A0 c0 E q d s W):W.cell? ⟨g,3,none⟩=some (.slice (some ⟨gd,0,none⟩) n cd):=(ah h.st 3).trans rfl
theorem f4 (h:SI w0 g gd gs cd cs n A0 c0 E q d s W):W.cell? ⟨g,4,none⟩=some (.slice (some ⟨gs,0,none⟩) n cs):=(ah h.st 4).trans rfl
theorem f5 (h:SI w0 g gd gs cd cs n A0 c0 E q d s W):W.cell? ⟨g,5,none⟩=some (.int .i64 0):=(ah h.st 5).trans rfl
end SI
end
end Go.Proofs.YtffdiakgjakngaaGreat.P
namespace Go.Proofs.YtffdiakgjakngaaGreat.P
open Go Go.RowKit
set_option linter.unusedVariables false
set_option linter.unusedSimpArgs false
set_option maxHeartbeats 8000000
set_option maxRecDepth 100000
section
section
variable {F:Fence} {n:Nat} {P:Program} {md:Region.Mode} {C:World->Prop}
def fm (o:Oper):Oper:={o with op:=.move (.const undef)}
def sw (ops:List Oper):Bool:=ops.all fun o=>match o.op with| .defer _=>false|_=>true
theorem xu {l:List Oper} (h:sw l=true) {o:Oper} (a:o∈l):∀c,o.op≠ .defer c:=by
 intro c e;have:=List.all_eq_true.1 h o a;rw[e] at this;cases this
theorem xw {ops:Array Oper} {i:Nat} {a:Act} {K:Act->Prop} {m:Act->World->Prop} {Q':Exit->Act->World->Prop} {w:World} (s:∀p,ops[i]? =some p->∀c,p.op≠ .defer c) (hC:C w) (h:∀a w',C w'->K a->m a w')
  (b:qOpIn F n P ops C i K a):wpOpIn F n P ops Q' i m a w:=by
 unfold qOpIn at b;unfold wpOpIn;split
 ·rename_i k;simp only[k] at b;exact h _ _ hC b
 ·rename_i o k
  simp only[k] at b;obtain⟨q,b⟩:=b;split
  ·rename_i hw
   simp only[hw,if_true] at b;obtain⟨v,h1,l⟩:=b;have g:=h1 w hC;unfold Oper.quietAtIn at g;unfold Oper.wpIn;refine⟨q w hC,?_⟩;rw[Oper.semAt_eq _ _ _ (s o k)];generalize (execOp a.eval o).run P w=r at*;cases r with
   |ok x w'=>
    cases x<;>simp only[Oper.quietUponIn] at g<;>simp only[Oper.uponIn]
    case value u=>
     obtain⟨j,e2⟩:=g;rw[j,e2];exact h _ _ hC l
    case skip=>
     obtain⟨j,e2⟩:=g;rw[j,<-e2];exact h _ _ hC l
    case enter f args=>
     obtain⟨j,hd,y⟩:=g;rw[j];exact⟨hd,y.mono fun e B ⟨he,z⟩=>by subst he;exact h _ _ z l⟩
   |halt x w'=>simp only[Oper.quietUponIn] at g
  ·rename_i hw;simp only[hw] at b;exact⟨q w hC,h _ _ hC b⟩
def FZ (md:Region.Mode) (l:List Oper):Bool:=(List.range l.length).all fun i=>((l[i]?).map fun o=>o.after.all fun e=> !Region.binds md e||decide (e.on<i)).getD true
def F0 (md:Region.Mode) (m:Nat) (o:Oper):Bool:=(List.range m).all fun j=>o.after.any fun e=>Region.binds md e&&e.on==j
theorem xx {ops:Array Oper} (k:∀i p,ops[i]? =some p->∀e∈p.after,Region.binds md e=true->e.on<i) (a:Array Bool) (u:a.size=ops.size):∀j,j<ops.size->a.getD j true=false->Region.ready md ops a≠[]:=by
 intro j;induction j using Nat.strongRecOn with
 |ind j l=>
  intro m n he;obtain⟨o,g⟩:∃o,ops[j]? =some o:=⟨_,Array.getElem?_eq_getElem m⟩;by_cases b:∀e∈o.after,Region.binds md e=true->a.getD e.on false=true
  ·have:=mem_ready.2 ⟨n,o,g,b⟩
   rw[he] at this;cases this
  ·simp only[Classical.not_forall] at b
   obtain⟨e,h1,q,h⟩:=b;have r:=k j o g e h1 q;refine l e.on r (by omega) ?_ he;have s:e.on<a.size:=by omega
   simp[Array.getD_eq_getD_getElem?,Array.getElem?_eq_getElem s] at h⊢;exact h
theorem F1 {l1:List Oper} {o:Oper} {Qa:Act->Prop} {Q':Exit->Act->World->Prop} (E:o.dst=none) (G:∀i p,(l1++[o]).toArray[i]? =some p->i≠l1.length->∀c,p.op≠ .defer c) (B:∀i p,(l1++[o]).toArray[i]? =some p->∀e∈p.after,Region.binds md e=true->e.on<i)
  (H:∀j,j<l1.length->∃e∈o.after,Region.binds md e=true/\e.on=j) (I:∀a w,C w->Qa a->wpListIn F n P (l1++[o]).toArray Q' [o] a w):
  ∀(fuel:Nat) (b:Array Bool) (a:Act) (w:World),b.size=l1.length+1->b.getD l1.length true=false->C w->wpAnyQIn F n P md (l1++[fm o]).toArray C Qa fuel b a->wpAnyIn F n P md (l1++[o]).toArray Q' fuel b a w:=by
 have u:∀i,i≠l1.length->(l1++[fm o]).toArray[i]? =(l1++[o]).toArray[i]? :=fun i hi=>by
  rw[List.getElem?_toArray,List.getElem?_toArray];by_cases h:i<l1.length
  ·rw[List.getElem?_append_left h,List.getElem?_append_left h]
  ·rw[List.getElem?_eq_none (by simp;omega),List.getElem?_eq_none (by simp;omega)]
 have hm:(l1++[o]).toArray[l1.length]? =some o:=by simp
 have x:(l1++[fm o]).toArray[l1.length]? =some (fm o):=by simp
 have y:∀b,Region.ready md (l1++[fm o]).toArray b=Region.ready md (l1++[o]).toArray b:=fun b=>by
  unfold Region.ready;have aT:(l1++[fm o]).toArray.size=(l1++[o]).toArray.size:=by simp
  rw[aT];refine List.filter_congr fun i hi=>?_
  by_cases h:i=l1.length
  ·rw[h,hm,x];rfl
  ·rw[u i h]
 have J:∀tmps,yielded (l1++[fm o]).toArray tmps=yielded (l1++[o]).toArray tmps:=fun tmps=>by
  funext j
  unfold yielded;by_cases h:j=l1.length
  ·rw[h,hm,x];rfl
  ·rw[u j h]
 have aT:(l1++[o]).toArray.size=l1.length+1:=by simp
 have K:∀b:Array Bool,b.size=l1.length+1->l1.length∈Region.ready md (l1++[o]).toArray b->Region.ready md (l1++[o]).toArray (b.setIfInBounds l1.length true)=[]:=fun b k L=>by
  obtain⟨U,p,hp,M⟩:=mem_ready.1 L;rw[hm] at hp;obtain rfl:=aX hp;refine List.eq_nil_iff_forall_not_mem.2 fun i hi=>?_
  obtain⟨l,p,hp, -⟩:=mem_ready.1 hi;have V:i<l1.length+1:=by have:=(Array.getElem?_eq_some_iff.1 hp).1;rw[aT] at this;exact this
  by_cases he:i=l1.length
  ·subst he
   rw[Array.getD_eq_getD_getElem?,Array.getElem?_setIfInBounds_self_of_lt (by omega)] at l;cases l
  ·rw[getD_set_ne true (Ne.symm he)] at l
   obtain⟨e,h1,m,r⟩:=H i (by omega);have:=M e h1 m;rw[r] at this;have N:i<b.size:=by omega
   simp[Array.getD_eq_getD_getElem?,Array.getElem?_eq_getElem N] at this l;rw[this] at l;cases l
 intro fuel;induction fuel with
 |zero=>
  intro b a w k s hw h;have h1:Region.ready md (l1++[o]).toArray b=[]:=by rw[<-y];exact h.1
  exact absurd h1 (xx B b (by rw[aT];exact k) l1.length (by rw[aT];omega) s)
 |succ fuel O=>
  intro b a w k s hw h;refine⟨fun h1=>absurd h1 (xx B b (by rw[aT];exact k) l1.length (by rw[aT];omega) s),fun i hi=>?_⟩;have g:=h.2 i (by rw[y];exact hi);by_cases he:i=l1.length
  ·subst he
   have z:=K b k hi;unfold qOpIn at g;simp only[x] at g;have D:wpAnyQIn F n P md (l1++[fm o]).toArray C Qa fuel (b.setIfInBounds l1.length true) a:=by
    have hd:(fm o).dst=none:=E;have m:=g.2;split at m
    ·obtain⟨v, -,r⟩:=m
     rw[hd] at r;exact r
    ·rw[hd] at m;exact m
   have Q:Qa a:=by
    cases fuel with
    |zero=>exact D.2
    |succ f=>exact D.1 (by rw[y];exact z)
   have:=I a w hw Q;have R:wpOpIn F n P (l1++[o]).toArray Q' l1.length (fun a w=>Q' .normal a w) a w:=by
    unfold wpOpIn;simp only[hm];exact this
   refine wpOpIn_mono (fun a w q=>?_) R;cases fuel with
   |zero=>exact⟨z,q⟩
   |succ f=>exact⟨fun _=>q,fun i hi=>by rw[z] at hi;cases hi⟩
  ·have S:qOpIn F n P (l1++[o]).toArray C i (wpAnyQIn F n P md (l1++[fm o]).toArray C Qa fuel (b.setIfInBounds i true)) a:=by
    unfold qOpIn at g⊢;rw[u i he] at g;simp only[J] at g;exact g
   refine xw (fun p hp=>G i p hp he) hw (fun a' w' T hk=>O _ a' w' (by simpa using k) ?_ T hk) S;rw[getD_set_ne true he];exact s
theorem pP {id:Nat} {Q:Exit->Act->World->Prop} {a:Act} {w:World} {l:List Oper} (l1:List Oper) (o:Oper) (u:l=l1++[o]) (hm:P.follows .mixedOrders=true) (q:o.dst=none) (v:sw l1=true) (x:FZ .any (l1++[o])=true) (y:F0 .any l1.length o=true) (k:Region.lexB .any (l1++[fm o]).toArray=true)
  (h:wpQuietIn F n P l.toArray (fun w'=>∃n,w'=w.drewN n) (fun a'=>∀w',(∃n,w'=w.drewN n)->wpListIn F n P l.toArray Q [o] a' w') l1 a):(Code.region id l.toArray true).wpIn F n P Q a w:=by
 subst u;refine wpIn_region_any hm ?_;have aT:(l1++[o]).toArray.size=l1.length+1:=by simp
 rw[aT];simp only[Region.lexB,Bool.and_eq_true] at k;refine F1 (C:=fun w'=>∃n,w'=w.drewN n) (Qa:=fun a'=>∀w',(∃n,w'=w.drewN n)->wpListIn F n P (l1++[o]).toArray Q [o] a' w') q (fun i p hp hi=>xu v ?_) ?_ ?_ (fun a w hw m=>m w hw) _ _ a _ (by simp) (by simp[Array.getD_eq_getD_getElem?]) ⟨1,rfl⟩ ?_
 ·rw[List.getElem?_toArray] at hp
  have g:=(List.getElem?_eq_some_iff.1 hp).1;rw[List.length_append] at g;simp at g;rw[List.getElem?_append_left (by omega)] at hp;exact List.mem_of_getElem? hp
 ·intro i p hp e he hb
  rw[List.getElem?_toArray] at hp;have g:=(List.getElem?_eq_some_iff.1 hp).1;have:=List.all_eq_true.1 x i (List.mem_range.2 g);rw[hp] at this;simp only[Option.map_some,Option.getD_some] at this;have:=Array.all_eq_true_iff_forall_mem.1 this e he;simpa [hb] using this
 ·intro j r
  have:=List.all_eq_true.1 y j (List.mem_range.2 r);rw[<-Array.any_toList,List.any_eq_true] at this;obtain⟨e,he,b⟩:=this;simp only[Bool.and_eq_true,beq_iff_eq] at b;exact⟨e,Array.mem_def.2 he,b.1,b.2⟩
 ·have m:wpQuietIn F n P (l1++[fm o]).toArray (fun w'=>∃n,w'=w.drewN n) (fun a'=>∀w',(∃n,w'=w.drewN n)->wpListIn F n P (l1++[o]).toArray Q [o] a' w') (l1++[fm o]) a:=by
   have z:∀tmps,yielded (l1++[fm o]).toArray tmps=yielded (l1++[o]).toArray tmps:=fun tmps=>by
    funext j
    unfold yielded;rw[List.getElem?_toArray,List.getElem?_toArray];by_cases h:j<l1.length
    ·rw[List.getElem?_append_left h,List.getElem?_append_left h]
    ·rw[List.getElem?_append_right (by omega),List.getElem?_append_right (by omega)]
     cases r:j-l1.length<;>rfl
   have key:∀(l2:List Oper) (a:Act),wpQuietIn F n P (l1++[o]).toArray (fun w'=>∃n,w'=w.drewN n) (fun a'=>∀w',(∃n,w'=w.drewN n)->wpListIn F n P (l1++[o]).toArray Q [o] a' w') l2 a->wpQuietIn F n P (l1++[fm o]).toArray (fun w'=>∃n,w'=w.drewN n) (fun a'=>∀w',(∃n,w'=w.drewN n)->wpListIn F n P (l1++[o]).toArray Q [o] a' w') (l2++[fm o]) a:=by
    intro l2;induction l2 with
    |nil=>
     intro a h;refine⟨fun w _ f hf=>by simp[Oper.about,fm] at hf,?_⟩;have hd:(fm o).dst=none:=q;split
     ·refine BigFrame.quietIn_move (.const undef) rfl ?_
      rw[hd];exact h
     ·rw[hd];exact h
    |cons p l2 s=>
     intro a h;refine⟨h.1,?_⟩;have b:=h.2;rw[z];split at b
     ·rename_i hw
      rw[if_pos hw];exact Oper.quietIn_mono s b
     ·rename_i hw
      rw[if_neg hw];exact s _ b
   exact key l1 a h
  have:=wpAnyQIn_lex (F:=F) (n:=n) (C:=fun w'=>∃n,w'=w.drewN n) (md:=.any) k.1 (l1++[fm o]) 0 (Array.replicate (l1.length+1) false) a (by simp) (by simpa using k.2) m;simpa using this
theorem F2 {l:List Oper} {Qa:Act->Prop} {Q':Exit->Act->World->Prop} (g:∀(i:Nat) (p:Oper),l.toArray[i]? =some p->∀c,p.op≠ .defer c) (e:∀a w,C w->Qa a->Q' .normal a w):
  ∀(fuel:Nat) (b:Array Bool) (a:Act) (w:World),C w->wpAnyQIn F n P md l.toArray C Qa fuel b a->wpAnyIn F n P md l.toArray Q' fuel b a w:=by
 intro fuel;induction fuel with
 |zero=>intro b a w hw h;exact⟨h.1,e _ _ hw h.2⟩
 |succ fuel j=>
  intro b a w hw h;exact⟨fun h1=>e _ _ hw (h.1 h1),fun i hi=>xw (g i) hw (fun a' w' k hk=>j _ a' w' k hk) (h.2 i hi)⟩
theorem F3 {id:Nat} {Q:Exit->Act->World->Prop} {a:Act} {w:World} {l:List Oper} (hm:P.follows .mixedOrders=true) (e:sw l=true) (b:Region.lexB .any l.toArray=true)
  (h:wpQuietIn F n P l.toArray (fun w'=>∃n,w'=w.drewN n) (fun a'=>∀w',(∃n,w'=w.drewN n)->Q .normal a' w') l a):(Code.region id l.toArray true).wpIn F n P Q a w:=by
 refine wpIn_region_any hm ?_;simp only[Region.lexB,Bool.and_eq_true] at b;refine F2 (C:=fun w'=>∃n,w'=w.drewN n) (Qa:=fun a'=>∀w',(∃n,w'=w.drewN n)->Q .normal a' w') (fun i p hp=>xu e ?_) (fun a w hw g=>g w hw) _ _ a _ ⟨1,rfl⟩ ?_
 ·rw[List.getElem?_toArray] at hp
  exact List.mem_of_getElem? hp
 ·have:=wpAnyQIn_lex (F:=F) (n:=n) (C:=fun w'=>∃n,w'=w.drewN n) (md:=.any) b.1 l 0 (Array.replicate l.length false) a (by simp) (by simpa using b.2) h
  simpa using this
end
end
end Go.Proofs.YtffdiakgjakngaaGreat.P
namespace Go.Proofs.YtffdiakgjakngaaGreat.P
open Go.RowKit Go.Proofs.YtffdiakgjakngaaGreatW.PrintWords Go.Proofs.YtffdiakgjakngaaGreatW.PrintLast Go.Proofs.YtffdiakgjakngaaGreatW.PrintMore
set_option linter.unusedVariables false
set_option linter.unusedSimpArgs false
set_option maxHeartbeats 8000000
set_option maxRecDepth 100000
section
attribute [local go_sem] Oper.semAt_some jU jV jW jX nc nf ng nh
def jv (t:Int) (v:Nat) (d:List Int) (x:Int×Int):List Int:=
 (d.set v (wrap64 (rd d v-wrap64 (x.2*t)))).set x.1.toNat (wrap64 (rd (d.set v (wrap64 (rd d v-wrap64 (x.2*t)))) x.1+wrap64 (x.2*t)))
def gO (t:Int) (v:Nat) (d:List Int) (L:List (Int×Int)):List Int:=L.foldl (jv t v) d
theorem F4 (t:Int) (v:Nat) (d:List Int) (L:List (Int×Int)) (x:Int×Int):gO t v d (L++[x])=jv t v (gO t v d L) x:=by simp[gO,List.foldl_append]
theorem xz (t:Int) (v:Nat) (d:List Int) (x:Int×Int):(jv t v d x).length=d.length:=by simp[jv]
theorem sx (t:Int) (v:Nat):∀(L:List (Int×Int)) (d:List Int),(gO t v d L).length=d.length
 |[],_=>rfl
 |x::L,d=>(sx t v L _).trans (xz t v d x)
def bD (E:List S83) (In:Nat->Bool) (t:Int):Nat->List Int×List Int->List Int×List Int
 |0,p=>p
 |k+1,p=>if In k=true then(gO t k (bD E In t k p).1 (cK E k E.length),(bD E In t k p).2.set k (wrap64 (rd (bD E In t k p).2 k+t))) else bD E In t k p
theorem nU (E:List S83) (In:Nat->Bool) (t:Int) (p:List Int×List Int):∀k,(bD E In t k p).1.length=p.1.length/\(bD E In t k p).2.length=p.2.length
 |0=>⟨rfl,rfl⟩
 |k+1=>by
  have h:=nU E In t p k;unfold bD;split
  ·exact⟨(sx ..).trans h.1,by rw[List.length_set];exact h.2⟩
  ·exact h
structure FI (w0 w:World) (g gd gs gi cd cs ci n:Nat) (A0:Option Addr) (c0:Nat) (E:List S83) (q:Int) (In:Nat->Bool) (t:Int) (d s:List Int) (W:World):Prop where
 si:SI w0 g gd gs cd cs n A0 c0 E q d s W
 x1:W.heap[w.heap.size]? =some (.cells #[.pointer (some ⟨g,0,none⟩)] 135 (0,0))
 x2:W.heap[w.heap.size+1]? =some (.cells #[.int .i64 t] 3 (0,0))
 hi:Kd.bool.R 4 W w0.heap.size (fun _=>True) (.slice (some ⟨gi,0,none⟩) n ci) ((List.range n).map In)
 hf:∀k,k<w.heap.size->k≠gd->k≠gs->W.heap[k]? =w.heap[k]?
 aT:w.heap.size+2<=W.heap.size
 hw:w0.heap.size<=w.heap.size/\gd<w.heap.size/\gs<w.heap.size/\g<w.heap.size/\gd≠gi/\gs≠gi
namespace FI
variable {w0 w W W':World} {g gd gs gi cd cs ci n c0 l:Nat} {A0:Option Addr} {E:List S83} {q t:Int} {In:Nat->Bool} {d s:List Int}
theorem below (h:FI w0 w g gd gs gi cd cs ci n A0 c0 E q In t d s W) (hb:Below W.heap.size W W'):FI w0 w g gd gs gi cd cs ci n A0 c0 E q In t d s W':=⟨h.si.below hb,az h.x1 hb,az h.x2 hb,Kd.cz h.hi hb,fun k h1 a b=>(hb.block k (by have:=h.aT;omega)).trans (h.hf k h1 a b),Nat.le_trans h.aT hb.size,h.hw⟩
theorem alloc (h:FI w0 w g gd gs gi cd cs ci n A0 c0 E q In t d s W) (o:Obj):FI w0 w g gd gs gi cd cs ci n A0 c0 E q In t d s (W.alloc o):=h.below (ai (aj _ _) o)
theorem drewN (h:FI w0 w g gd gs gi cd cs ci n A0 c0 E q In t d s W) (m:Nat):FI w0 w g gd gs gi cd cs ci n A0 c0 E q In t d s (W.drewN m):=h.below (bU (aj _ _) m)
theorem drew (h:FI w0 w g gd gs gi cd cs ci n A0 c0 E q In t d s W):FI w0 w g gd gs gi cd cs ci n A0 c0 E q In t d s W.drew:=h.drewN 1
theorem bk (h:FI w0 w g gd gs gi cd cs ci n A0 c0 E q In t d s W) (hb:Bk l W W') (a:w.heap.size<=l):FI w0 w g gd gs gi cd cs ci n A0 c0 E q In t d s W':=⟨h.si.bk hb (Nat.le_trans h.hw.1 a),hb.cells h.x1,hb.cells h.x2,cQ h.hi hb,fun k h1 b e=>(hb.heap k (by omega)).trans (h.hf k h1 b e),by rw[hb.size];exact h.aT,h.hw⟩
theorem pM (h:FI w0 w g gd gs gi cd cs ci n A0 c0 E q In t d s W) (v:Nat) (x:Int):FI w0 w g gd gs gi cd cs ci n A0 c0 E q In t (d.set v x) s (W.setCell ⟨gd,v,none⟩ (.int .i64 x)):=
 ⟨h.si.pM v x,aG h.x1 (by show w.heap.size≠gd;have:=h.hw;omega) _,aG h.x2 (by show w.heap.size+1≠gd;have:=h.hw;omega) _,by
  have a:=Kd.dg h.si.d (v:Int) x;rw[aD] at a;exact Kd.jd h.hi rfl a.2 (fun e=>by cases e;exact h.hw.2.2.2.2.1 rfl),fun k h1 b i=>(Below.heap_setCell _ _ _ _ b).trans (h.hf k h1 b i),by simpa using h.aT,h.hw⟩
theorem pN (h:FI w0 w g gd gs gi cd cs ci n A0 c0 E q In t d s W) (v:Nat) (x:Int):FI w0 w g gd gs gi cd cs ci n A0 c0 E q In t d (s.set v x) (W.setCell ⟨gs,v,none⟩ (.int .i64 x)):=
 ⟨h.si.pN v x,aG h.x1 (by show w.heap.size≠gs;have:=h.hw;omega) _,aG h.x2 (by show w.heap.size+1≠gs;have:=h.hw;omega) _,by
  have a:=Kd.dg h.si.s (v:Int) x;rw[aD] at a;exact Kd.jd h.hi rfl a.2 (fun e=>by cases e;exact h.hw.2.2.2.2.2 rfl),fun k h1 i b=>(Below.heap_setCell _ _ _ _ b).trans (h.hf k h1 i b),by simpa using h.aT,h.hw⟩
theorem c1 (h:FI w0 w g gd gs gi cd cs ci n A0 c0 E q In t d s W):W.cell? ⟨w.heap.size,0,none⟩=some (.pointer (some ⟨g,0,none⟩)):=(ah h.x1 0).trans rfl
theorem c2 (h:FI w0 w g gd gs gi cd cs ci n A0 c0 E q In t d s W):W.cell? ⟨w.heap.size+1,0,none⟩=some (.int .i64 t):=(ah h.x2 0).trans rfl
theorem F5 (h:FI w0 w g gd gs gi cd cs ci n A0 c0 E q In t d s W) (v:Nat) (b:v<n):W.cell? ⟨gi,v,none⟩=some (.bool (In v)):=by
 have a:=(Kd.bP false h.hi (v:Int) (by omega) (by omega)).1;rw[aD,show bL false ((List.range n).map In) (v:Int)=In v from by simp[bL,aW,List.getElem?_map,List.getElem?_range b]] at a;exact a
end FI
theorem xA (g gd gs gi cd cs ci n:Nat) (A0:Option Addr) (c0:Nat) (E:List S83) (q:Int) (d s:List Int) (In:Nat->Bool) (t:Int) (w0 w:World) (dx:Kd.C aM w0 A0 E.length E) (hE:eE n E) (hn:n<=1000) (e1:0<n)
  (h:SI w0 g gd gs cd cs n A0 c0 E q d s w) (hi:Kd.bool.R 4 w w0.heap.size (fun _=>True) (.slice (some ⟨gi,0,none⟩) n ci) ((List.range n).map In)) (b_:gd≠gi/\gs≠gi) (d0:d.length=n) (d1:s.length=n)
  (b':∀v,v<n-> -2097152<=rd (bD E In t n (d,s)).1 v/\rd (bD E In t n (d,s)).1 v<=2097152/\ -2097152<=rd (bD E In t n (d,s)).2 v/\rd (bD E In t n (d,s)).2 v<=2097152):
  Calls Tryz.prog 166 #[.pointer (some ⟨g,0,none⟩),.slice (some ⟨gi,0,none⟩) n ci,.int .i64 t] w fun e w'=>e= .returned (.tuple #[])/\SI w0 g gd gs cd cs n A0 c0 E q (bD E In t n (d,s)).1 (bD E In t n (d,s)).2 w'/\(∀k,k<w.heap.size->k≠gd->k≠gs->w'.heap[k]? =w.heap[k]?)/\w.heap.size<=w'.heap.size:=by
 have e2:=Tryz.underlying188;have hu:=Tryz.underlying24;have HE:=zA hE;have cb:=zA b';clear hE b';refine(callsIn_wide (n:=10)).1 ?_;refine callsIn_of_wp_marks Tryz.func166 rfl trivial ?_ rfl;simp only[Tryz.ntmps166,List.size_toArray,List.length_cons,List.length_nil,Nat.reduceAdd,Nat.reduceSub,Array.replicate_succ,Array.replicate_zero,List.push_toArray,List.append_toArray,List.nil_append,List.cons_append];obtain⟨q1,q2,q3,q4,q5⟩:=h.ld;have ce:=h.hb.size;have e4:g≠gd:=h.ne.2.1;have r:Aside0 (FI w0 w g gd gs gi cd cs ci n A0 c0 E q In t d s ((w.alloc (.cells #[.pointer (some ⟨g,0,none⟩)] 135)).alloc (.cells #[.int .i64 t] 3))):=⟨(h.alloc _).alloc _,aq (a6 w (.cells #[.pointer (some ⟨g,0,none⟩)] 135)) (.cells #[.int .i64 t] 3),heap_alloc2_new w (.cells #[.pointer (some ⟨g,0,none⟩)] 135) (.cells #[.int .i64 t] 3),Kd.aK (Kd.aK hi (.cells #[.pointer (some ⟨g,0,none⟩)] 135)) (.cells #[.int .i64 t] 3),fun k hk _ _=>by rw[Below.heap_alloc _ _ _ (by simp;omega),Below.heap_alloc _ _ _ hk],by simp,ce,q1,q2,q3,b_.1,b_.2⟩;gi_wp2;clear h hi;generalize ((w.alloc (.cells #[.pointer (some ⟨g,0,none⟩)] 135)).alloc (.cells #[.int .i64 t] 3))=W2 at r⊢;have d5:=r.out.aT;refine qW w.heap.size (fun kq tm wr=>∃(u6 u7 u14 u15 u16 u17 u18 u19 u20 u21 u22 u23 u24 u25 u26 u27 u28 u29 u30 u31 u32 u59:Value) (v:Nat),v<=n/\Aside0 (FI w0 w g gd gs gi cd cs ci n A0 c0 E q In t (bD E In t v (d,s)).1 (bD E In t v (d,s)).2 wr)/\Aside0 (kq=n-v)/\tm=#[.pointer (some ⟨g,0,none⟩),.slice (some ⟨gi,0,none⟩) n ci,.int .i64 t,.pointer (some ⟨w.heap.size,0,none⟩),undef,.pointer (some ⟨w.heap.size+1,0,none⟩),u6,u7,undef,undef,undef,.slice (some ⟨gi,0,none⟩) n ci,.int .i64 n,.int .i64 v,u14,u15,u16,u17,u18,u19,u20,u21,u22,u23,u24,u25,u26,u27,u28,u29,u30,u31,u32,undef,undef,undef,undef,undef,undef,undef,undef,undef,undef,undef,undef,undef,undef,undef,undef,undef,undef,undef,undef,undef,undef,undef,undef,undef,undef,u59,undef,undef,undef,undef,undef,undef,undef,undef,undef,undef,undef,undef,undef,undef,undef,undef,undef,undef,undef,undef,undef,undef,undef,undef,undef,undef,undef,undef,undef,undef,undef,undef,undef,undef,undef,undef,undef,undef,undef,undef,undef,undef,undef,undef,undef,undef,undef,undef,undef,undef,undef]) n ⟨_,_,_,_,_,_,_,_,_,_,_,_,_,_,_,_,_,_,_,_,_,_,0,by omega,r,⟨rfl⟩,rfl⟩ (w.heap.size) (by omega) (cF.nil _ _ _) ?_;clear r d5;rintro gk tm wr ⟨u6,u7,u14,u15,u16,u17,u18,u19,u20,u21,u22,u23,u24,u25,u26,u27,u28,u29,u30,u31,u32,u59,v,hv,y,HK,rfl⟩ ds b hb cg J K hJ hK;have a3:=zA cg;have HJ:=zA hJ;have aT:=y.out.aT;clear cg hJ;obtain⟨l1,l2⟩:=nU E In t (d,s) v;have L1:=zA (show (bD E In t v (d,s)).1.length=n from l1.trans d0);have L2:=zA (show (bD E In t v (d,s)).2.length=n from l2.trans d1);clear l1 l2;by_cases M:v<n
 ·have e6:(0:Int)<=(v:Int):=by omega
  have e_:(v:Int)<(n:Int):=by omega
  have Q:=zA (show bD E In t (v+1) (d,s)=if In v=true then(gO t v (bD E In t v (d,s)).1 (cK E v E.length),(bD E In t v (d,s)).2.set v (wrap64 (rd (bD E In t v (d,s)).2 v+t))) else bD E In t v (d,s) from rfl);have a9:=y.out.F5 v M;cases hIn:In v with
  |false=>
   rw[hIn] at a9;rw[hIn,if_neg (by decide)] at Q;have z:=zA (y.out.alloc (.cells #[.int .i64 v] 3));gi_wp2;exact kC.intro (n- (v+1)) (by rw[HK.out];omega) (HJ.out _ _ _ ⟨_,_,_,_,_,_,_,_,_,_,_,_,_,_,_,_,_,_,_,_,_,_,v+1,by omega,by rw[Q.out];exact z,⟨rfl⟩,rfl⟩) b (by simp;omega) (a3.out.below (ai (aj _ _) _))
  |true=>
   rw[hIn] at a9;rw[hIn,if_pos rfl] at Q;generalize bD E In t v (d,s)=i at y Q L1 L2;clear hIn;gi_wp2;have BV:=zA (a6 wr (.cells #[.int .i64 v] 3));have z:=zA (y.out.alloc (.cells #[.int .i64 v] 3));have bb:=zA (a3.out.below (ai (aj _ _) (.cells #[.int .i64 v] 3)));have ck:=zA (show (wr.alloc (.cells #[.int .i64 v] 3)).heap.size=wr.heap.size+1 from by simp);generalize wr.alloc (.cells #[.int .i64 v] 3)=W1 at BV z bb ck⊢;have y0:=z.out.c1;have y1:=z.out.c2;have y2:=(ah BV.out 0).trans rfl;have y4:=z.out.si.f4;have y5:=z.out.si.cells v M;have y6:=z.out.si.xt v M;gi_region
   gi_wp2_with (refine⟨trivial,?_⟩;gi_at_call 194;refine(callsIn_wide.2 (mq g v _)).mono ?_;rintro e w3 ⟨rfl,rfl⟩)
   have e':W1.heap.size=wr.heap.size+1:=ck.out;have aa:=zA ((((z.out.pN v (wrap64 (rd i.2 v+t))).alloc (.cells #[.pointer (some ⟨g,0,none⟩)] 135)).alloc (.cells #[.int .i64 v] 3)).drew);obtain⟨fb,fd,fn,fo,fq⟩:=z.out.si.ld;have d8:wr.heap.size≠gs:=by omega
   have bi:=zA (ff (aq (aq (aG (p:=⟨gs,v,none⟩) BV.out d8 (.int .i64 (wrap64 (rd i.2 v+t)))) (.cells #[.pointer (some ⟨g,0,none⟩)] 135)) (.cells #[.int .i64 v] 3)));have aF:=zA (ff (aq (a6 (W1.setCell ⟨gs,v,none⟩ (.int .i64 (wrap64 (rd i.2 v+t)))) (.cells #[.pointer (some ⟨g,0,none⟩)] 135)) (.cells #[.int .i64 v] 3)));have aL:=zA (ff (heap_alloc2_new (W1.setCell ⟨gs,v,none⟩ (.int .i64 (wrap64 (rd i.2 v+t)))) (.cells #[.pointer (some ⟨g,0,none⟩)] 135) (.cells #[.int .i64 v] 3)));have bl:Aside0 (cF w.heap.size b ds (((W1.setCell ⟨gs,v,none⟩ (.int .i64 (wrap64 (rd i.2 v+t)))).alloc (.cells #[.pointer (some ⟨g,0,none⟩)] 135)).alloc (.cells #[.int .i64 v] 3)).drew):=⟨by
    obtain⟨inner,ho⟩:=Kd.jS z.out.si.s;obtain⟨cells,hc⟩:=jR ho gs rfl;exact(((bb.out.set (p:=⟨gs,v,none⟩) hc _).below (ai (aj _ _) _)).below (ai (aj _ _) _)).below (bY (aj _ _))⟩
   have d9:((((W1.setCell ⟨gs,v,none⟩ (.int .i64 (wrap64 (rd i.2 v+t)))).alloc (.cells #[.pointer (some ⟨g,0,none⟩)] 135)).alloc (.cells #[.int .i64 v] 3)).drew).heap.size=W1.heap.size+2:=by simp
   simp only[World.size_setCell] at aF aL;clear z bb BV y0 y1 y2 y4 y5 y6;generalize (((W1.setCell ⟨gs,v,none⟩ (.int .i64 (wrap64 (rd i.2 v+t)))).alloc (.cells #[.pointer (some ⟨g,0,none⟩)] 135)).alloc (.cells #[.int .i64 v] 3)).drew=H at aa bi aF aL bl d9⊢;generalize i.2.set v (wrap64 (rd i.2 v+t))=s2 at aa Q;have bn:=aa.out.si;refine gU (σ:=Unit) (α:=Int×Int) (F:=Fence.wide) (n:=10) rfl (by decide) (gf:=207) (lb:=#[.pointer (some ⟨W1.heap.size,0,none⟩),.pointer (some ⟨W1.heap.size+1,0,none⟩)]) rfl trivial (enters_of Tryz.func207 (by kernel_rfl) rfl)
    (fun o=>pg (W1.heap.size) (W1.heap.size+1) g n A0 c0 E q (.slice (some ⟨gd,0,none⟩) n cd) (.slice (some ⟨gs,0,none⟩) n cs) 0 v w0 _ dx HE.out hn M (ai (ai bn.hb _) _) (aq (aq aF.out _) _) (aq (aq aL.out _) _) (aq (aq bn.st _) _)) (fun _=>rfl)
    (fun _=>True) ?dH ?st ?ar
    (fun _ pre W=>H.heap.size<=W.heap.size/\FI w0 w g gd gs gi cd cs ci n A0 c0 E q In t (gO t v i.1 pre) s2 W/\W.heap[wr.heap.size]? =some (.cells #[.int .i64 v] 3 (0,0))/\cF w.heap.size b ds W) (fun _ _ _ _=>False)
    ?is (fun _ _ _ _ _ _ h _=>h) ?ib (fun _ _ _ _ _ h _=>h) ?kt ?h0 ?a1 ?assign ?body ?done (fun _ _ _ _ _ _ _ h=>h.elim)
   case assign=>
    intro l x W K hK;gi_wp2;exact hK
   case dH=>
    intro o s W1 h;exact⟨trivial,by rw[h];exact b8.refl _ _⟩
   case st=>intro s A B _ h;exact cS h
   case ar=>intro s x A B _ h;exact cS h.2
   case is=>
    rintro s pre A B _ ⟨hs,h1,h2,h3⟩ aO;exact⟨Nat.le_trans hs aO.size,h1.below aO,az h2 aO,h3.below aO⟩
   case ib=>
    rintro s pre A B ⟨hs,h1,h2,h3⟩ hb;exact⟨by rw[hb.size];exact hs,h1.bk hb (by omega),hb.cells h2,h3.bk hb (by omega)⟩
   case kt=>
    intro s A B C D aP cl co;refine⟨fun aT=>((aP.below w0.heap.size (by omega)).trans (cl.1 (by rw[aP.size];exact aT))).trans (co.below w0.heap.size (by omega)),fun k hk ea=>?_⟩;have cp:k≠H.heap.size+1:=by rcases hk with rfl|rfl|rfl<;>omega
    exact(co.heap k cp).trans ((cl.2 k hk (by rw[aP.size];exact ea)).trans (aP.heap k cp))
   case h0=>
    rintro o s W1 rfl;exact⟨by simp;omega,(aa.out.alloc _).alloc _,aq (aq bi.out _) _,(bl.out.below (ai (aj _ _) _)).below (ai (aj _ _) _)⟩
   case body=>
    rintro l s' pre ⟨u,m⟩ Wb Wc W _ ⟨hs,i1,i2,i3⟩ ⟨cr,an⟩ eb N;have L:=zA ((i1.below an).bk N (by omega));have I2:=zA (N.cells (az i2 an));have I3:=zA ((i3.below an).bk N (by omega));have cx:H.heap.size<=W.heap.size:=by have:=N.size;have:=an.size;omega
    clear i1 i2 i3 an N eb;simp only at cr;obtain⟨u0,u1,m0,m1⟩:=cr;obtain⟨u,rfl⟩:=Int.eq_ofNat_of_zero_le u0;have aS:u<n:=by omega
    have c3:=zA (F4 t v i.1 pre (u,m));have ed:=zA ((sx t v pre i.1).trans L1.out);generalize gO t v i.1 pre=I at L c3 ed;have z0:=L.out.c1;have z1:=L.out.c2;have z2:W.cell? ⟨wr.heap.size,0,none⟩=some (.int .i64 v):=(ah I2.out 0).trans rfl;have z3:=L.out.si.f3;have z4:=L.out.si.kS v M;have z5:=L.out.si.pO v M;clear aa bi aF aL bl bn a9;gi_wp2;refine pP [_,_,_,_,_,_,_,_,_,_,_,_] _ rfl (by kernel_rfl) rfl (by kernel_rfl) (by kernel_rfl) (by kernel_rfl) (by kernel_rfl) ?_;repeat(gi_big_quiet_step (fail))
    refine wpQuietIn_nil ?_;rintro _ ⟨nq,rfl⟩;have G:=zA (L.out.drewN nq);have S:=zA (i' I2.out nq);have T:=zA (I3.out.below (bU (aj _ _) nq));have U:H.heap.size<=(W.drewN nq).heap.size:=by simpa using cx
    have V:=zA (cS (nw:=H.heap.size) (bU (aj W.heap.size W) nq));have X:=zA (bU (aj w0.heap.size W) nq);have Y:Aside0 (∀k,k≠gd->(W.drewN nq).heap[k]? =W.heap[k]?):=⟨fun k _=>by simp⟩;clear z0 z1 z2 z3 z4 z5;have z4:=G.out.si.kS v M;have z5:=G.out.si.pO v M;generalize W.drewN nq=Wq at G S T U V X Y z4 z5⊢;gi_wp2;have c4:gd<H.heap.size:=by omega
    have c5:wr.heap.size≠gd:=by omega
    have O:=zA (G.out.pM v (wrap64 (rd I v-wrap64 (m*t))));have bv:=zA (aG (p:=⟨gd,v,none⟩) S.out c5 (.int .i64 (wrap64 (rd I v-wrap64 (m*t)))));have bw:Aside0 (cF w.heap.size b ds (Wq.setCell ⟨gd,v,none⟩ (.int .i64 (wrap64 (rd I v-wrap64 (m*t)))))):=⟨by
     obtain⟨inner,ho⟩:=Kd.jS G.out.si.d;obtain⟨cells,hc⟩:=jR ho gd rfl;exact T.out.set (p:=⟨gd,v,none⟩) hc _⟩
    have bx:H.heap.size<=(Wq.setCell ⟨gd,v,none⟩ (.int .i64 (wrap64 (rd I v-wrap64 (m*t))))).heap.size:=by simpa using U
    have b0:=zA (V.out.trans (eU (bo:=gd) (j:=v) Wq (.int .i64 (wrap64 (rd I v-wrap64 (m*t)))) c4));have b1:=zA (Below.setCell (p:=⟨gd,v,none⟩) X.out q4 (.int .i64 (wrap64 (rd I v-wrap64 (m*t)))));have b2:Aside0 (∀k,k≠gd->(Wq.setCell ⟨gd,v,none⟩ (.int .i64 (wrap64 (rd I v-wrap64 (m*t))))).heap[k]? =W.heap[k]?):=⟨fun k hk=>(Below.heap_setCell _ _ _ _ hk).trans (Y.out k hk)⟩;clear z4 z5 G S T U V X Y;generalize Wq.setCell ⟨gd,v,none⟩ (.int .i64 (wrap64 (rd I v-wrap64 (m*t))))=Wa at O bv bw bx b0 b1 b2⊢;have z0:=O.out.c1;have z1:=O.out.c2;have z3:=O.out.si.f3;have z4:=O.out.si.kS u aS;have z5:=O.out.si.pO u aS;have eg:(u:Int)<(n:Int):=by omega
    refine pP [_,_,_,_,_,_,_,_,_,_,_,_] _ rfl (by kernel_rfl) rfl (by kernel_rfl) (by kernel_rfl) (by kernel_rfl) (by kernel_rfl) ?_;repeat(gi_big_quiet_step (fail))
    refine wpQuietIn_nil ?_;rintro _ ⟨P,rfl⟩;have G:=zA (O.out.drewN P);have S:=zA (i' bv.out P);have T:=zA (bw.out.below (bU (aj _ _) P));have U:H.heap.size<=(Wa.drewN P).heap.size:=by simpa using bx
    have V:=zA (b0.out.trans (cS (nw:=H.heap.size) (bU (aj Wa.heap.size Wa) P)));have X:=zA (bU b1.out P);have Y:Aside0 (∀k,k≠gd->(Wa.drewN P).heap[k]? =W.heap[k]?):=⟨fun k hk=>by simpa using b2.out k hk⟩;clear z0 z1 z3 z4 z5 O bv bw bx b0 b1 b2;have z4:=G.out.si.kS u aS;have z5:=G.out.si.pO u aS;generalize Wa.drewN P=Wb at G S T U V X Y z4 z5⊢;gi_wp2;have ek:cF w.heap.size b ds (Wb.setCell ⟨gd,u,none⟩ (.int .i64 (wrap64 (rd (I.set v (wrap64 (rd I v-wrap64 (m*t)))) u+wrap64 (m*t))))):=by
     obtain⟨inner,ho⟩:=Kd.jS G.out.si.d;obtain⟨cells,hc⟩:=jR ho gd rfl;exact T.out.set (p:=⟨gd,u,none⟩) hc _
    refine⟨V.out.trans (eU _ _ c4),⟨fun _=>Below.setCell (p:=⟨gd,u,none⟩) X.out q4 _,fun k hk _=>(Below.heap_setCell _ _ _ _ ?_).trans (Y.out k ?_)⟩,by simpa using U,?_,aG S.out c5 _,ek⟩
    ·show k≠gd
     rcases hk with rfl|rfl|rfl<;>omega
    ·rcases hk with rfl|rfl|rfl<;>omega
    ·rw[c3.out];exact G.out.pM u _
   case done=>
    rintro s' xs W W' _ rfl ⟨hs,i1,i2,i3⟩ N b3;have L:=zA (i1.bk N (by omega));have I3:=zA (i3.bk N (by omega));have el:=zA b3;have cx:H.heap.size<W'.heap.size:=(Array.getElem?_eq_some_iff.1 b3).1;clear i1 i2 i3 b3;gi_wp2;exact kC.intro (n- (v+1)) (by rw[HK.out];omega) (HJ.out _ _ _ ⟨_,_,_,_,_,_,_,_,_,_,_,_,_,_,_,_,_,_,_,_,_,_,v+1,by omega,by rw[Q.out];exact L,⟨rfl⟩,rfl⟩) (H.heap.size+1) (by omega) (I3.out.push (by omega) (by omega) el.out)
 ·obtain rfl:v=n:=by omega
  have x0:=y.out.c1;have s3:=y.out.si.f3;have s4:=y.out.si.f4;have s5:=y.out.si.f5;clear HJ hK;gi_wp2;gi_loopg [65] (v) (fun kq uv wq=>∃u:Nat,u<=v/\uv= .int .i64 u/\Aside0 (∃m,wq=wr.drewN m)/\Aside0 (kq=v-u))
  case atStart=>exact⟨0,by omega,rfl,⟨0,rfl⟩,⟨rfl⟩⟩
  case round=>
   obtain⟨u,hu,rfl,⟨⟨m,hm⟩⟩,er⟩:=hrel;subst hm;by_cases b4:u<v
   ·have fv:(0:Int)<=(u:Int):=by omega
    have eg:(u:Int)<(v:Int):=by omega
    have r:=zA (y.out.drewN m);have y6:=r.out.si.kS u b4;have y7:=r.out.si.cells u b4;obtain⟨o1,o2,o3,o4⟩:=cb.out u b4;have y0:=r.out.c1;have y3:=r.out.si.f3;have y4:=r.out.si.f4;have y5:=r.out.si.f5;have HM:Aside0 (∃m',wr.drewN m=wr.drewN m'):=⟨m,rfl⟩;clear x0 s3 s4 s5 r;generalize rd (bD E In t v (d,s)).1 u=a at y6 o1 o2;generalize rd (bD E In t v (d,s)).2 u=Z at y7 o3 o4;generalize wr.drewN m=wq at y0 y3 y4 y5 y6 y7 HM⊢;have f0:decide (2097152<(if(if(if a< -a then -a else a)<Z then Z else if a< -a then -a else a)< -Z then -Z else if(if a< -a then -a else a)<Z then Z else if a< -a then -a else a))=false:=by
     rw[decide_eq_false_iff_not];repeat' split
     all_goals omega
    gi_wp2;gi_quiet (fail)
    gi_wp2
    all_goals
     gi_roundg (v- (u+1))
     case measure=>rw[er.out];omega
     case rel=>exact⟨u+1,by omega,by go_num,⟨by obtain⟨m',e0⟩:=HM.out;rw[e0];simp only[World.drewN_drewN];exact⟨_,rfl⟩⟩,⟨rfl⟩⟩
   ·obtain rfl:u=v:=by omega
    clear L1 L2 HE cb x0 s3 s4 s5;gi_wp2;refine(pd (a3.out.below (bU (aj _ _) m)) fun w' b5=>?_).1;exact⟨_,results_none rfl _ _ _,rfl,(y.out.si.drewN m).fin b5 ce,fun k h1 h2 h3=>(b5.gG.block k h1).trans (y.out.hf k h1 h2 h3),by have:=b5.size;simp at this;omega⟩
end
end Go.Proofs.YtffdiakgjakngaaGreat.P


namespace Go.Proofs.YtffdiakgjakngaaGreat.P
open Go.RowKit Go.Proofs.YtffdiakgjakngaaGreatW.PrintWords Go.Proofs.YtffdiakgjakngaaGreatW.PrintLast Go.Proofs.YtffdiakgjakngaaGreatW.PrintMore
set_option linter.unusedVariables false
set_option linter.unusedSimpArgs false
set_option maxHeartbeats 8000000
set_option maxRecDepth 100000
theorem bt.lQ {N:Int} {E:List S83} (h:bt N E) {x:S83} (a:x∈E):0<=x.f0/\x.f0<=x.f1/\x.f1<N/\1<=x.f2/\x.f2<=50:=by
 have h1:=h.ok x a;have b:=h.le x a;simp[bQ] at h1;omega
theorem bt.kg {n:Nat} {E:List S83} (h:bt n E):eE n E:=fun x a=>by
 have:=h.lQ a;omega
theorem bt.take {N:Int} {E:List S83} (h:bt N E) (k:Nat):bt N (E.take k):=⟨fun x a=>h.ok x (List.mem_of_mem_take a),fun x a=>h.le x (List.mem_of_mem_take a),h.order.sublist (List.take_sublist _ _)⟩
theorem xB {E:List S83} (v:Nat):∀(E:List S83) (f:Nat->Nat->Int),(∀x∈E,0<=x.f0/\0<=x.f1)->f v v=0->E.foldl cY f v v=0
 |[],f,_,hf=>hf
 |x::E,f,h,hf=>by
  rw[List.foldl_cons];refine xB (E:=E) v E _ (fun y a=>h y (List.mem_cons_of_mem _ a)) ?_;have b:=h x (List.mem_cons_self ..);unfold cY;split
  ·exact hf
  ·dsimp only
   rw[if_neg (by omega),if_neg (by omega)];exact hf
theorem bt.wt {n:Nat} {E:List S83} (h:bt n E):T.Wt n (af E):=by
 have a:∀v,af E v v=0:=fun v=>xB (E:=E) v E _ (fun x b=>by have:=h.lQ b;omega) rfl
 refine⟨fun u v=>?_,fun u v=>?_,a⟩
 ·by_cases e:u=v
  ·subst e;rw[a];omega
  ·rw[lK h u v e];exact(rM h _ _).1
 ·by_cases e:u=v
  ·subst e;rfl
  ·rw[lK h u v e,lK h v u (fun k=>e k.symm),pw]
theorem bt.F6 {N:Int} {E:List S83} (h:bt N E) {x:S83} (a:x∈E):0<dr E x.f0 x.f1:=by
 unfold dr;have he:=h.lQ a;have e:(E.find? (gW x.f0 x.f1)).isSome=true:=List.find?_isSome.2 ⟨x,a,by simp[gW];omega⟩;obtain⟨y,b⟩:=Option.isSome_iff_exists.1 e;rw[b];have:=h.lQ (List.mem_of_find?_eq_some b);show 0<y.f2
 omega
theorem bt.conn {n:Nat} {E:List S83} (h:bt n E) (j:fC n E):T.dS n (af E):=by
 intro S h1 k;obtain⟨x,i,b⟩:=j S h1 k;have he:=h.lQ i;have hb:=h.F6 i;have l:dr E x.f0 x.f1=af E x.f0.toNat x.f1.toNat:=by
  rw[lK h _ _ (fun e=>b (by rw[e]))];congr 1<;>omega
 rw[l] at hb;cases g:S x.f0.toNat with
 |true=>
  have a:S x.f1.toNat=false:=by cases a:S x.f1.toNat with|false=>rfl|true=>rw[g,a] at b;exact absurd rfl b
  exact⟨_,_,by omega,by omega,g,a,hb⟩
 |false=>
  have a:S x.f1.toNat=true:=by cases a:S x.f1.toNat with|true=>rfl|false=>rw[g,a] at b;exact absurd rfl b
  exact⟨_,_,by omega,by omega,a,g,by rw[h.wt.sym];exact hb⟩
def dT (φ:Nat->Int):List (Int×Int)->Int
 |[]=>0
 |x::L=>x.2*φ x.1.toNat+dT φ L
theorem xC (φ:Nat->Int):∀A B,dT φ (A++B)=dT φ A+dT φ B
 |[],B=>by simp[dT]
 |x::A,B=>by
  simp only[List.cons_append,dT,xC φ A B];omega
theorem sy {E:List S83} {k:Nat} (hk:k<E.length):ae E k=E[k]:=by simp[ae,aW,bp hk]
theorem F7 {N:Int} {E:List S83} (h:bt N E) {k:Nat} (hk:k<E.length):∀y∈E.take k,iP y (ae E k):=by
 intro y a;have h1:=h.order;rw[<-List.take_append_drop k E,List.pairwise_append] at h1;refine h1.2.2 y a _ ?_;rw[sy hk,List.drop_eq_getElem_cons hk];exact List.mem_cons_self ..
theorem xD {n:Nat} {E:List S83} (h:bt n E) (φ:Nat->Int) {v:Nat} (p:v<n):∀k,k<=E.length->dT φ (cK E v k)=T.sN (fun u=>af (E.take k) v u*φ u) n
 |0,_=>by
  rw[T.gK (fun u _=>by simp[af])];rfl
 |k+1,hk=>by
  have g:k<E.length:=by omega
  have q:=xD h φ p k (by omega);have l:=h.lQ (show ae E k∈E by rw[sy g];exact List.getElem_mem g);have o:=F7 h g;have C:=(h.take k).wt.self v;rw[uK E k g];simp only[cK,xC,q];generalize ae E k=x at l o;obtain⟨a,b,m⟩:=x;simp only at l;by_cases i:a≠b/\(a=v\/b=v)
  ·rw[if_pos i]
   obtain⟨u0,r⟩:∃u0:Nat,(u0:Int)=a+b-v:=⟨(a+b-v).toNat,by omega⟩;have s:u0<n:=by omega
   have w:v≠u0:=by omega
   have z:af (E.take k) v u0=0:=by
    rw[lK (h.take k) v u0 w];unfold dr;rw[wg (fun y B D=>by have:=o y B;unfold iP at this;simp only at this;omega)]
   have j:∀u:Nat,u<n->cY (af (E.take k)) ⟨a,b,m⟩ v u*φ u=af (E.take k) v u*φ u+(if u=u0 then m*φ u else 0):=fun u hu=>by
    unfold cY;simp only[if_neg i.1];by_cases e:u=u0
    ·subst e
     rw[z,if_pos rfl];by_cases e2:v=b.toNat/\u=a.toNat
     ·rw[if_pos e2];omega
     ·rw[if_neg e2,if_pos (by omega)];omega
    ·rw[if_neg e,if_neg (by omega),if_neg (by omega)];omega
   rw[T.bK j,T.dF,T.jH s (fun u _ hu=>if_neg hu),if_pos rfl];simp only[dT,<-r,aD];omega
  ·rw[if_neg i]
   have j:∀u:Nat,u<n->cY (af (E.take k)) ⟨a,b,m⟩ v u*φ u=af (E.take k) v u*φ u:=fun u hu=>by
    unfold cY;by_cases e:a=b
    ·simp only[if_pos e]
    ·simp only[if_neg e]
     rw[if_neg (by omega),if_neg (by omega)]
   rw[T.bK j];simp[dT]
theorem pQ {n:Nat} {E:List S83} (h:bt n E) (φ:Nat->Int) {v:Nat} (a:v<n):dT φ (cK E v E.length)=T.sN (fun u=>af E v u*φ u) n:=by
 rw[xD h φ a E.length (aI _),List.take_length]
theorem pR {n:Nat} {E:List S83} (h:bt n E) {v:Nat}:∀k,k<=E.length->∀x∈cK E v k,0<=x.1/\x.1<n/\x.1≠v/\1<=x.2/\x.2<=50
 |0,_=>fun x a=>by cases a
 |k+1,hk=>fun x a=>by
  have b:k<E.length:=by omega
  have he:=h.lQ (show ae E k∈E by rw[sy b];exact List.getElem_mem b);rcases List.mem_append.1 a with a|a
  ·exact pR h k (by omega) x a
  ·split at a
   ·rename_i e
    obtain rfl:=List.mem_singleton.1 a;simp only;omega
   ·cases a
theorem xE (E:List S83) (v:Int):∀k,(cK E v k).length<=k
 |0=>aI _
 |k+1=>by
  have:=xE E v k;simp only[cK,List.length_append];split<;>simp<;>omega
theorem sA (B:Nat->Bool):∀(L:List (Int×Int)) (s:Int),(∀x∈L,1<=x.2/\x.2<=50)->0<=s->s+50*L.length<=1000000000->L.foldl (fun s x=>if B x.1.toNat=true then wrap64 (s+x.2) else s) s=s+dT (T.ind B) L
 |[],s,_,_,_=>by simp[dT]
 |x::L,s,h,g,b=>by
  have i:=h x (List.mem_cons_self ..);simp only[List.length_cons] at b;rw[List.foldl_cons];simp only[dT,T.ind];by_cases e:B x.1.toNat=true
  ·rw[if_pos e,if_pos e,jm (by omega),sA B L _ (fun y a=>h y (List.mem_cons_of_mem _ a)) (by omega) (by omega)]
   unfold T.ind;omega
  ·rw[if_neg e,if_neg e,sA B L _ (fun y a=>h y (List.mem_cons_of_mem _ a)) (by omega) (by omega)]
   unfold T.ind;omega
theorem F8 (t:Nat->Int) (B:Nat->Bool) (n:Nat):T.sN (fun u=>t u*T.ind B u) n=T.sN (fun u=>if B u=true then t u else 0) n:=T.bK fun u _=>by
 unfold T.ind;split<;>simp
theorem sB {n:Nat} {E:List S83} (h:bt n E) (e:E.length<=1000) (B:Nat->Bool) {v:Nat} (a:v<n):eu B (cK E v E.length)=T.sN (fun u=>if B u=true then af E v u else 0) n:=by
 have h1:=xE E v E.length;unfold eu;rw[sA B _ 0 (fun x b=>(pR h _ (aI _) x b).2.2.2) (by omega) (by omega),pQ h _ a,F8,Int.zero_add]
theorem nV (t:Nat->Nat->Int) (B:Nat->Bool) (v:Nat):∀n,db t B v n=T.sN (fun u=>if B u=true then t v u else 0) n
 |0=>rfl
 |n+1=>by
  show db t B v n+_=T.sN _ n+_
  rw[nV t B v n]
theorem F9 {n:Nat} {E:List S83} (h:bt n E) (a:E.length<=1000) (B:Nat->Bool) {v:Nat} (b:v<n):eu B (cK E v E.length)=db (af E) B v n:=by rw[sB h a B b,nV]
def Md (a b:Int):Prop:=(a-b)%18446744073709551616=0
def dC (a:Int):Prop:= -9223372036854775808<=a/\a<=9223372036854775807
theorem Md.refl (a:Int):Md a a:=by unfold Md;omega
theorem Md.wrap {a b:Int} (h:Md a b):Md (wrap64 a) b:=by unfold Md wrap64 at*;omega
theorem Md.add {a b c d:Int} (h:Md a b) (e:Md c d):Md (a+c) (b+d):=by unfold Md at*;omega
theorem Md.sub {a b c d:Int} (h:Md a b) (e:Md c d):Md (a-c) (b-d):=by unfold Md at*;omega
theorem Md.eq {a b:Int} (h:Md a b) (e:dC a) (hb:dC b):a=b:=by unfold Md dC at*;omega
theorem sC (a:Int):dC (wrap64 a):=by unfold dC wrap64;omega
theorem xF {d:List Int} (h:∀w:Nat,w<d.length->dC (rd d w)) (v:Nat) (a:Int) (b:dC a):∀w:Nat,w<d.length->dC (rd (d.set v a) w):=fun w hw=>by
 by_cases e:v=w
 ·subst e;rw[kf _ _ _ hw];exact b
 ·rw[ju _ _ _ _ e];exact h w hw
theorem xG (t:Int) {v n:Nat} (j:v<n):∀(L:List (Int×Int)) (d:List Int),d.length=n->(∀x∈L,0<=x.1/\x.1<n/\x.1≠v)->(∀w:Nat,w<n->dC (rd d w))->∀w:Nat,w<n->
  dC (rd (gO t v d L) w)/\Md (rd (gO t v d L) w) (rd d w-t*(if w=v then dT (fun _=>1) L else 0)+t*dT (fun u=>if u=w then 1 else 0) L)
 |[],d,hd,_,b=>fun w hw=>by
  refine⟨b w hw,?_⟩;simp[gO,dT];exact Md.refl _
 |x::L,d,hd,g,b=>fun w hw=>by
  have s:=g x (List.mem_cons_self ..);obtain⟨u,hu⟩:∃u:Nat,(u:Int)=x.1:=⟨x.1.toNat,by omega⟩;have k:u<n:=by omega
  have h:u≠v:=by omega
  have l:(jv t v d x).length=n:=by rw[xz];exact hd
  have m:∀w:Nat,w<n->dC (rd (jv t v d x) w):=by
   unfold jv;rw[<-hd] at b⊢;have h1:=xF b v (wrap64 (rd d v-wrap64 (x.2*t))) (sC _);have o:=xF (d:=d.set v (wrap64 (rd d v-wrap64 (x.2*t)))) (by simpa using h1) x.1.toNat (wrap64 (rd (d.set v (wrap64 (rd d v-wrap64 (x.2*t)))) x.1+wrap64 (x.2*t))) (sC _);simpa using o
  obtain⟨i1,i2⟩:=xG t j L (jv t v d x) l (fun y p=>g y (List.mem_cons_of_mem _ p)) m w hw;refine⟨i1,?_⟩;show Md (rd (gO t v (jv t v d x) L) w) _
  have z:Md (rd (jv t v d x) w) (rd d w-t*(if w=v then x.2 else 0)+t*(if u=w then x.2 else 0)):=by
   unfold jv;rw[<-hu,aD];have q:rd (d.set v (wrap64 (rd d v-wrap64 (x.2*t)))) (u:Int)=rd d u:=ju _ _ _ _ (fun e=>h e.symm);have i:Md (wrap64 (x.2*t)) (t*x.2):=by rw[Int.mul_comm];exact(Md.refl _).wrap
   rw[q];by_cases a:u=w
   ·subst a
    rw[kf _ _ _ (by simpa [hd] using k),if_neg h,if_pos rfl,Int.mul_zero,Int.sub_zero];exact((Md.refl _).add i).wrap
   ·rw[ju _ _ _ _ a,if_neg a,Int.mul_zero,Int.add_zero]
    by_cases ev:w=v
    ·subst ev
     rw[kf _ _ _ (by simpa [hd] using hw),if_pos rfl];exact((Md.refl _).sub i).wrap
    ·rw[ju _ _ _ _ (fun e=>ev e.symm),if_neg ev,Int.mul_zero,Int.sub_zero]
     exact Md.refl _
  have r:rd d w-t*(if w=v then dT (fun _=>1) (x::L) else 0)+t*dT (fun u=>if u=w then 1 else 0) (x::L)=(rd d w-t*(if w=v then x.2 else 0)+t*(if u=w then x.2 else 0))-t*(if w=v then dT (fun _=>1) L else 0)+t*dT (fun u=>if u=w then 1 else 0) L:=by
   simp only[dT,<-hu,aD];by_cases ev:w=v
   ·simp only[if_pos ev]
    by_cases a:u=w
    ·simp only[if_pos a,Int.mul_one,Int.mul_add];omega
    ·simp only[if_neg a,Int.mul_one,Int.mul_zero,Int.mul_add];omega
   ·simp only[if_neg ev]
    by_cases a:u=w
    ·simp only[if_pos a,Int.mul_one,Int.mul_add,Int.mul_zero];omega
    ·simp only[if_neg a,Int.mul_zero,Int.mul_add];omega
  rw[r];unfold Md at*;omega
theorem F_ {n:Nat} {E:List S83} (h:bt n E) (t:Int) {v:Nat} (b:v<n) (d:List Int) (hd:d.length=n) (g:∀w:Nat,w<n->dC (rd d w)):∀w:Nat,w<n->
  dC (rd (gO t v d (cK E v E.length)) w)/\Md (rd (gO t v d (cK E v E.length)) w) (rd d w-t*T.aY n (af E) (T.one v) w):=by
 intro w hw;obtain⟨h1,a⟩:=xG t b (cK E v E.length) d hd (fun x i=>by have:=pR h _ (aI _) x i;omega) g w hw;refine⟨h1,?_⟩;rw[pQ h _ b,pQ h _ b] at a;have j:T.sN (fun u=>af E v u*1) n=T.val n (af E) v:=T.bK fun u _=>Int.mul_one _
 have e2:T.sN (fun u=>af E v u*(if u=w then 1 else 0)) n=af E v w:=by
  rw[T.jH hw (fun u _ hu=>by rw[if_neg hu,Int.mul_zero]),if_pos rfl,Int.mul_one]
 rw[j,e2] at a;by_cases e:w=v
 ·subst e
  rw[T.vT h.wt hw];rw[if_pos rfl,h.wt.self,Int.mul_zero,Int.add_zero] at a;exact a
 ·rw[T.vU b e,h.wt.sym w v,Int.mul_neg]
  rw[if_neg e,Int.mul_zero,Int.sub_zero] at a;rw[show rd d w- -(t*af E v w)=rd d w+t*af E v w by omega];exact a
theorem xH {n:Nat} {E:List S83} (h:bt n E) (In:Nat->Bool) (t:Int) (d s:List Int) (hd:d.length=n) (g:s.length=n) (i:∀w:Nat,w<n->dC (rd d w)) (j:∀w:Nat,w<n->dC (rd s w)):∀k,k<=n->∀w:Nat,w<n->
  (dC (rd (bD E In t k (d,s)).1 w)/\Md (rd (bD E In t k (d,s)).1 w) (rd d w-t*T.aY n (af E) (T.ind fun v=>In v&&decide (v<k)) w))/\(dC (rd (bD E In t k (d,s)).2 w)/\Md (rd (bD E In t k (d,s)).2 w) (rd s w+t*T.ind (fun v=>In v&&decide (v<k)) w))
 |0,_=>fun w hw=>by
  have e:T.ind (fun v=>In v&&decide (v<0))=fun _=>0:=by funext v;simp[T.ind]
  rw[e,T.kI,Int.mul_zero,Int.sub_zero,Int.add_zero];exact⟨⟨i w hw,Md.refl _⟩,j w hw,Md.refl _⟩
 |k+1,hk=>fun w hw=>by
  have l:k<n:=by omega
  have a:=xH h In t d s hd g i j k (by omega);obtain⟨m,o⟩:=nU E In t (d,s) k;simp only at m o;unfold bD;cases hIn:In k with
  |false=>
   rw[if_neg (by decide)];have e:∀u,(In u&&decide (u<k+1))=(In u&&decide (u<k)):=fun u=>by
    by_cases e:u=k
    ·subst e;rw[hIn];rfl
    ·rw[show decide (u<k+1)=decide (u<k) by congr 1;exact propext (by omega)]
   rw[show (fun v=>In v&&decide (v<k+1))=(fun v=>In v&&decide (v<k)) from funext e];exact a w hw
  |true=>
   rw[if_pos rfl];have e:∀u,T.ind (fun v=>In v&&decide (v<k+1)) u=T.ind (fun v=>In v&&decide (v<k)) u+T.one k u:=fun u=>by
    unfold T.ind T.one;show (if(In u&&decide (u<k+1))=true then(1:Int) else 0)=(if(In u&&decide (u<k))=true then 1 else 0)+if u=k then 1 else 0
    by_cases e:u=k
    ·subst e;simp[hIn]
    ·rw[show decide (u<k+1)=decide (u<k) by congr 1;exact propext (by omega),if_neg e];omega
   have e2:T.aY n (af E) (T.ind fun v=>In v&&decide (v<k+1)) w=T.aY n (af E) (T.ind fun v=>In v&&decide (v<k)) w+T.aY n (af E) (T.one k) w:=by
    rw[<-T.lJ];exact T.my (fun u _=>e u) hw
   rw[e2,e w];obtain⟨p,j2⟩:=F_ h t l (bD E In t k (d,s)).1 (by rw[m];exact hd) (fun w hw=>(a w hw).1.1) w hw;refine⟨⟨p,?_⟩,?_⟩
   ·have r:=(a w hw).1.2
    rw[Int.mul_add];show Md (rd (gO t k (bD E In t k (d,s)).1 (cK E k E.length)) w) _
    unfold Md at*;omega
   ·have q:k<(bD E In t k (d,s)).2.length:=by rw[o,g];exact l
    by_cases b:k=w
    ·subst b
     rw[kf _ _ _ q];refine⟨sC _,?_⟩;have:=(a k hw).2.2;rw[Int.mul_add,show T.one k k=1 by simp[T.one],Int.mul_one];refine Md.wrap ?_;unfold Md at*;omega
    ·rw[ju _ _ _ _ b,show T.one k w=0 by unfold T.one;rw[if_neg (fun e=>b e.symm)],Int.add_zero]
     exact(a w hw).2
theorem xI {n:Nat} {E:List S83} (h:bt n E) (In:Nat->Bool) (t:Int) (d s:List Int) (hd:d.length=n) (g:s.length=n) (i:∀w:Nat,w<n->dC (rd d w)) (j:∀w:Nat,w<n->dC (rd s w)) {w:Nat} (hw:w<n):
  (dC (rd d w-t*T.aY n (af E) (T.ind In) w)->rd (bD E In t n (d,s)).1 w=rd d w-t*T.aY n (af E) (T.ind In) w)/\(dC (rd s w+t*T.ind In w)->rd (bD E In t n (d,s)).2 w=rd s w+t*T.ind In w):=by
 have e:∀u,u<n->T.ind (fun v=>In v&&decide (v<n)) u=T.ind In u:=fun u hu=>by
  unfold T.ind;simp[hu]
 obtain⟨⟨h1,a⟩,k,b⟩:=xH h In t d s hd g i j n (aI _) w hw;rw[T.my e hw] at a;rw[e w hw] at b;exact⟨fun hi=>a.eq h1 hi,fun hi=>b.eq k hi⟩
theorem sD {f:Nat->Int} {n v:Nat} (b:v<n) {a:Int} (e:a<=0) (h:∀u,u<n->a<=f u):f v<=T.sN f n-n*a:=by
 have h1:=T.iM (f:=fun u=>f u-a) b (fun u hu=>by have:=h u hu;show 0<=f u-a;omega);rw[T.dB f (fun _=>a) n,T.iw] at h1;have g:f v-a<=T.sN f n-n*a:=h1;omega
theorem nW {n:Nat} {t:Nat->Nat->Int} (e:T.Wt n t) (hn:n<=12) (l:T.sN (T.val n t) n<=19) {D dist d s:Nat->Int} (m:∀v,v<n-> -200<=D v/\D v<=200) {k:Int} (hk:0<=k) (o:k<=n) (h:T.fE n t D dist 200 k d s):∀v,v<n-> -102400<=d v/\d v<=1231200/\0<=s v/\s v<=1228800:=by
 have p:T.sN d n=T.sN D n:=by
  rw[T.bK (f:=d) (g:=fun v=>D v-T.aY n t s v) h.eq,T.dB,T.nI e];omega
 have q:=(T.pK (f:=D) (n:=n) (B:=200) m).2;have i:∀v,v<n-> -102400<=d v:=fun v b=>by
  have h1:=h.low v b;have j:=T.sr e dist (B:=200) (by omega) l k;omega
 intro v b;have h1:=sD (f:=d) b (a:= -102400) (by omega) i;have j:=h.s0 v b;have r:((n:Int)-k)*(200*512)<=12*(200*512):=Int.mul_le_mul_of_nonneg_right (by omega) (by omega);exact⟨i v b,by omega,j.1,by omega⟩
theorem Ga {a x:Int} (b:1<=x):a<=(a+x-1)/x*x:=by
 have e:=Int.emod_lt_of_pos (a+x-1) (show 0<x by omega);have g:=Int.mul_ediv_add_emod (a+x-1) x;rw[Int.mul_comm];omega
theorem Gb {a x:Int} (b:1<=a) (e:1<=x):(a+x-1)/x<=a:=by
 refine Int.ediv_le_of_le_mul (by omega) ?_;have:=Int.mul_le_mul_of_nonneg_right (show (1:Int)<=a by omega) (show (0:Int)<=x-1 by omega);rw[show a*x=a*(x-1)+a by rw[Int.mul_sub];omega];omega
theorem Gc {n:Nat} {E:List S83} (a:bt n E) (hn:n<=12) (b:T.sN (T.val n (af E)) n<=19) {D dist:Nat->Int} (e:∀v,v<n-> -200<=D v/\D v<=200) (g:∀u v:Nat,u<n->v<n->0<af E u v->dist v<=dist u+1) {k:Int} (hk:1<=k) (q:k<=n) {d s:List Int} (r:d.length=n) (y:s.length=n)
  (h:T.fE n (af E) D dist 200 k (fun v=>rd d (v:Nat)) (fun v=>rd s (v:Nat))) {x:Int} (i:0<=x) (j:x<=T.fW n (af E) dist 200 k) (l:∀v:Nat,v<n->dist v=k->rd d v<0-> -rd d v<=x*T.sN (fun u=>if T.bI dist k u=true then af E v u else 0) n):
  T.fE n (af E) D dist 200 (k-1) (fun v=>rd (bD E (T.bI dist k) x n (d,s)).1 (v:Nat)) (fun v=>rd (bD E (T.bI dist k) x n (d,s)).2 (v:Nat))/\
  ∀v:Nat,v<n-> -2097152<=rd (bD E (T.bI dist k) x n (d,s)).1 v/\rd (bD E (T.bI dist k) x n (d,s)).1 v<=2097152/\ -2097152<=rd (bD E (T.bI dist k) x n (d,s)).2 v/\rd (bD E (T.bI dist k) x n (d,s)).2 v<=2097152:=by
 have hb:=nW a.wt hn b e (by omega) q h;have h1:=T.fE.step a.wt (by omega) b g h i j l (d':=fun v=>rd d (v:Nat)-x*T.aY n (af E) (T.ind (T.bI dist k)) v) (s':=fun v=>rd s (v:Nat)+x*T.ind (T.bI dist k) v) (fun _ _=>rfl) (fun _ _=>rfl);have m:=nW a.wt hn b e (show 0<=k-1 by omega) (by omega) h1;have o:=fun (w:Nat) (hw:w<n)=>xI a (T.bI dist k) x d s r y (fun w hw=>by have:=hb w hw;unfold dC;omega) (fun w hw=>by have:=hb w hw;unfold dC;omega) hw
 have z:∀w:Nat,w<n->rd (bD E (T.bI dist k) x n (d,s)).1 w=rd d w-x*T.aY n (af E) (T.ind (T.bI dist k)) w:=fun w hw=>(o w hw).1 (by have:=m w hw;unfold dC;omega)
 have e2:∀w:Nat,w<n->rd (bD E (T.bI dist k) x n (d,s)).2 w=rd s w+x*T.ind (T.bI dist k) w:=fun w hw=>(o w hw).2 (by have:=m w hw;unfold dC;omega)
 have p:=T.fE.step a.wt (by omega) b g h i j l (d':=fun v=>rd (bD E (T.bI dist k) x n (d,s)).1 (v:Nat)) (s':=fun v=>rd (bD E (T.bI dist k) x n (d,s)).2 (v:Nat)) z e2;refine⟨p,fun v B=>?_⟩;have:=nW a.wt hn b e (show 0<=k-1 by omega) (by omega) p v B;omega
theorem Gd {n:Nat} {E:List S83} (a:bt n E) (b:T.sN (T.val n (af E)) n<=19) {D dist:Nat->Int} (e:∀u v:Nat,u<n->v<n->0<af E u v->dist v<=dist u+1) {k:Int} {d s:List Int}
  (h:T.fE n (af E) D dist 200 k (fun v=>rd d (v:Nat)) (fun v=>rd s (v:Nat))) (g:∀v:Nat,v<n->dist v=k->rd d v<0-> -rd d v<=0*T.sN (fun u=>if T.bI dist k u=true then af E v u else 0) n):
  T.fE n (af E) D dist 200 (k-1) (fun v=>rd d (v:Nat)) (fun v=>rd s (v:Nat)):=by
 refine T.fE.step a.wt (by omega) b e h (T:=0) (by omega) ?_ g (fun v _=>by rw[Int.zero_mul,Int.sub_zero]) (fun v _=>by rw[Int.zero_mul,Int.add_zero]);have:=T.pL (n:=n) (t:=af E) dist (show (0:Int)<=200 by omega) k;omega
theorem Ge {n:Nat} {t:Nat->Nat->Int} (a:T.Wt n t) {out:List Int} {k:Int} {v u:Nat} (hu:u<n) (h1:0<t v u) (g:rd out (u:Int)+1=rd out (v:Int)) (hk:rd out (v:Int)=k):1<=T.sN (fun u=>if T.bI (fun v=>rd out (v:Nat)) k u=true then t v u else 0) n:=by
 have b:=T.iM (f:=fun u=>if T.bI (fun v=>rd out (v:Nat)) k u=true then t v u else 0) hu (fun w _=>by
  show 0<=(if T.bI (fun v=>rd out (v:Nat)) k w=true then t v w else 0)
  have:=a.pos v w;split<;>omega)
 have e:T.bI (fun v=>rd out (v:Nat)) k u=true:=by exact aE (show rd out (u:Int)<k by omega)
 simp only[e,if_true] at b;omega
theorem xJ (n:Nat) (t:Nat->Nat->Int) (q:Nat) (d:List Int):bG n t q d q=true:=rX _ (by simp[cJ])
theorem Gf (n:Nat) (t:Nat->Nat->Int) (q:Nat) (d:List Int) {v:Nat} (a:v<n):cD n t d (bG n t q d) v=false:=
 rZ (n:=n) (c:=cD n t d) (fun b v h=>ny b v h) (dV n (cJ q)) (cJ q) (aI _) v a
theorem xK {n:Nat} {t:Nat->Nat->Int} {q:Nat} {d:List Int} {v:Nat} (a:v<n) (h:bG n t q d v=false):T.sN (fun u=>if bG n t q d u=true then t v u else 0) n<=rd d v:=by
 have h1:=Gf n t q d a;unfold cD at h1;rw[h,nV] at h1;simp at h1;exact h1
theorem Gg {n:Nat} {t:Nat->Nat->Int} (e:T.Wt n t) {q:Nat} {d:List Int} (h:((List.range n).any fun v=> !bG n t q d v)=false):T.iN n t q (fun v=>rd d (v:Nat)):=by
 have h1:b9 n t q d=true:=by
  unfold b9;rw[List.all_eq_true];intro v a;rw[List.any_eq_false] at h;have:=h v a;show bG n t q d v=true
  simpa using this
 have g:=(kM (fun i j=>e.pos i j) q d).1 h1;intro S hS k;obtain⟨v,a,l,b⟩:=g S hS k;refine⟨v,a,l,?_⟩;rw[nV] at b;refine Int.lt_of_lt_of_le b (T.cZ fun u _=>?_);show (if(!S u)=true then t v u else 0)<=(if S u=false then t v u else 0)
 cases S u<;>simp
theorem Gh {n:Nat} {t:Nat->Nat->Int} (g:T.dS n t) (e:T.Wt n t) {q:Nat} (i:q<n) {d:List Int} (h:((List.range n).any fun v=> !bG n t q d v)=true):∃v,v<n/\bG n t q d v=false/\0<T.sN (fun u=>if bG n t q d u=true then t v u else 0) n:=by
 obtain⟨v,j,hb⟩:=List.any_eq_true.1 h;obtain⟨a,b,k,l,h1,m,p⟩:=g (bG n t q d) ⟨q,i,xJ n t q d⟩ ⟨v,List.mem_range.1 j,by simpa using hb⟩;refine⟨b,l,m,?_⟩;have o:=T.iM (f:=fun u=>if bG n t q d u=true then t b u else 0) k (fun w _=>by
  show 0<=(if bG n t q d w=true then t b w else 0)
  have:=e.pos b w;split<;>omega)
 have r:=e.sym a b;simp only[h1,if_true] at o;omega
structure jL (n q:Nat) (t:Nat->Nat->Int) (D:Nat->Int) (d s:List Int):Prop where
 dl:d.length=n
 sl:s.length=n
 eq:∀v:Nat,v<n->rd d v=D v-T.aY n t (fun u=>rd s (u:Nat)) v
 kP:∀v:Nat,v<n->v≠q->0<=rd d v
 low: -102400<=rd d q
 s0:∀v:Nat,v<n->0<=rd s v
 sq:rd s q<=1228800
structure e9 (n q:Nat) (t:Nat->Nat->Int) (D c σ:Nat->Int):Prop where
 red:T.j6 n t q c
 eq:∀v,v<n->c v=D v-T.aY n t σ v
 q0:σ q=0
theorem Gi {n q:Nat} {t:Nat->Nat->Int} (a:T.Wt n t) (b:T.dS n t) (e:q<n) (D:Nat->Int):∃c σ,e9 n q t D c σ:=by
 obtain⟨c,⟨s,g⟩,i⟩:=T.rB a b e D;refine⟨c,fun u=>s u-s q,i,fun v j=>?_,by show s q-s q=0;omega⟩;have h:=T.mw n t s (fun _=>s q) v;rw[T.kI] at h;rw[h,g v j];omega
theorem e9.unique {n q:Nat} {t:Nat->Nat->Int} (l:T.Wt n t) (m:T.dS n t) (o:q<n) {D c σ k i:Nat->Int} (h:e9 n q t D c σ) (j:e9 n q t D k i):∀v,v<n->c v=k v/\σ v=i v:=by
 have e:T.bT n t c k:=⟨fun u=>i u-σ u,fun v g=>by rw[T.mw,h.eq v g,j.eq v g];omega⟩;have h1:=T.DU l m o h.red j.red e;have p:=T.FE l m o (s:=σ) (s':=i) (by rw[h.q0,j.q0]) (fun v g=>by
  have a:=h.eq v g;have b:=j.eq v g;have c:=h1 v g;omega)
 exact fun v g=>⟨(h1 v g).symm,p v g⟩
theorem sE {n:Nat} {t:Nat->Nat->Int} (a:T.Wt n t) {v:Nat} (b:v<n):T.val n t v<=T.sN (T.val n t) n:=T.iM b (fun u _=>T.dR fun w _=>a.pos u w)
theorem e9.bound {n q:Nat} {t:Nat->Nat->Int} (j:T.Wt n t) (r:T.dS n t) (o:q<n) (hn:n<=12) (l:T.sN (T.val n t) n<=19) {D c σ:Nat->Int} (p:∀v,v<n-> -200<=D v/\D v<=200) (h:e9 n q t D c σ):∀v,v<n-> -31536<=σ v/\σ v<=31536/\ -3000<=c v/\c v<=3000/\(v≠q->0<=c v/\c v<19):=by
 have h1:=T.FF j r o h.red h.eq h.q0 (B:=200) (V:=19) (by omega) (by omega) p (fun v i=>Int.le_trans (sE j i) l);have m:∀v,v<n->v≠q->0<=c v/\c v<=19:=fun v i k=>by
  have a:=h.red.1 v i k;have b:=T.pJ j h.red.2 i k;have:=Int.le_trans (sE j i) l;omega
 have s:∀v,v<n->v≠q->0<=c v/\c v<19:=fun v i k=>by
  have a:=h.red.1 v i k;have b:=T.pJ j h.red.2 i k;have:=Int.le_trans (sE j i) l;omega
 have u:=T.FH (f:=c) o (a:=0) (b:=19) (by omega) (by omega) m;have w:T.sN c n=T.sN D n:=by
  rw[T.bK (f:=c) (g:=fun v=>D v-T.aY n t σ v) h.eq,T.dB,T.nI j];omega
 have x:=T.pK (f:=D) (n:=n) (B:=200) p;have y:(n:Int)*(n*(200+19))<=31536:=by
  have a:(n:Int)*(200+19)<=12*(200+19):=Int.mul_le_mul_of_nonneg_right (by omega) (by omega);have b:=Int.mul_le_mul_of_nonneg_left a (show (0:Int)<=n by omega);have c:(n:Int)*(12*(200+19))<=12*(12*(200+19)):=Int.mul_le_mul_of_nonneg_right (by omega) (by omega);omega
 intro v i;have a:=h1 v i;refine⟨by omega,by omega,?_,?_,fun k=>s v i k⟩
 ·by_cases e:v=q
  ·subst e;omega
  ·have:=m v i e;omega
 ·by_cases e:v=q
  ·subst e;omega
  ·have:=m v i e;omega
theorem jL.bounds {n q:Nat} {t:Nat->Nat->Int} (j:T.Wt n t) (k:T.dS n t) (l:q<n) (hn:n<=12) (p:T.sN (T.val n t) n<=19) {D c σ:Nat->Int} (m:∀v,v<n-> -200<=D v/\D v<=200) (i:e9 n q t D c σ) {d s:List Int} (h:jL n q t D d s):
  ∀v:Nat,v<n-> -102400<=rd d v/\rd d v<=1231200/\0<=rd s v/\rd s v<=σ v+rd s q/\rd s v<=1260336:=by
 have o:∀v:Nat,v<n-> -102400<=rd d v:=fun v b=>by
  by_cases e:v=q
  ·subst e;exact h.low
  ·have:=h.kP v b e;omega
 have r:T.sN (fun v=>rd d (v:Nat)) n=T.sN D n:=by
  rw[T.bK (f:=fun v=>rd d (v:Nat)) (g:=fun v=>D v-T.aY n t (fun u=>rd s (u:Nat)) v) h.eq,T.dB,T.nI j];omega
 have w:=(T.pK (f:=D) (n:=n) (B:=200) m).2;have hle:=T.so j k l i.red i.eq i.q0 (d:=fun v=>rd d (v:Nat)) h.eq h.kP;intro v b;have h1:rd d v<=T.sN (fun v=>rd d (v:Nat)) n-n* -102400:=sD (f:=fun v=>rd d (v:Nat)) b (a:= -102400) (by omega) o;have x:rd s v<=σ v+rd s q:=hle v b;have y:=i.bound j k l hn p m v b;have z:=h.s0 v b;have C:=h.sq;have E:=o v b;omega
def kh (n q:Nat) (σ:Nat->Int) (s:List Int):Int:=T.sN (fun v=>σ v+rd s q-rd s v) n
theorem jL.step {n q:Nat} {E:List S83} (j:bt n E) (C:T.dS n (af E)) (i:q<n) (hn:n<=12) (K:T.sN (T.val n (af E)) n<=19) {D c σ:Nat->Int} (F:∀v,v<n-> -200<=D v/\D v<=200) (k:e9 n q (af E) D c σ) {d s:List Int} (h:jL n q (af E) D d s)
  (U:((List.range n).any fun v=> !bG n (af E) q d v)=true) {x:Int} (Z:1<=x) (V:∀v:Nat,v<n->bG n (af E) q d v=false->x*T.sN (fun u=>if bG n (af E) q d u=true then af E v u else 0) n<=rd d v):
  jL n q (af E) D (bD E (fun v=> !bG n (af E) q d v) x n (d,s)).1 (bD E (fun v=> !bG n (af E) q d v) x n (d,s)).2/\
  (∀v:Nat,v<n-> -2097152<=rd (bD E (fun v=> !bG n (af E) q d v) x n (d,s)).1 v/\rd (bD E (fun v=> !bG n (af E) q d v) x n (d,s)).1 v<=2097152/\ -2097152<=rd (bD E (fun v=> !bG n (af E) q d v) x n (d,s)).2 v/\rd (bD E (fun v=> !bG n (af E) q d v) x n (d,s)).2 v<=2097152)/\
  0<=kh n q σ (bD E (fun v=> !bG n (af E) q d v) x n (d,s)).2/\kh n q σ (bD E (fun v=> !bG n (af E) q d v) x n (d,s)).2<kh n q σ s:=by
 obtain⟨L,l⟩:∃L:Nat->Bool,L=fun v=> !bG n (af E) q d v:=⟨_,rfl⟩
 have M:L q=false:=by rw[l];simp[xJ]
 have G:=T.FJ j.wt (L:=L) (d:=fun v=>rd d (v:Nat)) (T:=x) (by omega) (fun v b N=>by
  have h1:=V v b (by rw[l] at N;simpa using N);rw[T.bK (f:=fun u=>if L u=false then af E v u else 0) (g:=fun u=>if bG n (af E) q d u=true then af E v u else 0) (fun u _=>by
   have e:L u= !bG n (af E) q d u:=by rw[l]
   rw[e];cases bG n (af E) q d u<;>simp)]
  exact h1)
 rw[<-l];have hb:=h.bounds j.wt C i hn K F k;have H:∀v:Nat,v<n->v≠q->0<=rd d v-x*T.aY n (af E) (T.ind L) v:=fun v b I=>by
  cases m:L v with
  |true=>exact(G v b).1 m
  |false=>have h1:=(G v b).2 m;have o:=h.kP v b I;omega
 have O: -102400<=rd d q-x*T.aY n (af E) (T.ind L) q:=by
  have h1:=(G q i).2 M;have o:=h.low;omega
 have J:∀v:Nat,v<n-> -102400<=rd d v-x*T.aY n (af E) (T.ind L) v:=fun v b=>by
  by_cases e:v=q
  ·subst e;exact O
  ·have:=H v b e;omega
 have heq:∀v:Nat,v<n->rd d v-x*T.aY n (af E) (T.ind L) v=D v-T.aY n (af E) (fun u=>rd s (u:Nat)+x*T.ind L u) v:=fun v b=>by
  rw[T.lJ,T.vP,h.eq v b];omega
 have W:T.sN (fun v=>rd d (v:Nat)-x*T.aY n (af E) (T.ind L) v) n=T.sN D n:=by
  rw[T.bK heq,T.dB,T.nI j.wt];omega
 have aa:=(T.pK (f:=D) (n:=n) (B:=200) F).2;have P:∀v:Nat,v<n->rd d v-x*T.aY n (af E) (T.ind L) v<=1231200:=fun v b=>by
  have h1:rd d v-x*T.aY n (af E) (T.ind L) v<=T.sN (fun v=>rd d (v:Nat)-x*T.aY n (af E) (T.ind L) v) n-n* -102400:=sD (f:=fun v=>rd d (v:Nat)-x*T.aY n (af E) (T.ind L) v) b (a:= -102400) (by omega) J;rw[W] at h1;omega
 have hle:=T.so j.wt C i k.red k.eq k.q0 (d:=fun v=>rd d (v:Nat)-x*T.aY n (af E) (T.ind L) v) (s:=fun u=>rd s (u:Nat)+x*T.ind L u) heq H;have p:T.ind L q=0:=by unfold T.ind;rw[M];rfl
 have X:∀v,0<=T.ind L v/\T.ind L v<=1:=fun v=>by unfold T.ind;split<;>omega
 have Q:∀v,0<=x*T.ind L v:=fun v=>Int.mul_nonneg (by omega) (X v).1
 have y:∀v:Nat,v<n->0<=rd s v+x*T.ind L v/\rd s v+x*T.ind L v<=σ v+rd s q/\rd s v+x*T.ind L v<=1260336:=fun v b=>by
  have h1:rd s (v:Nat)+x*T.ind L v<=σ v+(rd s (q:Nat)+x*T.ind L q):=hle v b;rw[p,Int.mul_zero,Int.add_zero] at h1;have o:=h.s0 v b;have R:=Q v;have h4:=k.bound j.wt C i hn K F v b;have h5:=h.sq;omega
 have S:=fun (w:Nat) (hw:w<n)=>xI j L x d s h.dl h.sl (fun w hw=>by have:=hb w hw;unfold dC;omega) (fun w hw=>by have:=hb w hw;unfold dC;omega) hw
 have z:∀w:Nat,w<n->rd (bD E L x n (d,s)).1 w=rd d w-x*T.aY n (af E) (T.ind L) w:=fun w hw=>(S w hw).1 (by have:=J w hw;have:=P w hw;unfold dC;omega)
 have e2:∀w:Nat,w<n->rd (bD E L x n (d,s)).2 w=rd s w+x*T.ind L w:=fun w hw=>(S w hw).2 (by have:=y w hw;unfold dC;omega)
 obtain⟨l1,l2⟩:=nU E L x (d,s) n;refine⟨⟨l1.trans h.dl,l2.trans h.sl,fun v b=>?_,fun v b I=>by rw[z v b];exact H v b I,by rw[z q i];exact O,fun v b=>by rw[e2 v b];exact(y v b).1,by rw[e2 q i,p,Int.mul_zero,Int.add_zero];exact h.sq⟩,fun v b=>?_,?_,?_⟩
 ·rw[z v b,heq v b,T.my (s:=fun u=>rd (bD E L x n (d,s)).2 (u:Nat)) (r:=fun u=>rd s (u:Nat)+x*T.ind L u) (fun u hu=>e2 u hu) b]
 ·rw[z v b,e2 v b]
  have:=J v b;have:=P v b;have:=y v b;omega
 ·refine T.dR fun v b=>?_
  show 0<=σ v+rd (bD E L x n (d,s)).2 q-rd (bD E L x n (d,s)).2 v
  rw[e2 v b,e2 q i,p,Int.mul_zero,Int.add_zero];have:=(y v b).2.1;omega
 ·obtain⟨v,b,hb⟩:=List.any_eq_true.1 U
  have Y:=List.mem_range.1 b;have m:L v=true:=by rw[l];exact hb
  have h1:kh n q σ (bD E L x n (d,s)).2=T.sN (fun v=>(σ v+rd s q-rd s v)-x*T.ind L v) n:=by
   refine T.bK fun v b=>?_
   show σ v+rd (bD E L x n (d,s)).2 q-rd (bD E L x n (d,s)).2 v=_
   rw[e2 v b,e2 q i,p,Int.mul_zero,Int.add_zero];omega
  rw[h1,T.dB];have o:=T.iM (f:=fun v=>x*T.ind L v) Y (fun u _=>Q u);have R:T.ind L v=1:=by unfold T.ind;rw[m];rfl
  simp only[R,Int.mul_one] at o;show T.sN (fun v=>σ v+rd s q-rd s v) n-T.sN (fun v=>x*T.ind L v) n<T.sN (fun v=>σ v+rd s q-rd s v) n
  omega
def c_ (x:Int):Bool:=decide (-1048576<=x/\x<=1048576)
def lR (l:List Int) (n:Int):Int:=if n<1\/n>12 then 2 else if(l.length:Int)≠n then 8 else if l.all c_=true then 0 else 2
theorem xL (x:Int):ir.f x=some (c_ x):=by
 unfold ir.f c_;by_cases h1:x>= -1048576
 ·by_cases a:x<=1048576
  ·simp[h1,a]
  ·simp[h1,a]
 ·simp[h1]
theorem Gj {l:List Int} {i:Nat} (h:i<l.length):l.drop i=rd l i::l.drop (i+1):=by
 rw[List.drop_eq_getElem_cons h];simp[rd,aW,bp h]
theorem xM (l:List Int) (a:l.length<=1000000):∀(m i:Nat),i+m=l.length->Ev (fun k=>bz.l0 k l l.length i) (if(l.drop i).all c_=true then 0 else 2)
 |0,i,hi=>by
  refine Ev.of_succ ?_;simp only[bz.l0,if_neg (show ¬((i:Int)<(l.length:Int)) by omega)];rw[List.drop_eq_nil_of_le (by omega)];exact Ev.const _
 |m+1,i,hi=>by
  have b:=xM l a m (i+1) (by omega);refine Ev.of_succ ?_;simp only[bz.l0,if_pos (show (i:Int)<(l.length:Int) by omega),if_pos (show (0:Int)<=(i:Int) by omega),eX (show i<=1000000 by omega),xL,Option.bind_some];rw[Gj (show i<l.length by omega),List.all_cons];cases hb:c_ (rd l i) with
  |true=>simp only[if_true,Bool.true_and];exact b
  |false=>simp;exact Ev.const _
theorem pS (l:List Int) (n:Int) (b:l.length<=1000000):Ev (fun k=>bz.f k l n) (lR l n):=by
 unfold bz.f lR;have e:jF.f n=some (if n<1\/n>12 then 2 else 0):=by
  unfold jF.f;by_cases h1:n<1
  ·simp[h1]
  ·by_cases a:n>12
   ·simp[h1,a]
   ·simp[h1,a]
 rw[e];simp only[Option.bind_some];by_cases h:n<1\/n>12
 ·simp only[if_pos h];exact Ev.const _
 ·simp only[if_neg h,if_true]
  by_cases hn:(l.length:Int)=n
  ·rw[if_neg (by simpa using hn)]
   simp only[if_pos hn];have:=xM l b l.length 0 (by omega);simpa using this
  ·rw[if_pos hn]
   simp only[if_neg hn];exact Ev.const _
theorem sF {l:List Int} {n:Int}:lR l n=0↔1<=n/\n<=12/\(l.length:Int)=n/\∀v:Nat,v<l.length-> -1048576<=rd l v/\rd l v<=1048576:=by
 unfold lR;have g:l.all c_=true↔∀v:Nat,v<l.length-> -1048576<=rd l v/\rd l v<=1048576:=by
  rw[List.all_eq_true];constructor
  ·intro h v a
   have:=h l[v] (List.getElem_mem a);rw[show rd l (v:Int)=l[v] by simp[rd,aW,bp a]];simpa [c_] using this
  ·intro h x i
   obtain⟨v,a,rfl⟩:=List.getElem_of_mem i;have:=h v a;rw[show rd l (v:Int)=l[v] by simp[rd,aW,bp a]] at this;simpa [c_] using this
 by_cases h:n<1\/n>12
 ·rw[if_pos h];constructor
  ·intro h;cases h
  ·intro b;omega
 ·rw[if_neg h]
  by_cases hn:(l.length:Int)=n
  ·rw[if_neg (by simpa using hn)]
   by_cases e:l.all c_=true
   ·rw[if_pos e];exact⟨fun _=>⟨by omega,by omega,hn,g.1 e⟩,fun _=>rfl⟩
   ·rw[if_neg e];constructor
    ·intro h;cases h
    ·intro b;exact absurd (g.2 b.2.2.2) e
  ·rw[if_pos hn];constructor
   ·intro h;cases h
   ·intro b;exact absurd b.2.2.1 hn
theorem xN (A0:Option Addr) (c0 n:Nat) (l:List Int) (w:World) (m:Nat) (b:l.length=n) (h1:1<=n) (hn:n<=12) (hb:∀v:Nat,v<n-> -1048576<=rd l v/\rd l v<=1048576) (g:Kd.C (Kd.int .i64) (w.drewN m) A0 l.length l) (h:l.length<=c0):
  Calls Tryz.prog 87 #[.slice A0 n c0,.int .i64 n] (w.drewN m) fun e i=>e= .returned (.int .i64 0)/\∃a,i=w.drewN a:=by
 subst b;obtain⟨k,hk⟩:=(pS l l.length (by omega)).get;rw[sF.2 ⟨by omega,by omega,rfl,hb⟩] at hk;refine(bz.calls k A0 c0 l l.length 0 _ g h hk).mono ?_;rintro e w' ⟨rfl,⟨a,rfl⟩⟩;exact⟨rfl,m+a,by rw[World.drewN_drewN]⟩
theorem kT {n:Nat} {t:Nat->Nat->Int} (k:T.Wt n t) {q:Nat} {d:List Int}:T.iN n t q (fun v=>rd d (v:Nat))↔b9 n t q d=true:=by
 rw[kM (fun i j=>k.pos i j) q d];have key:∀(S:Nat->Bool) (v:Nat),db t (fun u=> !S u) v n=T.sN (fun u=>if S u=false then t v u else 0) n:=fun S v=>by
  rw[nV];refine T.bK fun u _=>?_
  cases S u<;>simp
 constructor
 ·intro h S hS b
  obtain⟨v,e,g,a⟩:=h S hS b;exact⟨v,e,g,by rw[key];exact a⟩
 ·intro h S hS b
  obtain⟨v,e,g,a⟩:=h S hS b;exact⟨v,e,g,by rw[key] at a;exact a⟩
def eO (n:Nat) (E:List S83) (d s:List Int):List Int:=(List.range n).map fun v:Nat=>rd d v-T.aY n (af E) (fun u=>rd s (u:Nat)) v
theorem xO (f:Nat->Int) {n v:Nat} (a:v<n):rd ((List.range n).map f) (v:Int)=f v:=by
 rw[kQ,aW,List.getElem?_map,List.getElem?_range a];rfl
theorem xP (n:Nat) (E:List S83) (d s:List Int) {v:Nat} (a:v<n):rd (eO n E d s) v=rd d v-T.aY n (af E) (fun u=>rd s (u:Nat)) v:=xO _ a
theorem sG (n:Nat) (E:List S83) (d s:List Int):(eO n E d s).length=n:=by simp[eO]
theorem xQ {a b:List Int} {n:Nat} (e:a.length=n) (hb:b.length=n) (h:∀v:Nat,v<n->rd a v=rd b v):a=b:=by
 refine List.ext_getElem (by rw[e,hb]) fun i h1 g=>?_
 have:=h i (by omega);rw[kQ,kQ,aW,aW,bp h1,bp g] at this;exact this
def kU (n:Nat) (E:List S83) (q:Nat) (d s:List Int):Bool:=decide (s.length=n)&&decide (rd s q=0)&&((List.range n).all fun v=>decide (v=q)||decide (0<=rd (eO n E d s) v))&&b9 n (af E) q (eO n E d s)
def boxes (r q:Nat):Nat->List (List Int)
 |0=>[[]]
 |v+1=>(boxes r q v).flatMap fun s=>if v=q then[s++[0]] else(List.range (2*r+1)).map fun i:Nat=>s++[(i:Int)-r]
theorem xR (r q:Nat) (σ:Nat->Int) (a:σ q=0):∀n,(∀v,v<n-> -(r:Int)<=σ v/\σ v<=r)->(List.range n).map σ∈boxes r q n
 |0,_=>by simp[boxes]
 |n+1,h=>by
  unfold boxes;rw[List.mem_flatMap];refine⟨_,xR r q σ a n (fun v b=>h v (by omega)),?_⟩;rw[show (List.range (n+1)).map σ=(List.range n).map σ++[σ n] by rw[List.range_succ,List.map_append];rfl];by_cases e:n=q
  ·rw[if_pos e,e,a];exact List.mem_singleton.2 rfl
  ·rw[if_neg e,List.mem_map]
   have:=h n (by omega);exact⟨(σ n+r).toNat,List.mem_range.2 (by omega),by congr 2;omega⟩
def xS (n:Nat) (E:List S83) (q:Nat) (d:List Int) (r:Nat):Option (List Int):=(boxes r q n).find? (kU n E q d)
def iS (n:Nat) (E:List S83) (q:Nat) (d:List Int):Nat->Option (List Int)
 |0=>none
 |k+1=>match iS n E q d k with
  |some s=>some s
  |none=>xS n E q d k
theorem Gk (n:Nat) (E:List S83) (q:Nat) (d:List Int) (k:Nat):al (iS n E q d k) (iS n E q d (k+1)):=fun r h=>by
 unfold iS;rw[h]
theorem sH {n:Nat} {E:List S83} {q:Nat} {d s:List Int}:∀{k:Nat},iS n E q d k=some s->kU n E q d s=true
 |0,h=>by cases h
 |k+1,h=>by
  unfold iS at h;cases h1:iS n E q d k with
  |some s'=>rw[h1] at h;injection h with h;subst h;exact sH h1
  |none=>rw[h1] at h;exact List.find?_some h
theorem Gl {n:Nat} {E:List S83} {q:Nat} {d s:List Int} {r:Nat} (a:s∈boxes r q n) (b:kU n E q d s=true):∃s',iS n E q d (r+1)=some s':=by
 unfold iS;cases h1:iS n E q d r with
 |some s'=>exact⟨s',rfl⟩
 |none=>
  have:(xS n E q d r).isSome=true:=List.find?_isSome.2 ⟨s,a,b⟩;obtain⟨s',h⟩:=Option.isSome_iff_exists.1 this;exact⟨s',h⟩
theorem nX {n:Nat} {E:List S83} (b:bt n E) {q:Nat} {d s:List Int}:kU n E q d s=true↔s.length=n/\e9 n q (af E) (fun v=>rd d (v:Nat)) (fun v=>rd (eO n E d s) (v:Nat)) (fun v=>rd s (v:Nat)):=by
 unfold kU;simp only[Bool.and_eq_true,decide_eq_true_eq,List.all_eq_true,List.mem_range,Bool.or_eq_true];constructor
 ·rintro⟨⟨⟨h1,g⟩,i⟩,j⟩
  exact⟨h1,⟨fun v a k=>(i v a).resolve_left k,(kT b.wt).2 j⟩,fun v a=>xP n E d s a,g⟩
 ·rintro⟨h1,h⟩
  exact⟨⟨⟨h1,h.q0⟩,fun v a=>by by_cases e:v=q;exact .inl e;exact .inr (h.red.1 v a e)⟩,(kT b.wt).1 h.red.2⟩
theorem Gm {n q:Nat} {t:Nat->Nat->Int} {D c σ g b:Nat->Int} (h:e9 n q t D c σ) (j:q<n) (e:∀v,v<n->g v=c v) (i:∀v,v<n->b v=σ v):e9 n q t D g b:=by
 refine⟨⟨fun v a k=>by rw[e v a];exact h.red.1 v a k,fun S hS l=>?_⟩,fun v a=>?_,by rw[i q j];exact h.q0⟩
 ·obtain⟨v,a,h1,m⟩:=h.red.2 S hS l
  exact⟨v,a,h1,by rw[e v a];exact m⟩
 ·rw[e v a,h.eq v a,T.my (s:=b) (r:=σ) i a]
theorem Gn {n:Nat} {E:List S83} (b:bt n E) (hC:fC n E) {q:Nat} (g:q<n) (d:List Int):∃s,Ev (iS n E q d) s/\s.length=n/\e9 n q (af E) (fun v=>rd d (v:Nat)) (fun v=>rd (eO n E d s) (v:Nat)) (fun v=>rd s (v:Nat)):=by
 obtain⟨c,σ,h⟩:=Gi b.wt (b.conn hC) g (fun v=>rd d (v:Nat));obtain⟨r,j⟩:∃r:Nat,∀v,v<n-> -(r:Int)<=σ v/\σ v<=r:=by
  refine⟨(T.sN (fun v=>((σ v).natAbs:Int)) n).toNat,fun v a=>?_⟩;have h1:=T.iM (f:=fun v=>((σ v).natAbs:Int)) a (fun u _=>by show (0:Int)<=((σ u).natAbs:Int);omega);have e:((σ v).natAbs:Int)<=T.sN (fun v=>((σ v).natAbs:Int)) n:=h1;omega
 have i:∀v,v<n->rd ((List.range n).map σ) (v:Int)=σ v:=fun v a=>xO _ a
 have k:kU n E q d ((List.range n).map σ)=true:=(nX b).2 ⟨by simp,Gm h g (fun v a=>by rw[xP n E d _ a,h.eq v a,T.my (s:=fun u=>rd ((List.range n).map σ) (u:Nat)) (r:=σ) i a]) i⟩;obtain⟨s',h1⟩:=Gl (xR r q σ h.q0 n j) k;have e:=(nX b).1 (sH h1);exact⟨s',Ev.at_ (Gk n E q d) h1,e.1,e.2⟩
def jw (N:Int) (E:List S83) (q:Int) (d:List Int):Bool:=decide (1<=N/\N<=12/\0<=q/\q<N/\E.length<=1000/\cL N E=0/\partsOf E N.toNat=1/\T.sN (T.val N.toNat (af E)) N.toNat<=19/\(d.length:Int)=N)&&d.all fun x=>decide (-200<=x/\x<=200)
structure eP (n q:Nat) (E:List S83) (d:List Int):Prop where
 n1:1<=n
 n12:n<=12
 q:q<n
 len:E.length<=1000
 right:bt n E
 conn:fC n E
 val:T.sN (T.val n (af E)) n<=19
 dl:d.length=n
 d:∀v:Nat,v<n-> -200<=rd d v/\rd d v<=200
theorem xT {d:List Int} {B:Int}:(d.all fun x=>decide (-B<=x/\x<=B))=true↔∀v:Nat,v<d.length-> -B<=rd d v/\rd d v<=B:=by
 rw[List.all_eq_true];have e:∀(v:Nat) (a:v<d.length),rd d (v:Int)=d[v]:=fun v a=>by simp[rd,aW,bp a]
 constructor
 ·intro h v a
  rw[e v a];simpa using h d[v] (List.getElem_mem a)
 ·intro h x b
  obtain⟨v,a,rfl⟩:=List.getElem_of_mem b;have:=h v a;rw[e v a] at this;simpa using this
theorem pT {N:Int} {E:List S83} {q:Int} {d:List Int} (h:jw N E q d=true):∃n a:Nat,N=n/\q=a/\eP n a E d:=by
 unfold jw at h;rw[Bool.and_eq_true,decide_eq_true_eq] at h;obtain⟨⟨h1,m,i,o,j,k,b,e,p⟩,l⟩:=h;obtain⟨n,rfl⟩:=Int.eq_ofNat_of_zero_le (show 0<=N by omega);obtain⟨a,rfl⟩:=Int.eq_ofNat_of_zero_le i;simp only[aD] at b e;have g:=(jq k).2.2;refine⟨n,a,rfl,rfl,by omega,by omega,by omega,j,g,(jI (by omega) g).1 b,e,by omega,fun v r=>xT.1 l v (by omega)⟩
theorem eP.ok {n q:Nat} {E:List S83} {d:List Int} (h:eP n q E d) (a:cL n E=0):jw n E q d=true:=by
 unfold jw;rw[Bool.and_eq_true,decide_eq_true_eq];have:=h.n1;have:=h.n12;have:=h.q;have:=h.dl;exact⟨⟨by omega,by omega,by omega,by omega,h.len,a,by simpa using (jI (by omega) h.right).2 h.conn,by simpa using h.val,by omega⟩,xT.2 fun v b=>h.d v (by omega)⟩
mutual
def cy.l0:Nat->List (List Int)->List (List Int)->Int->Int->Option (Int)
 |0,_,_,_,_=>none
 |k+1,b,e,g,a=>if a<g then(if 0<=a then(if a<(e.length:Int) then((bz.f k (aZ e a) ((aZ e a).length:Int)).bind fun t194=>(if t194=0 then(cy.l0 k b e g (wrap64 (a+1))) else(some t194))) else(none)) else(none)) else(cy.l1 k b b (b.length:Int) 0)
def cy.l1:Nat->List (List Int)->List (List Int)->Int->Int->Option (Int)
 |0,_,_,_,_=>none
 |k+1,b,e,g,a=>if a<g then(if 0<=a then(if a<(e.length:Int) then(if 0<(b.length:Int) then(if((aZ e a).length:Int)=((aZ b 0).length:Int) then(cy.l1 k b e g (wrap64 (a+1))) else(some 8)) else(none)) else(none)) else(none)) else(some 0)
end
def cy.f (k:Nat) (l0:List (List Int)):Option (Int):=cy.l0 k l0 l0 (l0.length:Int) 0
theorem cy.cE:∀k,(∀a b e g,al (cy.l0 k a b e g) (cy.l0 (k+1) a b e g))/\(∀a b e g,al (cy.l1 k a b e g) (cy.l1 (k+1) a b e g))
 |0=>⟨fun _ _ _ _ r h=>by simp[cy.l0] at h,fun _ _ _ _ r h=>by simp[cy.l1] at h⟩
 |k+1=>by
  obtain⟨i,j⟩:=cy.cE k;refine⟨?_,?_⟩
  ·intro a b e g
   unfold cy.l0;with_reducible repeat' first|exact i _ _ _ _|exact j _ _ _ _|exact bz.mono _ _ _|exact al.refl _|exact al.none _|refine al.ite ?_ ?_|refine al.bind ?_ (fun _=>?_)
  ·intro a b e g
   unfold cy.l1;with_reducible repeat' first|exact i _ _ _ _|exact j _ _ _ _|exact bz.mono _ _ _|exact al.refl _|exact al.none _|refine al.ite ?_ ?_|refine al.bind ?_ (fun _=>?_)
theorem cy.mono:∀a0 k,al (cy.f k a0) (cy.f (k+1) a0):=by
 intro a0 k;obtain⟨a,b⟩:=cy.cE k;unfold cy.f;with_reducible repeat' first|exact a _ _ _ _|exact b _ _ _ _|exact bz.mono _ _ _|exact al.refl _|exact al.none _|refine al.ite ?_ ?_|refine al.bind ?_ (fun _=>?_)
theorem cy.calls (k:Nat) (A0:Option Addr) (c0:Nat) (l0:List (List Int)) (r:Int) (w:World) (W:Kd.C (Kd.slice 3 (Kd.int .i64)) w A0 l0.length l0) (X:l0.length<=c0) (h:cy.f k l0=some r):
  Calls Tryz.prog 118 #[.slice A0 l0.length c0] w fun e w'=>e= .returned (.int .i64 r)/\aH w w':=by
 have s:=zA W;have a3:=zA X;clear W X;have H:(cy.l0 k l0 l0 (l0.length:Int) 0)=some r:=h;clear h;have g:=zA H;clear H;go_enter Tryz.func118,Tryz.ntmps118
 go_wp2;go_loopg [10] k (fun v v10 w'=>∃(a:Int),v10= .int .i64 a/\Aside0 (cy.l0 v l0 l0 (l0.length:Int) a=some r)/\Aside0 (v<=k)/\aH w w')
 case atStart=>exact⟨(0),zT,g,⟨aI _⟩,by repeat(first|exact aH.refl _|apply aH.step)⟩
 case round=>
  clear g;obtain⟨a,rfl,j,J,⟨m1,rfl⟩⟩:=hrel;cases gk with
  |zero=>exact absurd j.out (by simp[cy.l0])
  |succ x=>
   have H:=j.out;clear j;simp only[cy.l0] at H;by_cases c2:a<(l0.length:Int)
   ·rw[if_pos c2] at H
    have Y:=aE c2;clear c2;by_cases c3:0<=a
    ·rw[if_pos c3] at H
     have a4:=aE c3;clear c3;by_cases c4:a<(l0.length:Int)
     ·rw[if_pos c4] at H
      have a5:=aE c4;clear c4;obtain⟨t194,Z,H⟩:=zo H;by_cases y:t194=0
      ·rw[if_pos y] at H
       obtain⟨ab,ad⟩:=bZ y;clear y;have g:=zA H;clear H;have l:0<=(a:Int):=aA ‹_›;have m:a<(l0.length:Int):=aA ‹_›;obtain⟨ag,N,O,P,ak,z,B⟩:=gT s.out a l m;cases P;have Q:=zA B;have R:=zA z;clear B z;replace l:=eq_true l;replace m:=eq_true m;go_wp2_with (first|((with_reducible refine aR (f:=87) rfl ?_);refine zL (some 17) Tryz.func87 #[.slice N (aZ l0 a).length O,.int .i64 ((aZ l0 a).length:Int)] ?_;(with_reducible refine(bz.calls x _ _ (aZ l0 a) ((aZ l0 a).length:Int) t194 _ ?au ?aw Z.out).mono ?_);(case au=>repeat(first|exact Q.out|(with_reducible refine Kd.bC ?_ _)|(with_reducible refine Kd.gB ?_ _)|(with_reducible refine Kd.eS ?_)));(case aw=>exact R.out);rintro e w' ⟨rfl,⟨nd,rfl⟩⟩;refine⟨_,rfl,?_⟩))
       go_roundg x
       case measure=>have:=J.out;omega
       case rel=>exact⟨(wrap64 (a+1)),zT,g,⟨by have:=J.out;omega⟩,by repeat(first|exact aH.refl _|apply aH.step)⟩
      ·rw[if_neg y] at H
       obtain⟨ab,ad⟩:=b7 y;obtain rfl:=aX H;have l:0<=(a:Int):=aA ‹_›;have m:a<(l0.length:Int):=aA ‹_›;obtain⟨ag,N,O,P,ak,z,B⟩:=gT s.out a l m;cases P;have Q:=zA B;have R:=zA z;clear B z;replace l:=eq_true l;replace m:=eq_true m;go_wp2_with (first|((with_reducible refine aR (f:=87) rfl ?_);refine zL (some 17) Tryz.func87 #[.slice N (aZ l0 a).length O,.int .i64 ((aZ l0 a).length:Int)] ?_;(with_reducible refine(bz.calls x _ _ (aZ l0 a) ((aZ l0 a).length:Int) t194 _ ?au ?aw Z.out).mono ?_);(case au=>repeat(first|exact Q.out|(with_reducible refine Kd.bC ?_ _)|(with_reducible refine Kd.gB ?_ _)|(with_reducible refine Kd.eS ?_)));(case aw=>exact R.out);rintro e w' ⟨rfl,⟨nd,rfl⟩⟩;refine⟨_,rfl,?_⟩))
       go_ret;exact⟨zT,by repeat(first|exact aH.refl _|apply aH.step)⟩
     ·rw[if_neg c4] at H
      exact absurd H (by simp)
    ·rw[if_neg c3] at H
     exact absurd H (by simp)
   ·rw[if_neg c2] at H
    have Y:=ba c2;clear c2;have g:=zA H;clear H;go_wp2;go_loopg [24] x (fun v v24 w'=>∃(b:Int),v24= .int .i64 b/\Aside0 (cy.l1 v l0 l0 (l0.length:Int) b=some r)/\Aside0 (v<=x)/\aH w w')
    case atStart=>exact⟨(0),zT,g,⟨aI _⟩,by repeat(first|exact aH.refl _|apply aH.step)⟩
    case round=>
     clear g;clear Y;obtain⟨b,rfl,j,aa,⟨m2,rfl⟩⟩:=hrel;cases gk with
     |zero=>exact absurd j.out (by simp[cy.l1])
     |succ k2=>
      have H:=j.out;clear j;simp only[cy.l1] at H;by_cases u:b<(l0.length:Int)
      ·rw[if_pos u] at H
       have an:=aE u;clear u;by_cases K:0<=b
       ·rw[if_pos K] at H
        have a9:=aE K;clear K;by_cases L:b<(l0.length:Int)
        ·rw[if_pos L] at H
         have bb:=aE L;clear L;by_cases M:0<(l0.length:Int)
         ·rw[if_pos M] at H
          have be:=aE M;have bf:decide (0<l0.length)=true:=aE (by omega);clear M;by_cases i:((aZ l0 b).length:Int)=((aZ l0 0).length:Int)
          ·rw[if_pos i] at H
           obtain⟨ao,ap⟩:=bZ i;have ar:((aZ l0 b).length==(aZ l0 0).length)=true:=by first|simpa using i|(simp at i⊢;omega)
           clear i;have g:=zA H;clear H;have n:0<=(b:Int):=aA ‹_›;have o:b<(l0.length:Int):=aA ‹_›;obtain⟨S,av,aB,T,aF,D,E⟩:=gT s.out b n o;cases T;have aL:=zA E;have aO:=zA D;clear E D;replace n:=eq_true n;replace o:=eq_true o;have p:0<=(0:Int):=(by omega);have q:0<(l0.length:Int):=aA ‹_›;obtain⟨U,aP,aS,V,F,G,I⟩:=gT s.out 0 p q;obtain rfl:S=U:=(by injection V);have a0:(0<l0.length)=True:=eq_true (by omega)
           (try rw[show ((0:Int)).toNat=0 from rfl] at F)
           (try rw[Addr.add_zero'] at F)
           have a1:=zA I;have a2:=zA G;clear I G;replace p:=eq_true p;replace q:=eq_true q;go_wp2;go_roundg k2
           case measure=>have:=J.out;have:=aa.out;omega
           case rel=>exact⟨(wrap64 (b+1)),zT,g,⟨by have:=J.out;have:=aa.out;omega⟩,by repeat(first|exact aH.refl _|apply aH.step)⟩
          ·rw[if_neg i] at H
           obtain⟨ao,ap⟩:=b7 i;have ar:((aZ l0 b).length==(aZ l0 0).length)=false:=by first|simpa using i|(simp at i⊢;omega)
           obtain rfl:=aX H;have n:0<=(b:Int):=aA ‹_›;have o:b<(l0.length:Int):=aA ‹_›;obtain⟨S,av,aB,T,aF,D,E⟩:=gT s.out b n o;cases T;have aL:=zA E;have aO:=zA D;clear E D;replace n:=eq_true n;replace o:=eq_true o;have p:0<=(0:Int):=(by omega);have q:0<(l0.length:Int):=aA ‹_›;obtain⟨U,aP,aS,V,F,G,I⟩:=gT s.out 0 p q;obtain rfl:S=U:=(by injection V);have a0:(0<l0.length)=True:=eq_true (by omega)
           (try rw[show ((0:Int)).toNat=0 from rfl] at F)
           (try rw[Addr.add_zero'] at F)
           have a1:=zA I;have a2:=zA G;clear I G;replace p:=eq_true p;replace q:=eq_true q;go_wp2;go_ret;exact⟨zT,by repeat(first|exact aH.refl _|apply aH.step)⟩
         ·rw[if_neg M] at H
          exact absurd H (by simp)
        ·rw[if_neg L] at H
         exact absurd H (by simp)
       ·rw[if_neg K] at H
        exact absurd H (by simp)
      ·rw[if_neg u] at H
       have an:=ba u;clear u;obtain rfl:=aX H;go_wp2;go_ret;exact⟨zT,by repeat(first|exact aH.refl _|apply aH.step)⟩
theorem sI:wrap64 (0+1)=1:=by unfold wrap64;omega
def sJ (a:List Int):Int:=lR a a.length
theorem sK (a:List Int) (l:List (List Int)):aZ (a::l) 0=a:=by simp[aZ]
theorem Gp (a:List Int) (b:a.length<=1000000):Ev (fun k=>cy.f k [a]) (sJ a):=by
 unfold cy.f sJ;refine Ev.of_succ ?_;simp only[cy.l0,List.length_cons,List.length_nil,Nat.zero_add,Int.natCast_one,if_pos (show (0:Int)<1 by decide),if_pos (show (0:Int)<=0 by decide),sK];refine Ev.bind (pS a a.length b) ?_;by_cases h:lR a a.length=0
 ·simp only[if_pos h,sI]
  rw[h];refine Ev.of_succ ?_;simp only[cy.l0,if_neg (show ¬(1:Int)<1 by decide)];refine Ev.of_succ ?_;simp only[cy.l1,List.length_cons,List.length_nil,Nat.zero_add,Int.natCast_one,if_pos (show (0:Int)<1 by decide),if_pos (show (0:Int)<=0 by decide),sK,if_true,sI];refine Ev.of_succ ?_;simp only[cy.l1,if_neg (show ¬(1:Int)<1 by decide)];exact Ev.const _
 ·simp only[if_neg h]
  exact Ev.const _
section
attribute [local go_sem] Oper.semAt_some
theorem Gq (g n:Nat) (A0:Option Addr) (c0:Nat) (E:List S83) (q:Int) (dv Q:Value) (R:Int) (v:Nat) (lb:Array Value) (B:Nat->Bool) (w:World) (ab:Kd.C aM w A0 E.length E) (hE:eE n E) (hn:n<=1000) (hv:v<n) (i:iu w g n (.slice A0 E.length c0) q dv Q R)
  (hB:∀(W:World) (u:Int),Below w.heap.size w W->0<=u->u<n->Calls Tryz.prog 171 (#[.int .i64 u]++lb) W fun e w'=>e= .returned (.bool (B u.toNat))/\Below W.heap.size W w'):
  Calls Tryz.prog 168 #[.pointer (some ⟨g,0,none⟩),.int .i64 v,.func (.func 171) #[] lb] w fun e w'=>e= .returned (.int .i64 (eu B (cK E v E.length)))/\Below w.heap.size w w':=by
 have a9:=zA hB;have HE:=zA hE;have ak:=zA i;clear hB hE i;refine(callsIn_wide (n:=10)).1 ?_;refine callsIn_of_wp_marks Tryz.func168 rfl trivial ?_ rfl;simp only[Tryz.ntmps168,List.size_toArray,List.length_cons,List.length_nil,Nat.reduceAdd,Nat.reduceSub,Array.replicate_succ,Array.replicate_zero,List.push_toArray,List.append_toArray,List.nil_append,List.cons_append];gi_wp2_with (refine⟨trivial,?_⟩;gi_at_call 194;refine(callsIn_wide.2 (mq g v _)).mono ?_;rintro e w3 ⟨rfl,rfl⟩)
 obtain⟨p,am⟩:∃o:Obj,o= .cells #[.func (.func 171) #[] lb] 121:=⟨_,rfl⟩;obtain⟨on,an⟩:∃o:Obj,o= .cells #[.int .i64 0] 3:=⟨_,rfl⟩;obtain⟨r,ao⟩:∃o:Obj,o= .cells #[.pointer (some ⟨g,0,none⟩)] 135:=⟨_,rfl⟩;obtain⟨y,ap⟩:∃o:Obj,o= .cells #[.int .i64 v] 3:=⟨_,rfl⟩;have Z0:=a6 w p;have S:=a6 (w.alloc p) on;have T:=a6 ((w.alloc p).alloc on) r;have U:=a6 (((w.alloc p).alloc on).alloc r) y;simp only[World.size_alloc] at S T U;have H0:=zA ((aq (aq (aq Z0 on) r) y).trans (by rw[am]:_=some (.cells #[.func (.func 171) #[] lb] 121 (0,0))));have H1:=zA ((aq (aq S r) y).trans (by rw[an]:_=some (.cells #[.int .i64 0] 3 (0,0))));have H2:=zA ((aq T y).trans (by rw[ao]:_=some (.cells #[.pointer (some ⟨g,0,none⟩)] 135 (0,0))));have H3:=zA (U.trans (by rw[ap]:_=some (.cells #[.int .i64 v] 3 (0,0))));have z:=zA (ai (ai (ai (ai (aj w.heap.size w) p) on) r) y);have aO:Aside0 (iu ((((w.alloc p).alloc on).alloc r).alloc y) g n (.slice A0 E.length c0) q dv Q R):=⟨az ak.out z.out⟩;have bn:g<w.heap.size:=ay ak.out;have be:=zA (Kd.ax ab z.out);clear Z0 S T U;subst am an ao ap;have bf:=z.out.size;have bg:((((w.alloc (.cells #[.func (.func 171) #[] lb] 121)).alloc (.cells #[.int .i64 0] 3)).alloc (.cells #[.pointer (some ⟨g,0,none⟩)] 135)).alloc (.cells #[.int .i64 v] 3)).heap.size=w.heap.size+4:=by simp
 generalize ((((w.alloc (.cells #[.func (.func 171) #[] lb] 121)).alloc (.cells #[.int .i64 0] 3)).alloc (.cells #[.pointer (some ⟨g,0,none⟩)] 135)).alloc (.cells #[.int .i64 v] 3))=j at H0 H1 H2 H3 z aO be bf bg⊢;refine gU (σ:=Unit) (α:=Int×Int) (F:=Fence.wide) (n:=10) rfl (by decide) (gf:=207) (lb:=#[.pointer (some ⟨w.heap.size+1+1,0,none⟩),.pointer (some ⟨w.heap.size+1+1+1,0,none⟩)]) rfl trivial (enters_of Tryz.func207 (by kernel_rfl) rfl)
  (fun o=>pg (w.heap.size+1+1) (w.heap.size+1+1+1) g n A0 c0 E q dv Q R v w _ ab HE.out hn hv (ai (ai z.out _) _) (aq (aq H2.out _) _) (aq (aq H3.out _) _) (aq (aq aO.out _) _)) (fun _=>rfl)
  (fun _=>True) ?dH ?st ?ar
  (fun _ pre W=>j.heap.size<=W.heap.size/\W.heap[w.heap.size]? =some (.cells #[.func (.func 171) #[] lb] 121 (0,0))/\W.heap[w.heap.size+1]? =some (.cells #[.int .i64 (eu B pre)] 3 (0,0))/\Below w.heap.size w W) (fun _ _ _ _=>False)
  ?is (fun _ _ _ _ _ _ h _=>h) ?ib (fun _ _ _ _ _ h _=>h) ?kt ?h0 ?a1 ?assign ?body ?done (fun _ _ _ _ _ _ _ h=>h.elim)
 case assign=>
  intro l x W K hK;gi_wp2;exact hK
 case dH=>
  intro o s W1 h;exact⟨trivial,by rw[h];exact b8.refl _ _⟩
 case st=>intro s A B _ h;exact cS h
 case ar=>intro s x A B _ h;exact cS h.2
 case is=>
  rintro s pre A B _ ⟨H,h1,V,X⟩ i;exact⟨Nat.le_trans H i.size,az h1 i,az V i,aQ X i⟩
 case ib=>
  rintro s pre A B ⟨H,h1,V,X⟩ hb;exact⟨by rw[hb.size];exact H,hb.cells h1,hb.cells V,X.trans (hb.below w.heap.size (by omega))⟩
 case kt=>
  intro s A B C D N aP aS;refine⟨fun aT=>((N.below w.heap.size (by omega)).trans (aP.1 (by rw[N.size];exact aT))).trans (aS.below w.heap.size (by omega)),fun k hk I=>?_⟩;have a0:k≠j.heap.size+1:=by rcases hk with rfl|rfl|rfl<;>omega
  exact(aS.heap k a0).trans ((aP.2 k hk (by rw[N.size];exact I)).trans (N.heap k a0))
 case h0=>
  rintro o s W1 rfl;exact⟨by simp;omega,aq (aq H0.out _) _,aq (aq H1.out _) _,ai (ai z.out _) _⟩
 case body=>
  rintro l s pre ⟨u,m⟩ Wb W1 W _ ⟨H,i1,i2,i3⟩ ⟨Y,J⟩ bk b;have Z:=zA (b.cells (az i1 J));have L:=zA (b.cells (az i2 J));have b3:=zA ((aQ i3 J).trans (b.below w.heap.size (by omega)));have bq:j.heap.size<=W.heap.size:=by have:=b.size;have:=J.size;omega
  clear i1 i2 i3 J b bk;simp only at Y;have bv:W.cell? ⟨w.heap.size,0,none⟩=some (.func (.func 171) #[] lb):=(ah Z.out 0).trans rfl;have O:=zA (a9.out W u b3.out Y.1 Y.2.1);have M:=zA (su B pre (u,m));generalize eu B pre=s0 at L M;cases P:B u.toNat with
  |true=>
   rw[P] at O M;clear P;gi_wp2_with (refine⟨trivial,?_⟩;gi_at_call 171;refine(callsIn_wide.2 O.out).mono ?_;rintro e w5 ⟨rfl,G⟩;have a:=zA G;have D2:=zA (az L.out G);have c5:w5.cell? ⟨w.heap.size+1,0,none⟩=some (.int .i64 s0):=(ah D2.out 0).trans rfl;have f5:=bE D2.out 0;clear G)
   have aT:=a.out.size;refine⟨(cS a.out).trans (eU _ _ (by show w.heap.size+1<j.heap.size;omega)),⟨fun aT=>Below.setCell (a.out.mono aT) (by show w.heap.size<=w.heap.size+1;omega) _,fun k hk I=>?_⟩,by simp;omega,?_,?_,Below.setCell (aQ b3.out a.out) (by show w.heap.size<=w.heap.size+1;omega) _⟩
   ·rw[Below.heap_setCell _ _ _ _ (by rcases hk with rfl|rfl|rfl<;>(show _≠w.heap.size+1)<;>omega)]
    exact a.out.block k I
   ·rw[Below.heap_setCell _ _ _ _ (by show w.heap.size≠w.heap.size+1;omega)]
    exact az Z.out a.out
   ·have h:=bV D2.out 0 (.int .i64 (wrap64 (s0+m)))
    rw[M.out];simpa using h
  |false=>
   rw[P] at O M;clear P;gi_wp2_with (refine⟨trivial,?_⟩;gi_at_call 171;refine(callsIn_wide.2 O.out).mono ?_;rintro e w5 ⟨rfl,G⟩;have a:=zA G;clear G)
   have aT:=a.out.size;exact⟨cS a.out,⟨fun aT=>a.out.mono aT,fun k hk I=>a.out.block k I⟩,by omega,az Z.out a.out,by rw[M.out];exact az L.out a.out,aQ b3.out a.out⟩
 case done=>
  rintro s xs W W' _ rfl ⟨H,i1,i2,i3⟩ b a3;have L:=zA (b.cells i2);have b3:=zA (i3.trans (b.below w.heap.size (by omega)));have a4:=zA a3;clear i1 i2 i3 a3;have hc:W'.cell? ⟨w.heap.size+1,0,none⟩=some (.int .i64 (eu B (cK E v E.length))):=(ah L.out 0).trans rfl;gi_wp2_with fail
  have bl:Bk j.heap.size W' (W'.putObj j.heap.size (.deferred none)):=⟨_,_,a4.out,rfl,rfl⟩;exact iG (D:=j.heap.size) rfl a4.out (results_tmp rfl _ _ _) ⟨rfl,b3.out.trans (bl.below w.heap.size (by omega))⟩
end
section
attribute [local go_sem] Oper.semAt_some
theorem Gr (gb a cr n:Nat) (B:Nat->Bool) (ok:Nat->Prop) (base:Nat) (W:World) (u:Int) (hb:W.heap[gb]? =some (.cells #[.slice (some ⟨a,0,none⟩) n cr] 43 (0,0))) (g:Kd.bool.R 4 W base ok (.slice (some ⟨a,0,none⟩) n cr) ((List.range n).map fun v=> !B v)) (h:0<=u) (hn:u<n):
  Calls Tryz.prog 171 #[.int .i64 u,.pointer (some ⟨gb,0,none⟩)] W fun e w'=>e= .returned (.bool (B u.toNat))/\Below W.heap.size W w':=by
 have i:W.cell? ⟨gb,0,none⟩=some (.slice (some ⟨a,0,none⟩) n cr):=(ah hb 0).trans rfl;have b:=(Kd.bP false g u h hn).1;have e:bL false ((List.range n).map fun v=> !B v) u= !B u.toNat:=by
  obtain⟨m,rfl⟩:=Int.eq_ofNat_of_zero_le h;have:m<n:=by omega
  simp[bL,aW,List.getElem?_map,List.getElem?_range this]
 rw[e] at b;have b:W.cell? ⟨a,u.toNat,none⟩=some (.bool (!B u.toNat)):=b;clear g hb e;go_enter Tryz.func171,Tryz.ntmps171
 go_wp2;go_ret;exact⟨by simp[go_sem],aj _ _⟩
theorem xU (g n:Nat) (A0:Option Addr) (c0:Nat) (E:List S83) (q:Nat) (a:Option Addr) (cd:Nat) (d:List Int) (b:Value) (h:Int) (w:World) (k:Kd.C aM w A0 E.length E) (i:bt n E) (l:E.length<=1000) (hn:n<=1000) (m:q<n) (o:d.length=n) (p:iu w g n (.slice A0 E.length c0) q (.slice a n cd) b h)
  (hd:Kd.C (Kd.int .i64) w a d.length d):
  Calls Tryz.prog 170 #[.pointer (some ⟨g,0,none⟩)] w fun e w'=>∃j cl,e= .returned (.tuple #[.slice (some ⟨j,0,none⟩) n cl,.bool ((List.range n).any fun v=> !bG n (af E) q d v)])/\Kd.bool.R 4 w' w.heap.size (fun _=>True) (.slice (some ⟨j,0,none⟩) n cl) ((List.range n).map fun v=> !bG n (af E) q d v)/\Below w.heap.size w w':=by
 subst o;exact FY g d.length A0 c0 E q a cd d b h w k i.kg hn m p hd rfl (fun B v r _=>F9 i l B r)
def iT (n:Nat) (t:Nat->Nat->Int) (q:Nat) (d:List Int) (v:Nat):Int:=T.sN (fun u=>if bG n t q d u=true then t v u else 0) n
theorem sL {n:Nat} {E:List S83} (a:bt n E) (hn:n<=12) (q:Nat) (d:List Int) (v:Nat):0<=iT n (af E) q d v/\iT n (af E) q d v<=600:=by
 have h:=T.cZ (f:=fun w=>if bG n (af E) q d w=true then af E v w else 0) (g:=fun _=>50) (n:=n) (fun w _=>by
  have:=a.kg.times v w;show (if bG n (af E) q d w=true then af E v w else 0)<=50
  split<;>omega)
 rw[T.iw] at h;have b:0<=iT n (af E) q d v:=T.dR fun w _=>by
  have:=a.kg.times v w;show 0<=(if bG n (af E) q d w=true then af E v w else 0)
  split<;>omega
 exact⟨b,by show T.sN _ n<=600;omega⟩
theorem Gs {n q:Nat} {t:Nat->Nat->Int} (b:T.Wt n t) (e:T.dS n t) (g:q<n) {D c σ:Nat->Int} (a:e9 n q t D c σ) {d s:List Int} (h:jL n q t D d s):0<=kh n q σ s:=T.dR fun v i=>by
 have h1:=T.so b e g a.red a.eq a.q0 (d:=fun v=>rd d (v:Nat)) h.eq h.kP v i;have j:rd s v<=σ v+rd s q:=h1;show 0<=σ v+rd s q-rd s v
 omega
theorem Gt (g gd gs cd cs n:Nat) (A0:Option Addr) (c0:Nat) (E:List S83) (q:Nat) (D c σ:Nat->Int) (d s:List Int) (w0 w:World) (N:Kd.C aM w0 A0 E.length E) (F:bt n E) (hl:E.length<=1000) (hC:fC n E) (hn:n<=12) (p:q<n) (aO:T.sN (T.val n (af E)) n<=19)
  (hD:∀v:Nat,v<n-> -200<=D v/\D v<=200) (hr:e9 n q (af E) D c σ) (ad:jL n q (af E) D d s) (h:SI w0 g gd gs cd cs n A0 c0 E q d s w):
  Calls Tryz.prog 111 #[.pointer (some ⟨g,0,none⟩)] w fun e w'=>e= .returned (.tuple #[])/\∃(d' s':List Int),SI w0 g gd gs cd cs n A0 c0 E q d' s' w'/\jL n q (af E) D d' s'/\T.iN n (af E) q (fun v=>rd d' (v:Nat)):=by
 have co:=Tryz.underlying188;have hu:=Tryz.underlying24;have j:=zA F;have ag:=zA (F.conn hC);have HD:=zA hD;have a0:=zA hr;have k:=zA ad;have a:=zA h;have a1:=zA (Gs F.wt (F.conn hC) p hr ad);have cp:1<=n:=by omega
 clear F hC hD hr ad h;go_enter Tryz.func111,Tryz.ntmps111
 go_wp2;go_loopg [] ((kh n q σ s).toNat) (fun kq wr=>∃(d s:List Int),Aside0 (SI w0 g gd gs cd cs n A0 c0 E q d s wr)/\Aside0 (jL n q (af E) D d s)/\Aside0 (0<=kh n q σ s/\kq=(kh n q σ s).toNat))
 case atStart=>exact⟨d,s,a,k,⟨a1.out,rfl⟩⟩
 case round=>
  clear a k a1;obtain⟨d,s,a,k,HK⟩:=hrel;have s5:=a.out.f5;have a3:=k.out.dl;have am:=zA a3;have bw:=a.out.hb.size;obtain⟨r1,r2,r3,r4,r5⟩:=a.out.ld;clear a3;cases O:(List.range n).any fun v=> !bG n (af E) q d v with
  |false=>
   have r:=zA O;clear O;go_wp2_with (go_at_call 170;refine(xU g n A0 c0 E q _ cd d _ 0 _ (Kd.ax N a.out.hb) j.out hl (by omega) p am.out a.out.st (Kd.aN a.out.d).2.2).mono ?_;rintro e P ⟨b,cl,rfl,G,H⟩;rw[r.out];have I:=zA (a.out.below H);clear G H)
   refine bodyPost_ret (results_none rfl _ _ _) rfl ?_;exact⟨rfl,d,s,I.out.alloc _,k.out,Gg j.out.wt r.out⟩
  |true=>
   have r:=zA O;clear O;go_wp2_with (go_at_call 170;refine(xU g n A0 c0 E q _ cd d _ 0 _ (Kd.ax N a.out.hb) j.out hl (by omega) p am.out a.out.st (Kd.aN a.out.d).2.2).mono ?_;rintro e P ⟨b,cl,rfl,G,H⟩;rw[r.out];have I:=zA (a.out.below H);have an:=zA G;have c4:=Kd.dK G b rfl;clear G H)
   have bx:=I.out.ld;have b1:=Kd.a8 an.out b rfl;have b2:gd≠b:=by omega
   have b3:gs≠b:=by omega
   have Q:=zA (a6 P (.cells #[.slice (some ⟨b,0,none⟩) n cl] 43));have ao:=zA (Kd.bc (Kd.aK an.out (.cells #[.slice (some ⟨b,0,none⟩) n cl] 43)) (base':=w0.heap.size) bw);have ap:=zA (I.out.alloc (.cells #[.slice (some ⟨b,0,none⟩) n cl] 43));clear I an a s5 bx;generalize P.alloc (.cells #[.slice (some ⟨b,0,none⟩) n cl] 43)=W6 at Q ao ap⊢;generalize P.heap.size=gb at Q b1⊢;go_loopg [23,4] (n) (fun kq vv tv wr=>∃(v:Nat) (x:Int),v<=n/\vv= .int .i64 v/\tv= .int .i64 x/\0<=x/\Aside0 (x=0->∀u:Nat,u<v->bG n (af E) q d u=false->iT n (af E) q d u<=0)/\Aside0 (∀u:Nat,u<v->bG n (af E) q d u=false->x*iT n (af E) q d u<=rd d u)/\Aside0 (SI w0 g gd gs cd cs n A0 c0 E q d s wr)/\Aside0 (wr.heap[gb]? =some (.cells #[.slice (some ⟨b,0,none⟩) n cl] 43 (0,0)))/\Aside0 (Kd.bool.R 4 wr w0.heap.size (fun _=>True) (.slice (some ⟨b,0,none⟩) n cl) ((List.range n).map fun v=> !bG n (af E) q d v))/\Aside0 (kq=n-v))
   case atStart=>exact⟨0,0,by omega,rfl,rfl,by omega,⟨fun _ u hu=>by omega⟩,⟨fun u hu=>by omega⟩,ap,Q,ao,⟨rfl⟩⟩
   case round=>
    clear ap Q ao;obtain⟨v,x,S,rfl,rfl,ar,U,J,a,z,m,K⟩:=hrel;by_cases B:v<n
    ·have c6:(0:Int)<=(v:Int):=by omega
     have c7:(v:Int)<(n:Int):=by omega
     have i:=(Kd.bP false m.out (v:Int) (by omega) (by omega)).1;rw[aD] at i;have e1:bL false ((List.range n).map fun v=> !bG n (af E) q d v) v= !bG n (af E) q d v:=by simp[bL,aW,List.getElem?_map,List.getElem?_range B]
     rw[e1] at i;replace i:wr.cell? ⟨b,v,none⟩=some (.bool (!bG n (af E) q d v)):=i;clear e1;cases hF:bG n (af E) q d v with
     |true=>
      rw[hF] at i;replace i:wr.cell? ⟨b,v,none⟩=some (.bool false):=i;have HF:=zA hF;clear hF;go_wp2;go_roundg (n- (v+1))
      case measure=>rw[K.out];omega
      case rel=>exact⟨v+1,x,by omega,by go_num,rfl,ar,⟨fun hx u hu h1=>by
       by_cases e:u=v
       ·subst e;rw[HF.out] at h1;cases h1
       ·exact U.out hx u (by omega) h1⟩,⟨fun u hu h1=>by
       by_cases e:u=v
       ·subst e;rw[HF.out] at h1;cases h1
       ·exact J.out u (by omega) h1⟩,a,z,m,⟨rfl⟩⟩
     |false=>
      rw[hF] at i;replace i:wr.cell? ⟨b,v,none⟩=some (.bool true):=i;have HF:=zA hF;have a5:=zA (show iT n (af E) q d v<=rd d v from xK B hF);have a9:=zA (sL j.out hn q d v);have bb:=zA (show eu (bG n (af E) q d) (cK E v E.length)=iT n (af E) q d v from sB j.out hl (bG n (af E) q d) B);have c8:=(k.out.bounds j.out.wt ag.out p hn aO HD.out a0.out v B).2.1;clear hF;go_wp2_with (go_at_call 168;refine(Gq g n A0 c0 E q _ _ 0 v #[.pointer (some ⟨gb,0,none⟩)] (bG n (af E) q d) _ (Kd.ax N a.out.hb) j.out.kg (by omega) B a.out.st (fun W u be b6 b_=>Gr gb b cl n _ _ _ W u (az z.out be) (Kd.cz m.out be) b6 b_)).mono ?_;rintro e w8 ⟨rfl,V⟩;rw[bb.out];have l:=zA (a.out.below V);have X:=zA (az z.out V);have Y:=zA (Kd.cz m.out V);have c2:=l.out.kS v B;have c3:=l.out.f3;clear V i a z m;obtain⟨y,i⟩:∃y,y=iT n (af E) q d v:=⟨_,rfl⟩;rw[<-i];have Z:=a9.out;have ca:=a5.out;rw[<-i] at Z ca;obtain⟨Z,c9⟩:=Z;have L:=zA i;clear i a9 a5 bb)
      ·have cb:1<=rd d v/y:=Int.le_ediv_of_mul_le (by omega) (by omega)
       have hx:=zA ‹x=0›;go_roundg (n- (v+1))
       case measure=>rw[K.out];omega
       case rel=>exact⟨v+1,rd d v/y,by omega,by go_num,rfl,by omega,⟨fun M=>by omega⟩,⟨fun u hu h1=>by
        by_cases e:u=v
        ·subst e;rw[<-L.out];exact Int.ediv_mul_le _ (by omega)
        ·have h2:=U.out hx.out u (by omega) h1
         have h3:=(sL j.out hn q d u).1;rw[show iT n (af E) q d u=0 by omega,Int.mul_zero];have h4:iT n (af E) q d u<=rd d u:=xK (by omega) h1;omega⟩,l,X,Y,⟨rfl⟩⟩
      ·have cb:1<=rd d v/y:=Int.le_ediv_of_mul_le (by omega) (by omega)
       have c':rd d v/y<x:=by
        rename_i o;rcases o with o|o
        ·exact absurd (by simpa using o) ‹¬x=0›
        ·exact o
       go_roundg (n- (v+1))
       case measure=>rw[K.out];omega
       case rel=>exact⟨v+1,rd d v/y,by omega,by go_num,rfl,by omega,⟨fun M=>by omega⟩,⟨fun u hu h1=>by
        by_cases e:u=v
        ·subst e;rw[<-L.out];exact Int.ediv_mul_le _ (by omega)
        ·exact Int.le_trans (Int.mul_le_mul_of_nonneg_right (by omega) (sL j.out hn q d u).1) (J.out u (by omega) h1)⟩,l,X,Y,⟨rfl⟩⟩
      ·have hle:x<=rd d v/y:=by
        rename_i o;exact o.2
       have cc:¬x=0:=‹¬x=0›;go_roundg (n- (v+1))
       case measure=>rw[K.out];omega
       case rel=>exact⟨v+1,x,by omega,by go_num,rfl,ar,⟨fun M=>absurd M cc⟩,⟨fun u hu h1=>by
        by_cases e:u=v
        ·subst e;rw[<-L.out];exact Int.le_trans (Int.mul_le_mul_of_nonneg_right hle Z) (Int.ediv_mul_le _ (by omega))
        ·exact J.out u (by omega) h1⟩,l,X,Y,⟨rfl⟩⟩
      ·have ce:y<=0:=by assumption
       go_roundg (n- (v+1))
       case measure=>rw[K.out];omega
       case rel=>exact⟨v+1,x,by omega,by go_num,rfl,ar,⟨fun M u hu h1=>by
        by_cases e:u=v
        ·subst e;rw[<-L.out];exact ce
        ·exact U.out M u (by omega) h1⟩,⟨fun u hu h1=>by
        by_cases e:u=v
        ·subst e;rw[<-L.out,show y=0 by omega,Int.mul_zero];omega
        ·exact J.out u (by omega) h1⟩,l,X,Y,⟨rfl⟩⟩
    ·obtain rfl:n=v:=by omega
     have b0:=dc z.out;have bg:1<=x:=by
      refine Classical.byContradiction fun bg=>?_
      obtain⟨v,S,h1,h2⟩:=Gh ag.out j.out.wt p r.out;have h3:iT n (af E) q d v<=0:=U.out (by omega) v S h1;have h4:0<iT n (af E) q d v:=h2;omega
     obtain⟨k1,k2,k3,k4⟩:=k.out.step j.out ag.out p hn aO HD.out a0.out r.out bg (fun v S h1=>J.out v S h1);have K1:=zA k1;have K2:=zA k2;have K3:=zA k3;have K4:=zA k4;have cj:=zA k.out.sl;clear k1 k2 k3 k4;go_wp2_with (go_at_call 166;refine(xA g gd gs b cd cs cl n A0 c0 E q d s (fun v=> !bG n (af E) q d v) x w0 _ N j.out.kg (by omega) (by omega) a.out m.out ⟨b2,b3⟩ am.out cj.out K2.out).mono ?_;rintro e w8 ⟨rfl,bq,ck,aT⟩;have l:=zA bq;clear bq ck a z m b0)
     go_roundg ((kh n q σ (bD E (fun v=> !bG n (af E) q d v) x n (d,s)).2).toNat)
     case measure=>have h1:=K3.out;have h2:=K4.out;have h3:=HK.out.2;have h4:=HK.out.1;rw[h3];omega
     case rel=>exact⟨_,_,l,K1,⟨K3.out,rfl⟩⟩
end
def nY.f (a0:Int) (a:Int):Option (Int×Int):=some (IntKind.u64.wrap ((IntKind.u64.wrap ((IntKind.u64.wrap ((a0/4294967296)*(a/4294967296)))+((IntKind.u64.wrap ((IntKind.u64.wrap ((a0/4294967296)*(Go.bits .and .u64 a 4294967295)))+((IntKind.u64.wrap ((Go.bits .and .u64 a0 4294967295)*(Go.bits .and .u64 a 4294967295)))/4294967296)))/4294967296)))+((IntKind.u64.wrap ((Go.bits .and .u64 (IntKind.u64.wrap ((IntKind.u64.wrap ((a0/4294967296)*(Go.bits .and .u64 a 4294967295)))+((IntKind.u64.wrap ((Go.bits .and .u64 a0 4294967295)*(Go.bits .and .u64 a 4294967295)))/4294967296))) 4294967295)+(IntKind.u64.wrap ((Go.bits .and .u64 a0 4294967295)*(a/4294967296)))))/4294967296)),IntKind.u64.wrap (a0*a))
theorem nY.calls (a0:Int) (a:Int) (b:Int) (g:Int) (w:World) (h:nY.f a0 a=some (b,g)):
  Calls Tryz.prog 216 #[.int .u64 a0,.int .u64 a] w fun e w'=>e= .returned (.tuple #[.int .u64 b,.int .u64 g])/\aH w w':=by
 have H:(some (IntKind.u64.wrap ((IntKind.u64.wrap ((IntKind.u64.wrap ((a0/4294967296)*(a/4294967296)))+((IntKind.u64.wrap ((IntKind.u64.wrap ((a0/4294967296)*(Go.bits .and .u64 a 4294967295)))+((IntKind.u64.wrap ((Go.bits .and .u64 a0 4294967295)*(Go.bits .and .u64 a 4294967295)))/4294967296)))/4294967296)))+((IntKind.u64.wrap ((Go.bits .and .u64 (IntKind.u64.wrap ((IntKind.u64.wrap ((a0/4294967296)*(Go.bits .and .u64 a 4294967295)))+((IntKind.u64.wrap ((Go.bits .and .u64 a0 4294967295)*(Go.bits .and .u64 a 4294967295)))/4294967296))) 4294967295)+(IntKind.u64.wrap ((Go.bits .and .u64 a0 4294967295)*(a/4294967296)))))/4294967296)),IntKind.u64.wrap (a0*a)))=some (b,g):=h;clear h;simp only[Option.some.injEq,Prod.mk.injEq] at H;obtain⟨rfl,rfl⟩:=H;go_enter Tryz.func216,Tryz.ntmps216
 go_wp2;go_ret2;exact⟨by first|rfl|(simp;done)|(simp[*];done),by repeat(first|exact aH.refl _|apply aH.step)⟩
def nZ.f (a0:Int) (b:Int):Option (Int×Int):=(nY.f a0 b).bind fun a=>(some (a.1,a.2))
theorem nZ.calls (a0:Int) (a:Int) (b:Int) (g:Int) (w:World) (h:nZ.f a0 a=some (b,g)):
  Calls Tryz.prog 206 #[.int .u64 a0,.int .u64 a] w fun e w'=>e= .returned (.tuple #[.int .u64 b,.int .u64 g])/\aH w w':=by
 have H:((nY.f a0 a).bind fun i=>(some (i.1,i.2)))=some (b,g):=h;clear h;replace H:=Option.bind_eq_some_iff.mp H;obtain⟨⟨t238,t239⟩,j,H⟩:=H;replace H:(some (t238,t239))=some (b,g):=H;have k:=zA j;clear j;simp only[Option.some.injEq,Prod.mk.injEq] at H;obtain⟨rfl,rfl⟩:=H;go_enter Tryz.func206,Tryz.ntmps206
 go_wp2_with (first|((with_reducible refine aR (f:=216) rfl ?_);refine tV (some 25) rfl rfl Tryz.func216 (by kernel_rfl) rfl #[.int .u64 a0,.int .u64 a] rfl (by(try simp only[List.map_toArray,List.map_cons,List.map_nil]);first|done|rfl|(simp only[List.length_drop,List.length_take];rfl)) ?_;(with_reducible refine(nY.calls a0 a t238 t239 _ k.out).mono ?_);rintro e w' ⟨rfl,⟨nd,rfl⟩⟩;refine⟨_,rfl,?_⟩))
 go_ret2;exact⟨by first|rfl|(simp;done)|(simp[*];done),by repeat(first|exact aH.refl _|apply aH.step)⟩
theorem Gu:∀n:Fin 1001,nZ.f 1 ((n:Nat):Int)=some (0,((n:Nat):Int)):=by decide+kernel
theorem Gv (n:Nat) (h:n<=1000):nZ.f 1 n=some (0,(n:Int)):=Gu ⟨n,by omega⟩
theorem Gw (k m r:Nat) (a b:Value) (rest:List Value):Go.splice (List.replicate k a++List.replicate (m+r) b++rest) k (List.replicate m a)=List.replicate (k+m) a++List.replicate r b++rest:=by
 unfold Go.splice;have e:(List.replicate k a++List.replicate (m+r) b++rest).take k=List.replicate k a:=by
  rw[List.append_assoc,List.take_left' (by simp)]
 have e2:(List.replicate k a++List.replicate (m+r) b++rest).drop (k+(List.replicate m a).length)=List.replicate r b++rest:=by
  rw[<-List.replicate_append_replicate,<-List.append_assoc,List.append_assoc,List.length_replicate,List.drop_left' (by simp)]
 rw[e,e2,<-List.append_assoc,List.replicate_append_replicate,<-List.append_assoc]
theorem Gx (gx s H n:Nat) (z:Int) (w:World) (I:w.cell? ⟨gx,s,none⟩=some (.int .i64 z)) (T:1<=n) (hn:n<=1000):
  Calls Tryz.prog 193 #[.slice (some ⟨gx,s,none⟩) 1 H,.int .i64 n] w fun e w'=>∃g c,e= .returned (.slice (some ⟨g,0,none⟩) n c)/\(Kd.int .i64).R 3 w' w.heap.size (fun _=>True) (.slice (some ⟨g,0,none⟩) n c) (List.replicate n z)/\Below w.heap.size w w':=by
 have hmul:=Gv n hn;have U:(0:Int)<=(n:Int):=by omega
 go_enter Tryz.func193,Tryz.ntmps193
 go_wp2_with (first|(go_at_call 206;refine(nZ.calls 1 n 0 n _ hmul).mono ?_;rintro e w1 ⟨rfl,⟨nd,rfl⟩⟩)|((with_reducible refine aU (N:=30) rfl ?_);refine Kd.lr (Kd.int .i64) _ 3 rfl (N:=30) rfl 25 _ _ rfl (n:Int) rfl rfl Tryz.underlying25 (.int .i64 0) 8 il rfl (by decide) (by omega) 0 (ok:=fun _=>True) (okp:=fun _=>True) rfl (fun _ hk=>hk) trivial U (by simp;omega) (aj _ _) (aI _) ?_;intro v1 u x hb V W;rw[aD] at x;obtain⟨a,cr,b,p,X, -⟩:=Kd.gC x (by rw[List.length_replicate];omega);rw[List.length_replicate] at b;subst b;have l:=zA x;have q:=zA ((bU (aj w.heap.size w) nd).trans (hb.mono (by simp)));have J:u.cell? ⟨gx,s,none⟩=some (.int .i64 z):=i_ hb (by simpa using I);clear x hb V W))
 have Y:=Kd.oC l.out;obtain⟨Z,h|⟨g',cap,cur,b,aa,B,ab,K,C,y⟩⟩:=Y
 ·cases h.1
 ·injection b with i e2 e3
  injection i with i
  injection i with i _
  subst i e3;rw[List.length_replicate] at ab y;simp only[Nat.mul_one] at C y;obtain⟨rest,ag⟩:∃rest,cur=(List.replicate n (Value.int .i64 0)++rest).toArray:=⟨cur.toList.drop n,by
   rw[<-Array.toList_inj];show cur.toList=List.replicate n (Value.int .i64 0)++cur.toList.drop n
   rw[show List.replicate n (Value.int .i64 0)=cur.toList.take n from by rw[y];simp[bX],List.take_append_drop]⟩
  subst ag;have L:rest.length=cr-n:=by simp at C;omega
  rw[run_copy_row _ u 25 25 3 3 a 0 n cr ⟨gx,s,none⟩ 1 H _ 3 [.int .i64 z] Tryz.underlying25 (by kernel_rfl) B (by show 1=min 1 n;omega) (fun j v o=>by
   cases j with
   |zero=>injection o with o;subst o;simpa [Addr.add] using J
   |succ j=>simp at o) (by simp;omega) (fun v b=>by simp at b;subst b;rfl)]
  simp only[Result.andThen_ok,List.cons_append,List.nil_append,List.take_zero,Nat.zero_add];rw[show ([Value.int .i64 z]:List Value).length=1 from rfl];have i:Value.int .i64 z::(List.replicate n (Value.int .i64 0)++rest).drop 1=List.replicate 1 (Value.int .i64 z)++List.replicate (n-1) (Value.int .i64 0)++rest:=by
   obtain⟨n',rfl⟩:∃n',n=n'+1:=⟨n-1,by omega⟩;simp[List.replicate_succ]
  rw[i];have D:=zA (below_setRow (g:=a) q.out (by simp at p;exact p) ((List.replicate 1 (Value.int .i64 z)++List.replicate (n-1) (Value.int .i64 0)++rest).toArray));have E:=zA (setRow_heap u a _ ((List.replicate 1 (Value.int .i64 z)++List.replicate (n-1) (Value.int .i64 0)++rest).toArray) _ _ B);have M:w.heap.size<=a:=by simp at p;exact p
  clear l q J Z aa B C y i e2 I hmul;generalize u.setRow a (List.replicate 1 (Value.int .i64 z)++List.replicate (n-1) (Value.int .i64 0)++rest).toArray=W6 at D E⊢;have O:=zA L;have ak:=zA K;clear L K X p;rw[show goInt ((1:Nat):Int)=Value.int .i64 1 from rfl];rw[Oper.upon_value];go_wp2;go_loopg [8] (n-1) (fun kq nv wr=>∃k:Nat,nv= .int .i64 k/\1<=k/\k<=n/\Aside0 (wr.heap[a]? =some (.cells (List.replicate k (Value.int .i64 z)++List.replicate (n-k) (Value.int .i64 0)++rest).toArray 3 (0,0)))/\Aside0 (Below w.heap.size w wr)/\Aside0 (kq=n-k))
  case atStart=>exact⟨1,rfl,by omega,T,E,D,⟨rfl⟩⟩
  case round=>
   clear D E;obtain⟨k,rfl,aP,aS,F,q,HK⟩:=hrel;by_cases a0:k<n
   ·have a1:(0:Int)<=(k:Int):=by omega
    have a2:(k:Int)<(n:Int):=by omega
    have a3:(k:Int)<=(cr:Int):=by omega
    have a4:(n:Int)<=(cr:Int):=by omega
    obtain⟨m,hm⟩:∃m,m=min k (n-k):=⟨_,rfl⟩;obtain⟨r,P⟩:∃r,n-k=m+r:=⟨n-k-m,by omega⟩;have a5:¬cr=k:=by omega
    have ap:Aside0 (∀(j:Nat) (v:Value),(List.replicate m (Value.int .i64 z))[j]? =some v->wr.drew.cell? ((⟨a,0,none⟩:Addr).add j)=some v):=⟨fun j v o=>by
     obtain⟨ar,b⟩:=List.getElem?_eq_some_iff.1 o;rw[List.length_replicate] at ar;rw[List.getElem_replicate] at b;subst b;have h:=cell_of_row wr a j _ _ _ F.out;rw[List.getElem?_toArray,List.append_assoc,List.getElem?_append_left (by rw[List.length_replicate];omega),List.getElem?_replicate,if_pos (by omega)] at h;by_cases e:j=0
     ·subst e;simpa [Addr.add] using h
     ·simpa [Addr.add,e] using h⟩
    have a9:(m:Int)<=1000:=by omega
    have bb:(0:Int)<=(m:Int):=by omega
    have be:(k:Int)<=1000:=by omega
    have G:=zA hm;have l:=zA P;clear hm P;go_wp2;go_region_law (refine step_copy_splice rfl (.tmp 41) (.tmp 44) 25 25 rfl 3 Tryz.underlying25 (by kernel_rfl) (some ⟨a,k,none⟩) (some ⟨a,0,none⟩) (n-k) (cr-k) k cr (by go_simp) (by go_simp) a k (List.replicate k (Value.int .i64 z)++List.replicate (n-k) (Value.int .i64 0)++rest) 3 F.out (List.replicate m (Value.int .i64 z)) (by have:=G.out;rw[List.length_replicate];show m=min k (n-k);omega) (fun _=>⟨rfl,_,rfl,ap.out⟩) (by have:=O.out;have:=G.out;simp;omega) (fun v b=>by rw[List.eq_of_mem_replicate b];rfl) w.heap.size w (bY q.out) M ?_;intro w4 Q S)
    have aB:Aside0 (w4.heap[a]? =some (.cells (List.replicate (k+m) (Value.int .i64 z)++List.replicate (n- (k+m)) (Value.int .i64 0)++rest).toArray 3 (0,0))):=⟨by
     have h:=Q;rw[l.out] at h;rw[show n- (k+m)=r from by have:=l.out;omega,<-Gw k m r (.int .i64 z) (.int .i64 0) rest];first|exact h|(rw[List.append_assoc];exact h)⟩
    have aF:=zA S;clear Q S;have bf:=G.out;have bg:=l.out;go_wp2;go_roundg (n- (k+m))
    case measure=>rw[HK.out];omega
    case rel=>exact⟨k+m,(by rw[IntWalk.i64_in ((k:Int)+(m:Int)) (by omega)];go_num),by omega,by omega,aB,aF,⟨rfl⟩⟩
   ·obtain rfl:k=n:=by omega
    go_wp2;go_ret;exact⟨a,cr,rfl,Kd.mR ⟨by simp[bX],.inr ⟨a,cr,_,by simp,M,F.out,by simp;omega,ak.out,by have:=O.out;simp;omega,by simp[bX]⟩⟩ (fun _ _=>trivial),q.out⟩
end Go.Proofs.YtffdiakgjakngaaGreat.P


