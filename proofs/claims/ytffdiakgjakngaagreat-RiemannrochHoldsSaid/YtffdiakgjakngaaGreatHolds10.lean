/- RiemannrochHolds answers true whatever the input (text 10 of 20): own walks and plain laws; no conditions. -/
import Derived.Lib.SliceRun
import Derived.Test.YtffdiakgjakngaaGreatHolds9
namespace Go.Proofs.YtffdiakgjakngaaGreat.P
open Go.RowKit Go.Proofs.YtffdiakgjakngaaGreatW.PrintWords Go.Proofs.YtffdiakgjakngaaGreatW.PrintLast Go.Proofs.YtffdiakgjakngaaGreatW.PrintMore
set_option linter.unusedVariables false
set_option linter.unusedSimpArgs false
set_option maxHeartbeats 8000000
set_option maxRecDepth 100000
section
attribute [local go_sem] Oper.semAt_some
theorem uJ {P:Program} {ty:TypeId} {d:TypeDesc} (w:World) (a:Addr) (v:Value) (h:P.underlying ty=some d) (k:(match d with| .struct _| .array _ _=>true|_=>false)=false) (c:w.cell? a=some v):(loadVar ty a).run P w= .ok v w:=by
 have e:(isAgg ty).run P w= .ok false w:=by
  unfold isAgg;rw[Sem.run_bind];have hu:(underlying ty).run P w= .ok d w:=by simp[underlying,Sem.run_bind,Result.andThen,h]
  rw[hu];cases d<;>first|(simp at k;done)|rfl
 unfold loadVar;rw[Sem.run_bind,e];simp[Result.andThen,go_sem,c]
theorem qt {P:Program} {fn:Func} {p u:Tmp} {t1 t2:TypeId} {d1 d2:TypeDesc} (h:fn.results=#[.cell p t1,.cell u t2]) (tmps:Array Value) (w:World) (a b:Addr) (v1 v2:Value) (hp:tmps.getD p undef= .pointer (some a)) (hu:tmps.getD u undef= .pointer (some b))
  (h1:P.underlying t1=some d1) (e:P.underlying t2=some d2) (g:(match d1 with| .struct _| .array _ _=>true|_=>false)=false) (i:(match d2 with| .struct _| .array _ _=>true|_=>false)=false) (c1:w.cell? a=some v1) (c2:w.cell? b=some v2):
  (results fn tmps).run P w= .ok (.tuple #[v1,v2]) w:=by
 have j:tmps[p]?.getD undef= .pointer (some a):=by simpa using hp
 have k:tmps[u]?.getD undef= .pointer (some b):=by simpa using hu
 simp[results,h,j,k,asAddr,Sem.run_bind,Result.andThen,uJ w a v1 h1 g c1,uJ w b v2 e i c2]
theorem CG (N:Int) (A0:Option Addr) (c0:Nat) (E:List S83) (q:Int) (w:World):Calls Tryz.prog 174 #[.agg #[.int .i64 N,.slice A0 E.length c0],.int .i64 q] w fun e w'=>e= .returned (.func (.func 199) #[] #[.pointer (some ⟨w.heap.size,0,none⟩),.pointer (some ⟨w.heap.size+1,0,none⟩)])∧w'=(w.alloc (.cells #[.int .i64 N,.slice A0 E.length c0] 24)).alloc (.cells #[.int .i64 q] 3):=by
 go_enter Tryz.func174,Tryz.ntmps174
 go_wp2;go_ret;exact⟨rfl,rfl⟩
def qu:Nat:=1000
def lA (n:Nat) (E:List S83) (q:Nat):List (List Int):=dF q qu (fJ n (aj E) q) n []
def eP.f (k:Nat) (N:Int) (E:List S83) (q:Int):Option (List (List Int)×Int):=
 (fM.f k N E q).bind fun t=>if t.2=0 then(if(lA N.toNat E q.toNat).length<=16384 then some (lA N.toNat E q.toNat,0) else none) else some ([],t.2)
theorem eP.mono:∀a b e k,ae (eP.f k a b e) (eP.f (k+1) a b e):=by
 intro a b e k;unfold eP.f;exact ae.bind (fM.mono _ _ _ _) (fun _=>ae.refl _)
theorem uK {k:Nat} {N:Int} {E:List S83} {q:Int} {l:List Int} (h:fM.f k N E q=some (l,0)):cX.f k N E q=some 0∧eF E=true∧iI N E=true∧l=gB (gA N.toNat E) q N.toNat N.toNat:=by
 unfold fM.f gC.f at h;simp only[Option.bind_assoc] at h;obtain⟨t,b,h⟩:=Option.bind_eq_some_iff.1 h;by_cases a:t=0
 ·subst a
  rw[if_pos rfl] at h;by_cases hk:my N E=true
  ·rw[if_pos hk] at h
   simp only[my,Bool.and_eq_true] at hk;simp only[Option.bind_some,Option.some.injEq,Prod.mk.injEq] at h;exact⟨b,hk.1,hk.2,h.1.symm⟩
  ·rw[if_neg hk] at h;cases h
 ·rw[if_neg a] at h
  simp only[Option.bind_some,Option.some.injEq,Prod.mk.injEq] at h;exact absurd h.2 a
theorem CH {F:Fence} {n:Nat} {P:Program} {fn:Func} {R:Ending->World->Prop} {a:Act} {w:World} {v:Value} (hd:a.defers=[]) (b:(results fn a.tmps).run P w= .ok v w) (e:R (.returned v) w):bodyPostM F n P fn R .ret a w:=by
 show LeavesInM F n P fn a.tmps R a.defers .returning w
 rw[hd];exact⟨_,b,e⟩
theorem CI {w1:World} {r:Nat} {t1 t2:TypeId} {u1 u2:Value} (v1 v2:Value) (a:w1.heap[r]? =some (.cells #[u1] t1 (0,0))) (b:w1.heap[r+1]? =some (.cells #[u2] t2 (0,0))):
  ((w1.setCell ⟨r,0,none⟩ v1).setCell ⟨r+1,0,none⟩ v2).cell? ⟨r,0,none⟩=some v1∧((w1.setCell ⟨r,0,none⟩ v1).setCell ⟨r+1,0,none⟩ v2).cell? ⟨r+1,0,none⟩=some v2:=by
 have h1:=bE a 0 v1;have e:=aC (p:=⟨r+1,0,none⟩) h1 (by show r≠r+1;omega) v2;have g:=aC (p:=⟨r,0,none⟩) b (by show r+1≠r;omega) v1;have h:=bE g 0 v2;exact⟨(ao e 0).trans (by simp),(ao h 0).trans (by simp)⟩
theorem mz (w:World) (a b e:Obj):(((w.alloc a).alloc b).alloc e).heap[w.heap.size]? =some a∧(((w.alloc a).alloc b).alloc e).heap[w.heap.size+1]? =some b∧(((w.alloc a).alloc b).alloc e).heap[w.heap.size+1+1]? =some e:=by
 refine⟨?_,?_,?_⟩
 ·rw[Below.heap_alloc _ _ _ (by simp;omega),Below.heap_alloc _ _ _ (by simp)];exact heap_alloc_new w a
 ·rw[Below.heap_alloc _ _ _ (by simp)];have h:=heap_alloc_new (w.alloc a) b;simpa using h
 ·have h:=heap_alloc_new ((w.alloc a).alloc b) e;simpa using h
theorem CJ (k:Nat) (N:Int) (A0:Option Addr) (c0:Nat) (E:List S83) (q:Int) (l:List Int) (t:Int) (w:World) (j:Kd.C aK w A0 E.length E) (m:E.length<=c0) (hf:fM.f k N E q=some (l,t)) (g:t≠0):
  Calls Tryz.prog 114 #[.agg #[.int .i64 N,.slice A0 E.length c0],.int .i64 q] w fun e w'=>e= .returned (.tuple #[.slice none 0 0,.int .i64 t])∧Below w.heap.size w w':=by
 have hu:=Tryz.underlying24;have o:=Aside0.mk hf;have x:(t != 0)=true:=by simpa using g
 have a:=Aside0.mk (mz w (.cells #[.int .i64 N,.slice A0 E.length c0] 24) (.cells #[.slice none 0 0] 33) (.cells #[.int .i64 0] 30));have y:(((w.alloc (.cells #[.int .i64 N,.slice A0 E.length c0] 24)).alloc (.cells #[.slice none 0 0] 33)).alloc (.cells #[.int .i64 0] 30)).cell? ⟨w.heap.size,0,none⟩=some (.int .i64 N):=(ao a.out.1 0).trans rfl;have z:(((w.alloc (.cells #[.int .i64 N,.slice A0 E.length c0] 24)).alloc (.cells #[.slice none 0 0] 33)).alloc (.cells #[.int .i64 0] 30)).cell? ⟨w.heap.size,1,none⟩=some (.slice A0 E.length c0):=(ao a.out.1 1).trans rfl;clear hf g;refine(callsIn_wide (n:=10)).1 ?_;refine callsIn_of_wp_marks Tryz.func114 rfl trivial ?_ rfl;simp only[Tryz.ntmps114,List.size_toArray,List.length_cons,List.length_nil,Nat.reduceAdd,Nat.reduceSub,Array.replicate_succ,Array.replicate_zero,List.push_toArray,List.append_toArray,List.nil_append,List.cons_append];gi_wp2_with (refine⟨trivial,?_⟩;gi_at_call 173;refine(callsIn_wide.2 (fM.calls k N A0 c0 E q l t _ (Kd.br (Kd.br (Kd.br j _) _) _) m o.out)).mono ?_;rintro e w1 ⟨v,rfl,r,hb⟩;have s:=Aside0.mk ((aq (aq (aq (Below.refl w.heap.size w) _) _) _).trans (hb.mono (by simp;omega)));have b:=Aside0.mk (aG a.out.2.1 hb);have h:=Aside0.mk (aG a.out.2.2 hb);have B:w1.cell? ⟨w.heap.size+1,0,none⟩=some (.slice none 0 0):=(ao b.out 0).trans rfl;have D:w1.frozen? ⟨w.heap.size+1,0,none⟩=false:=bq b.out 0;have i:=Aside0.mk (aC (p:=⟨w.heap.size+1,0,none⟩) h.out (by show w.heap.size+1+1≠w.heap.size+1;omega) (.slice none 0 0));have F:(w1.setCell ⟨w.heap.size+1,0,none⟩ (.slice none 0 0)).cell? ⟨w.heap.size+1+1,0,none⟩=some (.int .i64 0):=(ao i.out 0).trans rfl;have G:=bq i.out 0;clear r hb)
 obtain⟨c1,c2⟩:=CI (.slice none 0 0) (.int .i64 t) b.out h.out;exact CH rfl (qt (p:=4) (u:=5) rfl _ _ ⟨w.heap.size+1,0,none⟩ ⟨w.heap.size+1+1,0,none⟩ _ _ rfl rfl Tryz.underlying33 Tryz.underlying30 rfl rfl c1 c2) ⟨rfl,(s.out.setCell (p:=⟨w.heap.size+1,0,none⟩) (by show w.heap.size<=w.heap.size+1;omega) _).setCell (p:=⟨w.heap.size+1+1,0,none⟩) (by show w.heap.size<=w.heap.size+1+1;omega) _⟩
end
section
attribute [local go_sem] Oper.semAt_some
theorem CK (k n:Nat) (A0:Option Addr) (c0:Nat) (E:List S83) (q:Nat) (l:List Int) (w:World) (aP:Kd.C aK w A0 E.length E) (aS:E.length<=c0) (hf:fM.f k n E q=some (l,0)) (a0:(lA n E q).length<=16384):
  Calls Tryz.prog 114 #[.agg #[.int .i64 n,.slice A0 E.length c0],.int .i64 q] w fun e w'=>∃v,e= .returned (.tuple #[v,.int .i64 0])∧(Kd.slice 3 (Kd.int .i64)).R 26 w' w.heap.size (fun _=>True) v (lA n E q)∧Below w.heap.size w w':=by
 have hu:=Tryz.underlying24;obtain⟨hr,hm,an, -⟩:=uK hf;obtain⟨_,⟨_,hn⟩,_,cf,ch⟩:=kl hr;have a2:n<=12:=by omega
 have ci:=Aside0.mk (fun c (hc:iw n q c)=>Cr hr an hc);have cj:Aside0 (∀(p:List Int) (x Q:Nat),fJ n (aj E) q (p++(x:Int)::List.replicate Q 0)=true->p.length+1+Q=n->p.length≠q->x+1<qu):=⟨fun p x Q h hp ck=>by
  have h1:=Ct an a2 (v:=p.length) (by omega) ck h;have hx:rd (p++(x:Int)::List.replicate Q 0) p.length=x:=by simp[rd,List.getD_eq_getElem?_getD]
  rw[hx] at h1;show x+1<1000
  omega⟩
 have co:=Aside0.mk a0;have Hf:=Aside0.mk hf;have m:=Aside0.mk (mz w (.cells #[.int .i64 n,.slice A0 E.length c0] 24) (.cells #[.slice none 0 0] 33) (.cells #[.int .i64 0] 30));have cs:(((w.alloc (.cells #[.int .i64 n,.slice A0 E.length c0] 24)).alloc (.cells #[.slice none 0 0] 33)).alloc (.cells #[.int .i64 0] 30)).cell? ⟨w.heap.size,0,none⟩=some (.int .i64 n):=(ao m.out.1 0).trans rfl;have c2:(((w.alloc (.cells #[.int .i64 n,.slice A0 E.length c0] 24)).alloc (.cells #[.slice none 0 0] 33)).alloc (.cells #[.int .i64 0] 30)).cell? ⟨w.heap.size,1,none⟩=some (.slice A0 E.length c0):=(ao m.out.1 1).trans rfl;clear hf hr hm an a0 cf ch hn;refine(callsIn_wide (n:=10)).1 ?_;refine callsIn_of_wp_marks Tryz.func114 rfl trivial ?_ rfl;simp only[Tryz.ntmps114,List.size_toArray,List.length_cons,List.length_nil,Nat.reduceAdd,Nat.reduceSub,Array.replicate_succ,Array.replicate_zero,List.push_toArray,List.append_toArray,List.nil_append,List.cons_append];gi_wp2_with (first|(refine⟨trivial,?_⟩;gi_at_call 173;refine(callsIn_wide.2 (fM.calls k n A0 c0 E q l 0 _ (Kd.br (Kd.br (Kd.br aP _) _) _) aS Hf.out)).mono ?_;rintro e w1 ⟨v,rfl,c3,hb⟩;have HB:=Aside0.mk ((aq (aq (aq (Below.refl w.heap.size w) _) _) _).trans (hb.mono (by simp;omega)));have X0:=Aside0.mk (aG m.out.1 hb);have z:=Aside0.mk (aG m.out.2.1 hb);have L:=Aside0.mk (aG m.out.2.2 hb);have y0:(w1.alloc (.cells #[.slice none 0 0] 33)).cell? ⟨w.heap.size,0,none⟩=some (.int .i64 n):=(ao (aw X0.out _) 0).trans rfl;have y1:(w1.alloc (.cells #[.slice none 0 0] 33)).cell? ⟨w.heap.size,1,none⟩=some (.slice A0 E.length c0):=(ao (aw X0.out _) 1).trans rfl;clear c3 hb)|(refine⟨trivial,?_⟩;gi_at_call 174;refine(callsIn_wide.2 (CG n A0 c0 E q _)).mono ?_;rintro e w3 ⟨rfl,rfl⟩))
 have c6:w.heap.size+1+1<w1.heap.size:=ay L.out;have c7:=HB.out.size;obtain⟨S,a3⟩:∃o:Obj,o= .cells #[.int .i64 n,.slice A0 E.length c0] 24:=⟨_,rfl⟩;obtain⟨T,a4⟩:∃o:Obj,o= .cells #[.int .i64 q] 3:=⟨_,rfl⟩;obtain⟨U,a5⟩:∃o:Obj,o= .cells #[.slice none 0 0] 33:=⟨_,rfl⟩;obtain⟨Z0,Z1,Z2⟩:=mz w1 U S T;have M:=Aside0.mk (Z0.trans (by rw[a5]:_=some (.cells #[.slice none 0 0] 33 (0,0))));have V:=Aside0.mk (Z1.trans (by rw[a3]:_=some (.cells #[.int .i64 n,.slice A0 E.length c0] 24 (0,0))));have X:=Aside0.mk (Z2.trans (by rw[a4]:_=some (.cells #[.int .i64 q] 3 (0,0))));have Y:=Aside0.mk (aq (aq (aq HB.out U) S) T);have bg:=Aside0.mk (aw (aw (aw z.out U) S) T);have bi:=Aside0.mk (aw (aw (aw L.out U) S) T);clear Z0 Z1 Z2;subst a3 a4 a5;clear y0 y1 cs c2 X0 z L HB m;generalize (((w1.alloc (.cells #[.slice none 0 0] 33)).alloc (.cells #[.int .i64 n,.slice A0 E.length c0] 24)).alloc (.cells #[.int .i64 q] 3))=a at M V X Y bg bi⊢;have c8:=ay M.out;have c9:=ay V.out;have c':=ay X.out;generalize dd:w1.heap.size+1+1=qx at X c'⊢;generalize dk:w1.heap.size+1=gx at V c9 dd⊢;generalize w1.heap.size=bo at M c6 c7 c8 dk⊢;have ew:=Y.out.size;refine ie (σ:=Unit) (α:=List Int×Value) (F:=Fence.wide) (n:=10) rfl (by decide) (gf:=199) (lb:=#[.pointer (some ⟨gx,0,none⟩),.pointer (some ⟨qx,0,none⟩)]) rfl trivial (enters_of Tryz.func199 (by kernel_rfl) rfl)
  (fun o=>Cu (w0:=w) (B:=qu) (K:=k+20) (n:=n) (A0:=A0) (c0:=c0) (E:=E) (q:=q) (gx:=gx) (qx:=qx) (calm:=fJ n (aj E) q) _ (a.heap.size+2) (by simp) a2 aP aS ci.out cj.out (by decide) (by decide) co.out (aw (aw V.out _) _) (aw (aw X.out _) _) (aq (aq Y.out _) _)) (fun _=>rfl)
  (fun _=>True) ?ei ?st ?ar
  (fun _ pre W=>a.heap.size+2<=W.heap.size∧∃v,W.heap[bo]? =some (.cells #[v] 33 (0,0))∧W.heap[w.heap.size+1]? =some (.cells #[.slice none 0 0] 33 (0,0))∧W.heap[w.heap.size+1+1]? =some (.cells #[.int .i64 0] 30 (0,0))∧(Kd.slice 3 (Kd.int .i64)).R 26 W w.heap.size (fun k=>¬(k=gx∨k=qx∨a.heap.size+2<=k∧k<a.heap.size+2+4)) v (pre.map Prod.fst)∧Below w.heap.size w W) (fun _ _ _ _=>False)
  ?is (fun _ _ _ _ _ _ h _=>h) ?ib (fun _ _ _ _ _ h _=>h) ?kt ?h0 ?a1 ?assign ?body ?done (fun _ _ _ _ _ _ _ h=>h.elim)
 case assign=>
  intro l x W K hK;gi_wp2;exact hK
 case ei=>
  intro o s W1 h;exact⟨trivial,by rw[h];exact bX.refl _ _⟩
 case st=>intro s A B _ h k o h1 H g _;exact(h.block k (Array.getElem?_eq_some_iff.1 g).1 (fun e=>by injection e;omega)).trans g
 case ar=>intro s x A B _ h k o h1 H g _;exact(h.1.block k (Array.getElem?_eq_some_iff.1 g).1 (fun e=>by injection e;omega)).trans g
 case is=>
  rintro s pre A B _ ⟨N,v,h1,H,g,h4,Z⟩ I;exact⟨Nat.le_trans N I.size,v,(I.block bo (ay h1) (fun e=>by injection e;omega)).trans h1,(I.block _ (ay H) (fun e=>by injection e;omega)).trans H,(I.block _ (ay g) (fun e=>by injection e;omega)).trans g,Kd.kE h4 I (fun k hk e=>hk (.inr (.inr (by injection e;omega)))),ju Z _ Z.size I (fun k e=>by injection e;omega)⟩
 case ib=>
  rintro s pre A B ⟨N,v,h1,H,g,h4,Z⟩ hb;exact⟨by rw[hb.size];exact N,v,hb.cells h1,hb.cells H,hb.cells g,db h4 hb,Z.trans (hb.below w.heap.size (by omega))⟩
 case kt=>
  intro s A B C D aa bk bn;refine⟨fun aQ=>((aa.below w.heap.size (by omega)).trans (bk.1 (by rw[aa.size];exact aQ))).trans (bn.below w.heap.size (by omega)),fun k hk aQ=>?_⟩;have bv:k≠a.heap.size+1:=by rcases hk with rfl|rfl|hk<;>omega
  exact(bn.heap k bv).trans ((bk.2 k hk (by rw[aa.size];exact aQ)).trans (aa.heap k bv))
 case h0=>
  rintro o s W1 rfl;exact⟨by simp,_,aw (aw M.out _) _,aw (aw bg.out _) _,aw (aw bi.out _) _,Kd.cV _ _ _ _ _,aq (aq Y.out _) _⟩
 case body=>
  rintro l s pre ⟨xl,xv⟩ O W1 W _ ⟨N,v,i1,i2,i3,i4,i5⟩ ⟨G,ab,e0⟩ b0 b;simp only at ab;obtain⟨Ax,cx,rfl⟩:=Kd.aZ ab;have e1:O.heap.size<=W.heap.size:=by have:=b.size;have:=G.size;omega
  have r:=Aside0.mk (b.cells ((G.block bo (ay i1) (fun e=>by injection e;omega)).trans i1));have y:=Aside0.mk (b.cells ((G.block _ (ay i2) (fun e=>by injection e;omega)).trans i2));have b3:=Aside0.mk (b.cells ((G.block _ (ay i3) (fun e=>by injection e;omega)).trans i3));have b4:=Aside0.mk (db (Kd.kE i4 G (fun k hk e=>hk (.inr (.inr (by injection e;omega))))) b);have b5:=Aside0.mk ((ju i5 _ i5.size G (fun k e=>by injection e;omega)).trans (b.below w.heap.size (by omega)));have bx:=Aside0.mk (Kd.lK (Kd.aW (Kd.aV (ok':=fun k=>O.heap.size<=k) (Kd.eC (db ab b)) (fun k hk=>hk.2.1)) i5.size));have b6:∀k,v.ownBlock=some k->k<O.heap.size:=fun k hk=>Kd.aX i4 k hk
  have b_:=Aside0.mk b6;have d5:=Aside0.mk (Kd.fS i4);clear i1 i2 i3 i4 i5 G ab b b6;obtain⟨Ar,cr,rfl⟩:=Kd.aZ b4.out;have ca:(pre.map Prod.fst).length=pre.length:=by simp
  rw[ca] at r b4 b_ d5;have hc:=dt r.out;have hf:=bq r.out 0;have e2:(((pre.length:Nat):Int)==16384)=false:=by simp;omega
  have LN:Aside0 (((pre.map Prod.fst).length+1)*24<=140737488355328):=⟨by rw[ca];omega⟩;have d7:Aside0 (∀k,O.heap.size<=k->¬(k=gx∨k=qx∨a.heap.size+2<=k∧k<a.heap.size+2+4)∧some k≠(Value.slice Ar pre.length cr).ownBlock):=⟨fun k hk=>⟨by omega,fun e=>by have:=b_.out k e.symm;omega⟩⟩;have d8:Aside0 (∀k,W.heap.size<=k->¬(k=gx∨k=qx∨a.heap.size+2<=k∧k<a.heap.size+2+4)):=⟨fun k hk=>by omega⟩;gi_wp2_with (gi_at_builtin;go_loud (refine nL (Kd.slice 3 (Kd.int .i64)) (w0:=w) w.heap.size rfl (.tmp 26) (.tmp 28) 33 26 (.slice none 0 0) 24 rfl Tryz.underlying33 ph rfl (by decide) (by omega) (.slice Ar pre.length cr) (pre.map Prod.fst) xl [.slice Ax xl.length cx] (fun k=>¬(k=gx∨k=qx∨a.heap.size+2<=k∧k<a.heap.size+2+4)) (fun k=>O.heap.size<=k) rfl rfl bx.out d7.out d8.out b4.out b5.out b5.out.size LN.out ?_;intro v1 e3 aL hb P d9;obtain⟨A1,c1,rfl⟩:=Kd.aZ aL;have z:=Aside0.mk ((P.block bo (ay r.out) (Kd.dh b4.out r.out (by decide))).trans r.out);have L:=Aside0.mk ((P.block _ (ay y.out) (Kd.dh b4.out y.out (by decide))).trans y.out);have J:=Aside0.mk ((P.block _ (ay b3.out) (Kd.dh b4.out b3.out (by decide))).trans b3.out);have e4:=dt z.out;have e5:=bq z.out 0;have ea:=Aside0.mk aL;have eb:=Aside0.mk hb;have ag:=Aside0.mk P;clear aL hb P d9))
  refine⟨(nM b4.out ag.out).trans (fa _ _ (ay M.out)),⟨fun aQ=>Below.setCell ((Below.refl w.heap.size W).grown ag.out aQ (Kd.dK b4.out)) (by show w.heap.size<=bo;omega) _,fun k hk ed=>?_⟩,by have:=ag.out.size;simp;omega,.slice A1 (pre.length+1) c1,by simpa using bE z.out 0 (.slice A1 (pre.length+1) c1),aC L.out (by show w.heap.size+1≠bo;omega) _,aC J.out (by show w.heap.size+1+1≠bo;omega) _,?_,ec eb.out (by show w.heap.size<=bo;omega)⟩
  ·have eg:k≠bo:=by rcases hk with rfl|rfl|hk<;>omega
   rw[Below.heap_setCell _ _ _ _ eg];exact ag.out.block k ed (fun e=>(b4.out.1 k e.symm) hk)
  ·have h:=Kd.eK ea.out z.out (by decide) 0 (.slice A1 (pre.length+1) c1)
   simpa using h
 case done=>
  rintro s xs W W' _ cb ⟨N,v,i1,i2,i3,i4,i5⟩ b cc;obtain⟨i,j,hv⟩:=Kd.aZ i4;rw[List.length_map] at hv;subst hv;have r:=Aside0.mk (b.cells i1);have y:=Aside0.mk (b.cells i2);have b3:=Aside0.mk (b.cells i3);have b4:=Aside0.mk (db i4 b);have b5:=Aside0.mk (i5.trans (b.below w.heap.size (by omega)));have ek:=Aside0.mk cc;have m:=Aside0.mk (show xs.map Prod.fst=lA n E q from cb);clear i1 i2 i3 i4 i5 cc cb b;have hc:=dt r.out;have q1:W'.cell? ⟨w.heap.size+1,0,none⟩=some (.slice none 0 0):=(ao y.out 0).trans rfl;have q2:W'.frozen? ⟨w.heap.size+1,0,none⟩=false:=bq y.out 0;have J:=Aside0.mk (aC (p:=⟨w.heap.size+1,0,none⟩) b3.out (by show w.heap.size+1+1≠w.heap.size+1;omega) (.slice i xs.length j));have q3:(W'.setCell ⟨w.heap.size+1,0,none⟩ (.slice i xs.length j)).cell? ⟨w.heap.size+1+1,0,none⟩=some (.int .i64 0):=(ao J.out 0).trans rfl;have q4:=bq J.out 0;have Y1:=Aside0.mk (aC (p:=⟨w.heap.size+1+1,0,none⟩) (bE y.out 0 (.slice i xs.length j)) (by show w.heap.size+1≠w.heap.size+1+1;omega) (.int .i64 0));have Y2:=Aside0.mk (bE J.out 0 (.int .i64 0));have b0:w.heap.size+1≠a.heap.size:=by omega
  have er:w.heap.size+1+1≠a.heap.size:=by omega
  have Y3:=Aside0.mk (show ((W'.setCell ⟨w.heap.size+1,0,none⟩ (.slice i xs.length j)).setCell ⟨w.heap.size+1+1,0,none⟩ (.int .i64 0)).heap[a.heap.size]? =some (.deferred (some [])) from by rw[Below.heap_setCell _ _ _ _ (fun e=>er e.symm),Below.heap_setCell _ _ _ _ (fun e=>b0 e.symm)];exact ek.out);have Y4:=Aside0.mk (Kd.eK (Kd.eK b4.out y.out (by decide) 0 (.slice i xs.length j)) J.out (by decide) 0 (.int .i64 0));have Y5:=Aside0.mk ((b5.out.setCell (p:=⟨w.heap.size+1,0,none⟩) (by show w.heap.size<=w.heap.size+1;omega) (.slice i xs.length j)).setCell (p:=⟨w.heap.size+1+1,0,none⟩) (by show w.heap.size<=w.heap.size+1+1;omega) (.int .i64 0));gi_wp2_with fail
  have ak:Bk a.heap.size ((W'.setCell ⟨w.heap.size+1,0,none⟩ (.slice i xs.length j)).setCell ⟨w.heap.size+1+1,0,none⟩ (.int .i64 0)) (((W'.setCell ⟨w.heap.size+1,0,none⟩ (.slice i xs.length j)).setCell ⟨w.heap.size+1+1,0,none⟩ (.int .i64 0)).putObj a.heap.size (.deferred none)):=⟨_,_,Y3.out,rfl,rfl⟩;refine iK (D:=a.heap.size) rfl Y3.out (qt (p:=4) (u:=5) rfl _ _ ⟨w.heap.size+1,0,none⟩ ⟨w.heap.size+1+1,0,none⟩ (.slice i xs.length j) (.int .i64 0) rfl rfl Tryz.underlying33 Tryz.underlying30 rfl rfl ((ao (ak.cells Y1.out) 0).trans (by simp)) ((ao (ak.cells Y2.out) 0).trans (by simp))) ⟨_,rfl,?_,Y5.out.trans (ak.below w.heap.size (by omega))⟩;rw[<-m.out];exact Kd.aV (db Y4.out ak) (fun _ _=>trivial)
theorem eP.calls (k:Nat) (b:Int) (g:Option Addr) (i:Nat) (a:List (S83)) (j:Int) (r:List (List Int)) (s:Int) (w:World) (u:Kd.C aK w g a.length a) (x:a.length<=i) (h:eP.f k b a j=some (r,s)):
  Calls Tryz.prog 114 #[.agg #[.int .i64 b,.slice g a.length i],.int .i64 j] w fun e w'=>∃y:Value,e= .returned (.tuple #[y,.int .i64 s])∧Kd.N (Kd.slice 3 (Kd.int .i64)) 26 w' w.heap.size (fun z=>(w.heap.size<=z)) y r∧Below w.heap.size w w':=by
 unfold eP.f at h;obtain⟨⟨l,t⟩,o,H⟩:=Option.bind_eq_some_iff.mp h;simp only at H;by_cases p:t=0
 ·subst p
  rw[if_pos rfl] at H;by_cases m:(lA b.toNat a j.toNat).length<=16384
  ·rw[if_pos m] at H
   simp only[Option.some.injEq,Prod.mk.injEq] at H;obtain⟨rfl,rfl⟩:=H;obtain⟨B, -, -, -⟩:=uK o;obtain⟨_,⟨D,G⟩,_,E,_⟩:=kl B;obtain⟨n,rfl⟩:=Int.eq_ofNat_of_zero_le D;obtain⟨q,rfl⟩:=Int.eq_ofNat_of_zero_le E;rw[Int.toNat_natCast,Int.toNat_natCast] at m⊢;refine(CK k n g i a q l w u x o m).mono ?_;rintro e w' ⟨v,rfl,h1,F⟩;exact⟨v,rfl,Kd.na (Kd.aV (Kd.eC h1) (fun k hk=>hk.2.1)),F⟩
  ·rw[if_neg m] at H;cases H
 ·rw[if_neg p] at H
  simp only[Option.some.injEq,Prod.mk.injEq] at H;obtain⟨rfl,rfl⟩:=H;refine(CJ k b g i a j l t w u x o p).mono ?_;rintro e w' ⟨rfl,hb⟩;exact⟨_,rfl,Kd.na (Kd.cV _ _ _ _ _),hb⟩
end
def oa (qx gx:Nat) (row:Option Nat) (a:World) (l:List (List Int)) (del:List Int->Bool):Prop:=
 ∀(W':World) (A0:Option Addr) (c0:Nat) (x:List Int),a.grownBy W' row->x∈l->x.length<=c0->Kd.C (Kd.int .i64) W' A0 x.length x->
  Calls Tryz.prog 116 #[.slice A0 x.length c0,.pointer (some ⟨qx,0,none⟩),.pointer (some ⟨gx,0,none⟩)] W' fun e w'=>e= .returned (.bool (del x))∧Below W'.heap.size W' w'
theorem uL {l:List (List Int)} {i:Nat} (h:i<l.length):aT l i∈l:=by
 have e:aT l i=l[i]:=by simp[aT,List.getD_eq_getElem?_getD,List.getElem?_eq_getElem h]
 rw[e];exact List.getElem_mem h
theorem uM (qx gx base:Nat) (row:Option Nat) (A:Option Addr) (cap:Nat) (ok:Nat->Prop) (l:List (List Int)) (del:List Int->Bool) (o W:World) (p:Kd.N (Kd.slice 3 (Kd.int .i64)) 26 W base ok (.slice A l.length cap) l) (q:o.grownBy W row) (s:oa qx gx row o l del):
  Calls Tryz.prog 175 #[.slice A l.length cap,.func (.func 116) #[] #[.pointer (some ⟨qx,0,none⟩),.pointer (some ⟨gx,0,none⟩)]] W fun e w'=>∃r:Int,e= .returned (.int .i64 r)∧((r= -1∧∀j:Nat,j<l.length->del (aT l j)=false)∨∃i:Nat,r=i∧i<l.length∧del (aT l i)=true∧∀j:Nat,j<i->del (aT l j)=false)∧Below W.heap.size W w':=by
 have x:=Aside0.mk p;have y:=Aside0.mk q;have z:=Aside0.mk s;clear p q s;go_enter Tryz.func175,Tryz.ntmps175
 go_wp2;go_loopw [8] (fun i wr=>∃k:Nat,k<=l.length∧i= .int .i64 k∧Aside0 (∀j:Nat,j<k->del (aT l j)=false)∧Aside0 (Below W.heap.size W wr)) (fun i _=>l.length- (intOf i).toNat)
 case atStart=>exact⟨0,by omega,rfl,⟨fun j B=>by omega⟩,⟨Below.refl _ _⟩⟩
 case round=>
  obtain⟨k,hk,rfl,h,a⟩:=hrel;by_cases u:k<l.length
  ·obtain⟨-,C,hC⟩:=Kd.iD (Kd.fW x.out a.out)
   obtain⟨ad,D,cc,rfl,E,v,w⟩:=fE hC k (by omega) (by omega);rw[Int.toNat_natCast] at E;have g:=Aside0.mk (z.out wr D cc (aT l k) (y.out.trans (iR a.out _)) (uL u) v w);have F:=Aside0.mk (rfl:aT l k=aT l k);have G:(0:Int)<=(k:Int):=by omega
   have H:(k:Int)<(l.length:Int):=by omega
   have I:l.length<=9223372036854775807:=Kd.lL hC;clear hC w v C;cases hb:del (aT l k) with
   |true=>
    rw[hb] at g;have m:=Aside0.mk hb;clear hb;go_wp2_with (go_at_call 116;refine g.out.mono ?_;rintro e w1 ⟨rfl,b⟩;have n:=Aside0.mk b;clear b)
    go_ret;exact⟨k,rfl,.inr ⟨k,rfl,u,m.out,h.out⟩,a.out.trans (n.out.mono a.out.size)⟩
   |false=>
    rw[hb] at g;have m:=Aside0.mk hb;clear hb;go_wp2_with (go_at_call 116;refine g.out.mono ?_;rintro e w1 ⟨rfl,b⟩;have n:=Aside0.mk b;clear b)
    go_roundw
    case rel=>exact⟨k+1,by omega,by go_num,⟨fun j B=>by
     by_cases e:j=k
     ·subst e;exact m.out
     ·exact h.out j (by omega)⟩,⟨a.out.trans (n.out.mono a.out.size)⟩⟩
    case measure=>exact(show l.length- ((k:Int)+1).toNat<l.length- ((k:Int)).toNat by omega)
  ·obtain rfl:k=l.length:=by omega
   go_wp2;go_ret;exact⟨-1,rfl,.inl ⟨rfl,h.out⟩,a.out⟩
theorem CL {ys:List (List Int)} {i m:Nat} (h:i≠m) (x:List Int):aT (ys.set i x) m=aT ys m:=by
 simp[aT,List.getD_eq_getElem?_getD,List.getElem?_set,h]
theorem CM (i:Nat):((i:Int)== -1)=false:=by
 rw[beq_eq_false_iff_ne];omega
theorem uN {l:List (List Int)} {j:Nat} (h:j<l.length):l.take (j+1)=l.take j++[aT l j]:=by
 rw[List.take_succ_eq_append_getElem h];simp[aT,List.getD_eq_getElem?_getD,List.getElem?_eq_getElem h]
theorem CN {ys:List (List Int)} {i:Nat} (h:i<ys.length) (x:List Int):(ys.set i x).take (i+1)=ys.take i++[x]:=by
 rw[List.take_succ_eq_append_getElem (by simpa using h)];simp[List.take_set_of_le]
theorem CO {l:List (List Int)} {del:List Int->Bool} {j:Nat} (h:j<l.length):(l.take (j+1)).filter (fun x=> !del x)=(l.take j).filter (fun x=> !del x)++(if del (aT l j) then[] else[aT l j]):=by
 rw[uN h,List.filter_append];cases hd:del (aT l j)<;>simp[hd]
theorem CP (w:World):(zeroValue 26).run Tryz.prog w= .ok (.slice none 0 0) w:=by kernel_rfl
theorem CQ {l:List (List Int)} {del:List Int->Bool} {i:Nat} (h1:del (aT l i)=true) (b:∀j:Nat,j<i->del (aT l j)=false) (h:i<l.length):l.take i=(l.take (i+1)).filter fun x=> !del x:=by
 rw[uN h,List.filter_append];rw[show[aT l i].filter (fun x=> !del x)=[] by simp[h1],List.append_nil];symm
 rw[List.filter_eq_self];intro x g;obtain⟨j,k,rfl⟩:=List.mem_take_iff_getElem.1 g;have a:=b j (by omega);have e:aT l j=l[j]'(by omega):=by simp[aT,List.getD_eq_getElem?_getD,List.getElem?_eq_getElem (by omega:j<l.length)]
 rw[e] at a;simp[a]
theorem od {W:World} {base g0 n cap:Nat} {ok:Nat->Prop} {ys:List (List Int)} {x:List Int} {v:Value} {i:Nat} (h:Kd.N (Kd.slice 3 (Kd.int .i64)) 26 W base ok (.slice (some ⟨g0,0,none⟩) n cap) ys) (l:Kd.FK (Kd.slice 3 (Kd.int .i64)) W (fun k=>ok k∧k≠g0) x [v]) (hi:i<n):
  (∃u,W.cell? ⟨g0,i,none⟩=some u)∧W.frozen? ⟨g0,i,none⟩=false∧Kd.N (Kd.slice 3 (Kd.int .i64)) 26 (W.setCell ⟨g0,i,none⟩ v) base ok (.slice (some ⟨g0,0,none⟩) n cap) (ys.set i x)∧W.grownBy (W.setCell ⟨g0,i,none⟩ v) (some g0):=by
 obtain⟨c,b, -,a,m⟩:=Kd.o8 h [] (i:Int) (by omega) (by omega);obtain⟨u,rfl⟩:∃u,c=[u]:=List.length_eq_one_iff.1 b;have e:=Kd.yw h (i:Int) (by omega) (by omega) (c:=[u]) (seg:=[v]) (j:=0) (x':=x) (okp:=fun k=>ok k∧k≠g0) b a (by simp[Kd.slice]) (by simpa using l) (fun k hk=>hk);rw[Int.toNat_natCast] at a e;have o:=a 0 u rfl;have g:=m 0;rw[Int.toNat_natCast] at g;refine⟨⟨u,by simpa [Kd.slice] using o⟩,by simpa [Kd.slice] using g,?_⟩;simpa [Kd.slice,World.setCells] using e
theorem CT {base g0 n cap:Nat} {ok:Nat->Prop}:∀(m i:Nat) (W:World) (ys:List (List Int)),i+m=n->ys.length=n->Kd.N (Kd.slice 3 (Kd.int .i64)) 26 W base ok (.slice (some ⟨g0,0,none⟩) n cap) ys->
  ∃a:List (List Int),a.length=n∧a.take i=ys.take i∧Kd.N (Kd.slice 3 (Kd.int .i64)) 26 (W.setCells g0 i (List.replicate m (.slice none 0 0))) base ok (.slice (some ⟨g0,0,none⟩) n cap) a∧W.grownBy (W.setCells g0 i (List.replicate m (.slice none 0 0))) (some g0):=by
 intro m;induction m with
 |zero=>intro i W ys _ b h;exact⟨ys,b,rfl,h,⟨rfl,rfl,rfl,Nat.le_refl _,fun _ _ _=>rfl⟩⟩
 |succ m g=>
  intro i W ys hi b h;obtain⟨-, -,h1,j⟩:=od (x:=[]) (v:=.slice none 0 0) (i:=i) h (fun W' _=>⟨none,0,rfl,Nat.le_refl _,Kd.mP _ _⟩) (by omega);obtain⟨a,z1,z2,z3,z4⟩:=g (i+1) _ (ys.set i []) (by omega) (by rw[List.length_set];exact b) h1;refine⟨a,z1,?_,by rw[List.replicate_succ,World.setCells];exact z3,by rw[List.replicate_succ,World.setCells];exact j.trans z4⟩;have e:=congrArg (List.take i) z2;rw[List.take_take,List.take_take,show min i (i+1)=i by omega] at e;rw[e,List.take_set_of_le (Nat.le_refl i)]
theorem CU (qx gx base g0 cap:Nat) (ok:Nat->Prop) (l:List (List Int)) (del:List Int->Bool) (y W:World) (g:Kd.N (Kd.slice 3 (Kd.int .i64)) 26 W base ok (.slice (some ⟨g0,0,none⟩) l.length cap) l) (z:y.grownBy W (some g0)) (B:oa qx gx (some g0) y l del) (hex:∃j:Nat,j<l.length∧del (aT l j)=true):
  Calls Tryz.prog 115 #[.slice (some ⟨g0,0,none⟩) l.length cap,.func (.func 116) #[] #[.pointer (some ⟨qx,0,none⟩),.pointer (some ⟨gx,0,none⟩)]] W fun e w'=>∃m:Nat,e= .returned (.slice (some ⟨g0,0,none⟩) m cap)∧m=(l.filter fun x=> !del x).length∧Kd.N (Kd.slice 3 (Kd.int .i64)) 26 w' base ok (.slice (some ⟨g0,0,none⟩) m cap) (l.filter fun x=> !del x)∧W.grownBy w' (some g0):=by
 have HN:=Aside0.mk g;have an:=Aside0.mk z;have HD:=Aside0.mk B;have ar:=Aside0.mk hex;have J:Aside0 (Calls Tryz.prog 175 #[.slice (some ⟨g0,0,none⟩) l.length cap,.func (.func 116) #[] #[.pointer (some ⟨qx,0,none⟩),.pointer (some ⟨gx,0,none⟩)]] W fun e w'=>∃i:Nat,e= .returned (.int .i64 i)∧i<l.length∧del (aT l i)=true∧(∀j:Nat,j<i->del (aT l j)=false)∧Below W.heap.size W w'):=⟨(uM qx gx base (some g0) (some ⟨g0,0,none⟩) cap ok l del y W g z B).mono (by
  rintro e w' ⟨r,rfl,h|⟨i,rfl,h1,h2,h3⟩,hb⟩
  ·obtain⟨j,k,K⟩:=hex
   rw[h.2 j k] at K;cases K
  ·exact⟨i,rfl,h1,h2,h3,hb⟩)⟩
 obtain⟨-,a3,L⟩:=Kd.iD g;have a4:l.length<=9223372036854775807:=Kd.lL L;clear g z B hex L;go_enter Tryz.func115,Tryz.ntmps115
 go_wp2_with (go_at_call 175;refine J.out.mono ?_;rintro e w1 ⟨i0,rfl,M,O,Q,hb⟩;have R:=Aside0.mk O;have S:=Aside0.mk Q;have C:=Aside0.mk hb;have aF:=CM i0;clear O Q hb)
 have T:=Aside0.mk (CQ R.out S.out M);have U:=Aside0.mk (iR C.out (some g0));have V:=Aside0.mk (Kd.fW HN.out C.out);clear J R S C ar aF;go_loopw [5,6] (fun ii D wr=>∃(i j:Nat) (ys:List (List Int)),i<j∧j<=l.length∧ii= .int .i64 i∧D= .int .i64 j∧Aside0 (ys.length=l.length)∧Aside0 (ys.take i=(l.take j).filter fun x=> !del x)∧Aside0 (∀m:Nat,j<=m->aT ys m=aT l m)∧Aside0 (Kd.N (Kd.slice 3 (Kd.int .i64)) 26 wr base ok (.slice (some ⟨g0,0,none⟩) l.length cap) ys)∧Aside0 (W.grownBy wr (some g0))) (fun _ D _=>l.length- (intOf D).toNat)
 case atStart=>exact⟨i0,i0+1,l,by omega,by omega,rfl,by go_num,⟨rfl⟩,T,⟨fun _ _=>rfl⟩,V,U⟩
 case round=>
  clear T U V;obtain⟨i,j,ys,a5,k,rfl,rfl,n,E,F,b,o⟩:=hrel;by_cases X:j<l.length
  ·obtain⟨c,G,p,H, -⟩:=Kd.o8 b.out [] (j:Int) (by omega) (by omega)
   rw[show ys.getD (j:Int).toNat []=aT l j from F.out j (Nat.le_refl _)] at p;rw[Int.toNat_natCast] at H;obtain⟨Y,Z,rfl,hle,hF⟩:=Kd.j6 p;have a9:wr.cell? ⟨g0,j,none⟩=some (.slice Y (aT l j).length Z):=by have h:=H 0 _ rfl;simpa [Kd.slice] using h
   have q:=Aside0.mk (HD.out wr Y Z (aT l j) (an.out.trans o.out) (uL X) hle (Kd.jE hF));have aL:=Aside0.mk p;have be:(0:Int)<=(j:Int):=by omega
   have bf:(j:Int)<(l.length:Int):=by omega
   have bg:(0:Int)<=(i:Int):=by omega
   have aO:(i:Int)<(l.length:Int):=by omega
   have s:=Aside0.mk (show (l.take (j+1)).filter (fun x=> !del x)=(l.take j).filter (fun x=> !del x)++(if del (aT l j) then[] else[aT l j]) from CO X);have bi:=Aside0.mk (show ∃x,x=aT l j from⟨_,rfl⟩);clear G p H hle hF;cases hb:del (aT l j) with
   |true=>
    rw[hb] at q s;clear hb;go_wp2_with (go_at_call 116;refine q.out.mono ?_;rintro e w2 ⟨rfl,a⟩;have w:=Aside0.mk a;clear a)
    go_roundw
    case rel=>exact⟨i,j+1,ys,by omega,by omega,rfl,by go_num,n,⟨by rw[s.out,E.out];simp⟩,⟨fun m hm=>F.out m (by omega)⟩,⟨Kd.fW b.out w.out⟩,⟨o.out.trans (iR w.out _)⟩⟩
    case measure=>exact(show l.length- ((j:Int)+1).toNat<l.length- ((j:Int)).toNat by omega)
   |false=>
    rw[hb] at q s;clear hb;go_wp2_with (go_at_call 116;refine q.out.mono ?_;rintro e w2 ⟨rfl,a⟩;obtain⟨q1,q2,I⟩:=od (Kd.fW b.out a) (Kd.yi aL.out a) (show i<l.length by omega);have w:=Aside0.mk a;have aP:=Aside0.mk I.1;have aS:=Aside0.mk I.2;obtain⟨q0,q1⟩:=q1;clear I a)
    go_roundw
    case rel=>exact⟨i+1,j+1,ys.set i (aT l j),by omega,by omega,by go_num,by go_num,⟨by rw[List.length_set];exact n.out⟩,⟨by rw[CN (by rw[n.out];omega),s.out,E.out];simp⟩,⟨fun m hm=>by rw[CL (by omega)];exact F.out m (by omega)⟩,aP,⟨(o.out.trans (iR w.out _)).trans aS.out⟩⟩
    case measure=>exact(show l.length- ((j:Int)+1).toNat<l.length- ((j:Int)).toNat by omega)
  ·obtain rfl:j=l.length:=by omega
   have G:=Lib.run_clear_slice (P:=Tryz.prog) wr 33 26 0 (.slice none 0 0) Tryz.underlying33 CP rfl rfl g0 i (l.length-i) (cap-i) (by omega) (fun j k=>by
    obtain⟨⟨u,hu⟩, -⟩:=od (x:=[]) (v:=.slice none 0 0) (i:=i+j) b.out (fun W' _=>⟨none,0,rfl,Nat.le_refl _,Kd.mP _ _⟩) (by omega);rw[hu];rfl) (fun j k=>(od (x:=[]) (v:=.slice none 0 0) (i:=i+j) b.out (fun W' _=>⟨none,0,rfl,Nat.le_refl _,Kd.mP _ _⟩) (by omega)).2.1)
   obtain⟨zs,z1,z2,z3,z4⟩:=CT (l.length-i) i wr ys (by omega) n.out b.out;have ab:=Aside0.mk z1;have a1:=Aside0.mk z2;have ad:=Aside0.mk z3;have ag:=Aside0.mk z4;have M:(0:Int)<=(i:Int):=by omega
   have aO:(i:Int)<=(l.length:Int):=by omega
   have bn:(i:Int)<=(cap:Int):=by omega
   have bo:¬cap=i:=by omega
   clear z1 z2 z3 z4;generalize wr.setCells g0 i (List.replicate (l.length-i) (.slice none 0 0))=w9 at G ad ag;go_wp2;go_ret;have ak:(l.filter fun x=> !del x)=zs.take i:=by
    have h:=E.out;rw[List.take_length] at h;rw[<-h,a1.out]
   have a2:i=(l.filter fun x=> !del x).length:=by rw[ak,List.length_take,ab.out];omega
   refine⟨i,rfl,a2,?_,o.out.trans ag.out⟩;rw[ak];exact Kd.yv ad.out (by rw[ab.out];omega)
theorem filter_none {l:List (List Int)} {del:List Int->Bool} (h:∀j:Nat,j<l.length->del (aT l j)=false):(l.filter fun x=> !del x)=l:=by
 rw[List.filter_eq_self];intro x g;obtain⟨j,a,rfl⟩:=List.mem_iff_getElem.1 g;have b:=h j a;have e:aT l j=l[j]:=by simp[aT,List.getD_eq_getElem?_getD,List.getElem?_eq_getElem a]
 rw[e] at b;simp[b]
theorem CV (qx gx base:Nat) (row:Option Nat) (A:Option Addr) (cap:Nat) (ok:Nat->Prop) (l:List (List Int)) (del:List Int->Bool) (a W:World) (b:Kd.N (Kd.slice 3 (Kd.int .i64)) 26 W base ok (.slice A l.length cap) l) (g:a.grownBy W row) (k:oa qx gx row a l del) (hex:∀j:Nat,j<l.length->del (aT l j)=false):
  Calls Tryz.prog 115 #[.slice A l.length cap,.func (.func 116) #[] #[.pointer (some ⟨qx,0,none⟩),.pointer (some ⟨gx,0,none⟩)]] W fun e w'=>e= .returned (.slice A l.length cap)∧Below W.heap.size W w':=by
 have n:Aside0 (Calls Tryz.prog 175 #[.slice A l.length cap,.func (.func 116) #[] #[.pointer (some ⟨qx,0,none⟩),.pointer (some ⟨gx,0,none⟩)]] W fun e w'=>e= .returned (.int .i64 (-1))∧Below W.heap.size W w'):=⟨(uM qx gx base row A cap ok l del a W b g k).mono (by
  rintro e w' ⟨r,rfl,⟨rfl,h⟩|⟨i,rfl,h1,m,p⟩,hb⟩
  ·exact⟨rfl,hb⟩
  ·rw[hex i h1] at m;cases m)⟩
 clear b g k hex;go_enter Tryz.func115,Tryz.ntmps115
 go_wp2_with (go_at_call 175;refine n.out.mono ?_;rintro e w1 ⟨rfl,hb⟩;have o:=Aside0.mk hb;clear hb)
 go_ret;exact⟨rfl,o.out⟩
def cO.l0:Nat->Int->List Int->Int->Int->List (S83)->Option (List Int)
 |0,_,_,_,_,_=>none
 |k+1,x1,x2,x3,a,b=>(eA.f k a b x1 x2).bind fun e=>(if e=true then(if 0<=x3 then(if x3<(x2.length:Int) then(cO.l0 k x1 (x2.set (x3:Int).toNat (wrap64 ((rd x2 x3)+1))) x3 a b) else(none)) else(none)) else(if 0<=x3 then(if x3<(x2.length:Int) then(some (x2.set (x3:Int).toNat (wrap64 ((rd x2 x3)-1)))) else(none)) else(none)))
def cO.f (k:Nat) (b:Int) (e:List (S83)) (g:Int) (l2:List Int) (a3:Int):Option (List Int):=(fw.f l2).bind fun a=>(if 0<=a3 then(if a3<(a.length:Int) then(cO.l0 k g (a.set (a3:Int).toNat (wrap64 ((rd a a3)+1))) a3 b e) else(none)) else(none))
theorem cO.bW:∀k,(∀a b e g i,ae (cO.l0 k a b e g i) (cO.l0 (k+1) a b e g i))
 |0=>fun _ _ _ _ _ r h=>by simp[cO.l0] at h
 |k+1=>by
  have j:=cO.bW k
  ·intro a b e g i
   unfold cO.l0;repeat' first
   |(with_reducible exact j _ _ _ _ _)
   |(with_reducible exact eA.mono _ _ _ _ _)
   |(with_reducible exact ae.refl _)
   |(with_reducible exact ae.none _)
   |(with_reducible refine ae.ite ?_ ?_)
   |(with_reducible refine ae.bind ?_ (fun _=>?_))
   |exact j _ _ _ _ _
   |exact eA.mono _ _ _ _ _
   |exact ae.none _
   |refine ae.ite ?_ ?_
   |refine ae.bind ?_ (fun _=>?_)
theorem cO.mono:∀a0 a a2 a3 a4 k,ae (cO.f k a0 a a2 a3 a4) (cO.f (k+1) a0 a a2 a3 a4):=by
 intro a0 a a2 a3 a4 k;have b:=cO.bW k;unfold cO.f;repeat' first
   |(with_reducible exact b _ _ _ _ _)
   |(with_reducible exact eA.mono _ _ _ _ _)
   |(with_reducible exact ae.refl _)
   |(with_reducible exact ae.none _)
   |(with_reducible refine ae.ite ?_ ?_)
   |(with_reducible refine ae.bind ?_ (fun _=>?_))
   |exact b _ _ _ _ _
   |exact eA.mono _ _ _ _ _
   |exact ae.none _
   |refine ae.ite ?_ ?_
   |refine ae.bind ?_ (fun _=>?_)
theorem cO.calls (k:Nat) (n:Int) (y:Option Addr) (z:Nat) (l:List (S83)) (s:Int) (A2:Option Addr) (c2:Nat) (l2:List Int) (a3:Int) (r:List Int) (w:World) (bf:Kd.C aK w y l.length l) (bg:l.length<=z) (bi:Kd.C (Kd.int .i64) w A2 l2.length l2) (bk:l2.length<=c2) (h:cO.f k n l s l2 a3=some r):
  Calls Tryz.prog 117 #[.agg #[.int .i64 n,.slice y l.length z],.int .i64 s,.slice A2 l2.length c2,.int .i64 a3] w fun e w'=>∃bn:Value,e= .returned (bn)∧Kd.R (Kd.int .i64) 3 w' w.heap.size (fun _=>True) bn r∧Below w.heap.size w w':=by
 have c':=Tryz.underlying24;have bo:=Aside0.mk bf;have bv:=Aside0.mk bg;clear bf bg;have cc:=Aside0.mk bi;have cd:=Aside0.mk bk;clear bi bk;have j:=Aside0.mk (Below.refl w.heap.size w);unfold cO.f at h;have H:=h;clear h;obtain⟨q,A5,H⟩:=zo H;by_cases E:0<=a3
 ·rw[if_pos E] at H
  have cf:=decide_eq_true E;clear E;by_cases F:a3<(q.length:Int)
  ·rw[if_pos F] at H
   have ch:=decide_eq_true F;clear F;obtain⟨ad,G⟩:∃I:List Int,I=(q.set (a3:Int).toNat (wrap64 ((rd q a3)+1))):=⟨_,rfl⟩;replace H:(cO.l0 k s ad a3 n l)=some r:=by first|(rw[G];with_reducible exact H)|(have o:=(Option.bind_some _ _).symm.trans H;rw[G];with_reducible exact o)|(have o:=(Option.bind_some _ _).symm.trans H;with_reducible exact o)|with_reducible exact H|(rw[G];exact H)|exact H
   have ci:=Aside0.mk G;clear G;have Q:=Aside0.mk H;clear H;go_enter Tryz.func117,Tryz.ntmps117
   go_wp2_with (first|((with_reducible refine aH (N:=4) rfl ?_);refine zX 4 #[.int .i64 n,.slice y l.length z] 24 ?_;intro cj i w9 bw hb;have g:=Aside0.mk (bw);have dk:=zG j i;have dl:=zG j i;replace j:=zS j hb;clear hb bw i)|((with_reducible refine ax (f:=57) rfl ?_);refine zL (some 10) Tryz.func57 #[.slice A2 l2.length c2] ?_;(with_reducible refine(fw.calls _ _ l2 q _ ?af ?ah A5.out).mono ?_);(case af=>exact Kd.al cc.out zB);(case ah=>exact cd.out);rintro e bx ⟨ds,rfl,b0,hb⟩;refine⟨_,rfl,?_⟩;have u:=Aside0.mk (Kd.aW b0 (a_ zB));replace g:=zb g hb;replace j:=zS j hb;(try clear hb);(try clear b0);obtain⟨dv,B,ck⟩:=Kd.aZ u.out;subst ck;have S:0<=(a3:Int):=of_decide_eq_true ‹_›;have T:a3<(q.length:Int):=of_decide_eq_true ‹_›;obtain⟨d0,cl,b1⟩:=Kd.bG (Kd.aA u.out).2.2 a3 S T;cases cl;replace S:=eq_true S;replace T:=eq_true T;have J:0<=(a3:Int):=of_decide_eq_true ‹_›;have K:(a3:Int)<((q.length:Int):Int):=of_decide_eq_true ‹_›;obtain⟨m,d1,b2,b3,co,d2,b4⟩:=Kd.fg u.out (by omega);(first|cases b2|(injection b2 with U cq cr;(first|subst U|(injection U with U;subst U));subst cr;clear cq));have ag:=Aside0.mk b3;have d3:=Aside0.mk b4;clear b3 co b4;(first|simp only[add_plain] at b1|skip);obtain⟨cs,d4⟩:=Kd.bJ 0 u.out (a3:Int) J K;replace J:=eq_true J;replace K:=eq_true K;obtain⟨d5,d6⟩:=Kd.bJ 0 u.out (a3:Int) (of_decide_eq_true ‹_›) (of_decide_eq_true ‹_›);have ak:=Kd.cZ u.out (a3:Int) (wrap64 ((rd q a3)+1)))|((with_reducible refine jz (t:=3) (p:=16) rfl ?_);refine jy (t:=3) (p:=16) (v:=?Fz) (w1:=(bx.setCell ⟨m,(a3:Int).toNat,none⟩ (.int .i64 (wrap64 ((rd q a3)+1))))) ?i ?L ?hn ?M ?_;(case L=>rfl);(case i=>rfl);(case hn=>rfl);(case M=>first|(go_simp;done)|(go_simp;rfl));intro am hw;have i:bx.grownBy am (some m):=(by rw[hw];exact ak.2);have x:Kd.R (Kd.int .i64) 3 am w.heap.size (fun _=>True) (.slice (some ⟨m,0,none⟩) q.length B) ad:=(by rw[hw,ci.out];exact ak.1);clear ak;replace g:=Aside0.mk (cI (zK g) i (Kd.dh u.out g.out (by decide)));replace u:=Aside0.mk (x);replace j:=Aside0.mk ((by rw[hw];exact ec (j.out) ag.out:Below w.heap.size w am));clear i hw x))
   go_loopg [] k (fun kq w'=>∃(b:List Int),Aside0 (cO.l0 kq s b a3 n l=some r)∧Aside0 (kq<=k)∧Aside0 (Kd.R (Kd.int .i64) 3 w' w.heap.size (fun _=>True) (.slice (some ⟨m,0,none⟩) q.length B) b)∧Aside0 (w'.heap[cj]? =some (.cells #[.int .i64 n,(.slice y l.length z)] 24 (0,0)))∧Aside0 (Below w.heap.size w w'))
   case atStart=>exact⟨(ad),Q,⟨Nat.le_refl _⟩,⟨zR u⟩,⟨zK g⟩,⟨zB⟩⟩
   case round=>
    clear Q;try clear c1
    try clear c2
    try clear p2
    try clear p3
    try clear q3
    try clear ea
    try clear c5
    try clear E
    try clear cf
    try clear p6
    try clear F
    try clear ch
    try clear J
    try clear K
    try clear eg
    try clear ek
    try clear el
    try clear b1
    try clear cs
    try clear S
    try clear J
    try clear T
    try clear K
    obtain⟨b,HA,b6,a,g,j⟩:=hrel;have D:=(Kd.aA a.out).1;rw[D] at a
    (try simp only[D])
    (try simp only[D] at g)
    cases gk with
    |zero=>exact absurd HA.out (by simp[cO.l0])
    |succ V=>
     have H:=HA.out;clear HA;simp only[cO.l0] at H;obtain⟨cv,b_,H⟩:=zo H;by_cases W:cv=true
     ·subst W
      replace H:=zi H;by_cases X:0<=a3
      ·rw[if_pos X] at H
       have em:=decide_eq_true X;clear X;by_cases Y:a3<(b.length:Int)
       ·rw[if_pos Y] at H
        have er:=decide_eq_true Y;clear Y;obtain⟨ap,O⟩:∃I:List Int,I=(b.set (a3:Int).toNat (wrap64 ((rd b a3)+1))):=⟨_,rfl⟩;replace H:(cO.l0 V s ap a3 n l)=some r:=by first|(rw[O];with_reducible exact H)|(have o:=(Option.bind_some _ _).symm.trans H;rw[O];with_reducible exact o)|(have o:=(Option.bind_some _ _).symm.trans H;with_reducible exact o)|with_reducible exact H|(rw[O];exact H)|exact H
        have cx:=Aside0.mk O;clear O;have Q:=Aside0.mk H;clear H;obtain⟨es,ev,ew,ex⟩:=au g;go_wp2_with (first|((with_reducible refine ax (f:=176) rfl ?_);refine zL (some 20) Tryz.func176 #[.agg #[.int .i64 n,.slice y l.length z],.int .i64 s,.slice (some ⟨m,0,none⟩) b.length B] ?_;(with_reducible refine(eA.calls V n _ _ l s _ _ b true _ ?af ?ah ?aD ?aE b_.out).mono ?_);(case af=>exact Kd.al bo.out zB);(case ah=>exact bv.out);(case aD=>exact zC (Kd.aA a.out).2.2);(case aE=>exact(Kd.aA a.out).2.1);rintro e b' ⟨rfl,hb⟩;refine⟨_,rfl,?_⟩;replace a:=aR a hb;replace g:=zb g hb;replace j:=zS j hb;(try clear hb);have ar:0<=(a3:Int):=of_decide_eq_true ‹_›;have av:a3<(b.length:Int):=of_decide_eq_true ‹_›;obtain⟨c0,c3,aB⟩:=Kd.bG (Kd.aA a.out).2.2 a3 ar av;obtain rfl:(⟨m,0,none⟩:Addr)=c0:=(by injection c3);(first|simp only[add_plain] at aB|simp only[gW] at aB|simp only[Addr.add,Nat.zero_add] at aB|skip);replace ar:=eq_true ar;replace av:=eq_true av;have aF:0<=(a3:Int):=of_decide_eq_true ‹_›;have aL:(a3:Int)<((b.length:Int):Int):=of_decide_eq_true ‹_›;obtain⟨ey,e0⟩:=Kd.bJ 0 a.out (a3:Int) aF aL;replace aF:=eq_true aF;replace aL:=eq_true aL;obtain⟨e1,e2⟩:=Kd.bJ 0 a.out (a3:Int) (of_decide_eq_true ‹_›) (of_decide_eq_true ‹_›);have aO:=Kd.cZ a.out (a3:Int) (wrap64 ((rd b a3)+1)))|((with_reducible refine jz (t:=3) (p:=26) rfl ?_);refine jy (t:=3) (p:=26) (v:=?IJ) (w1:=(b'.setCell ⟨m,(a3:Int).toNat,none⟩ (.int .i64 (wrap64 ((rd b a3)+1))))) ?i ?L ?hn ?M ?_;(case L=>rfl);(case i=>rfl);(case hn=>rfl);(case M=>first|(go_simp;done)|(go_simp;rfl));intro aP hw;have i:b'.grownBy aP (some m):=(by rw[hw];exact aO.2);have x:Kd.R (Kd.int .i64) 3 aP w.heap.size (fun _=>True) (.slice (some ⟨m,0,none⟩) b.length B) ap:=(by rw[hw,cx.out];exact aO.1);clear aO;replace g:=Aside0.mk (cI (zK g) i (Kd.dh a.out g.out (by decide)));replace a:=Aside0.mk (x);replace j:=Aside0.mk ((by rw[hw];exact ec (j.out) ag.out:Below w.heap.size w aP));clear i hw x))
        (try simp only[<-D])
        go_roundg V
        case measure=>have:=b6.out;omega
        case rel=>exact⟨(ap),Q,⟨by have:=b6.out;omega⟩,⟨by(try simp only[D]);(with_reducible repeat(first|apply Kd.aI|apply Kd.ba|apply Kd.a8));exact a.out⟩,⟨by(try simp only[D]);exact zK g⟩,⟨zB⟩⟩
       ·rw[if_neg Y] at H
        exact absurd H (by simp)
      ·rw[if_neg X] at H
       exact absurd H (by simp)
     ·replace W:=Bool.eq_false_iff.mpr W
      subst W;replace H:=zj H;by_cases Z:0<=a3
      ·rw[if_pos Z] at H
       have e3:=decide_eq_true Z;clear Z;by_cases aa:a3<(b.length:Int)
       ·rw[if_pos aa] at H
        have e4:=decide_eq_true aa;clear aa;obtain⟨ca,P⟩:∃I:List Int,I=(b.set (a3:Int).toNat (wrap64 ((rd b a3)-1))):=⟨_,rfl⟩;replace H:(some ca)=some r:=by first|(rw[P];with_reducible exact H)|(have o:=(Option.bind_some _ _).symm.trans H;rw[P];with_reducible exact o)|(have o:=(Option.bind_some _ _).symm.trans H;with_reducible exact o)|with_reducible exact H|(rw[P];exact H)|exact H
        have c4:=Aside0.mk P;clear P;obtain rfl:=Option.some.inj H;obtain⟨e5,e6,e_,e'⟩:=au g;go_wp2_with (first|((with_reducible refine ax (f:=176) rfl ?_);refine zL (some 20) Tryz.func176 #[.agg #[.int .i64 n,.slice y l.length z],.int .i64 s,.slice (some ⟨m,0,none⟩) b.length B] ?_;(with_reducible refine(eA.calls V n _ _ l s _ _ b false _ ?af ?ah ?aD ?aE b_.out).mono ?_);(case af=>exact Kd.al bo.out zB);(case ah=>exact bv.out);(case aD=>exact zC (Kd.aA a.out).2.2);(case aE=>exact(Kd.aA a.out).2.1);rintro e cb ⟨rfl,hb⟩;refine⟨_,rfl,?_⟩;replace a:=aR a hb;replace g:=zb g hb;replace j:=zS j hb;(try clear hb);have aS:0<=(a3:Int):=of_decide_eq_true ‹_›;have a0:a3<(b.length:Int):=of_decide_eq_true ‹_›;obtain⟨c8,c9,a2⟩:=Kd.bG (Kd.aA a.out).2.2 a3 aS a0;obtain rfl:(⟨m,0,none⟩:Addr)=c8:=(by injection c9);(first|simp only[add_plain] at a2|simp only[gW] at a2|simp only[Addr.add,Nat.zero_add] at a2|skip);replace aS:=eq_true aS;replace a0:=eq_true a0;have a4:0<=(a3:Int):=of_decide_eq_true ‹_›;have a5:(a3:Int)<((b.length:Int):Int):=of_decide_eq_true ‹_›;obtain⟨fb,fd⟩:=Kd.bJ 0 a.out (a3:Int) a4 a5;replace a4:=eq_true a4;replace a5:=eq_true a5;obtain⟨fn,fo⟩:=Kd.bJ 0 a.out (a3:Int) (of_decide_eq_true ‹_›) (of_decide_eq_true ‹_›);have a9:=Kd.cZ a.out (a3:Int) (wrap64 ((rd b a3)-1)))|((with_reducible refine jz (t:=3) (p:=32) rfl ?_);refine jy (t:=3) (p:=32) (v:=?IK) (w1:=(cb.setCell ⟨m,(a3:Int).toNat,none⟩ (.int .i64 (wrap64 ((rd b a3)-1))))) ?i ?L ?hn ?M ?_;(case L=>rfl);(case i=>rfl);(case hn=>rfl);(case M=>first|(go_simp;done)|(go_simp;rfl));intro be hw;have i:cb.grownBy be (some m):=(by rw[hw];exact a9.2);have x:Kd.R (Kd.int .i64) 3 be w.heap.size (fun _=>True) (.slice (some ⟨m,0,none⟩) b.length B) ca:=(by rw[hw,c4.out];exact a9.1);clear a9;replace g:=Aside0.mk (cI (zK g) i (Kd.dh a.out g.out (by decide)));replace a:=Aside0.mk (x);replace j:=Aside0.mk ((by rw[hw];exact ec (j.out) ag.out:Below w.heap.size w be));clear i hw x))
        go_ret;exact⟨_,zE,by(with_reducible repeat(first|apply Kd.aI|apply Kd.ba|apply Kd.a8));exact a.out,zB⟩
       ·rw[if_neg aa] at H
        exact absurd H (by simp)
      ·rw[if_neg Z] at H
       exact absurd H (by simp)
  ·rw[if_neg F] at H
   exact absurd H (by simp)
 ·rw[if_neg E] at H
  exact absurd H (by simp)
def eQ (x:List Int) (q:Int) (r:Nat->List Int) (k:Nat):Bool:=(List.range k).any fun v=>decide ((v:Int)≠q)&&decide (rd x v<rd (r v) v)
theorem oe (x:List Int) (q:Int) (r:Nat->List Int) (k:Nat):eQ x q r (k+1)=(eQ x q r k||(decide ((k:Int)≠q)&&decide (rd x k<rd (r k) k))):=by simp[eQ,List.range_succ,List.any_append]
theorem CW {x:List Int} {q:Int} {r:Nat->List Int} {k n:Nat} (hk:k<n) (a:(k:Int)≠q) (h:rd x k<rd (r k) k):eQ x q r n=true:=by
 unfold eQ;rw[List.any_eq_true];exact⟨k,List.mem_range.2 hk,by simp[a,h]⟩
theorem CX (K:Nat) (N:Int) (A0:Option Addr) (c0:Nat) (E:List S83) (q:Int) (qx gx:Nat) (A:Option Addr) (c:Nat) (x:List Int) (r:Nat->List Int) (W:World) (w:Kd.C aK W A0 E.length E) (J:E.length<=c0) (y:W.heap[gx]? =some (.cells #[.int .i64 N,.slice A0 E.length c0] 24 (0,0))) (z:W.heap[qx]? =some (.cells #[.int .i64 q] 3 (0,0)))
  (l:Kd.C (Kd.int .i64) W A x.length x) (L:x.length<=c) (B:∀v:Nat,v<x.length->(v:Int)≠q->cO.f K N E q x v=some (r v)∧v<(r v).length):
  Calls Tryz.prog 116 #[.slice A x.length c,.pointer (some ⟨qx,0,none⟩),.pointer (some ⟨gx,0,none⟩)] W fun e w'=>e= .returned (.bool (eQ x q r x.length))∧Below W.heap.size W w':=by
 have M:=Aside0.mk w;have D:=Aside0.mk y;have O:=Aside0.mk z;have P:=Aside0.mk l;have Q:=Aside0.mk B;have Z:x.length<=9223372036854775807:=Kd.lL l;clear w y z l B;go_enter Tryz.func116,Tryz.ntmps116
 go_wp2;go_loopw [10] (fun i wr=>∃k:Nat,k<=x.length∧i= .int .i64 k∧Aside0 (eQ x q r k=false)∧Aside0 (Below W.heap.size W wr)) (fun i _=>x.length- (intOf i).toNat)
 case atStart=>exact⟨0,by omega,rfl,⟨rfl⟩,⟨Below.refl _ _⟩⟩
 case round=>
  obtain⟨k,hk,rfl,m,a⟩:=hrel;have aa:wr.cell? ⟨qx,0,none⟩=some (.int .i64 q):=(ao (aG O.out a.out) 0).trans rfl;have ab:wr.cell? ⟨gx,0,none⟩=some (.int .i64 N):=(ao (aG D.out a.out) 0).trans rfl;have ag:wr.cell? ⟨gx,1,none⟩=some (.slice A0 E.length c0):=(ao (aG D.out a.out) 1).trans rfl;have hu:=Tryz.underlying24;by_cases F:k<x.length
  ·have hC:=Kd.al P.out a.out
   have R:=Aside0.mk hC;obtain⟨ad,rfl,S⟩:=Kd.bG hC k (by omega) (by omega);rw[Int.toNat_natCast] at S;have ak:(0:Int)<=(k:Int):=by omega
   have am:(k:Int)<(x.length:Int):=by omega
   clear hC;by_cases b:(k:Int)=q
   ·have o:=Aside0.mk (show eQ x q r (k+1)=false from by rw[oe,m.out];simp[b])
    have T:((k:Int)==q)=true:=by simpa using b
    have G:=Aside0.mk b;clear b;go_wp2;go_roundw
    case rel=>exact⟨k+1,by omega,by go_num,o,a⟩
    case measure=>exact(show x.length- ((k:Int)+1).toNat<x.length- ((k:Int)).toNat by omega)
   ·have T:((k:Int)==q)=false:=by simpa using b
    obtain⟨H,an⟩:=Q.out k F b;have I:=Aside0.mk (cO.calls K N A0 c0 E q (some ad) c x k (r k) wr (Kd.al M.out a.out) J R.out L H);have G:=Aside0.mk b;clear b H;by_cases p:rd x k<rd (r k) k
    ·have U:=Aside0.mk (CW (n:=x.length) F G.out p)
     have V:(k:Int)<((r k).length:Int):=by omega
     go_wp2_with (go_at_call 117;refine I.out.mono ?_;rintro e w1 ⟨v1,rfl,g,h⟩;obtain⟨X,cr,rfl⟩:=Kd.aZ g;obtain⟨-, -,j⟩:=Kd.aA g;obtain⟨Y,rfl,s⟩:=Kd.bG j k (by omega) (by omega);rw[Int.toNat_natCast] at s;have u:=Aside0.mk h;clear g h j)
     go_ret;exact⟨by rw[U.out];rfl,a.out.trans (u.out.mono a.out.size)⟩
    ·have o:=Aside0.mk (show eQ x q r (k+1)=false from by rw[oe,m.out];simp[p])
     have ap:¬rd (r k) k>rd x k:=p;have V:(k:Int)<((r k).length:Int):=by omega
     go_wp2_with (go_at_call 117;refine I.out.mono ?_;rintro e w1 ⟨v1,rfl,g,h⟩;obtain⟨X,cr,rfl⟩:=Kd.aZ g;obtain⟨-, -,j⟩:=Kd.aA g;obtain⟨Y,rfl,s⟩:=Kd.bG j k (by omega) (by omega);rw[Int.toNat_natCast] at s;have u:=Aside0.mk h;clear g h j)
     go_roundw
     case rel=>exact⟨k+1,by omega,by go_num,o,⟨a.out.trans (u.out.mono a.out.size)⟩⟩
     case measure=>exact(show x.length- ((k:Int)+1).toNat<x.length- ((k:Int)).toNat by omega)
  ·obtain rfl:k=x.length:=by omega
   go_wp2;go_ret;exact⟨by rw[m.out];rfl,a.out⟩
theorem CY (k:Nat) (N:Int) (A0:Option Addr) (c0:Nat) (E:List S83) (q:Int) (l:List (List Int)) (t:Int) (w:World) (g:Kd.C aK w A0 E.length E) (h:E.length<=c0) (hf:eP.f k N E q=some (l,t)) (a:t≠0):
  Calls Tryz.prog 56 #[.agg #[.int .i64 N,.slice A0 E.length c0],.int .i64 q] w fun e w'=>e= .returned (.tuple #[.slice none 0 0,.int .i64 t])∧Below w.heap.size w w':=by
 have hu:=Tryz.underlying24;have i:=Aside0.mk hf;have n:(t != 0)=true:=by simpa using a
 have b:=Aside0.mk (aw (heap_alloc_new w (.cells #[.int .i64 N,.slice A0 E.length c0] 24)) (.cells #[.int .i64 q] 3));have o:((w.alloc (.cells #[.int .i64 N,.slice A0 E.length c0] 24)).alloc (.cells #[.int .i64 q] 3)).cell? ⟨w.heap.size,0,none⟩=some (.int .i64 N):=(ao b.out 0).trans rfl;have p:((w.alloc (.cells #[.int .i64 N,.slice A0 E.length c0] 24)).alloc (.cells #[.int .i64 q] 3)).cell? ⟨w.heap.size,1,none⟩=some (.slice A0 E.length c0):=(ao b.out 1).trans rfl;clear hf a;go_enter Tryz.func56,Tryz.ntmps56
 go_wp2_with (go_at_call 114;refine(eP.calls k N A0 c0 E q l t _ (Kd.br (Kd.br g _) _) h i.out).mono ?_;rintro e w1 ⟨v,rfl,j,hb⟩;have m:=Aside0.mk (aU (aq (aq (Below.refl w.heap.size w) _) _) hb);clear j hb)
 go_ret2;exact⟨rfl,m.out⟩
theorem CZ (k K:Nat) (N:Int) (A0:Option Addr) (c0:Nat) (E:List S83) (q:Int) (l:List (List Int)) (r:List Int->Nat->List Int) (w:World) (F:Kd.C aK w A0 E.length E) (G:E.length<=c0) (hf:eP.f k N E q=some (l,0)) (H:∀x∈l,∀v:Nat,v<x.length->(v:Int)≠q->cO.f K N E q x v=some (r x v)∧v<(r x v).length):
  Calls Tryz.prog 56 #[.agg #[.int .i64 N,.slice A0 E.length c0],.int .i64 q] w fun e w'=>∃v,e= .returned (.tuple #[v,.int .i64 0])∧Kd.N (Kd.slice 3 (Kd.int .i64)) 26 w' w.heap.size (fun R=>(w.heap.size<=R)) v (l.filter fun x=> !eQ x q (r x) x.length)∧Below w.heap.size w w':=by
 have hu:=Tryz.underlying24;have S:=Aside0.mk hf;have i:=Aside0.mk (aw (heap_alloc_new w (.cells #[.int .i64 N,.slice A0 E.length c0] 24)) (.cells #[.int .i64 q] 3));have T:=Aside0.mk (heap_alloc2_new w (.cells #[.int .i64 N,.slice A0 E.length c0] 24) (.cells #[.int .i64 q] 3));have ag:((w.alloc (.cells #[.int .i64 N,.slice A0 E.length c0] 24)).alloc (.cells #[.int .i64 q] 3)).cell? ⟨w.heap.size,0,none⟩=some (.int .i64 N):=(ao i.out 0).trans rfl;have ak:((w.alloc (.cells #[.int .i64 N,.slice A0 E.length c0] 24)).alloc (.cells #[.int .i64 q] 3)).cell? ⟨w.heap.size,1,none⟩=some (.slice A0 E.length c0):=(ao i.out 1).trans rfl;have U:=Aside0.mk H;clear hf H;go_enter Tryz.func56,Tryz.ntmps56
 go_wp2_with (go_at_call 114;refine(eP.calls k N A0 c0 E q l 0 _ (Kd.br (Kd.br F _) _) G S.out).mono ?_;rintro e w1 ⟨v,rfl,n,hb⟩;obtain⟨I,o,rfl⟩:=Kd.lT n;have a:=Aside0.mk (aU (aq (aq (Below.refl w.heap.size w) _) _) hb);have J:=Aside0.mk (aG i.out hb);have L:=Aside0.mk (aG T.out hb);have b:=Aside0.mk n;clear n hb)
 have p:w.heap.size+2=((w.alloc (.cells #[.int .i64 N,.slice A0 E.length c0] 24)).alloc (.cells #[.int .i64 q] 3)).heap.size:=by simp
 rw[<-p] at b;have M:Aside0 (∀row,(∀g,row=some g->w.heap.size+2<=g)->oa (w.heap.size+1) w.heap.size row w1 l (fun x=>eQ x q (r x) x.length)):=⟨fun row s W' A c x u V W X=>by
  have Y:Below w.heap.size w W':=ju a.out row a.out.size u (fun g e=>by have:=s g e;omega);refine CX K N A0 c0 E q (w.heap.size+1) w.heap.size A c x (r x) W' (Kd.al F Y) G ((u.block _ (ay J.out) (fun e=>by have:=s _ e.symm;omega)).trans J.out) ((u.block _ (ay L.out) (fun e=>by have:=s _ e.symm;omega)).trans L.out) X W (U.out x V)⟩
 have aQ:=a.out.size;by_cases hex:∃j:Nat,j<l.length∧(fun x=>eQ x q (r x) x.length) (aT l j)=true
 ·obtain⟨g0,cap,Z,am, -, -⟩:=Kd.yp b.out (by obtain⟨j,O,_⟩:=hex;omega)
  injection Z with aa an ab
  subst aa ab;refine(CU (w.heap.size+1) w.heap.size (w.heap.size+2) g0 o (fun k=>w.heap.size+2<=k) l _ w1 w1 b.out ⟨rfl,rfl,rfl,Nat.le_refl _,fun _ _ _=>rfl⟩ (M.out (some g0) (fun g e=>by injection e with e;omega)) hex).mono ?_;rintro e w2 ⟨m,rfl,hm,P,Q⟩;have y:=Aside0.mk (Kd.en (Kd.lR (base':=w.heap.size) P (by omega)) (ok':=fun k=>w.heap.size<=k) (fun k hk=>by omega));have z:=Aside0.mk (ju a.out (some g0) a.out.size Q (fun k e=>by injection e with e;omega));clear hm P Q hex p;go_wp2;go_ret2;exact⟨_,rfl,y.out,z.out⟩
 ·have B:∀j:Nat,j<l.length->(fun x=>eQ x q (r x) x.length) (aT l j)=false:=fun j O=>by
   cases h:(fun x=>eQ x q (r x) x.length) (aT l j) with
   |false=>rfl
   |true=>exact absurd ⟨j,O,h⟩ hex
  have ad:=Aside0.mk (filter_none (l:=l) (del:=fun x=>eQ x q (r x) x.length) B);refine(CV (w.heap.size+1) w.heap.size (w.heap.size+2) none I o (fun k=>w.heap.size+2<=k) l _ w1 w1 b.out ⟨rfl,rfl,rfl,Nat.le_refl _,fun _ _ _=>rfl⟩ (M.out none (fun g e=>by cases e)) B).mono ?_;rintro e w2 ⟨rfl,D⟩;have y:=Aside0.mk (Kd.fW (Kd.en (Kd.lR (base':=w.heap.size) b.out (by omega)) (ok':=fun k=>w.heap.size<=k) (fun k hk=>by omega)) D);have z:=Aside0.mk (a.out.trans (D.mono a.out.size));clear D hex B p;go_wp2;go_ret2;exact⟨.slice I l.length o,rfl,by rw[ad.out];exact y.out,z.out⟩
def mA (k:Nat) (N:Int) (E:List S83) (q:Int) (l:List (List Int)):Bool:=l.all fun c=>(List.range c.length).all fun v=>decide ((v:Int)=q)||match cO.f k N E q c v with|some r=>decide (v<r.length)|none=>false
def jm (k:Nat) (N:Int) (E:List S83) (q:Int) (c:List Int) (v:Nat):List Int:=(cO.f k N E q c v).getD []
theorem uO {k:Nat} {N:Int} {E:List S83} {q:Int} {l:List (List Int)} (h:mA k N E q l=true):∀x∈l,∀v:Nat,v<x.length->(v:Int)≠q->cO.f k N E q x v=some (jm k N E q x v)∧v<(jm k N E q x v).length:=by
 intro x b v e g;have h1:=List.all_eq_true.1 (List.all_eq_true.1 h x b) v (List.mem_range.2 e);rw[decide_eq_false g,Bool.false_or] at h1;unfold jm;cases a:cO.f k N E q x v with
 |none=>rw[a] at h1;cases h1
 |some r=>rw[a] at h1;exact⟨rfl,by simpa using h1⟩
def fl.f (k:Nat) (N:Int) (E:List S83) (q:Int):Option (List (List Int)×Int):=
 (eP.f k N E q).bind fun t=>if t.2=0 then(if mA k N E q t.1=true then some (t.1.filter fun x=> !eQ x q (jm k N E q x) x.length,0) else none) else some ([],t.2)
theorem uP {x:List Int} {q:Int} {r a:Nat->List Int}:∀k,(∀v:Nat,v<k->(v:Int)≠q->r v=a v)->eQ x q r k=eQ x q a k
 |0,_=>rfl
 |k+1,h=>by
  rw[oe,oe,uP k (fun v e=>h v (by omega))];by_cases b:(k:Int)=q
  ·simp[b]
  ·rw[h k (by omega) b]
theorem fl.mono:∀h i j k,ae (fl.f k h i j) (fl.f (k+1) h i j):=by
 intro N E q k;unfold fl.f;refine ae.bind (eP.mono _ _ _ _) (fun t=>?_);refine ae.ite ?_ (ae.refl _);intro r g;by_cases hk:mA k N E q t.1=true
 ·rw[if_pos hk] at g
  have l:=uO hk;have m:∀x∈t.1,∀v:Nat,v<x.length->(v:Int)≠q->cO.f (k+1) N E q x v=some (jm k N E q x v):=fun x e v a b=>cO.mono _ _ _ _ _ _ _ (l x e v a b).1
  have n:∀x∈t.1,∀v:Nat,v<x.length->(v:Int)≠q->jm k N E q x v=jm (k+1) N E q x v:=fun x e v a b=>by
   have h1:=m x e v a b;generalize jm k N E q x v=y at h1;unfold jm;rw[h1];rfl
  have o:mA (k+1) N E q t.1=true:=by
   refine List.all_eq_true.2 fun x e=>List.all_eq_true.2 fun v a=>?_
   have a:=List.mem_range.1 a;by_cases b:(v:Int)=q
   ·simp[b]
   ·rw[m x e v a b]
    simp[(l x e v a b).2]
  rw[if_pos o,<-g];congr 2
  refine List.filter_congr fun x e=>?_
  rw[uP x.length (fun v a b=>(n x e v a b).symm)]
 ·rw[if_neg hk] at g;cases g
theorem fl.calls (k:Nat) (b:Int) (i:Option Addr) (j:Nat) (a:List (S83)) (g:Int) (o:List (List Int)) (p:Int) (w:World) (q:Kd.C aK w i a.length a) (r:a.length<=j) (h:fl.f k b a g=some (o,p)):
  Calls Tryz.prog 56 #[.agg #[.int .i64 b,.slice i a.length j],.int .i64 g] w fun e w'=>∃s:Value,e= .returned (.tuple #[s,.int .i64 p])∧Kd.N (Kd.slice 3 (Kd.int .i64)) 26 w' w.heap.size (fun v=>(w.heap.size<=v)) s o∧Below w.heap.size w w':=by
 unfold fl.f at h;obtain⟨⟨l,t⟩,u,H⟩:=Option.bind_eq_some_iff.mp h;simp only at H;by_cases m:t=0
 ·subst m
  rw[if_pos rfl] at H;by_cases n:mA k b a g l=true
  ·rw[if_pos n] at H
   simp only[Option.some.injEq,Prod.mk.injEq] at H;obtain⟨rfl,rfl⟩:=H;exact CZ k k b i j a g l _ w q r u (uO n)
  ·rw[if_neg n] at H;cases H
 ·rw[if_neg m] at H
  simp only[Option.some.injEq,Prod.mk.injEq] at H;obtain⟨rfl,rfl⟩:=H;refine(CY k b i j a g l t w q r u m).mono ?_;rintro e w' ⟨rfl,hb⟩;exact⟨_,rfl,Kd.fV _ _ _ _ _,hb⟩
def kn.f (a0:Int):Option (Bool):=if a0>=(-1048576) then(some (decide (a0<=1048576))) else(some false)
theorem kn.calls (a0:Int) (r:Bool) (w:World) (h:kn.f a0=some r):
  Calls Tryz.prog 96 #[.int .i64 a0] w fun e w'=>e= .returned (.bool r)∧az w w':=by
 have H:(if a0>=(-1048576) then(some (decide (a0<=1048576))) else(some false))=some r:=h;clear h;by_cases c2:a0>=(-1048576)
 ·rw[if_pos c2] at H
  have a:=decide_eq_true c2;clear c2;obtain rfl:=Option.some.inj H;go_enter Tryz.func96,Tryz.ntmps96
  go_wp2;go_ret;exact⟨zT,by repeat(first|exact az.refl _|apply az.step)⟩
 ·rw[if_neg c2] at H
  have a:=decide_eq_false c2;clear c2;obtain rfl:=Option.some.inj H;go_enter Tryz.func96,Tryz.ntmps96
  go_wp2;go_ret;exact⟨zT,by repeat(first|exact az.refl _|apply az.step)⟩
mutual
def cU.j0:Nat->List Int->Int->Bool->Option (Int)
 |0,_,_,_=>none
 |k+1,a,x1,b=>if b=true then(some 2) else(if(a.length:Int)=x1 then(cU.l0 k a x1 0) else(some 8))
def cU.l0:Nat->List Int->Int->Int->Option (Int)
 |0,_,_,_=>none
 |k+1,b,x1,a=>if a<x1 then(if 0<=a then(if a<(b.length:Int) then((kn.f (rd b a)).bind fun t103=>(if t103=true then(cU.l0 k b x1 (wrap64 (a+1))) else(some 2))) else(none)) else(none)) else(some 0)
end
def cU.f (k:Nat) (l0:List Int) (a:Int):Option (Int):=if a<1 then(cU.j0 k l0 a true) else(cU.j0 k l0 a (decide (a>12)))
theorem cU.calls (k:Nat) (A0:Option Addr) (c0:Nat) (l0:List Int) (b:Int) (r:Int) (w:World) (B:Kd.C (Kd.int .i64) w A0 l0.length l0) (D:l0.length<=c0) (h:cU.f k l0 b=some r):
  Calls Tryz.prog 42 #[.slice A0 l0.length c0,.int .i64 b] w fun e w'=>e= .returned (.int .i64 r)∧az w w':=by
 have E:=Aside0.mk B;have S:=Aside0.mk D;clear B D;unfold cU.f at h;have H:=h;clear h;have y:=Aside0.mk H;clear H;go_enter Tryz.func42,Tryz.ntmps42
 go_upto_region 1 with (fail)
 go_cut [11] (fun v11 wc=>∃(i:Nat) (s:Bool),v11= .bool s∧Aside0 (cU.j0 i l0 b s=some r)∧Aside0 (i<=k)∧az w wc)
 case first=>
  have H:=y.out;clear y;by_cases c4:b<1
  ·rw[if_pos c4] at H
   have j:=decide_eq_true c4;clear c4
   (first|rw[j]|(simp only[bd,bh];rw[j])|skip)
   have g:=Aside0.mk H;clear H;go_wp2;go_meet
   case rel=>exact⟨_,(true),zT,g,⟨by first|omega|exact Nat.le_refl _⟩,by repeat(first|exact az.refl _|apply az.step)⟩
  ·rw[if_neg c4] at H
   have j:=decide_eq_false c4;clear c4
   (first|rw[j]|(simp only[bd,bh];rw[j])|skip)
   have g:=Aside0.mk H;clear H;go_wp2;go_meet
   case rel=>exact⟨_,(decide (b>12)),zT,g,⟨by first|omega|exact Nat.le_refl _⟩,by repeat(first|exact az.refl _|apply az.step)⟩
 case rest=>
  clear y;try clear F
  try clear c4
  try clear j
  obtain⟨i,s,rfl,l,G,⟨T,rfl⟩⟩:=hcut;cases i with
  |zero=>exact absurd l.out (by simp[cU.j0])
  |succ I=>
   have H:=l.out;clear l;simp only[cU.j0] at H;by_cases q:s=true
   ·subst q
    replace H:=zi H;obtain rfl:=Option.some.inj H;go_wp2;go_ret;exact⟨zT,by repeat(first|exact az.refl _|apply az.step)⟩
   ·replace q:=Bool.eq_false_iff.mpr q
    subst q;replace H:=zj H;by_cases o:(l0.length:Int)=b
    ·rw[if_pos o] at H
     obtain⟨J,K⟩:=bt o;clear o;have g:=Aside0.mk H;clear H;go_wp2;go_loopg [5] I (fun i v5 w'=>∃(a:Int),v5= .int .i64 a∧Aside0 (cU.l0 i l0 b a=some r)∧Aside0 (i<=I)∧az w w')
     case atStart=>exact⟨(0),zT,g,⟨Nat.le_refl _⟩,by repeat(first|exact az.refl _|apply az.step)⟩
     case round=>
      clear g;try clear c2
      try clear F
      try clear c4
      try clear j
      try clear q
      try clear o
      try clear J
      try clear K
      try clear F
      obtain⟨a,rfl,l,L,⟨m2,rfl⟩⟩:=hrel;cases gk with
      |zero=>exact absurd l.out (by simp[cU.l0])
      |succ N=>
       have H:=l.out;clear l;simp only[cU.l0] at H;by_cases p:a<b
       ·rw[if_pos p] at H
        have O:=decide_eq_true p;clear p;by_cases u:0<=a
        ·rw[if_pos u] at H
         have U:=decide_eq_true u;clear u;by_cases v:a<(l0.length:Int)
         ·rw[if_pos v] at H
          have V:=decide_eq_true v;clear v;obtain⟨t103,M,H⟩:=zo H;by_cases x:t103=true
          ·subst x
           replace H:=zi H;have g:=Aside0.mk H;clear H;have m:0<=(a:Int):=of_decide_eq_true ‹_›;have n:a<(l0.length:Int):=of_decide_eq_true ‹_›;obtain⟨P,z,Q⟩:=Kd.bG E.out a m n;cases z;replace m:=eq_true m;replace n:=eq_true n;go_wp2_with (first|((with_reducible refine ax (f:=96) rfl ?_);refine zL (some 25) Tryz.func96 #[.int .i64 (rd l0 a)] ?_;(with_reducible refine(kn.calls (rd l0 a) true _ M.out).mono ?_);rintro e w' ⟨rfl,⟨R,rfl⟩⟩;refine⟨_,rfl,?_⟩))
           go_roundg N
           case measure=>have:=G.out;have:=L.out;omega
           case rel=>exact⟨(wrap64 (a+1)),zT,g,⟨by have:=G.out;have:=L.out;omega⟩,by repeat(first|exact az.refl _|apply az.step)⟩
          ·replace x:=Bool.eq_false_iff.mpr x
           subst x;replace H:=zj H;obtain rfl:=Option.some.inj H;have m:0<=(a:Int):=of_decide_eq_true ‹_›;have n:a<(l0.length:Int):=of_decide_eq_true ‹_›;obtain⟨P,z,Q⟩:=Kd.bG E.out a m n;cases z;replace m:=eq_true m;replace n:=eq_true n;go_wp2_with (first|((with_reducible refine ax (f:=96) rfl ?_);refine zL (some 25) Tryz.func96 #[.int .i64 (rd l0 a)] ?_;(with_reducible refine(kn.calls (rd l0 a) false _ M.out).mono ?_);rintro e w' ⟨rfl,⟨R,rfl⟩⟩;refine⟨_,rfl,?_⟩))
           go_ret;exact⟨zT,by repeat(first|exact az.refl _|apply az.step)⟩
         ·rw[if_neg v] at H
          exact absurd H (by simp)
        ·rw[if_neg u] at H
         exact absurd H (by simp)
       ·rw[if_neg p] at H
        have O:=decide_eq_false p;clear p;obtain rfl:=Option.some.inj H;go_wp2;go_ret;exact⟨zT,by repeat(first|exact az.refl _|apply az.step)⟩
    ·rw[if_neg o] at H
     obtain⟨J,K⟩:=bu o;obtain rfl:=Option.some.inj H;go_wp2;go_ret;exact⟨zT,by repeat(first|exact az.refl _|apply az.step)⟩
theorem bm.C0 {N:Int} {E:List S83} (h:bm N E) (a:E.length<=40):eF E=true:=by
 unfold eF;rw[decide_eq_true a,Bool.true_and];refine List.all_eq_true.2 fun x b=>?_
 have:=h.ok x b;simp[bQ] at this⊢;omega
theorem uQ {l:List Int} {i:Nat} (h:i<l.length):l.drop i=rd l i::l.drop (i+1):=by
 rw[List.drop_eq_getElem_cons h];simp[rd,List.getD_eq_getElem?_getD,List.getElem?_eq_getElem h]
end Go.Proofs.YtffdiakgjakngaaGreat.P
namespace Go.Proofs.YtffdiakgjakngaaGreat.P
open Go.RowKit Go.Proofs.YtffdiakgjakngaaGreatW.PrintWords Go.Proofs.YtffdiakgjakngaaGreatW.PrintLast Go.Proofs.YtffdiakgjakngaaGreatW.PrintMore
set_option linter.unusedVariables false
set_option linter.unusedSimpArgs false
def fz:List S83->Int
 |[]=>0
 |x::E=>x.f2+fz E
theorem uR:∀(A B:List S83),fz (A++B)=fz A+fz B
 |[],B=>by simp[fz]
 |x::A,B=>by rw[List.cons_append,fz,fz,uR A B];omega
theorem qw {N:Int} {E:List S83} (a:bm N E):∀k,k<=E.length->((cA E k:Nat):Int)=fz (E.take k)
 |0,_=>rfl
 |k+1,hk=>by
  have e:ai E k=E[k]:=by simp[ai,List.getD_eq_getElem?_getD,List.getElem?_eq_getElem (by omega:k<E.length)]
  have:=a.ok E[k] (List.getElem_mem _);simp[bQ] at this;rw[List.take_succ_eq_append_getElem (by omega),uR,<-qw a k (by omega),cA,e];simp only[fz];omega
structure Small (n q:Nat) (E:List S83):Prop where
 right:bm n E
 conn:e7 n E
 len:E.length<=40
 n1:1<=n
 n5:n<=5
 q:q<n
 size:cA E E.length<=8
namespace Small
variable {n q:Nat} {E:List S83}
end Small
end Go.Proofs.YtffdiakgjakngaaGreat.P
namespace Go.Proofs.YtffdiakgjakngaaGreat.P
open Go.RowKit Go.Proofs.YtffdiakgjakngaaGreatW.PrintWords Go.Proofs.YtffdiakgjakngaaGreatW.PrintLast Go.Proofs.YtffdiakgjakngaaGreatW.PrintMore
set_option linter.unusedVariables false
set_option linter.unusedSimpArgs false
namespace Small
variable {n q:Nat} {E:List S83}
end Small
end Go.Proofs.YtffdiakgjakngaaGreat.P
namespace Go.Proofs.YtffdiakgjakngaaGreat.P
open Go.RowKit Go.Proofs.YtffdiakgjakngaaGreatW.PrintWords Go.Proofs.YtffdiakgjakngaaGreatW.PrintLast Go.Proofs.YtffdiakgjakngaaGreatW.PrintMore
set_option linter.unusedVariables false
set_option linter.unusedSimpArgs false
def oh (x:Int):Bool:=decide (-1048576<=x)&&decide (x<=1048576)
def iN:List Int->Int
 |[]=>0
 |x::l=>if oh x=true then iN l else 2
theorem C1 (x:Int):kn.f x=some (oh x):=by
 unfold kn.f oh;by_cases h:x>= -1048576
 ·rw[if_pos h,decide_eq_true (show -1048576<=x from h),Bool.true_and]
 ·rw[if_neg h,decide_eq_false (show ¬ -1048576<=x from h),Bool.false_and]
theorem uS (c:List Int) (a:c.length<=1000):∀(m i:Nat),i+m=c.length->Ev (fun k=>cU.l0 k c c.length i) (iN (c.drop i))
 |0,i,hi=>by
  refine Ev.of_succ ?_;simp only[cU.l0,if_neg (show ¬(i:Int)<c.length by omega),List.drop_eq_nil_of_le (show c.length<=i by omega),iN];exact Ev.const _
 |m+1,i,hi=>by
  refine Ev.of_succ ?_;simp only[cU.l0,if_pos (show (i:Int)<c.length by omega),if_pos (show (0:Int)<=i by omega),C1,Option.bind_some,dU (show i<=1000000 by omega)];rw[uQ (by omega),iN];by_cases h:oh (rd c i)=true
  ·simp only[if_pos h];exact uS c a m (i+1) (by omega)
  ·simp only[if_neg h];exact Ev.const _
theorem mB (c:List Int) (N:Int) (a:1<=N∧N<=12):Ev (fun k=>cU.f k c N) (if(c.length:Int)=N then iN c else 8):=by
 unfold cU.f;simp only[if_neg (show ¬N<1 by omega)];refine Ev.of_succ ?_;simp only[cU.j0,decide_eq_false (show ¬N>12 by omega),Bool.false_eq_true,if_false];by_cases h:(c.length:Int)=N
 ·simp only[if_pos h]
  subst h;exact uS c (by omega) c.length 0 (by omega)
 ·simp only[if_neg h];exact Ev.const _
end Go.Proofs.YtffdiakgjakngaaGreat.P
namespace Go.Proofs.YtffdiakgjakngaaGreat.P
open Go.RowKit Go.Proofs.YtffdiakgjakngaaGreatW.PrintWords Go.Proofs.YtffdiakgjakngaaGreatW.PrintLast Go.Proofs.YtffdiakgjakngaaGreatW.PrintMore
set_option linter.unusedVariables false
set_option linter.unusedSimpArgs false
namespace Small
variable {n q:Nat} {E:List S83}
end Small
end Go.Proofs.YtffdiakgjakngaaGreat.P
namespace Go.Proofs.YtffdiakgjakngaaGreat.P
open Go.RowKit Go.Proofs.YtffdiakgjakngaaGreatW.PrintWords Go.Proofs.YtffdiakgjakngaaGreatW.PrintLast Go.Proofs.YtffdiakgjakngaaGreatW.PrintMore
set_option linter.unusedVariables false
set_option linter.unusedSimpArgs false
namespace Small
variable {n q:Nat} {E:List S83}
end Small
end Go.Proofs.YtffdiakgjakngaaGreat.P
namespace Go.Proofs.YtffdiakgjakngaaGreat.P
open Go.RowKit Go.Proofs.YtffdiakgjakngaaGreatW.PrintWords Go.Proofs.YtffdiakgjakngaaGreatW.PrintLast Go.Proofs.YtffdiakgjakngaaGreatW.PrintMore
set_option linter.unusedVariables false
set_option linter.unusedSimpArgs false
end Go.Proofs.YtffdiakgjakngaaGreat.P
namespace Go.Proofs.YtffdiakgjakngaaGreat.P
open Go.RowKit Go.Proofs.YtffdiakgjakngaaGreatW.PrintWords Go.Proofs.YtffdiakgjakngaaGreatW.PrintLast Go.Proofs.YtffdiakgjakngaaGreatW.PrintMore
set_option linter.unusedVariables false
set_option linter.unusedSimpArgs false
namespace Small
variable {n q:Nat} {E:List S83}
end Small
def gD.f (k:Nat) (a:Int) (b:List (S83)):Option (Int):=(cR.f k a b).bind fun t149=>(if t149=0 then((kY.f k a b).bind fun t150=>(if t150=true then(some 0) else(some 13))) else(some t149))
theorem gD.calls (k:Nat) (i:Int) (l:Option Addr) (m:Nat) (b:List (S83)) (r:Int) (w:World) (u:Kd.C aK w l b.length b) (v:b.length<=m) (h:gD.f k i b=some r):
  Calls Tryz.prog 48 #[.agg #[.int .i64 i,.slice l b.length m]] w fun e w'=>e= .returned (.int .i64 r)∧Below w.heap.size w w':=by
 have F:=Tryz.underlying24;have o:=Aside0.mk u;have p:=Aside0.mk v;clear u v;have a:=Aside0.mk (Below.refl w.heap.size w);unfold gD.f at h;have H:=h;clear h;obtain⟨t149,s,H⟩:=zo H;by_cases c3:t149=0
 ·rw[if_pos c3] at H
  obtain⟨D,E⟩:=bt c3;clear c3;obtain⟨t150,x,H⟩:=zo H;by_cases q:t150=true
  ·subst q
   replace H:=zi H;obtain rfl:=Option.some.inj H;go_enter Tryz.func48,Tryz.ntmps48
   go_wp2_with (first|((with_reducible refine aH (N:=1) rfl ?_);refine zX 1 #[.int .i64 i,.slice l b.length m] 24 ?_;intro y j G n hb;have g:=Aside0.mk (n);have z:=zG a j;have B:=zG a j;replace a:=zS a hb;clear hb n j;obtain⟨I,J,K,L⟩:=au g)|((with_reducible refine ax (f:=103) rfl ?_);refine zL (some 5) Tryz.func103 #[.agg #[.int .i64 i,.slice l b.length m]] ?_;(with_reducible refine(cR.calls k i _ _ b t149 _ ?af ?ah s.out).mono ?_);(case af=>exact Kd.al o.out zB);(case ah=>exact p.out);rintro e M ⟨rfl,hb⟩;refine⟨_,rfl,?_⟩;replace g:=zb g hb;replace a:=zS a hb;(try clear hb);obtain⟨O,P,Q,R⟩:=au g)|((with_reducible refine ax (f:=104) rfl ?_);refine zL (some 10) Tryz.func104 #[.agg #[.int .i64 i,.slice l b.length m]] ?_;(with_reducible refine(kY.calls k i _ _ b true _ ?af ?ah x.out).mono ?_);(case af=>exact Kd.al o.out zB);(case ah=>exact p.out);rintro e S ⟨rfl,hb⟩;refine⟨_,rfl,?_⟩;replace g:=zb g hb;replace a:=zS a hb;(try clear hb)))
   go_ret;exact⟨zE,zB⟩
  ·replace q:=Bool.eq_false_iff.mpr q
   subst q;replace H:=zj H;obtain rfl:=Option.some.inj H;go_enter Tryz.func48,Tryz.ntmps48
   go_wp2_with (first|((with_reducible refine aH (N:=1) rfl ?_);refine zX 1 #[.int .i64 i,.slice l b.length m] 24 ?_;intro y j iy n hb;have g:=Aside0.mk (n);have z:=zG a j;have B:=zG a j;replace a:=zS a hb;clear hb n j;obtain⟨T,U,V,W⟩:=au g)|((with_reducible refine ax (f:=103) rfl ?_);refine zL (some 5) Tryz.func103 #[.agg #[.int .i64 i,.slice l b.length m]] ?_;(with_reducible refine(cR.calls k i _ _ b t149 _ ?af ?ah s.out).mono ?_);(case af=>exact Kd.al o.out zB);(case ah=>exact p.out);rintro e X ⟨rfl,hb⟩;refine⟨_,rfl,?_⟩;replace g:=zb g hb;replace a:=zS a hb;(try clear hb);obtain⟨Y,Z,aa,ab⟩:=au g)|((with_reducible refine ax (f:=104) rfl ?_);refine zL (some 10) Tryz.func104 #[.agg #[.int .i64 i,.slice l b.length m]] ?_;(with_reducible refine(kY.calls k i _ _ b false _ ?af ?ah x.out).mono ?_);(case af=>exact Kd.al o.out zB);(case ah=>exact p.out);rintro e ad ⟨rfl,hb⟩;refine⟨_,rfl,?_⟩;replace g:=zb g hb;replace a:=zS a hb;(try clear hb)))
   go_ret;exact⟨zE,zB⟩
 ·rw[if_neg c3] at H
  obtain⟨D,E⟩:=bu c3;obtain rfl:=Option.some.inj H;go_enter Tryz.func48,Tryz.ntmps48
  go_wp2_with (first|((with_reducible refine aH (N:=1) rfl ?_);refine zX 1 #[.int .i64 i,.slice l b.length m] 24 ?_;intro y j ag n hb;have g:=Aside0.mk (n);have z:=zG a j;have B:=zG a j;replace a:=zS a hb;clear hb n j;obtain⟨ak,am,an,ap⟩:=au g)|((with_reducible refine ax (f:=103) rfl ?_);refine zL (some 5) Tryz.func103 #[.agg #[.int .i64 i,.slice l b.length m]] ?_;(with_reducible refine(cR.calls k i _ _ b t149 _ ?af ?ah s.out).mono ?_);(case af=>exact Kd.al o.out zB);(case ah=>exact p.out);rintro e ar ⟨rfl,hb⟩;refine⟨_,rfl,?_⟩;replace g:=zb g hb;replace a:=zS a hb;(try clear hb)))
  go_ret;exact⟨zE,zB⟩
def gP.f (k:Nat) (a:Int) (b:List (S83)) (l1:List Int):Option (Int):=(gD.f k a b).bind fun t152=>(if t152=0 then((cU.f k l1 a).bind fun t153=>(some t153)) else(some t152))
theorem gP.calls (k:Nat) (g:Int) (l:Option Addr) (m:Nat) (b:List (S83)) (o:Option Addr) (c1:Nat) (l1:List Int) (r:Int) (w:World) (p:Kd.C aK w l b.length b) (q:b.length<=m) (s:Kd.C (Kd.int .i64) w o l1.length l1) (u:l1.length<=c1) (h:gP.f k g b l1=some r):
  Calls Tryz.prog 80 #[.agg #[.int .i64 g,.slice l b.length m],.slice o l1.length c1] w fun e w'=>e= .returned (.int .i64 r)∧Below w.heap.size w w':=by
 have K:=Tryz.underlying24;have v:=Aside0.mk p;have x:=Aside0.mk q;clear p q;have z:=Aside0.mk s;have B:=Aside0.mk u;clear s u;have a:=Aside0.mk (Below.refl w.heap.size w);unfold gP.f at h;have H:=h;clear h;obtain⟨t152,y,H⟩:=zo H;by_cases c4:t152=0
 ·rw[if_pos c4] at H
  obtain⟨D,E⟩:=bt c4;clear c4;obtain⟨t153,F,H⟩:=zo H;obtain rfl:=Option.some.inj H;go_enter Tryz.func80,Tryz.ntmps80
  go_wp2_with (first|((with_reducible refine aH (N:=2) rfl ?_);refine zX 2 #[.int .i64 g,.slice l b.length m] 24 ?_;intro G j L n hb;have i:=Aside0.mk (n);have I:=zG a j;have J:=zG a j;replace a:=zS a hb;clear hb n j;obtain⟨M,O,P,Q⟩:=au i)|((with_reducible refine ax (f:=48) rfl ?_);refine zL (some 7) Tryz.func48 #[.agg #[.int .i64 g,.slice l b.length m]] ?_;(with_reducible refine(gD.calls k g _ _ b t152 _ ?af ?ah y.out).mono ?_);(case af=>exact Kd.al v.out zB);(case ah=>exact x.out);rintro e R ⟨rfl,hb⟩;refine⟨_,rfl,?_⟩;replace i:=zb i hb;replace a:=zS a hb;(try clear hb);obtain⟨S,T,U,V⟩:=au i)|((with_reducible refine ax (f:=42) rfl ?_);refine zL (some 14) Tryz.func42 #[.slice o l1.length c1,.int .i64 g] ?_;(with_reducible refine(cU.calls k _ _ l1 g t153 _ ?af ?ah F.out).mono ?_);(case af=>exact Kd.al z.out zB);(case ah=>exact B.out);rintro e w' ⟨rfl,⟨W,rfl⟩⟩;refine⟨_,rfl,?_⟩))
  go_ret;exact⟨zE,zB⟩
 ·rw[if_neg c4] at H
  obtain⟨D,E⟩:=bu c4;obtain rfl:=Option.some.inj H;go_enter Tryz.func80,Tryz.ntmps80
  go_wp2_with (first|((with_reducible refine aH (N:=2) rfl ?_);refine zX 2 #[.int .i64 g,.slice l b.length m] 24 ?_;intro G j X n hb;have i:=Aside0.mk (n);have I:=zG a j;have J:=zG a j;replace a:=zS a hb;clear hb n j;obtain⟨Y,Z,aa,ab⟩:=au i)|((with_reducible refine ax (f:=48) rfl ?_);refine zL (some 7) Tryz.func48 #[.agg #[.int .i64 g,.slice l b.length m]] ?_;(with_reducible refine(gD.calls k g _ _ b t152 _ ?af ?ah y.out).mono ?_);(case af=>exact Kd.al v.out zB);(case ah=>exact x.out);rintro e ad ⟨rfl,hb⟩;refine⟨_,rfl,?_⟩;replace i:=zb i hb;replace a:=zS a hb;(try clear hb)))
  go_ret;exact⟨zE,zB⟩
def dG.l0:Nat->List Int->Int->Int->Option (Int)
 |0,_,_,_=>none
 |k+1,a,x3,x4=>if x4<(a.length:Int) then(if 0<=x4 then(dG.l0 k a (wrap64 (x3+(rd a x4))) (wrap64 (x4+1))) else(none)) else(some x3)
def dG.f (k:Nat) (l0:List Int):Option (Int):=dG.l0 k l0 0 0
theorem dG.calls (k:Nat) (A0:Option Addr) (c0:Nat) (l0:List Int) (r:Int) (w:World) (m:Kd.C (Kd.int .i64) w A0 l0.length l0) (n:l0.length<=c0) (h:dG.f k l0=some r):
  Calls Tryz.prog 22 #[.slice A0 l0.length c0] w fun e w'=>e= .returned (.int .i64 r)∧az w w':=by
 have q:=Aside0.mk m;have x:=Aside0.mk n;clear m n;have H:(dG.l0 k l0 0 0)=some r:=h;clear h;have b:=Aside0.mk H;clear H;go_enter Tryz.func22,Tryz.ntmps22
 go_wp2;go_loopg [3,4] k (fun o v3 v4 w'=>∃(g:Int) (a:Int),v3= .int .i64 g∧v4= .int .i64 a∧Aside0 (dG.l0 o l0 g a=some r)∧Aside0 (o<=k)∧az w w')
 case atStart=>exact⟨(0),(0),zT,zT,b,⟨Nat.le_refl _⟩,by repeat(first|exact az.refl _|apply az.step)⟩
 case round=>
  clear b;obtain⟨g,a,rfl,rfl,i,p,⟨m1,rfl⟩⟩:=hrel;cases gk with
  |zero=>exact absurd i.out (by simp[dG.l0])
  |succ s=>
   have H:=i.out;clear i;simp only[dG.l0] at H;by_cases c2:a<(l0.length:Int)
   ·rw[if_pos c2] at H
    have u:=decide_eq_true c2;clear c2;by_cases c3:0<=a
    ·rw[if_pos c3] at H
     have y:=decide_eq_true c3;clear c3;have b:=Aside0.mk H;clear H;have j:0<=(a:Int):=of_decide_eq_true ‹_›;have l:a<(l0.length:Int):=of_decide_eq_true ‹_›;obtain⟨z,v,B⟩:=Kd.bG q.out a j l;cases v;replace j:=eq_true j;replace l:=eq_true l;go_wp2;go_roundg s
     case measure=>have:=p.out;omega
     case rel=>exact⟨(wrap64 (g+(rd l0 a))),(wrap64 (a+1)),zT,zT,b,⟨by have:=p.out;omega⟩,by repeat(first|exact az.refl _|apply az.step)⟩
    ·rw[if_neg c3] at H
     exact absurd H (by simp)
   ·rw[if_neg c2] at H
    have u:=decide_eq_false c2;clear c2;obtain rfl:=Option.some.inj H;go_wp2;go_ret;exact⟨zT,by repeat(first|exact az.refl _|apply az.step)⟩
end Go.Proofs.YtffdiakgjakngaaGreat.P

