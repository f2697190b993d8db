/- RiemannrochHolds answers true whatever the input (text 14 of 20): own walks and plain laws; no conditions. -/
import Derived.BigQuiet
import Derived.Deep.QuietTactic
import Derived.Test.YtffdiakgjakngaaGreatHolds13
namespace Go.Proofs.YtffdiakgjakngaaGreat.P
open Go.RowKit Go.Proofs.YtffdiakgjakngaaGreatW.PrintWords Go.Proofs.YtffdiakgjakngaaGreatW.PrintLast Go.Proofs.YtffdiakgjakngaaGreatW.PrintMore
set_option linter.unusedVariables false
set_option linter.unusedSimpArgs false
set_option maxHeartbeats 8000000
set_option maxRecDepth 100000
section
attribute [local go_sem] Oper.semAt_some
theorem cn.vC {α:Type} {d:Kd α} {e base a b:Nat} {ok:Nat->Prop} {ds:List Deferred} {v:Value} {xs:List α} {W w1:World} (h:cn a b ds W) (i:d.Q e W base ok v xs) (j:W.grownBy w1 v.ownBlock):cn a b ds w1:=
 h.ik fun D _ hd=>(j.block D (Array.getElem?_eq_some_iff.1 hd).1 (fun e=>by
  obtain⟨cells,g⟩:=Kd.rD i D e.symm;rw[hd] at g;cases g)).trans hd
structure DI (w:World) (b3 b4 go co n lo hi:Nat) (out:List Int) (qv:Value) (Q:List Nat) (W:World):Prop where
 hb:Below w.heap.size w W
 x3:W.heap[b3]? =some (.cells #[.slice (some ⟨go,0,none⟩) n co] 25 (0,0))
 x4:W.heap[b4]? =some (.cells #[qv] 25 (0,0))
 ro:(Kd.int .i64).R 3 W w.heap.size (fun _=>True) (.slice (some ⟨go,0,none⟩) n co) out
 rq:(Kd.int .i64).Q 3 W w.heap.size (fun k=>k≠go∧(k<lo∨hi<=k)) qv (Q.map fun x:Nat=>(x:Int))
 ne:b3≠b4∧go≠b3∧go≠b4∧w.heap.size<=b3∧w.heap.size<=b4
theorem DD {α:Type} {d:Kd α} {e base l:Nat} {ok:Nat->Prop} {v:Value} {xs:List α} {A B:World} (h:d.Q e A base ok v xs) (hb:Bk l A B):d.Q e B base ok v xs:=
 Kd.kF (Kd.rr (Kd.mQ h) (fun k hk=>by obtain⟨_,_,_,q,_,cells,a⟩:=hk;exact(hb.cells a).trans a.symm)) (fun k hk=>hk.1)
section
variable {F:Fence} {n:Nat} {P:Program} {ops:Array Oper} {rest:List Oper} {o:Oper} {a:Act} {Q':Exit->Act->World->Prop} {α:Type}
theorem vD (d:Kd α) {w0 W:World} (base:Nat) (j:o.guard=none) (s x:Operand) (t e:TypeId) (z:Value) (bytes:Nat)
  (g:o.op= .call {callee:=.builtin .append,args:=#[s,x],argTypes:=#[t,t]})
  (l:P.underlying t=some (.slice e)) (m:(P.info? e).map (fun i=>(i.zero,i.size,i.bytes))=some (some z,d.sz,bytes)) (q:z.cells.size=d.sz) (r:0<d.sz) (u:0<bytes)
  (v:Value) (xs:List α) (p:α) (cs:List Value) (ok okp:Nat->Prop) (w:a.eval s=v) (y:a.eval x= .slice (some ⟨W.heap.size,0,none⟩) 1 1) (hp:d.M W base okp p cs) (B:∀k,okp k->ok k∧some k≠v.ownBlock) (C:∀k,W.heap.size<=k->ok k)
  (D:d.Q e W base ok v xs) (E:Below base w0 W) (G:base<=W.heap.size) (H:(xs.length+1)*bytes<=140737488355328)
  (h:∀v1 w1,d.Q e w1 base ok v1 (xs++[p])->Below base w0 w1->W.grownBy w1 v.ownBlock->(v1.ownBlock=v.ownBlock∨∃b,v1.ownBlock=some b∧W.heap.size<=b)->wpListIn F n P ops Q' rest (a.put o.dst v1) w1):
  wpListIn F n P ops Q' (o::rest) a (W.alloc (.cells cs.toArray e)):=by
 obtain⟨v1,w1,I,h1,J,L,N⟩:=Kd.xm (P:=P) d base t o.type e z bytes l m q r u v xs p cs ok okp hp B C D E G H;refine wpListIn_plain j fun K O=>?_
 unfold Oper.wpIn;refine⟨?_,?_⟩
 ·simp[Oper.about,g,resolve,Target.leads,Sem.run_pure]
 ·rw[Oper.semAt_plain F _ _ (by rw[g];intro c R;cases R)]
  simp[execOp,g,resolve,invoke,builtin,w,y,I,Result.andThen];exact O _ _ (h v1 w1 h1 J L N)
end
theorem vE {α:Type} {d:Kd α} {e base nw:Nat} {ok:Nat->Prop} {v:Value} {xs:List α} {W w1:World} (g:d.Q e W base ok v xs) (h:W.grownBy w1 v.ownBlock):bX nw W w1:=fun k o h1 j b i=>by
 refine(h.block k (Array.getElem?_eq_some_iff.1 b).1 (fun e=>?_)).trans b;obtain⟨cells,a⟩:=Kd.rD g k e.symm;rw[b] at a;injection a with a;subst a;simp[Obj.isCells] at i
theorem Bf.lC {n q:Nat} {nb:Nat->Nat->Prop} {out:List Int} {Q:List Nat} {D:Int} {ex a:Nat->Nat->Prop} (h:Bf n q nb out Q D ex) (hex:∀x y,ex x y->a x y):Bf n q nb out Q D a:=
 ⟨h.len,h.q0,h.lo,h.hi,h.qv,h.mo,h.top,h.d0,h.back,fun v b e hn u hu g he=>h.jM v b e hn u hu g (fun k=>he (hex v u k))⟩
def ou (v:Nat) (pre:List (Int×Int)) (x y:Nat):Prop:=x=v∧¬∃m,((y:Int),m)∈pre
theorem Bf.done {n q:Nat} {nb:Nat->Nat->Prop} {out:List Int} {Q:List Nat} {D:Int} {ex:Nat->Nat->Prop} (h:Bf n q nb out Q D ex) (hex:∀x y,nb x y->¬ex x y):Bf n q nb out Q D (fun _ _=>False):=
 ⟨h.len,h.q0,h.lo,h.hi,h.qv,h.mo,h.top,h.d0,h.back,fun v b e hn u hu a _=>h.jM v b e hn u hu a (hex v u a)⟩
namespace DI
variable {w W W':World} {b3 b4 go co n lo hi lo' hi' l:Nat} {out:List Int} {qv:Value} {Q:List Nat}
theorem below (h:DI w b3 b4 go co n lo hi out qv Q W) (hb:Below W.heap.size W W'):DI w b3 b4 go co n lo hi out qv Q W':=⟨aU h.hb hb,aG h.x3 hb,aG h.x4 hb,Kd.cp h.ro hb,Kd.ru h.rq hb,h.ne⟩
theorem alloc (h:DI w b3 b4 go co n lo hi out qv Q W) (o:Obj):DI w b3 b4 go co n lo hi out qv Q (W.alloc o):=h.below (aq (Below.refl _ _) o)
theorem drewN (h:DI w b3 b4 go co n lo hi out qv Q W) (m:Nat):DI w b3 b4 go co n lo hi out qv Q (W.drewN m):=h.below (bP (Below.refl _ _) m)
theorem bk (h:DI w b3 b4 go co n lo hi out qv Q W) (hb:Bk l W W') (a:w.heap.size<=l):DI w b3 b4 go co n lo hi out qv Q W':=⟨h.hb.trans (hb.below _ a),hb.cells h.x3,hb.cells h.x4,db h.ro hb,DD h.rq hb,h.ne⟩
theorem ld (h:DI w b3 b4 go co n lo hi out qv Q W):go<W.heap.size∧b3<W.heap.size∧b4<W.heap.size∧w.heap.size<=go:=⟨Kd.aX h.ro go rfl,ay h.x3,ay h.x4,Kd.dK h.ro go rfl⟩
theorem vF (h:DI w b3 b4 go co n lo hi out qv Q W) (v:Nat) (x:Int):DI w b3 b4 go co n lo hi (out.set v x) qv Q (W.setCell ⟨go,v,none⟩ (.int .i64 x)):=by
 obtain⟨h1,g,i,b⟩:=h.ld;have a:=Kd.cZ h.ro (v:Int) x;rw[Int.toNat_natCast] at a;exact⟨Below.setCell h.hb b _,aC h.x3 (fun e=>h.ne.2.1 e.symm) _,aC h.x4 (fun e=>h.ne.2.2.1 e.symm) _,a.1,Kd.xf h.rq a.2 (fun k hk e=>by injection e with e;exact hk.1 e),h.ne⟩
theorem vG (h:DI w b3 b4 go co n lo hi out qv Q W) {qv':Value} {Q':List Nat} (a:(Kd.int .i64).Q 3 W w.heap.size (fun k=>k≠go∧(k<lo'∨hi'<=k)) qv' (Q'.map fun x:Nat=>(x:Int))):DI w b3 b4 go co n lo' hi' out qv' Q' (W.setCell ⟨b4,0,none⟩ qv'):=by
 obtain⟨h1,b,g,i⟩:=h.ld;refine⟨Below.setCell h.hb h.ne.2.2.2.2 _,aC h.x3 h.ne.1 _,by simpa using bE h.x4 0 qv',?_,?_,h.ne⟩
 ·exact Kd.aV (Kd.eU (Kd.fU rfl h.ro) (fun k hk=>Below.heap_setCell _ _ _ _ (fun e=>by injection hk with hk;exact h.ne.2.2.1 (hk.symm.trans e)))) (fun _ _=>trivial)
 ·exact Kd.ry a h.x4 (fun q a=>by rcases List.mem_cons.1 a with rfl|h;decide;cases h) 0 qv'
theorem c3 (h:DI w b3 b4 go co n lo hi out qv Q W):W.cell? ⟨b3,0,none⟩=some (.slice (some ⟨go,0,none⟩) n co):=(ao h.x3 0).trans rfl
theorem c4 (h:DI w b3 b4 go co n lo hi out qv Q W):W.cell? ⟨b4,0,none⟩=some qv:=(ao h.x4 0).trans rfl
theorem jr (h:DI w b3 b4 go co n lo hi out qv Q W) (v:Nat) (a:v<n):W.cell? ⟨go,v,none⟩=some (.int .i64 (rd out v)):=by
 have:=(Kd.bJ 0 h.ro (v:Int) (by omega) (by omega)).1;rw[Int.toNat_natCast] at this;exact this
theorem vH (h:DI w b3 b4 go co n lo hi out qv Q W) (v:Nat) (a:v<n):W.frozen? ⟨go,v,none⟩=false:=by
 have:=(Kd.bJ 0 h.ro (v:Int) (by omega) (by omega)).2;rw[Int.toNat_natCast] at this;exact this
theorem free (h:DI w b3 b4 go co n lo hi out qv Q W):DI w b3 b4 go co n 0 0 out qv Q W:=⟨h.hb,h.x3,h.x4,h.ro,Kd.kF h.rq (fun k hk=>⟨hk.1,.inr (Nat.zero_le _)⟩),h.ne⟩
theorem own (h:DI w b3 b4 go co n lo hi out qv Q W):∀k,qv.ownBlock=some k->k≠go∧(k<lo∨hi<=k)∧w.heap.size<=k∧k≠b3∧k≠b4:=fun k hk=>⟨(h.rq.1 k hk).1,(h.rq.1 k hk).2,Kd.xi h.rq k hk,fun e=>Kd.rz h.rq h.x3 (by decide) (by rw[hk,e]),fun e=>Kd.rz h.rq h.x4 (by decide) (by rw[hk,e])⟩
theorem push (h:DI w b3 b4 go co n lo hi out qv Q W) {v1:Value} {w1:World} {u:Nat} (a:(Kd.int .i64).Q 3 w1 w.heap.size (fun k=>k≠go∧(k<lo∨hi<=k)) v1 (Q.map (fun x:Nat=>(x:Int))++[(u:Int)])) (b:W.grownBy w1 qv.ownBlock) (hb:Below w.heap.size w w1):DI w b3 b4 go co n lo hi out v1 (Q++[u]) (w1.setCell ⟨b4,0,none⟩ v1):=by
 have i:=cI h.x3 b (fun e=>(h.own b3 e.symm).2.2.2.1 rfl);have g:=cI h.x4 b (fun e=>(h.own b4 e.symm).2.2.2.2 rfl);have ro:=Kd.gX h.ro rfl b (fun e=>(h.own go e).1 rfl);refine⟨Below.setCell hb h.ne.2.2.2.2 _,aC i h.ne.1 _,by simpa using bE g 0 v1,?_,?_,h.ne⟩
 ·exact Kd.aV (Kd.eU (Kd.fU rfl ro) (fun k hk=>Below.heap_setCell _ _ _ _ (fun e=>by injection hk with hk;exact h.ne.2.2.1 (hk.symm.trans e)))) (fun _ _=>trivial)
 ·rw[List.map_append]
  exact Kd.ry a g (fun q a=>by rcases List.mem_cons.1 a with rfl|h;decide;cases h) 0 v1
end DI
def kz (E:List S83) (v u:Nat):Prop:=∃m,(((u:Nat):Int),m)∈b8 E v E.length
theorem DE (g n:Nat) (A0:Option Addr) (c0:Nat) (E:List S83) (q:Nat) (dv sv:Value) (er:Int) (w:World) (gi:Kd.C aK w A0 E.length E) (hE:dV n E) (hn:n<=1000) (hq:q<n)
  (N:gw w g n (.slice A0 E.length c0) q dv sv er):
  Calls Tryz.prog 165 #[.pointer (some ⟨g,0,none⟩)] w fun e w'=>∃(go co:Nat) (out:List Int) (D:Int),e= .returned (.slice (some ⟨go,0,none⟩) n co)∧(Kd.int .i64).R 3 w' w.heap.size (fun _=>True) (.slice (some ⟨go,0,none⟩) n co) out∧Below w.heap.size w w'∧Bf n q (kz E) out [] D (fun _ _=>False):=by
 have h':=Tryz.underlying188;have hu:=Tryz.underlying24;have HE:=Aside0.mk hE;have dl:=Aside0.mk N;have ib:=ay N;have hr:1<=n:=by omega
 have id:(0:Int)<=(q:Int):=by omega
 have ih:(q:Int)<(n:Int):=by omega
 have hx:=(ao (heap_alloc_new w (.cells #[.int .i64 (-1)] 3)) 0).trans rfl;have s0:(w.alloc (.cells #[.int .i64 (-1)] 3)).cell? ⟨g,0,none⟩=some (.int .i64 n):=(ao (aw N _) 0).trans rfl;clear hE N;refine(callsIn_wide (n:=10)).1 ?_;refine callsIn_of_wp_marks Tryz.func165 rfl trivial ?_ rfl;simp only[Tryz.ntmps165,List.size_toArray,List.length_cons,List.length_nil,Nat.reduceAdd,Nat.reduceSub,Array.replicate_succ,Array.replicate_zero,List.push_toArray,List.append_toArray,List.nil_append,List.cons_append];gi_wp2_with (first|(refine⟨trivial,?_⟩;gi_at_call 193;refine(callsIn_wide.2 (DC w.heap.size 0 1 n (-1) _ hx hr hn)).mono ?_;rintro e w3 ⟨go,co,rfl,hR,hB⟩))
 have em:=aU (aq (Below.refl w.heap.size w) _) hB;have ht:w.heap.size<=go:=by have:=Kd.dK hR go rfl;simp at this;omega
 have hv:=Kd.aX hR go rfl;have d2:Aside0 ((Kd.int .i64).R 3 (w3.alloc (.cells #[.slice (some ⟨go,0,none⟩) n co] 25)) w.heap.size (fun _=>True) (.slice (some ⟨go,0,none⟩) n co) (List.replicate n (-1))):=⟨Kd.aI (Kd.aW hR (by simp)) _⟩;have d3:=Aside0.mk (aq em (.cells #[.slice (some ⟨go,0,none⟩) n co] 25));have b':=Aside0.mk (heap_alloc_new w3 (.cells #[.slice (some ⟨go,0,none⟩) n co] 25));have hw:w.heap.size<=w3.heap.size:=em.size;have d4:(w3.alloc (.cells #[.slice (some ⟨go,0,none⟩) n co] 25)).heap.size=w3.heap.size+1:=by simp
 clear hR hB em hx s0;obtain⟨b3,gr⟩:∃b,b=w3.heap.size:=⟨_,rfl⟩;rw[<-gr] at b' hw d4 hv⊢;clear gr;generalize w3.alloc (.cells #[.slice (some ⟨go,0,none⟩) n co] 25)=W1 at d2 d3 b' d4⊢;have y0:=(ao b'.out 0).trans rfl;have y1:W1.cell? ⟨g,2,none⟩=some (.int .i64 q):=(ao (aG dl.out d3.out) 2).trans rfl;obtain⟨y2,y3⟩:=Kd.bJ 0 d2.out (q:Int) (by omega) (by omega);rw[Int.toNat_natCast] at y2 y3;generalize bH 0 (List.replicate n (-1)) (q:Int)=xq at y2;replace y2:W1.cell? ⟨go,q,none⟩=some (.int .i64 xq):=y2;have HP:=Kd.cZ d2.out (q:Int) (0:Int);rw[Int.toNat_natCast] at HP;have cb:=Aside0.mk (Kd.a8 HP.1);have ev:=Aside0.mk (ff (cI (g:=b3) b'.out HP.2 (fun e=>by injection e with e;omega)));have d6:=Aside0.mk (bL (Below.setCell (p:=⟨go,q,none⟩) d3.out ht (.int .i64 0)));have cc:(W1.setCell ⟨go,q,none⟩ (.int .i64 0)).drew.heap.size=b3+1:=by simp[d4]
 clear HP;gi_region
 replace cb:Aside0 ((Kd.int .i64).R 3 (W1.setCell ⟨go,q,none⟩ (.int .i64 0)).drew w.heap.size (fun _=>True) (.slice (some ⟨go,0,none⟩) n co) ((List.replicate n (-1)).set q 0)):=cb;clear y0 y1 y2 y3 d2 b' d3 d4;generalize (W1.setCell ⟨go,q,none⟩ (.int .i64 0)).drew=W2 at cb ev d6 cc⊢;have y1:W2.cell? ⟨g,2,none⟩=some (.int .i64 q):=(ao (aG dl.out d6.out) 2).trans rfl;gi_wp2;have ew:Aside0 (DI w b3 (b3+1+1) go co n 0 0 ((List.replicate n (-1)).set q 0) (.slice (some ⟨b3+1,0,none⟩) 1 1) [q] ((W2.alloc (.cells #[.int .i64 q] 3)).alloc (.cells #[.slice (some ⟨b3+1,0,none⟩) 1 1] 25))):=⟨by
  have Z1:=heap_alloc_new W2 (.cells #[.int .i64 q] 3);have Z2:=heap_alloc_new (W2.alloc (.cells #[.int .i64 q] 3)) (.cells #[.slice (some ⟨b3+1,0,none⟩) 1 1] 25);rw[World.size_alloc,cc] at Z2;rw[cc] at Z1;refine⟨aq (aq d6.out _) _,aw (aw ev.out _) _,Z2,Kd.aI (Kd.aI cb.out _) _,Kd.xd (Kd.lJ ⟨by simp[bF],.inr ⟨b3+1,1,_,rfl,by omega,aw Z1 _,by simp,by decide,by simp,by simp[bF]⟩⟩ (fun k hk=>by cases hk;exact⟨by show b3+1≠go;omega,.inr (Nat.zero_le _)⟩)),by omega,by omega,by omega,by omega,by omega⟩⟩
 have gt:=Aside0.mk (Bf.start (nb:=kz E) hq);have gx:((W2.alloc (.cells #[.int .i64 q] 3)).alloc (.cells #[.slice (some ⟨b3+1,0,none⟩) 1 1] 25)).heap.size=b3+3:=by simp[cc]
 clear cb ev d6 cc y1;generalize (W2.alloc (.cells #[.int .i64 q] 3)).alloc (.cells #[.slice (some ⟨b3+1,0,none⟩) 1 1] 25)=W4 at ew gx⊢;refine tE (b3+3) (fun kq tm wr=>∃(u5 u25 u26 u27 u28 u29 u30 u31 u32 u33 u34 u35:Value) (out:List Int) (qv:Value) (Q:List Nat) (D:Int),Aside0 (DI w b3 (b3+1+1) go co n 0 0 out qv Q wr)∧Aside0 (Bf n q (kz E) out Q D (fun _ _=>False))∧b3+3<=wr.heap.size∧Aside0 (kq=2*(n-bM out)+Q.length∧kq<=2*n+1)∧tm=#[.pointer (some ⟨g,0,none⟩),undef,.slice none 0 0,.pointer (some ⟨b3,0,none⟩),.pointer (some ⟨b3+1+1,0,none⟩),u5,undef,.slice (some ⟨w.heap.size,0,none⟩) 1 1,.pointer (some ⟨g,0,none⟩),.pointer (some ⟨g,0,none⟩),.pointer (some ⟨g,0,none⟩),.pointer (some ⟨g,0,none⟩),.int .i64 n,.slice (some ⟨go,0,none⟩) n co,.slice (some ⟨go,0,none⟩) n co,.pointer (some ⟨g,0,none⟩),.pointer (some ⟨g,0,none⟩),.pointer (some ⟨g,2,none⟩),.int .i64 q,.pointer (some ⟨go,q,none⟩),.pointer (some ⟨g,0,none⟩),.pointer (some ⟨g,0,none⟩),.pointer (some ⟨g,2,none⟩),.int .i64 q,.slice (some ⟨b3+1,0,none⟩) 1 1,u25,u26,u27,u28,u29,u30,u31,u32,u33,u34,u35,undef,undef,undef,undef,undef,undef,undef,undef,undef,undef,undef,undef,undef,undef,undef,undef,undef,undef,undef,undef]) (2*(n-bM ((List.replicate n (-1)).set q 0))+1) ⟨_,_,_,_,_,_,_,_,_,_,_,_,_,_,_,_,ew,gt,by omega,⟨rfl,by omega⟩,rfl⟩ (b3+3) (by omega) (cn.nil _ _ _) ?_;clear ew gt gx;rintro gk tm wr ⟨u5,u25,u26,u27,u28,u29,u30,u31,u32,u33,u34,u35,out,qv,Q,D,V,HF,aQ,HK,rfl⟩ ds b hb g5 J K hJ Y;have g7:=Aside0.mk g5;have HJ:=Aside0.mk hJ;clear g5 hJ;have x4:=V.out.c4;have x3:=V.out.c3;cases Q with
 |nil=>
  obtain⟨A,c,rfl, -⟩:=Kd.mR V.out.rq;have hA:((([]:List Nat).map fun x:Nat=>(x:Int)).length:Int)=0:=rfl;simp only[List.map_nil,List.length_nil] at x4;clear hA Y;gi_wp2;refine(tD g7.out fun w' g9=>?_).1;exact⟨_,results_tmp rfl _ _ _,go,co,rfl,out,g9.R V.out.ro,V.out.hb.trans (g9.kf.mono (by omega)),D,HF.out⟩
 |cons v rest=>
  obtain⟨gq,oq,cq,rfl,im,io, -⟩:=Kd.xI V.out.rq (by simp);have hC:=HF.out.qv v (List.mem_cons_self ..);have a1:=hC.1;have cd:=(Kd.xK 0 V.out.rq 0 (by omega) (by simp)).1;have g':=Kd.kF (Kd.mQ (Kd.xj (k:=1) V.out.rq (by simp))) (ok':=fun k=>k≠go∧(k<wr.heap.size∨wr.heap.size+3<=k)) (fun k hk=>⟨hk.1.1,.inl hk.2.2.1⟩);obtain⟨A',c',ha,hl⟩:=Kd.mR V.out.rq;injection ha with hH hI hM
  subst hM;have d9:=Aside0.mk (heap_alloc_new wr (.cells #[.int .i64 v] 3));have a2:=Aside0.mk (V.out.alloc (.cells #[.int .i64 v] 3));have ea:=Aside0.mk (g7.out.below (aq (Below.refl _ _) (.cells #[.int .i64 v] 3)));have ce:=Aside0.mk (Kd.xe g' (.cells #[.int .i64 v] 3));simp only[List.map_cons,List.length_cons,List.length_map,List.drop_succ_cons,List.drop_zero,Nat.add_sub_cancel] at x4 cd ce hl;replace cd:wr.cell? ⟨gq,oq,none⟩=some (.int .i64 v):=cd;obtain⟨L,hL⟩:∃L,L=rest.length+1:=⟨_,rfl⟩;rw[<-hL] at x4 hl;have he:(1:Int)<=(L:Int):=by omega
  have hf:(L:Int)<=(cq:Int):=by omega
  have hg:(0:Int)<(L:Int):=by omega
  have ed:=a2.out.c4;simp only[List.map_cons,List.length_cons,List.length_map] at ed;rw[<-hL] at ed;have hh:=Aside0.mk hL;clear hH hI hL g';have hj:=bq a2.out.x4 0;have hm:=Aside0.mk (Bf.pop HF.out);have is:=HF.out.len;by_cases eg:cq=1
  ·subst eg
   obtain rfl:L=1:=by omega
   obtain⟨Z,a3⟩:∃Z,Z=Value.slice (some ⟨gq,oq,none⟩) 0 0:=⟨_,rfl⟩;have a4:=Aside0.mk (a2.out.vG (lo':=wr.heap.size) (hi':=wr.heap.size+3) (qv':=Z) (Q':=rest) (by have h:=ce.out;rw[if_pos rfl,show rest.length=0 by have:=hh.out;omega] at h;rw[a3];exact h));gi_wp2_with (first|(refine⟨trivial,?_⟩;gi_at_call 194;refine(callsIn_wide.2 (lr g v _)).mono ?_;rintro e w3 ⟨rfl,rfl⟩))
   rw[<-a3];obtain⟨M,aa⟩:∃X,X=(wr.alloc (.cells #[.int .i64 v] 3)).setCell ⟨b3+1+1,0,none⟩ Z:=⟨_,rfl⟩;have cf:Aside0 (M.heap[wr.heap.size]? =some (.cells #[.int .i64 v] 3 (0,0))):=⟨by rw[aa];exact aC d9.out (show wr.heap.size≠b3+1+1 by omega) _⟩;have ch:M.heap.size=wr.heap.size+1:=by rw[aa];simp
   have ci:Aside0 (cn (b3+3) b ds M):=⟨by rw[aa];exact ea.out.set a2.out.x4 _⟩;rw[<-aa] at a4⊢;have Z1:=heap_alloc_new M (.cells #[.pointer (some ⟨g,0,none⟩)] 135);have Z2:=heap_alloc2_new M (.cells #[.pointer (some ⟨g,0,none⟩)] 135) (.cells #[.int .i64 v] 3);rw[ch] at Z1 Z2;have O:=Aside0.mk ((a4.out.alloc (.cells #[.pointer (some ⟨g,0,none⟩)] 135)).alloc (.cells #[.int .i64 v] 3));have ar:=Aside0.mk (aw (aw cf.out (.cells #[.pointer (some ⟨g,0,none⟩)] 135)) (.cells #[.int .i64 v] 3));have av:=Aside0.mk ((ci.out.below (aq (Below.refl _ _) (.cells #[.pointer (some ⟨g,0,none⟩)] 135))).below (aq (Below.refl _ _) (.cells #[.int .i64 v] 3)));have a5:=Aside0.mk (aw Z1 (.cells #[.int .i64 v] 3));have a9:=Aside0.mk Z2;have aB:=Aside0.mk (aG dl.out O.out.hb);have be:((M.alloc (.cells #[.pointer (some ⟨g,0,none⟩)] 135)).alloc (.cells #[.int .i64 v] 3)).heap.size=wr.heap.size+3:=by simp[ch]
   have e4:=Nat.le_of_eq be;have e5:=Nat.le_of_eq be.symm;clear be;clear d9 ea a2 ce a4 cf ci Z1 Z2 aa a3 V x4 ed x3 cd hj he hf hg hl;generalize (M.alloc (.cells #[.pointer (some ⟨g,0,none⟩)] 135)).alloc (.cells #[.int .i64 v] 3)=r at O ar av a5 a9 aB e4 e5⊢;refine ie (σ:=Unit) (α:=Int×Int) (F:=Fence.wide) (n:=10) rfl (by decide) (gf:=207) (lb:=#[.pointer (some ⟨wr.heap.size+1,0,none⟩),.pointer (some ⟨wr.heap.size+1+1,0,none⟩)]) rfl trivial (enters_of Tryz.func207 (by kernel_rfl) rfl)
    (fun o=>pX (wr.heap.size+1) (wr.heap.size+1+1) g n A0 c0 E q dv sv er v w _ gi HE.out hn a1 (aq (aq O.out.hb _) _) (aw (aw a5.out _) _) (aw (aw a9.out _) _) (aw (aw aB.out _) _)) (fun _=>rfl)
    (fun _=>True) ?F5 ?st1 ?Gi
    (fun _ pre W=>r.heap.size<=W.heap.size∧∃(a:List Int) (qv':Value) (Q':List Nat),DI w b3 (b3+1+1) go co n wr.heap.size (wr.heap.size+3) a qv' Q' W∧Bf n q (kz E) a Q' (rd a v) (ou v pre)∧2*(n-bM a)+Q'.length<=2*(n-bM out)+rest.length∧W.heap[wr.heap.size]? =some (.cells #[.int .i64 v] 3 (0,0))∧cn (b3+3) b ds W) (fun _ _ _ _=>False)
    ?Gg (fun _ _ _ _ _ _ h _=>h) ?Gb (fun _ _ _ _ _ h _=>h) ?Gc ?Gd ?IL ?F8 ?Ge ?Gk (fun _ _ _ _ _ _ _ h=>h.elim)
   case F8=>
    intro l x W K Y;gi_wp2;exact Y
   case F5=>
    intro o s W1 h;exact⟨trivial,by rw[h];exact bX.refl _ _⟩
   case st1=>intro s A B _ h;exact cN h
   case Gi=>intro s x A B _ h;exact cN h.2
   case Gg=>
    rintro s pre A B _ ⟨P,a,qv',Q',h1,z,h4,h5,h6⟩ N;exact⟨Nat.le_trans P N.size,a,qv',Q',h1.below N,z,h4,aG h5 N,h6.below N⟩
   case Gb=>
    rintro s pre A B ⟨P,a,qv',Q',h1,z,h4,h5,h6⟩ aF;exact⟨by rw[aF.size];exact P,a,qv',Q',h1.bk aF (by omega),z,h4,aF.cells h5,h6.bk aF (by omega)⟩
   case Gc=>
    intro s A B C D aL cj ck;refine⟨fun aQ=>((aL.below w.heap.size (by omega)).trans (cj.1 (by rw[aL.size];exact aQ))).trans (ck.below w.heap.size (by omega)),fun k hk cl=>?_⟩;have cr:k≠r.heap.size+1:=by rcases hk with rfl|rfl|rfl<;>omega
    exact(ck.heap k cr).trans ((cj.2 k hk (by rw[aL.size];exact cl)).trans (aL.heap k cr))
   case Gd=>
    rintro o s W1 rfl;exact⟨by simp;omega,out,Z,rest,(O.out.alloc _).alloc _,hm.out.lC (fun x y h=>⟨h,by simp⟩),Nat.le_refl _,aw (aw ar.out _) _,(av.out.below (aq (Below.refl _ _) _)).below (aq (Below.refl _ _) _)⟩
   case Ge=>
    rintro l s' pre ⟨u,m⟩ Wb Wc W _ ⟨P,a,qv',Q',i1,i2,i4,i5,i6⟩ ⟨⟨cs,e6⟩,ab⟩ e_ H;have G:=Aside0.mk ((i1.below ab).bk H (by omega));have S:=Aside0.mk i4;have I5:=Aside0.mk (H.cells (aG i5 ab));have I6:=Aside0.mk ((i6.below ab).bk H (by omega));have aP:r.heap.size<=W.heap.size:=by have:=H.size;have:=ab.size;omega
    clear i1 i4 i5 i6 ab H e_ P;simp only at cs;obtain⟨u0,u1,m0,m1⟩:=cs;obtain⟨u,rfl⟩:=Int.eq_ofNat_of_zero_le u0;have aS:u<n:=by omega
    obtain⟨l1,l2⟩:=Bf.look (ex:=fun y=>¬∃m,((y:Int),m)∈pre) i2 aS a1 ⟨m,e6⟩;have hP:=i2.d0;have hQ:rd a v<=1000:=by have h1:=i2.hi v a1;have z:=i' a;have h3:=i2.len;omega
    have e':=Aside0.mk i2.len;have z3:=G.out.c3;have z4:=G.out.jr u aS;have cx:∀(ex:Nat->Prop) (x y:Nat),(x=v∧(¬∃m,((y:Int),m)∈pre)∧y≠u)->ou v (pre++[((u:Int),m)]) x y:=fun ex x y h=>⟨h.1,fun⟨m',ag⟩=>by
     rcases List.mem_append.1 ag with ag|ag
     ·exact h.2.1 ⟨m',ag⟩
     ·have:=List.mem_singleton.1 ag
      injection this with e1 e2
      exact h.2.2 (by omega)⟩
    have c2:=Aside0.mk cx;clear cx i2;by_cases bn:rd a u<0
    ·obtain⟨k1,k2,k3,k4⟩:=l2 bn
     have K2:=Aside0.mk k2;have K3:=Aside0.mk k3;have K4:=Aside0.mk (k4.lC (c2.out (fun _=>True)));have fo:decide (rd a u<0)=true:=decide_eq_true bn;clear l1 l2 k1 k2 k3 k4;gi_wp2;have z3:=G.out.c3;have z4:=G.out.jr v a1;have z5:=(ao I5.out 0).trans rfl;have fq:wrap64 (rd a v+1)=rd a v+1:=by unfold wrap64;omega
     have hV:(0:Int)<=(u:Int):=by omega
     have hW:(0:Int)<=(v:Int):=by omega
     have bw:(v:Int)<(n:Int):=by omega
     refine nV [_,_,_,_,_,_,_,_] _ rfl (by kernel_rfl) rfl (by kernel_rfl) (by kernel_rfl) (by kernel_rfl) (by kernel_rfl) ?_;repeat(gi_big_quiet_step (fail))
     refine wpQuietIn_nil ?_;rintro _ ⟨nq,rfl⟩;have I:=Aside0.mk (G.out.drewN nq);have J5:=Aside0.mk (gV I5.out nq);have J6:=Aside0.mk (I6.out.below (bP (Below.refl _ _) nq));have b1:r.heap.size<=(W.drewN nq).heap.size:=by simpa using aP
     have b2:=Aside0.mk (cN (nw:=r.heap.size) (bP (Below.refl W.heap.size W) nq));have b4:=Aside0.mk (bP (Below.refl w.heap.size W) nq);have b5:Aside0 (∀k,k≠go->(W.drewN nq).heap[k]? =W.heap[k]?):=⟨fun k _=>by simp⟩;clear z3 z4 z5 fq;have z5:=I.out.vH u aS;have z6:=I.out.jr u aS;generalize W.drewN nq=Wq at I J5 J6 b1 b2 b4 b5 z5 z6⊢;obtain⟨g1,g2,g3,g4⟩:=I.out.ld;obtain⟨n1,n2,n3,n4,n5⟩:=I.out.ne;have i:=Aside0.mk (I.out.vF u (rd a v+1));have fv:wr.heap.size≠go:=by omega
     have f0:=Aside0.mk (aC (p:=⟨go,u,none⟩) J5.out fv (.int .i64 (rd a v+1)));have f1:Aside0 (cn (b3+3) b ds (Wq.setCell ⟨go,u,none⟩ (.int .i64 (rd a v+1)))):=⟨by
      obtain⟨inner,ho⟩:=Kd.iT I.out.ro;obtain⟨cells,hc⟩:=iS ho go rfl;exact J6.out.set (p:=⟨go,u,none⟩) hc _⟩
     have f4:r.heap.size<=(Wq.setCell ⟨go,u,none⟩ (.int .i64 (rd a v+1))).heap.size:=by simpa using b1
     have f5:=Aside0.mk (b2.out.trans (fa (bo:=go) (j:=u) Wq (.int .i64 (rd a v+1)) (show go<r.heap.size by omega)));have f6:Aside0 (∀k,k≠go->(Wq.setCell ⟨go,u,none⟩ (.int .i64 (rd a v+1))).heap[k]? =W.heap[k]?):=⟨fun k hk=>(Below.heap_setCell _ _ _ _ hk).trans (b5.out k hk)⟩;have f7:Aside0 (∀k,(Wq.setCell ⟨go,u,none⟩ (.int .i64 (rd a v+1))).heap.size<=k->k≠go∧(k<wr.heap.size∨wr.heap.size+3<=k)):=⟨fun k hk=>by
      simp only[World.size_setCell] at hk;omega⟩
     have f8:Aside0 (((Q'.map fun x:Nat=>(x:Int)).length+1)*8<=140737488355328):=⟨by
      have h1:=S.out;have z:=HK.out.1;have h3:=HK.out.2;rw[List.length_cons] at z;rw[List.length_map];omega⟩
     have f9:=Aside0.mk (Below.setCell (p:=⟨go,u,none⟩) b4.out g4 (.int .i64 (rd a v+1)));have z4:=i.out.c4;have h0:go≠b3+1+1:=n3;clear G I5 I6 I J5 J6 b1 b2 b4 b5 aP O ar av aB;gi_wp2_with (gi_at_builtin;go_loud (refine vD (Kd.int .i64) (w0:=w) w.heap.size rfl (.tmp 51) (.tmp 53) 25 3 (.int .i64 0) 8 rfl Tryz.underlying25 fY rfl (by decide) (by omega) qv' (Q'.map fun x:Nat=>(x:Int)) (u:Int) [.int .i64 u] (fun k=>k≠go∧(k<wr.heap.size∨wr.heap.size+3<=k)) (fun _=>False) rfl (by rw[World.size_setCell];rfl) rfl (fun _ hk=>hk.elim) f7.out i.out.rq i.out.hb i.out.hb.size f8.out ?_;intro v1 h7 T c9 a0 f';obtain⟨A1,c1,bw, -⟩:=Kd.mR T;obtain⟨nx,dk⟩:∃nx,nx=((Q'.map fun x:Nat=>(x:Int))++[(u:Int)]).length:=⟨_,rfl⟩;rw[<-dk] at bw;clear dk;subst bw;have gb:=Aside0.mk (i.out.push T a0 c9);have X4:=Aside0.mk (cI i.out.x4 a0 (fun e=>(i.out.own _ e.symm).2.2.2.2 rfl));have eg:=dt X4.out;have h9:=bq X4.out 0;have gc:=Aside0.mk a0;clear T a0 f' c9))
     have U:=gc.out;have T:=i.out.own;have Y:∀k,(k=wr.heap.size∨k=wr.heap.size+1∨k=wr.heap.size+1+1∨k=g)->some k≠qv'.ownBlock:=fun k hk e=>by
      have:=T k e.symm;rcases hk with rfl|rfl|rfl|rfl<;>omega
     have h_:=U.size;refine⟨(f5.out.trans (vE i.out.rq U)).trans (fa _ _ (show b3+1+1<r.heap.size by omega)),⟨fun _=>Below.setCell (p:=⟨b3+1+1,0,none⟩) (f9.out.grown U i.out.hb.size (fun k e=>(T k e).2.2.1)) n5 _,fun k hk cl=>?_⟩,?_,_,_,Q'++[u],gb.out,?_,?_,aC (cI f0.out U (Y _ (.inl rfl))) (show wr.heap.size≠b3+1+1 by omega) _,(f1.out.vC i.out.rq U).set X4.out _⟩
     ·refine(Below.heap_setCell _ _ _ _ (show k≠b3+1+1 by rcases hk with rfl|rfl|rfl<;>omega)).trans ((U.block k ?_ (Y k (hk.elim (fun h=>.inr (.inl h)) (fun h=>.inr (.inr h))))).trans (f6.out k (by rcases hk with rfl|rfl|rfl<;>omega)))
      have h1:=f4;rcases hk with rfl|rfl|rfl<;>omega
     ·simp only[World.size_setCell];omega
     ·rw[K2.out];exact K4.out
     ·rw[K3.out,List.length_append]
      have h1:=S.out;have z:=i' (a.set u (rd a v+1));rw[K3.out,List.length_set,e'.out] at z;simp only[List.length_cons,List.length_nil];omega
    ·have K4:=Aside0.mk ((l1 (by omega)).lC (c2.out (fun _=>True)))
     have fo:decide (rd a u<0)=false:=decide_eq_false bn;clear l1 l2 O ar av a5 a9 aB;gi_wp2;exact⟨bX.refl _ _,⟨fun _=>Below.refl _ _,fun _ _ _=>rfl⟩,aP,a,qv',Q',G.out,K4.out,S.out,I5.out,I6.out⟩
   case Gk=>
    rintro s' xs W W' _ rfl ⟨P,a,qv',Q',i1,i2,i4,i5,i6⟩ H b_;have G:=Aside0.mk (i1.bk H (by omega)).free;have I2:=Aside0.mk (Bf.done i2 (fun x y ge hex=>hex.2 (by rw[<-hex.1];exact ge)));have S:=Aside0.mk i4;have I6:=Aside0.mk (i6.bk H (by omega));have gg:=Aside0.mk b_;have aP:r.heap.size<W'.heap.size:=(Array.getElem?_eq_some_iff.1 b_).1;clear i1 i2 i4 i5 i6 b_;gi_wp2;exact kg.intro (2*(n-bM a)+Q'.length) (by rw[HK.out.1];have:=S.out;simp only[List.length_cons];omega) (HJ.out _ _ _ ⟨_,_,_,_,_,_,_,_,_,_,_,_,a,qv',Q',_,G,I2,by omega,⟨rfl,by have h1:=S.out;have z:=HK.out.1;have h3:=HK.out.2;rw[List.length_cons] at z;omega⟩,rfl⟩) (r.heap.size+1) (by omega) (I6.out.push (by omega) (by omega) gg.out)
  ·obtain⟨Z,a3⟩:∃Z,Z=Value.slice (some ⟨gq,oq+1,none⟩) (L-1) (cq-1):=⟨_,rfl⟩
   have a4:=Aside0.mk (a2.out.vG (lo':=wr.heap.size) (hi':=wr.heap.size+3) (qv':=Z) (Q':=rest) (by have h:=ce.out;rw[if_neg eg,show rest.length=L-1 by have:=hh.out;omega] at h;rw[a3];exact h));gi_wp2_with (first|(refine⟨trivial,?_⟩;gi_at_call 194;refine(callsIn_wide.2 (lr g v _)).mono ?_;rintro e w3 ⟨rfl,rfl⟩))
   rw[<-a3];obtain⟨M,aa⟩:∃X,X=(wr.alloc (.cells #[.int .i64 v] 3)).setCell ⟨b3+1+1,0,none⟩ Z:=⟨_,rfl⟩;have cf:Aside0 (M.heap[wr.heap.size]? =some (.cells #[.int .i64 v] 3 (0,0))):=⟨by rw[aa];exact aC d9.out (show wr.heap.size≠b3+1+1 by omega) _⟩;have ch:M.heap.size=wr.heap.size+1:=by rw[aa];simp
   have ci:Aside0 (cn (b3+3) b ds M):=⟨by rw[aa];exact ea.out.set a2.out.x4 _⟩;rw[<-aa] at a4⊢;have Z1:=heap_alloc_new M (.cells #[.pointer (some ⟨g,0,none⟩)] 135);have Z2:=heap_alloc2_new M (.cells #[.pointer (some ⟨g,0,none⟩)] 135) (.cells #[.int .i64 v] 3);rw[ch] at Z1 Z2;have O:=Aside0.mk ((a4.out.alloc (.cells #[.pointer (some ⟨g,0,none⟩)] 135)).alloc (.cells #[.int .i64 v] 3));have ar:=Aside0.mk (aw (aw cf.out (.cells #[.pointer (some ⟨g,0,none⟩)] 135)) (.cells #[.int .i64 v] 3));have av:=Aside0.mk ((ci.out.below (aq (Below.refl _ _) (.cells #[.pointer (some ⟨g,0,none⟩)] 135))).below (aq (Below.refl _ _) (.cells #[.int .i64 v] 3)));have a5:=Aside0.mk (aw Z1 (.cells #[.int .i64 v] 3));have a9:=Aside0.mk Z2;have aB:=Aside0.mk (aG dl.out O.out.hb);have be:((M.alloc (.cells #[.pointer (some ⟨g,0,none⟩)] 135)).alloc (.cells #[.int .i64 v] 3)).heap.size=wr.heap.size+3:=by simp[ch]
   have e4:=Nat.le_of_eq be;have e5:=Nat.le_of_eq be.symm;clear be;clear d9 ea a2 ce a4 cf ci Z1 Z2 aa a3 V x4 ed x3 cd hj he hf hg hl;generalize (M.alloc (.cells #[.pointer (some ⟨g,0,none⟩)] 135)).alloc (.cells #[.int .i64 v] 3)=r at O ar av a5 a9 aB e4 e5⊢;refine ie (σ:=Unit) (α:=Int×Int) (F:=Fence.wide) (n:=10) rfl (by decide) (gf:=207) (lb:=#[.pointer (some ⟨wr.heap.size+1,0,none⟩),.pointer (some ⟨wr.heap.size+1+1,0,none⟩)]) rfl trivial (enters_of Tryz.func207 (by kernel_rfl) rfl)
    (fun o=>pX (wr.heap.size+1) (wr.heap.size+1+1) g n A0 c0 E q dv sv er v w _ gi HE.out hn a1 (aq (aq O.out.hb _) _) (aw (aw a5.out _) _) (aw (aw a9.out _) _) (aw (aw aB.out _) _)) (fun _=>rfl)
    (fun _=>True) ?F6 ?st2 ?Gf
    (fun _ pre W=>r.heap.size<=W.heap.size∧∃(a:List Int) (qv':Value) (Q':List Nat),DI w b3 (b3+1+1) go co n wr.heap.size (wr.heap.size+3) a qv' Q' W∧Bf n q (kz E) a Q' (rd a v) (ou v pre)∧2*(n-bM a)+Q'.length<=2*(n-bM out)+rest.length∧W.heap[wr.heap.size]? =some (.cells #[.int .i64 v] 3 (0,0))∧cn (b3+3) b ds W) (fun _ _ _ _=>False)
    ?F7 (fun _ _ _ _ _ _ h _=>h) ?Gh (fun _ _ _ _ _ h _=>h) ?F9 ?Ga ?a12 ?F_ ?F4 ?Gj (fun _ _ _ _ _ _ _ h=>h.elim)
   case F_=>
    intro l x W K Y;gi_wp2;exact Y
   case F6=>
    intro o s W1 h;exact⟨trivial,by rw[h];exact bX.refl _ _⟩
   case st2=>intro s A B _ h;exact cN h
   case Gf=>intro s x A B _ h;exact cN h.2
   case F7=>
    rintro s pre A B _ ⟨P,a,qv',Q',h1,z,h4,h5,h6⟩ N;exact⟨Nat.le_trans P N.size,a,qv',Q',h1.below N,z,h4,aG h5 N,h6.below N⟩
   case Gh=>
    rintro s pre A B ⟨P,a,qv',Q',h1,z,h4,h5,h6⟩ aF;exact⟨by rw[aF.size];exact P,a,qv',Q',h1.bk aF (by omega),z,h4,aF.cells h5,h6.bk aF (by omega)⟩
   case F9=>
    intro s A B C D aL cj ck;refine⟨fun aQ=>((aL.below w.heap.size (by omega)).trans (cj.1 (by rw[aL.size];exact aQ))).trans (ck.below w.heap.size (by omega)),fun k hk cl=>?_⟩;have cr:k≠r.heap.size+1:=by rcases hk with rfl|rfl|rfl<;>omega
    exact(ck.heap k cr).trans ((cj.2 k hk (by rw[aL.size];exact cl)).trans (aL.heap k cr))
   case Ga=>
    rintro o s W1 rfl;exact⟨by simp;omega,out,Z,rest,(O.out.alloc _).alloc _,hm.out.lC (fun x y h=>⟨h,by simp⟩),Nat.le_refl _,aw (aw ar.out _) _,(av.out.below (aq (Below.refl _ _) _)).below (aq (Below.refl _ _) _)⟩
   case F4=>
    rintro l s' pre ⟨u,m⟩ Wb Wc W _ ⟨P,a,qv',Q',i1,i2,i4,i5,i6⟩ ⟨⟨cs,e6⟩,ab⟩ e_ H;have G:=Aside0.mk ((i1.below ab).bk H (by omega));have S:=Aside0.mk i4;have I5:=Aside0.mk (H.cells (aG i5 ab));have I6:=Aside0.mk ((i6.below ab).bk H (by omega));have aP:r.heap.size<=W.heap.size:=by have:=H.size;have:=ab.size;omega
    clear i1 i4 i5 i6 ab H e_ P;simp only at cs;obtain⟨u0,u1,m0,m1⟩:=cs;obtain⟨u,rfl⟩:=Int.eq_ofNat_of_zero_le u0;have aS:u<n:=by omega
    obtain⟨l1,l2⟩:=Bf.look (ex:=fun y=>¬∃m,((y:Int),m)∈pre) i2 aS a1 ⟨m,e6⟩;have hP:=i2.d0;have hQ:rd a v<=1000:=by have h1:=i2.hi v a1;have z:=i' a;have h3:=i2.len;omega
    have e':=Aside0.mk i2.len;have z3:=G.out.c3;have z4:=G.out.jr u aS;have cx:∀(ex:Nat->Prop) (x y:Nat),(x=v∧(¬∃m,((y:Int),m)∈pre)∧y≠u)->ou v (pre++[((u:Int),m)]) x y:=fun ex x y h=>⟨h.1,fun⟨m',ag⟩=>by
     rcases List.mem_append.1 ag with ag|ag
     ·exact h.2.1 ⟨m',ag⟩
     ·have:=List.mem_singleton.1 ag
      injection this with e1 e2
      exact h.2.2 (by omega)⟩
    have c2:=Aside0.mk cx;clear cx i2;by_cases bn:rd a u<0
    ·obtain⟨k1,k2,k3,k4⟩:=l2 bn
     have K2:=Aside0.mk k2;have K3:=Aside0.mk k3;have K4:=Aside0.mk (k4.lC (c2.out (fun _=>True)));have fo:decide (rd a u<0)=true:=decide_eq_true bn;clear l1 l2 k1 k2 k3 k4;gi_wp2;have z3:=G.out.c3;have z4:=G.out.jr v a1;have z5:=(ao I5.out 0).trans rfl;have fq:wrap64 (rd a v+1)=rd a v+1:=by unfold wrap64;omega
     have hV:(0:Int)<=(u:Int):=by omega
     have hW:(0:Int)<=(v:Int):=by omega
     have bw:(v:Int)<(n:Int):=by omega
     refine nV [_,_,_,_,_,_,_,_] _ rfl (by kernel_rfl) rfl (by kernel_rfl) (by kernel_rfl) (by kernel_rfl) (by kernel_rfl) ?_;repeat(gi_big_quiet_step (fail))
     refine wpQuietIn_nil ?_;rintro _ ⟨nq,rfl⟩;have I:=Aside0.mk (G.out.drewN nq);have J5:=Aside0.mk (gV I5.out nq);have J6:=Aside0.mk (I6.out.below (bP (Below.refl _ _) nq));have b1:r.heap.size<=(W.drewN nq).heap.size:=by simpa using aP
     have b2:=Aside0.mk (cN (nw:=r.heap.size) (bP (Below.refl W.heap.size W) nq));have b4:=Aside0.mk (bP (Below.refl w.heap.size W) nq);have b5:Aside0 (∀k,k≠go->(W.drewN nq).heap[k]? =W.heap[k]?):=⟨fun k _=>by simp⟩;clear z3 z4 z5 fq;have z5:=I.out.vH u aS;have z6:=I.out.jr u aS;generalize W.drewN nq=Wq at I J5 J6 b1 b2 b4 b5 z5 z6⊢;obtain⟨g1,g2,g3,g4⟩:=I.out.ld;obtain⟨n1,n2,n3,n4,n5⟩:=I.out.ne;have i:=Aside0.mk (I.out.vF u (rd a v+1));have fv:wr.heap.size≠go:=by omega
     have f0:=Aside0.mk (aC (p:=⟨go,u,none⟩) J5.out fv (.int .i64 (rd a v+1)));have f1:Aside0 (cn (b3+3) b ds (Wq.setCell ⟨go,u,none⟩ (.int .i64 (rd a v+1)))):=⟨by
      obtain⟨inner,ho⟩:=Kd.iT I.out.ro;obtain⟨cells,hc⟩:=iS ho go rfl;exact J6.out.set (p:=⟨go,u,none⟩) hc _⟩
     have f4:r.heap.size<=(Wq.setCell ⟨go,u,none⟩ (.int .i64 (rd a v+1))).heap.size:=by simpa using b1
     have f5:=Aside0.mk (b2.out.trans (fa (bo:=go) (j:=u) Wq (.int .i64 (rd a v+1)) (show go<r.heap.size by omega)));have f6:Aside0 (∀k,k≠go->(Wq.setCell ⟨go,u,none⟩ (.int .i64 (rd a v+1))).heap[k]? =W.heap[k]?):=⟨fun k hk=>(Below.heap_setCell _ _ _ _ hk).trans (b5.out k hk)⟩;have f7:Aside0 (∀k,(Wq.setCell ⟨go,u,none⟩ (.int .i64 (rd a v+1))).heap.size<=k->k≠go∧(k<wr.heap.size∨wr.heap.size+3<=k)):=⟨fun k hk=>by
      simp only[World.size_setCell] at hk;omega⟩
     have f8:Aside0 (((Q'.map fun x:Nat=>(x:Int)).length+1)*8<=140737488355328):=⟨by
      have h1:=S.out;have z:=HK.out.1;have h3:=HK.out.2;rw[List.length_cons] at z;rw[List.length_map];omega⟩
     have f9:=Aside0.mk (Below.setCell (p:=⟨go,u,none⟩) b4.out g4 (.int .i64 (rd a v+1)));have z4:=i.out.c4;have h0:go≠b3+1+1:=n3;clear G I5 I6 I J5 J6 b1 b2 b4 b5 aP O ar av aB;gi_wp2_with (gi_at_builtin;go_loud (refine vD (Kd.int .i64) (w0:=w) w.heap.size rfl (.tmp 51) (.tmp 53) 25 3 (.int .i64 0) 8 rfl Tryz.underlying25 fY rfl (by decide) (by omega) qv' (Q'.map fun x:Nat=>(x:Int)) (u:Int) [.int .i64 u] (fun k=>k≠go∧(k<wr.heap.size∨wr.heap.size+3<=k)) (fun _=>False) rfl (by rw[World.size_setCell];rfl) rfl (fun _ hk=>hk.elim) f7.out i.out.rq i.out.hb i.out.hb.size f8.out ?_;intro v1 h7 T c9 a0 f';obtain⟨A1,c1,bw, -⟩:=Kd.mR T;obtain⟨nx,dk⟩:∃nx,nx=((Q'.map fun x:Nat=>(x:Int))++[(u:Int)]).length:=⟨_,rfl⟩;rw[<-dk] at bw;clear dk;subst bw;have gb:=Aside0.mk (i.out.push T a0 c9);have X4:=Aside0.mk (cI i.out.x4 a0 (fun e=>(i.out.own _ e.symm).2.2.2.2 rfl));have eg:=dt X4.out;have h9:=bq X4.out 0;have gc:=Aside0.mk a0;clear T a0 f' c9))
     have U:=gc.out;have T:=i.out.own;have Y:∀k,(k=wr.heap.size∨k=wr.heap.size+1∨k=wr.heap.size+1+1∨k=g)->some k≠qv'.ownBlock:=fun k hk e=>by
      have:=T k e.symm;rcases hk with rfl|rfl|rfl|rfl<;>omega
     have h_:=U.size;refine⟨(f5.out.trans (vE i.out.rq U)).trans (fa _ _ (show b3+1+1<r.heap.size by omega)),⟨fun _=>Below.setCell (p:=⟨b3+1+1,0,none⟩) (f9.out.grown U i.out.hb.size (fun k e=>(T k e).2.2.1)) n5 _,fun k hk cl=>?_⟩,?_,_,_,Q'++[u],gb.out,?_,?_,aC (cI f0.out U (Y _ (.inl rfl))) (show wr.heap.size≠b3+1+1 by omega) _,(f1.out.vC i.out.rq U).set X4.out _⟩
     ·refine(Below.heap_setCell _ _ _ _ (show k≠b3+1+1 by rcases hk with rfl|rfl|rfl<;>omega)).trans ((U.block k ?_ (Y k (hk.elim (fun h=>.inr (.inl h)) (fun h=>.inr (.inr h))))).trans (f6.out k (by rcases hk with rfl|rfl|rfl<;>omega)))
      have h1:=f4;rcases hk with rfl|rfl|rfl<;>omega
     ·simp only[World.size_setCell];omega
     ·rw[K2.out];exact K4.out
     ·rw[K3.out,List.length_append]
      have h1:=S.out;have z:=i' (a.set u (rd a v+1));rw[K3.out,List.length_set,e'.out] at z;simp only[List.length_cons,List.length_nil];omega
    ·have K4:=Aside0.mk ((l1 (by omega)).lC (c2.out (fun _=>True)))
     have fo:decide (rd a u<0)=false:=decide_eq_false bn;clear l1 l2 O ar av a5 a9 aB;gi_wp2;exact⟨bX.refl _ _,⟨fun _=>Below.refl _ _,fun _ _ _=>rfl⟩,aP,a,qv',Q',G.out,K4.out,S.out,I5.out,I6.out⟩
   case Gj=>
    rintro s' xs W W' _ rfl ⟨P,a,qv',Q',i1,i2,i4,i5,i6⟩ H b_;have G:=Aside0.mk (i1.bk H (by omega)).free;have I2:=Aside0.mk (Bf.done i2 (fun x y ge hex=>hex.2 (by rw[<-hex.1];exact ge)));have S:=Aside0.mk i4;have I6:=Aside0.mk (i6.bk H (by omega));have gg:=Aside0.mk b_;have aP:r.heap.size<W'.heap.size:=(Array.getElem?_eq_some_iff.1 b_).1;clear i1 i2 i4 i5 i6 b_;gi_wp2;exact kg.intro (2*(n-bM a)+Q'.length) (by rw[HK.out.1];have:=S.out;simp only[List.length_cons];omega) (HJ.out _ _ _ ⟨_,_,_,_,_,_,_,_,_,_,_,_,a,qv',Q',_,G,I2,by omega,⟨rfl,by have h1:=S.out;have z:=HK.out.1;have h3:=HK.out.2;rw[List.length_cons] at z;omega⟩,rfl⟩) (r.heap.size+1) (by omega) (I6.out.push (by omega) (by omega) gg.out)
end
section
attribute [local go_sem] iU iV iW iX lU lV lW lX
def fA (xs:List Int):Nat->Int
 |0=>rd xs 0
 |k+1=>if fA xs k<rd xs ((k+1:Nat):Int) then rd xs ((k+1:Nat):Int) else fA xs k
theorem DF (A:Option Addr) (c:Nat) (xs:List Int) (w:World) (h:Kd.C (Kd.int .i64) w A xs.length xs) (h1:1<=xs.length):
  Calls Tryz.prog 167 #[.slice A xs.length c] w fun e w'=>e= .returned (.int .i64 (fA xs (xs.length-1)))∧Below w.heap.size w w':=by
 have v:xs.length<=9223372036854775807:=Kd.lL h;have b:=Aside0.mk (Below.refl w.heap.size w);have m:=Aside0.mk h;obtain⟨a,n,g⟩:=Kd.bG h 0 (by omega) (by omega);subst n;have g:w.cell? a=some (.int .i64 (rd xs 0)):=by simpa [Addr.add] using g
 have x:(1:Int)<=(xs.length:Int):=by omega
 have B:((xs.length:Nat):Int)<=9223372036854775807:=by omega
 clear h;go_enter Tryz.func167,Tryz.ntmps167
 go_wp2;clear g;go_loopg [3,4] (xs.length-1) (fun o p q wr=>∃i:Nat,p= .int .i64 (fA xs (i-1))∧q= .int .i64 i∧1<=i∧i<=xs.length∧Aside0 (Below w.heap.size w wr)∧Aside0 (o=xs.length-i))
 case atStart=>exact⟨1,rfl,rfl,Nat.le_refl _,h1,b,⟨rfl⟩⟩
 case round=>
  clear b;obtain⟨i,rfl,rfl,D,E,b,r⟩:=hrel;by_cases F:i<xs.length
  ·have s:(0:Int)<=(i:Int):=by omega
   have u:(i:Int)<(xs.length:Int):=by omega
   obtain⟨a',k,g⟩:=Kd.bG (Kd.al m.out b.out) (i:Int) s u;injection k with k
   subst k;rw[Int.toNat_natCast] at g;have l:Aside0 (fA xs (i+1-1)=if fA xs (i-1)<rd xs (i:Int) then rd xs (i:Int) else fA xs (i-1)):=⟨by
    obtain⟨j,rfl⟩:∃j,i=j+1:=⟨i-1,by omega⟩;rfl⟩
   generalize fA xs (i-1)=y at l⊢;generalize rd xs (i:Int)=z at g l;go_wp2
   all_goals
    go_roundg (xs.length- (i+1))
    case measure=>rw[r.out];omega
    case rel=>exact⟨i+1,(by rw[l.out];first|rw[if_pos (by assumption)]|rw[if_neg (by assumption)]|rw[if_neg (by omega)]),by go_num,by omega,by omega,b,⟨rfl⟩⟩
  ·obtain rfl:i=xs.length:=by omega
   go_wp2;go_ret;exact⟨rfl,b.out⟩
end
section
attribute [local go_sem] Oper.semAt_some
theorem DG (g n:Nat) (A0:Option Addr) (c0:Nat) (E:List S83) (q:Int) (dv Q:Value) (R:Int) (v:Nat) (lb:Array Value) (B:Nat->Bool) (w:World) (ab:Kd.C aK w A0 E.length E) (hE:dV n E) (hn:n<=1000) (hv:v<n) (i:gw w g n (.slice A0 E.length c0) q dv Q R)
  (hB:∀(W:World) (u:Int),Below w.heap.size w W->0<=u->u<n->Calls Tryz.prog 169 (#[.int .i64 u]++lb) W fun e w'=>e= .returned (.bool (B u.toNat))∧Below W.heap.size W w'):
  Calls Tryz.prog 168 #[.pointer (some ⟨g,0,none⟩),.int .i64 v,.func (.func 169) #[] lb] w fun e w'=>e= .returned (.int .i64 (dP B (b8 E v E.length)))∧Below w.heap.size w w':=by
 have be:=Aside0.mk hB;have HE:=Aside0.mk hE;have ak:=Aside0.mk i;clear hB hE i;refine(callsIn_wide (n:=10)).1 ?_;refine callsIn_of_wp_marks Tryz.func168 rfl trivial ?_ rfl;simp only[Tryz.ntmps168,List.size_toArray,List.length_cons,List.length_nil,Nat.reduceAdd,Nat.reduceSub,Array.replicate_succ,Array.replicate_zero,List.push_toArray,List.append_toArray,List.nil_append,List.cons_append];gi_wp2_with (refine⟨trivial,?_⟩;gi_at_call 194;refine(callsIn_wide.2 (lr g v _)).mono ?_;rintro e w3 ⟨rfl,rfl⟩)
 obtain⟨p,am⟩:∃o:Obj,o= .cells #[.func (.func 169) #[] lb] 121:=⟨_,rfl⟩;obtain⟨on,an⟩:∃o:Obj,o= .cells #[.int .i64 0] 3:=⟨_,rfl⟩;obtain⟨r,ap⟩:∃o:Obj,o= .cells #[.pointer (some ⟨g,0,none⟩)] 135:=⟨_,rfl⟩;obtain⟨y,av⟩:∃o:Obj,o= .cells #[.int .i64 v] 3:=⟨_,rfl⟩;have Z0:=heap_alloc_new w p;have S:=heap_alloc_new (w.alloc p) on;have T:=heap_alloc_new ((w.alloc p).alloc on) r;have U:=heap_alloc_new (((w.alloc p).alloc on).alloc r) y;simp only[World.size_alloc] at S T U;have H0:=Aside0.mk ((aw (aw (aw Z0 on) r) y).trans (by rw[am]:_=some (.cells #[.func (.func 169) #[] lb] 121 (0,0))));have H1:=Aside0.mk ((aw (aw S r) y).trans (by rw[an]:_=some (.cells #[.int .i64 0] 3 (0,0))));have H2:=Aside0.mk ((aw T y).trans (by rw[ap]:_=some (.cells #[.pointer (some ⟨g,0,none⟩)] 135 (0,0))));have H3:=Aside0.mk (U.trans (by rw[av]:_=some (.cells #[.int .i64 v] 3 (0,0))));have z:=Aside0.mk (aq (aq (aq (aq (Below.refl w.heap.size w) p) on) r) y);have aP:Aside0 (gw ((((w.alloc p).alloc on).alloc r).alloc y) g n (.slice A0 E.length c0) q dv Q R):=⟨aG ak.out z.out⟩;have b5:g<w.heap.size:=ay ak.out;have bg:=Aside0.mk (Kd.al ab z.out);clear Z0 S T U;subst am an ap av;have bi:=z.out.size;have bk:((((w.alloc (.cells #[.func (.func 169) #[] lb] 121)).alloc (.cells #[.int .i64 0] 3)).alloc (.cells #[.pointer (some ⟨g,0,none⟩)] 135)).alloc (.cells #[.int .i64 v] 3)).heap.size=w.heap.size+4:=by simp
 generalize ((((w.alloc (.cells #[.func (.func 169) #[] lb] 121)).alloc (.cells #[.int .i64 0] 3)).alloc (.cells #[.pointer (some ⟨g,0,none⟩)] 135)).alloc (.cells #[.int .i64 v] 3))=j at H0 H1 H2 H3 z aP bg bi bk⊢;refine ie (σ:=Unit) (α:=Int×Int) (F:=Fence.wide) (n:=10) rfl (by decide) (gf:=207) (lb:=#[.pointer (some ⟨w.heap.size+1+1,0,none⟩),.pointer (some ⟨w.heap.size+1+1+1,0,none⟩)]) rfl trivial (enters_of Tryz.func207 (by kernel_rfl) rfl)
  (fun o=>nQ (w.heap.size+1+1) (w.heap.size+1+1+1) g n A0 c0 E q dv Q R v w _ ab HE.out hn hv (aq (aq z.out _) _) (aw (aw H2.out _) _) (aw (aw H3.out _) _) (aw (aw aP.out _) _)) (fun _=>rfl)
  (fun _=>True) ?ei ?st ?ar
  (fun _ pre W=>j.heap.size<=W.heap.size∧W.heap[w.heap.size]? =some (.cells #[.func (.func 169) #[] lb] 121 (0,0))∧W.heap[w.heap.size+1]? =some (.cells #[.int .i64 (dP B pre)] 3 (0,0))∧Below w.heap.size w W) (fun _ _ _ _=>False)
  ?is (fun _ _ _ _ _ _ h _=>h) ?ib (fun _ _ _ _ _ h _=>h) ?kt ?h0 ?a1 ?assign ?body ?done (fun _ _ _ _ _ _ _ h=>h.elim)
 case assign=>
  intro l x W K hK;gi_wp2;exact hK
 case ei=>
  intro o s W1 h;exact⟨trivial,by rw[h];exact bX.refl _ _⟩
 case st=>intro s A B _ h;exact cN h
 case ar=>intro s x A B _ h;exact cN h.2
 case is=>
  rintro s pre A B _ ⟨H,h1,V,X⟩ i;exact⟨Nat.le_trans H i.size,aG h1 i,aG V i,aU X i⟩
 case ib=>
  rintro s pre A B ⟨H,h1,V,X⟩ hb;exact⟨by rw[hb.size];exact H,hb.cells h1,hb.cells V,X.trans (hb.below w.heap.size (by omega))⟩
 case kt=>
  intro s A B C D N aS a0;refine⟨fun aQ=>((N.below w.heap.size (by omega)).trans (aS.1 (by rw[N.size];exact aQ))).trans (a0.below w.heap.size (by omega)),fun k hk I=>?_⟩;have a2:k≠j.heap.size+1:=by rcases hk with rfl|rfl|rfl<;>omega
  exact(a0.heap k a2).trans ((aS.2 k hk (by rw[N.size];exact I)).trans (N.heap k a2))
 case h0=>
  rintro o s W1 rfl;exact⟨by simp;omega,aw (aw H0.out _) _,aw (aw H1.out _) _,aq (aq z.out _) _⟩
 case body=>
  rintro l s pre ⟨u,m⟩ Wb W1 W _ ⟨H,i1,i2,i3⟩ ⟨Y,J⟩ b0 b;have Z:=Aside0.mk (b.cells (aG i1 J));have L:=Aside0.mk (b.cells (aG i2 J));have b3:=Aside0.mk ((aU i3 J).trans (b.below w.heap.size (by omega)));have b':j.heap.size<=W.heap.size:=by have:=b.size;have:=J.size;omega
  clear i1 i2 i3 J b b0;simp only at Y;have ca:W.cell? ⟨w.heap.size,0,none⟩=some (.func (.func 169) #[] lb):=(ao Z.out 0).trans rfl;have O:=Aside0.mk (be.out W u b3.out Y.1 Y.2.1);have M:=Aside0.mk (pZ B pre (u,m));generalize dP B pre=s0 at L M;cases P:B u.toNat with
  |true=>
   rw[P] at O M;clear P;gi_wp2_with (refine⟨trivial,?_⟩;gi_at_call 169;refine(callsIn_wide.2 O.out).mono ?_;rintro e w5 ⟨rfl,G⟩;have a:=Aside0.mk G;have D2:=Aside0.mk (aG L.out G);have c5:w5.cell? ⟨w.heap.size+1,0,none⟩=some (.int .i64 s0):=(ao D2.out 0).trans rfl;have f5:=bq D2.out 0;clear G)
   have aQ:=a.out.size;refine⟨(cN a.out).trans (fa _ _ (by show w.heap.size+1<j.heap.size;omega)),⟨fun aQ=>Below.setCell (a.out.mono aQ) (by show w.heap.size<=w.heap.size+1;omega) _,fun k hk I=>?_⟩,by simp;omega,?_,?_,Below.setCell (aU b3.out a.out) (by show w.heap.size<=w.heap.size+1;omega) _⟩
   ·rw[Below.heap_setCell _ _ _ _ (by rcases hk with rfl|rfl|rfl<;>(show _≠w.heap.size+1)<;>omega)]
    exact a.out.block k I
   ·rw[Below.heap_setCell _ _ _ _ (by show w.heap.size≠w.heap.size+1;omega)]
    exact aG Z.out a.out
   ·have h:=bE D2.out 0 (.int .i64 (wrap64 (s0+m)))
    rw[M.out];simpa using h
  |false=>
   rw[P] at O M;clear P;gi_wp2_with (refine⟨trivial,?_⟩;gi_at_call 169;refine(callsIn_wide.2 O.out).mono ?_;rintro e w5 ⟨rfl,G⟩;have a:=Aside0.mk G;clear G)
   have aQ:=a.out.size;exact⟨cN a.out,⟨fun aQ=>a.out.mono aQ,fun k hk I=>a.out.block k I⟩,by omega,aG Z.out a.out,by rw[M.out];exact aG L.out a.out,aU b3.out a.out⟩
 case done=>
  rintro s xs W W' _ rfl ⟨H,i1,i2,i3⟩ b a4;have L:=Aside0.mk (b.cells i2);have b3:=Aside0.mk (i3.trans (b.below w.heap.size (by omega)));have a5:=Aside0.mk a4;clear i1 i2 i3 a4;have hc:W'.cell? ⟨w.heap.size+1,0,none⟩=some (.int .i64 (dP B (b8 E v E.length))):=(ao L.out 0).trans rfl;gi_wp2_with fail
  have b4:Bk j.heap.size W' (W'.putObj j.heap.size (.deferred none)):=⟨_,_,a5.out,rfl,rfl⟩;exact iK (D:=j.heap.size) rfl a5.out (results_tmp rfl _ _ _) ⟨rfl,b3.out.trans (b4.below w.heap.size (by omega))⟩
end
section
attribute [local go_sem] Oper.semAt_some iU iV iW iX
theorem DH (gb a cr n:Nat) (B:Nat->Bool) (ok:Nat->Prop) (base:Nat) (W:World) (u:Int) (hb:W.heap[gb]? =some (.cells #[.slice (some ⟨a,0,none⟩) n cr] 43 (0,0))) (g:Kd.bool.R 4 W base ok (.slice (some ⟨a,0,none⟩) n cr) ((List.range n).map B)) (h:0<=u) (hn:u<n):
  Calls Tryz.prog 169 #[.int .i64 u,.pointer (some ⟨gb,0,none⟩)] W fun e w'=>e= .returned (.bool (B u.toNat))∧Below W.heap.size W w':=by
 have i:W.cell? ⟨gb,0,none⟩=some (.slice (some ⟨a,0,none⟩) n cr):=(ao hb 0).trans rfl;have b:=(Kd.bJ false g u h hn).1;have e:bH false ((List.range n).map B) u=B u.toNat:=by
  obtain⟨m,rfl⟩:=Int.eq_ofNat_of_zero_le h;have:m<n:=by omega
  simp[bH,List.getD_eq_getElem?_getD,List.getElem?_map,List.getElem?_range this]
 rw[e] at b;have b:W.cell? ⟨a,u.toNat,none⟩=some (.bool (B u.toNat)):=b;clear g hb e;go_enter Tryz.func169,Tryz.ntmps169
 go_wp2;go_ret;exact⟨rfl,Below.refl _ _⟩
theorem DJ (A:Option Addr) (c n:Nat) (xs:List Int) (w:World) (a:xs.length=n) (b:Kd.C (Kd.int .i64) w A xs.length xs) (h1:1<=n):
  Calls Tryz.prog 167 #[.slice A n c] w fun e w'=>e= .returned (.int .i64 (fA xs (n-1)))∧Below w.heap.size w w':=by
 subst a;exact DF A c xs w b h1
theorem vI (xs:List Int):∀k i:Nat,i<=k->rd xs (i:Int)<=fA xs k
 |0,i,h=>by
  obtain rfl:i=0:=by omega
  exact Int.le_refl _
 |k+1,i,h=>by
  unfold fA;by_cases e:i=k+1
  ·subst e;split<;>omega
  ·have:=vI xs k i (by omega)
   split<;>omega
theorem vJ (xs:List Int):∀k:Nat,∃i,i<=k∧fA xs k=rd xs (i:Int)
 |0=>⟨0,Nat.le_refl _,rfl⟩
 |k+1=>by
  unfold fA;split
  ·exact⟨k+1,Nat.le_refl _,rfl⟩
  ·obtain⟨i,h1,a⟩:=vJ xs k
   exact⟨i,by omega,a⟩
structure DK (n q:Nat) (t:Nat->Nat->Int) (out:List Int):Prop where
 len:out.length=n
 q0:rd out (q:Int)=0
 pos:∀v:Nat,v<n->0<=rd out (v:Int)∧rd out (v:Int)<n
 vK:∀u v:Nat,u<n->v<n->0<t u v->rd out (v:Int)<=rd out (u:Int)+1
 back:∀v:Nat,v<n->v≠q->∃u:Nat,u<n∧0<t v u∧rd out (u:Int)+1=rd out (v:Int)
theorem qE {n:Nat} {E:List S83} (h:bm n E) {u v:Nat} (hu:u<n) (g:v<n):kz E v u↔0<aj E v u:=by
 have h1:∀L:List (Int×Int),(∀x∈L,0<=x.1∧x.1<n∧x.1≠v∧1<=x.2∧x.2<=50)->0<=du (fun w=>if w=u then 1 else 0) L∧(0<du (fun w=>if w=u then 1 else 0) L↔∃m,((u:Int),m)∈L):=by
  intro L;induction L with
  |nil=>intro _;simp[du]
  |cons x L i=>
   intro a;obtain⟨i1,i2⟩:=i (fun y j=>a y (List.mem_cons_of_mem _ j));have k:=a x (List.mem_cons_self ..);simp only[du];by_cases e:x.1.toNat=u
   ·rw[if_pos e,Int.mul_one]
    refine⟨by omega,fun _=>⟨x.2,?_⟩,fun _=>by omega⟩;have:x=((u:Int),x.2):=by rw[<-e];ext<;>simp;omega
    rw[<-this];exact List.mem_cons_self ..
   ·rw[if_neg e,Int.mul_zero,Int.zero_add]
    refine⟨i1,fun h=>?_,fun⟨m,hm⟩=>?_⟩
    ·obtain⟨m,hm⟩:=i2.1 h
     exact⟨m,List.mem_cons_of_mem _ hm⟩
    ·rcases List.mem_cons.1 hm with rfl|hm
     ·exact absurd (show ((u:Int)).toNat=u by simp) e
     ·exact i2.2 ⟨m,hm⟩
 have b:=h1 _ (nX h E.length (Nat.le_refl _) (v:=v));rw[nW h _ g,T.i_ hu (fun w _ hw=>by rw[if_neg hw,Int.mul_zero]),if_pos rfl,Int.mul_one] at b;exact b.2.symm
theorem Bf.dst {n q:Nat} {E:List S83} (h:bm n E) (m:T.dp n (aj E)) (o:q<n) {out:List Int} {D:Int} (hb:Bf n q (kz E) out [] D (fun _ _=>False)):DK n q (aj E) out:=by
 have i:∀v:Nat,v<n->0<=rd out (v:Int):=by
  intro v e;refine Classical.byContradiction fun p=>?_
  obtain⟨a,b,k,l,h1,g,j⟩:=m (fun v=>decide (0<=rd out (v:Int))) ⟨q,o,by simp[hb.q0]⟩ ⟨v,e,by simpa using p⟩;have:=hb.jM a k (of_decide_eq_true h1) (by simp) b l ((qE h l k).2 j) (fun f=>f);exact(of_decide_eq_false g) this.1
 refine⟨hb.len,hb.q0,fun v e=>⟨i v e,?_⟩,fun u v hu e r=>(hb.jM u hu (i u hu) (by simp) v e ((qE h e hu).2 r) (fun f=>f)).2,fun v e s=>?_⟩
 ·have h1:=hb.hi v e
  have g:=i' out;rw[hb.len] at g;omega
 ·obtain⟨u,hu,h1,g,j⟩:=hb.back v e s (i v e)
  exact⟨u,hu,by rw[h.wt.sym];exact(qE h e hu).1 h1,j⟩
structure LI (w0 w:World) (g gd gs go cd cs co n:Nat) (A0:Option Addr) (c0:Nat) (E:List S83) (q:Int) (out d s:List Int) (W:World):Prop where
 si:SI w0 g gd gs cd cs n A0 c0 E q d s W
 fo:(Kd.int .i64).R 3 W w.heap.size (fun _=>True) (.slice (some ⟨go,0,none⟩) n co) out
 hw:w0.heap.size<=w.heap.size∧gd<w.heap.size∧gs<w.heap.size∧g<w.heap.size∧w.heap.size<=go
namespace LI
variable {w0 w W W':World} {g gd gs go cd cs co n c0 l:Nat} {A0:Option Addr} {E:List S83} {q:Int} {out d s:List Int}
theorem below (h:LI w0 w g gd gs go cd cs co n A0 c0 E q out d s W) (hb:Below W.heap.size W W'):LI w0 w g gd gs go cd cs co n A0 c0 E q out d s W':=⟨h.si.below hb,Kd.cp h.fo hb,h.hw⟩
theorem alloc (h:LI w0 w g gd gs go cd cs co n A0 c0 E q out d s W) (o:Obj):LI w0 w g gd gs go cd cs co n A0 c0 E q out d s (W.alloc o):=h.below (aq (Below.refl _ _) o)
theorem drewN (h:LI w0 w g gd gs go cd cs co n A0 c0 E q out d s W) (m:Nat):LI w0 w g gd gs go cd cs co n A0 c0 E q out d s (W.drewN m):=h.below (bP (Below.refl _ _) m)
theorem drew (h:LI w0 w g gd gs go cd cs co n A0 c0 E q out d s W):LI w0 w g gd gs go cd cs co n A0 c0 E q out d s W.drew:=h.drewN 1
theorem gM (h:LI w0 w g gd gs go cd cs co n A0 c0 E q out d s W) (p:Addr) (v:Value) (a:w.heap.size<=p.block) (h1:p.block≠go):LI w0 w g gd gs go cd cs co n A0 c0 E q out d s (W.setCell p v):=
 ⟨h.si.gM p v (by have:=h.hw;omega) (by have:=h.hw;omega),Kd.aV (Kd.eU (Kd.fU rfl h.fo) (fun k hk=>Below.heap_setCell _ _ _ _ (fun e=>h1 (by rw[<-e];injection hk)))) (fun _ _=>trivial),h.hw⟩
theorem jr (h:LI w0 w g gd gs go cd cs co n A0 c0 E q out d s W) (v:Nat) (a:v<n):W.cell? ⟨go,v,none⟩=some (.int .i64 (rd out v)):=by
 have:=(Kd.bJ 0 h.fo (v:Int) (by omega) (by omega)).1;rw[Int.toNat_natCast] at this;exact this
theorem DL (h:LI w0 w g gd gs go cd cs co n A0 c0 E q out d s W) {d' s':List Int} (a:SI w0 g gd gs cd cs n A0 c0 E q d' s' W') (hk:∀k,k<W.heap.size->k≠gd->k≠gs->W'.heap[k]? =W.heap[k]?):LI w0 w g gd gs go cd cs co n A0 c0 E q out d' s' W':=
 ⟨a,Kd.aV (Kd.eU (Kd.fU rfl h.fo) (fun k e=>by
  injection e with e
  subst e;have h1:=h.hw;exact hk _ (Kd.aX h.fo _ rfl) (by omega) (by omega))) (fun _ _=>trivial),h.hw⟩
end LI
theorem DM (g gd gs cd cs n:Nat) (A0:Option Addr) (c0:Nat) (E:List S83) (q:Nat) (d:List Int) (w0 w:World) (an:Kd.C aK w0 A0 E.length E) (hE:bm n E) (hl:E.length<=1000) (hC:e7 n E) (hn:n<=12) (hq:q<n) (aa:T.sN (T.val n (aj E)) n<=19)
  (hd:∀v:Nat,v<n-> -200<=rd d v∧rd d v<=200) (bi:d.length=n) (h:SI w0 g gd gs cd cs n A0 c0 E q d (List.replicate n 0) w):
  Calls Tryz.prog 110 #[.pointer (some ⟨g,0,none⟩)] w fun e w'=>e= .returned (.tuple #[])∧∃(d' s':List Int),d'.length=n∧s'.length=n∧SI w0 g gd gs cd cs n A0 c0 E q d' s' w'∧(∀v:Nat,v<n->v≠q->0<=rd d' v)∧∃dist:Nat->Int,T.eO n (aj E) (fun v=>rd d (v:Nat)) dist 200 0 (fun v=>rd d' (v:Nat)) (fun v=>rd s' (v:Nat)):=by
 have fb:=Tryz.underlying188;have hu:=Tryz.underlying24;have o:=Aside0.mk hE;have HC:=Aside0.mk hC;have HD:=Aside0.mk hd;have bk:=h.hb.size;obtain⟨q1,q2,q3,q4,q5⟩:=h.ld;have HS:=Aside0.mk h;have c':1<=n:=by omega
 clear hE hC hd h;go_enter Tryz.func110,Tryz.ntmps110
 go_wp2_with (first|(go_at_call 165;refine(DE g n A0 c0 E q _ _ 0 _ (Kd.al an HS.out.hb) o.out.jh (by omega) hq HS.out.st).mono ?_;rintro e w1 ⟨go,co,out,D,rfl,hO,K,bn⟩;have s:=Aside0.mk (Bf.dst o.out (o.out.conn HC.out) hq bn);have ar:Aside0 (LI w0 w g gd gs go cd cs co n A0 c0 E q out d (List.replicate n 0) w1):=⟨HS.out.below K,hO,bk,q1,q2,q3,Kd.dK hO go rfl⟩;clear hO K bn)|(go_at_call 167;refine(DJ _ _ n out _ s.out.len (Kd.aA ar.out.fo).2.2 c').mono ?_;rintro e w2 ⟨rfl,K⟩;have L:=Aside0.mk (ar.out.below K);clear K ar))
 obtain⟨im,dd,dk⟩:=vJ out (n-1);obtain⟨G,av⟩:∃G:Nat,fA out (n-1)=G:=⟨(fA out (n-1)).toNat,by have:=s.out.pos im (by omega);omega⟩;have aB:G<=n:=by have:=s.out.pos im (by omega);omega
 have HM:Aside0 (∀v:Nat,v<n->rd out (v:Int)<=G):=⟨fun v l=>by rw[<-av];exact vI out (n-1) v (by omega)⟩;have bw:Aside0 (T.eO n (aj E) (fun v=>rd d (v:Nat)) (fun v=>rd out (v:Nat)) 200 G (fun v=>rd d (v:Nat)) (fun v=>rd (List.replicate n 0) (v:Nat))):=⟨by
  have h:=T.eO.start (n:=n) (t:=aj E) (D:=fun v=>rd d (v:Nat)) (dist:=fun v=>rd out (v:Nat)) (B:=200) (k:=G) (by omega) (fun v l=>(HD.out v l).1) HM.out (by omega);rw[show (fun v:Nat=>rd (List.replicate n 0) (v:Int))=fun _=>0 from by
   funext v
   simp[rd,List.getD_eq_getElem?_getD,List.getElem?_replicate];split<;>rfl]
  exact h⟩
 rw[av];clear av dk dd;have dl:=Aside0.mk bi;have ds:=Aside0.mk (List.length_replicate (n:=n) (a:=(0:Int)));clear bi;go_loopg [4] (G) (fun M kv wr=>∃(k:Nat) (d' s':List Int),kv= .int .i64 k∧k<=n∧Aside0 (LI w0 w g gd gs go cd cs co n A0 c0 E q out d' s' wr)∧Aside0 (d'.length=n)∧Aside0 (s'.length=n)∧Aside0 (T.eO n (aj E) (fun v=>rd d (v:Nat)) (fun v=>rd out (v:Nat)) 200 k (fun v=>rd d' (v:Nat)) (fun v=>rd s' (v:Nat)))∧Aside0 (M=k))
 case atStart=>exact⟨G,d,List.replicate n 0,rfl,aB,L,dl,ds,bw,⟨rfl⟩⟩
 case round=>
  clear L bw HM aB HS;obtain⟨k,d',s',rfl,aB,b,O,P,I,HK⟩:=hrel;by_cases hk:0<k
  ·have fq:(0:Int)<(k:Int):=by omega
   have d0:(0:Int)<=(n:Int):=by omega
   have s5:=b.out.si.f5;have s0:=b.out.si.f0;go_wp2_with (first|((with_reducible refine aH (N:=33) rfl ?_);refine Kd.jx Kd.bool _ 4 rfl (N:=33) rfl 43 _ _ rfl (n:Int) rfl rfl Tryz.underlying43 (.bool false) 1 l4 rfl (by decide) (by omega) false (ok:=fun _=>True) (okp:=fun _=>True) rfl (fun _ hk=>hk) trivial d0 (by simp;omega) (Below.refl _ _) (Nat.le_refl _) ?_;intro v1 w5 ho hb d2 d3;rw[Int.toNat_natCast] at ho;obtain⟨j,cr,l,fr,d4, -⟩:=Kd.fg ho (by rw[List.length_replicate];omega);rw[List.length_replicate] at l;subst l;have b4:=Aside0.mk ho;have b5:=Aside0.mk (b.out.below hb);clear ho hb d2 d3))
   have ft:=Kd.aX b.out.fo go rfl;have fv:=b.out.si.hb.size;have f1:=b.out.hw;have d5:w.heap.size<=wr.heap.size:=by omega
   have d6:j≠go:=by omega
   have d7:w.heap.size<=j:=by omega
   have ag:=Aside0.mk (heap_alloc_new w5 (.cells #[.slice (some ⟨j,0,none⟩) n cr] 43));have aL:=Aside0.mk (Kd.aW (Kd.aI b4.out (.cells #[.slice (some ⟨j,0,none⟩) n cr] 43)) (base':=w.heap.size) d5);have aO:=Aside0.mk (b5.out.alloc (.cells #[.slice (some ⟨j,0,none⟩) n cr] 43));clear b4 b5 s5 s0 b;generalize w5.alloc (.cells #[.slice (some ⟨j,0,none⟩) n cr] 43)=W6 at ag aL aO⊢;generalize w5.heap.size=gb at ag d4⊢;have b6:Aside0 (Kd.bool.R 4 W6 w.heap.size (fun _=>True) (.slice (some ⟨j,0,none⟩) n cr) ((List.range n).map fun u:Nat=>if u<0 then decide (rd out (u:Int)<k) else false)):=⟨by
    have h:=aL.out;rw[show (List.replicate n false:List Bool)=(List.range n).map fun u:Nat=>if u<0 then decide (rd out (u:Int)<k) else false from by
     refine List.ext_getElem (by simp) fun i h1 H=>?_
     simp] at h
    exact h⟩
   clear aL;go_loopg [36] (n) (fun M vv aS=>∃v:Nat,v<=n∧vv= .int .i64 v∧Aside0 (LI w0 w g gd gs go cd cs co n A0 c0 E q out d' s' aS)∧Aside0 (aS.heap[gb]? =some (.cells #[.slice (some ⟨j,0,none⟩) n cr] 43 (0,0)))∧Aside0 (Kd.bool.R 4 aS w.heap.size (fun _=>True) (.slice (some ⟨j,0,none⟩) n cr) ((List.range n).map fun u:Nat=>if u<v then decide (rd out (u:Int)<k) else false))∧Aside0 (M=n-v))
   case atStart=>exact⟨0,by omega,rfl,aO,ag,b6,⟨rfl⟩⟩
   case round=>
    clear aO ag b6;obtain⟨v,l,rfl,b,m,Q,J⟩:=hrel;by_cases p:v<n
    ·have d9:(0:Int)<=(v:Int):=by omega
     have ea:(v:Int)<(n:Int):=by omega
     have S:=dt m.out;have b1:=b.out.jr v p;obtain⟨U,hf⟩:=Kd.bJ false Q.out (v:Int) (by omega) (by omega);rw[Int.toNat_natCast] at U hf;generalize bH false ((List.range n).map fun u:Nat=>if u<v then decide (rd out (u:Int)<k) else false) (v:Int)=z at U;replace U:wr.cell? ⟨j,v,none⟩=some (.bool z):=U;have V:=Kd.cZ Q.out (v:Int) (decide (rd out (v:Int)<k));rw[Int.toNat_natCast] at V;have em:(((List.range n).map fun u:Nat=>if u<v then decide (rd out (u:Int)<k) else false).set v (decide (rd out (v:Int)<k)))=(List.range n).map fun u:Nat=>if u<v+1 then decide (rd out (u:Int)<k) else false:=by
      refine List.ext_getElem (by simp) fun i h1 H=>?_
      rw[List.getElem_set];simp only[List.getElem_map,List.getElem_range];by_cases e:v=i
      ·subst e;simp
      ·rw[if_neg e]
       by_cases h:i<v
       ·rw[if_pos h,if_pos (by omega)]
       ·rw[if_neg h,if_neg (by omega)]
     rw[em] at V;have b_:=Aside0.mk (Kd.a8 V.1);have b':=Aside0.mk (ff (cI (g:=gb) m.out V.2 (fun e=>by injection e with e;omega)));have L:=Aside0.mk ((b.out.gM ⟨j,v,none⟩ (.bool (decide (rd out (v:Int)<k))) d7 d6).drew);clear V em b m Q;go_wp2;go_region
     clear S b1 U hf;generalize (wr.setCell ⟨j,v,none⟩ (.bool (decide (rd out (v:Int)<k)))).drew=W7 at L b' b_⊢;go_wp2;go_roundg (n- (v+1))
     case measure=>rw[J.out];omega
     case rel=>exact⟨v+1,by omega,by go_num,L,b',b_,⟨rfl⟩⟩
    ·obtain rfl:n=v:=by omega
     go_wp2;have r:Aside0 (Kd.bool.R 4 wr w.heap.size (fun _=>True) (.slice (some ⟨j,0,none⟩) n cr) ((List.range n).map (T.bs (fun v=>rd out (v:Nat)) k))):=⟨by
      have h:=Q.out;rw[show ((List.range n).map fun u:Nat=>if u<n then decide (rd out (u:Int)<k) else false)=(List.range n).map (T.bs (fun v=>rd out (v:Nat)) k) from List.map_congr_left fun u hu=>by
       rw[if_pos (List.mem_range.1 hu)];rfl] at h
      exact h⟩
     have eb:0<=T.e9 n (aj E) (fun v=>rd out (v:Nat)) 200 k:=by have:=T.nG (n:=n) (t:=aj E) (fun v=>rd out (v:Nat)) (show (0:Int)<=200 by omega) k;omega
     have ed:=T.pP o.out.wt (fun v=>rd out (v:Nat)) (B:=200) (by omega) aa k;have ca:Aside0 (∀v:Nat,v<n-> -T.e9 n (aj E) (fun v=>rd out (v:Nat)) 200 k<=rd d' v):=⟨fun v l=>I.out.low v l⟩;clear Q J;obtain⟨Y,a1⟩:∃Y,Y=T.e9 n (aj E) (fun v=>rd out (v:Nat)) 200 k:=⟨_,rfl⟩;rw[<-a1] at eb ed ca;have eg:=Aside0.mk a1;clear a1;go_loopg [51,7] (n) (fun M vv tv wr=>∃(v:Nat) (x:Int),v<=n∧vv= .int .i64 v∧tv= .int .i64 x∧0<=x∧x<=Y∧Aside0 (∀u:Nat,u<v->rd out u=k->rd d' u<0-> -rd d' u<=x*T.sN (fun w=>if T.bs (fun v=>rd out (v:Nat)) k w=true then aj E u w else 0) n)∧Aside0 (LI w0 w g gd gs go cd cs co n A0 c0 E q out d' s' wr)∧Aside0 (wr.heap[gb]? =some (.cells #[.slice (some ⟨j,0,none⟩) n cr] 43 (0,0)))∧Aside0 (Kd.bool.R 4 wr w.heap.size (fun _=>True) (.slice (some ⟨j,0,none⟩) n cr) ((List.range n).map (T.bs (fun v=>rd out (v:Nat)) k)))∧Aside0 (M=n-v))
     case atStart=>exact⟨0,0,by omega,rfl,rfl,by omega,by omega,⟨fun u hu=>by omega⟩,b,m,r,⟨rfl⟩⟩
     case round=>
      clear b m r;obtain⟨v,x,l,rfl,rfl,a2,a3,X,b,m,r,J⟩:=hrel;by_cases p:v<n
      ·have d9:(0:Int)<=(v:Int):=by omega
       have ea:(v:Int)<(n:Int):=by omega
       have S:=dt m.out;have b1:=b.out.jr v p;have b2:=b.out.si.jN v p;have b3:=b.out.si.f3;by_cases F:rd out v=k
       ·have er:(rd out v==(k:Int))=true:=by simpa using F
        by_cases cb:rd d' v<0
        ·have es:decide (rd d' v<0)=true:=decide_eq_true cb
         obtain⟨u,hu,cc,ce⟩:=s.out.back v p (fun e=>by have:=s.out.q0;rw[<-e] at this;omega);have cf:=Aside0.mk (Bs o.out.wt hu cc ce F);have ch:Aside0 (T.sN (fun w=>if T.bs (fun v=>rd out (v:Nat)) k w=true then aj E v w else 0) n<=600):=⟨by
          have h:=T.cM (f:=fun w=>if T.bs (fun v=>rd out (v:Nat)) k w=true then aj E v w else 0) (g:=fun _=>50) (n:=n) (fun w _=>by
           have:=o.out.jh.times v w;show (if T.bs (fun v=>rd out (v:Nat)) k w=true then aj E v w else 0)<=50
           split<;>omega)
          rw[T.iH] at h;omega⟩
         have ci:=Aside0.mk (qd o.out hl (T.bs (fun v=>rd out (v:Nat)) k) p);have f4:=(mu o.out.wt hn aa (fun v l=>HD.out v l) (by omega) (by omega) I.out v p).1;have f6:=ca.out v p;have a4:=Aside0.mk F;clear F cc ce;go_wp2_with (go_at_call 168;refine(DG g n A0 c0 E q _ _ 0 v #[.pointer (some ⟨gb,0,none⟩)] (T.bs (fun v=>rd out (v:Nat)) k) _ (Kd.al an b.out.si.hb) o.out.jh (by omega) p b.out.si.st (fun W u cj ev ew=>DH gb j cr n _ _ _ W u (aG m.out cj) (Kd.cp r.out cj) ev ew)).mono ?_;rintro e w8 ⟨rfl,ak⟩;have Z:=Aside0.mk (b.out.below ak);have ey:=Aside0.mk (aG m.out ak);have e0:=Aside0.mk (Kd.cp r.out ak);have c2:=Z.out.si.jN v p;have c3:=Z.out.si.f3;rw[ci.out];clear ak S b1 b2 b3 b m r;obtain⟨y,hy⟩:∃y,y=T.sN (fun w=>if T.bs (fun v=>rd out (v:Nat)) k w=true then aj E v w else 0) n:=⟨_,rfl⟩;rw[<-hy];have a5:=cf.out;have e1:=ch.out;rw[<-hy] at a5 e1;have HY:=Aside0.mk hy;clear hy cf ch ci)
         all_goals
          have e3:=Aside0.mk (Bo (a:= -rd d' v) (x:=y) a5);have ck:=Aside0.mk (Bp (a:= -rd d' v) (x:=y) (by omega) a5);go_roundg (n- (v+1))
          case measure=>rw[J.out];omega
          case rel=>exact⟨v+1,_,by omega,by go_num,rfl,by have:=ck.out;omega,by have:=ck.out;omega,⟨fun u hu h1 H=>by
           have hc:=e3.out;by_cases e:u=v
           ·subst e
            rw[<-HY.out];first|exact hc|exact Int.le_trans hc (Int.mul_le_mul_of_nonneg_right (by assumption) (by omega))
           ·have hT:=X.out u (by omega) h1 H
            first|exact hT|exact Int.le_trans hT (Int.mul_le_mul_of_nonneg_right (by omega) (T.di fun w _=>by
             show 0<=(if T.bs (fun v=>rd out (v:Nat)) k w=true then aj E u w else 0)
             have:=o.out.wt.pos u w;split<;>omega))⟩,Z,ey,e0,⟨rfl⟩⟩
        ·have es:decide (rd d' v<0)=false:=decide_eq_false cb
         have a4:=Aside0.mk F;clear F;go_wp2;go_roundg (n- (v+1))
         case measure=>rw[J.out];omega
         case rel=>exact⟨v+1,x,by omega,by go_num,rfl,a2,a3,⟨fun u hu h1 H=>by
          by_cases e:u=v
          ·subst e;omega
          ·exact X.out u (by omega) h1 H⟩,b,m,r,⟨rfl⟩⟩
       ·have er:(rd out v==(k:Int))=false:=by simpa using F
        have a4:=Aside0.mk F;clear F;go_wp2;go_roundg (n- (v+1))
        case measure=>rw[J.out];omega
        case rel=>exact⟨v+1,x,by omega,by go_num,rfl,a2,a3,⟨fun u hu h1 H=>by
         by_cases e:u=v
         ·subst e;exact absurd h1 a4.out
         ·exact X.out u (by omega) h1 H⟩,b,m,r,⟨rfl⟩⟩
      ·obtain rfl:n=v:=by omega
       by_cases f7:0<x
       ·have S:=dt m.out
        obtain⟨cv,cx⟩:=Bq o.out hn aa (fun v l=>HD.out v l) s.out.vK (show (1:Int)<=(k:Int) by omega) (by omega) O.out P.out I.out a2 (by rw[<-eg.out];exact a3) X.out;have e4:=Aside0.mk cv;have e5:=Aside0.mk cx;obtain⟨a9,be⟩:=mq E (T.bs (fun v=>rd out (v:Nat)) k) x (d',s') n;have a9:=Aside0.mk a9;have be:=Aside0.mk be;clear cv cx;rename_i e6 e_;clear e6 e_;go_wp2_with (go_at_call 166;refine(tM g gd gs j cd cs cr n A0 c0 E q d' s' (T.bs (fun v=>rd out (v:Nat)) k) x w0 _ an o.out.jh (by omega) (by omega) b.out.si (Kd.aW r.out bk) ⟨by omega,by omega⟩ O.out P.out e5.out).mono ?_;rintro e w8 ⟨rfl,c1,c4,aQ⟩;have Z:=Aside0.mk (b.out.DL c1 c4);clear c1 c4 b m r S)
        go_roundg (k-1)
        case measure=>rw[HK.out];omega
        case rel=>exact⟨k-1,_,_,by go_num,by omega,Z,⟨a9.out.trans O.out⟩,⟨be.out.trans P.out⟩,⟨by
         have h:=e4.out;rw[show ((k:Int)-1)=((k-1:Nat):Int) by omega] at h;exact h⟩,⟨rfl⟩⟩
       ·obtain rfl:x=0:=by omega
        go_wp2;go_roundg (k-1)
        case measure=>rw[HK.out];omega
        case rel=>exact⟨k-1,d',s',by go_num,by omega,b,O,P,⟨by
         have h:=Br o.out aa s.out.vK I.out X.out;rw[show ((k:Int)-1)=((k-1:Nat):Int) by omega] at h;exact h⟩,⟨rfl⟩⟩
  ·obtain rfl:k=0:=by omega
   go_wp2;go_end0;exact⟨rfl,d',s',O.out,P.out,b.out.si,fun v l e'=>I.out.jK v l (by obtain⟨u,hu,h1,H⟩:=s.out.back v l e';have:=s.out.pos u hu;show ((0:Nat):Int)<rd out (v:Int);omega),_,I.out⟩
end
section
attribute [local go_sem] Oper.semAt_some
theorem DN (A0:Option Addr) (c0 n:Nat) (l0:List Int) (w:World) (h:l0.length=n) (h1:1<=n) (hn:n<=1000) (i:Kd.C (Kd.int .i64) w A0 l0.length l0) (j:l0.length<=c0):
  Calls Tryz.prog 57 #[.slice A0 n c0] w fun e w'=>∃gd a,e= .returned (.slice (some ⟨gd,0,none⟩) n a)∧(Kd.int .i64).R 3 w' w.heap.size (fun _=>True) (.slice (some ⟨gd,0,none⟩) n a) l0∧Below w.heap.size w w':=by
 subst h;refine(fw.calls A0 c0 l0 l0 w i j (by unfold fw.f clone.f;rw[if_pos (by omega)])).mono ?_;rintro e w1 ⟨v0,rfl,b,k⟩;obtain⟨g,cap,rfl, -⟩:=Kd.fg b (by omega);exact⟨g,cap,rfl,b,k⟩
abbrev Hg (w:World) (N:Int) (A0:Option Addr) (k c0:Nat) (w':World):Prop:=w'.heap[w.heap.size]? =some (.cells #[.int .i64 N,.slice A0 k c0] 24 (0,0))∧w'.cell? ⟨w.heap.size,0,none⟩=some (.int .i64 N)∧w'.cell? ⟨w.heap.size,1,none⟩=some (.slice A0 k c0)∧Below w.heap.size w w'
theorem Hg.of {w w':World} {N:Int} {A0:Option Addr} {k c0:Nat} (h:w'.heap[w.heap.size]? =some (.cells #[.int .i64 N,.slice A0 k c0] 24 (0,0))) (hb:Below w.heap.size w w'):Hg w N A0 k c0 w':=⟨h,(ao h 0).trans rfl,(ao h 1).trans rfl,hb⟩
theorem Hg.start (w:World) (N:Int) (A0:Option Addr) (k c0:Nat):Hg w N A0 k c0 (w.alloc (.cells #[.int .i64 N,.slice A0 k c0] 24)).drew:=Hg.of (ff (heap_alloc_new w _)) (bL (aq (Below.refl _ _) _))
theorem Hg.alloc {w w':World} {N:Int} {A0:Option Addr} {k c0:Nat} (h:w'.heap[w.heap.size]? =some (.cells #[.int .i64 N,.slice A0 k c0] 24 (0,0))) (hb:Below w.heap.size w w') (o:Obj):Hg w N A0 k c0 (w'.alloc o):=Hg.of (aw h o) (aq hb o)
theorem Hg.below {w w' a:World} {N:Int} {A0:Option Addr} {k c0:Nat} (h:w'.heap[w.heap.size]? =some (.cells #[.int .i64 N,.slice A0 k c0] 24 (0,0))) (hb:Below w.heap.size w w') (b:Below w'.heap.size w' a):Hg w N A0 k c0 a:=Hg.of (aG h b) (aU hb b)
theorem DO (n:Nat) (q:Int) (A0:Option Addr) (c0:Nat) (E:List S83) (m:Option Addr) (cd:Nat) (d:List Int) (w:World) (hd:Kd.C (Kd.int .i64) w m d.length d) (r:d.length<=cd) (s:d.length=n) (h1:1<=n) (hn:n<=1000):
  Calls Tryz.prog 109 #[.agg #[.int .i64 n,.slice A0 E.length c0],.int .i64 q,.slice m n cd] w fun e w'=>∃g gd gs b y,e= .returned (.pointer (some ⟨g,0,none⟩))∧SI w g gd gs b y n A0 c0 E q d (List.replicate n 0) w':=by
 have hu:=Tryz.underlying24;have H:=Tryz.underlying188;have z:=Aside0.mk s;have B:=Aside0.mk r;have D:=Aside0.mk hd;have I:(0:Int)<=(n:Int):=by omega
 have J:(n:Int)<=1000:=by omega
 obtain⟨u,v,x⟩:=lx 29 Tryz.underlying29 n hn;have l:=Aside0.mk x;clear s r hd x;go_enter Tryz.func109,Tryz.ntmps109
 go_wp2_with fail
 go_region_held3 (fun w'=>w'.heap[w.heap.size]? =some (.cells #[.int .i64 n,.slice A0 E.length c0] 24 (0,0))∧w'.cell? ⟨w.heap.size,0,none⟩=some (.int .i64 n)∧w'.cell? ⟨w.heap.size,1,none⟩=some (.slice A0 E.length c0)∧Below w.heap.size w w')
  (first
   |exact Hg.start w n A0 E.length c0
   |((try go_split_ands);refine⟨by assumption,by assumption,by assumption,by assumption⟩)
   |((try go_split_ands);exact Hg.alloc (by assumption) (by assumption) _)
   |((try go_split_ands);exact Hg.below (by assumption) (by assumption) (by assumption))
   |fail)
  ((go_at_call 57;refine(DN m cd n d _ z.out h1 hn (Kd.al D.out (by go_split_ands;assumption)) B.out).mono ?_;rintro e w1 ⟨gd,b,rfl,a,i⟩))
 ·rename_i hHeld
  obtain⟨-, -, -,j⟩:=hHeld;have F:=Kd.aX a gd rfl;have o:=Kd.dK a gd rfl;have p:=i.size;simp only[World.drew,World.size_alloc] at o p;have hS:=l.out w1 (fun _=>True) trivial;have k:=Aside0.mk (SI.mk (g:=w1.heap.size+1) j (by have h:=heap_alloc_new (w1.alloc (.cells u 3)) (.cells #[.int .i64 n,.slice A0 E.length c0,.int .i64 q,.slice (some ⟨gd,0,none⟩) n b,.slice (some ⟨w1.heap.size,0,none⟩) n n,.int .i64 0] 188);rw[World.size_alloc] at h;exact h)
   (Kd.aI (Kd.aI (Kd.aW a (by simp[World.drew])) _) _) (Kd.aW (Kd.aI hS _) (by omega)) ⟨by omega,by omega,by omega,by omega⟩)
  clear a i j hS l v;generalize (w1.alloc (.cells u 3)).alloc (.cells #[.int .i64 n,.slice A0 E.length c0,.int .i64 q,.slice (some ⟨gd,0,none⟩) n b,.slice (some ⟨w1.heap.size,0,none⟩) n n,.int .i64 0] 188)=G at k⊢;go_wp2;go_ret;exact⟨_,_,_,_,_,rfl,k.out⟩
 ·rename_i hHeld
  obtain⟨-, -, -,j⟩:=hHeld;have F:=Kd.aX a gd rfl;have o:=Kd.dK a gd rfl;have p:=i.size;simp only[World.drew,World.size_alloc] at o p;have hS:=Kd.cp (Kd.a8 (l.out (w.alloc (.cells #[.int .i64 n,.slice A0 E.length c0] 24)) (fun _=>True) trivial)) i;rw[World.size_alloc] at hS;have k:=Aside0.mk (SI.mk (g:=w1.heap.size) j (heap_alloc_new w1 (.cells #[.int .i64 n,.slice A0 E.length c0,.int .i64 q,.slice (some ⟨gd,0,none⟩) n b,.slice (some ⟨w.heap.size+1,0,none⟩) n n,.int .i64 0] 188))
   (Kd.aI (Kd.aW a (by simp[World.drew];omega)) _) (Kd.aW (Kd.aI hS _) (by omega)) ⟨by omega,by omega,by omega,by omega⟩)
  clear a i j hS l v;generalize w1.alloc (.cells #[.int .i64 n,.slice A0 E.length c0,.int .i64 q,.slice (some ⟨gd,0,none⟩) n b,.slice (some ⟨w.heap.size+1,0,none⟩) n n,.int .i64 0] 188)=G at k⊢;go_wp2;go_ret;exact⟨_,_,_,_,_,rfl,k.out⟩
end
section
attribute [local go_sem] Oper.semAt_some
def eI (s:List Int) (o:Int):Nat->List Int
 |0=>s
 |k+1=>(eI s o k).set k (rd (eI s o k) k-o)
theorem mI (s:List Int) (o:Int):∀k,(eI s o k).length=s.length
 |0=>rfl
 |k+1=>by simp[eI,mI s o k]
theorem ow (s:List Int) (o:Int):∀(k v:Nat),k<=s.length->v<s.length->rd (eI s o k) v=if v<k then rd s v-o else rd s v
 |0,v,_,a=>by rw[if_neg (by omega)];rfl
 |k+1,v,hk,a=>by
  have b:=ow s o k;unfold eI;by_cases e:k=v
  ·subst e
   rw[jg _ _ _ (by rw[mI];exact a),b k (by omega) a,if_neg (by omega),if_pos (by omega)]
  ·rw[ij _ _ _ _ e,b v (by omega) a]
   by_cases h:v<k
   ·rw[if_pos h,if_pos (by omega)]
   ·rw[if_neg h,if_neg (by omega)]
theorem DP (g gd gs cd cs n:Nat) (A0:Option Addr) (c0:Nat) (E:List S83) (q:Nat) (d s:List Int) (w0 w:World) (z:1<=n) (hn:n<=12) (B:q<n) (h:SI w0 g gd gs cd cs n A0 c0 E q d s w) (C:d.length=n) (D:s.length=n)
  (hd:∀v:Nat,v<n-> -1048576<=rd d v∧rd d v<=1048576) (p:∀v:Nat,v<n->0<=rd s v∧rd s v<=2000000∧ -1048576<=rd s v-rd s q∧rd s v-rd s q<=1048576):
  Calls Tryz.prog 112 #[.pointer (some ⟨g,0,none⟩)] w fun e w'=>e= .returned (.tuple #[.slice (some ⟨gd,0,none⟩) n cd,.slice (some ⟨gs,0,none⟩) n cs,.int .i64 0])∧SI w0 g gd gs cd cs n A0 c0 E q d (eI s (rd s q) n) w':=by
 have ad:=Tryz.underlying188;have hu:=Tryz.underlying24;have O:=Aside0.mk hd;have F:=Aside0.mk p;have G:=Aside0.mk C;have j:=Aside0.mk D;have a:=Aside0.mk h;obtain⟨P,Q, -, -⟩:=p q B;have ag:(q:Int)<(n:Int):=by omega
 have ak:(0:Int)<=(q:Int):=by omega
 clear hd p C D h;have R:=a.out.f5;have b:=a.out.f4;have s2:=a.out.f2;have r:=a.out.cells q B;go_enter Tryz.func112,Tryz.ntmps112
 go_wp2_with fail
 go_quiet (fail)
 clear R s2 r;rename_i nq;have k:=Aside0.mk (a.out.drewN nq);clear a b;generalize w.drewN nq=W1 at k⊢;have b:=k.out.f4;generalize H:rd s q=o at P Q;have I:=Aside0.mk H;clear H;go_wp2;go_loopg [31] (n) (fun S T wr=>∃v:Nat,v<=n∧T= .int .i64 v∧Aside0 (SI w0 g gd gs cd cs n A0 c0 E q d (eI s o v) wr)∧Aside0 (S=n-v))
 case atStart=>exact⟨0,by omega,rfl,k,⟨rfl⟩⟩
 case round=>
  clear k b;obtain⟨v,l,rfl,a,U⟩:=hrel;by_cases m:v<n
  ·have am:(0:Int)<=(v:Int):=by omega
   have an:(v:Int)<(n:Int):=by omega
   have b:=a.out.f4;have r:=a.out.cells v m;have sf:=a.out.tH v m;have J:Aside0 (∀W,SI w0 g gd gs cd cs n A0 c0 E q d ((eI s o v).set v (rd (eI s o v) v-o)) W->SI w0 g gd gs cd cs n A0 c0 E q d (eI s o (v+1)) W):=⟨fun W h=>h⟩;have V:0<=rd (eI s o v) v∧rd (eI s o v) v<=2000000:=by
    rw[ow s o v v (by rw[j.out];omega) (by rw[j.out];exact m),if_neg (by omega)];have:=F.out v m;omega
   obtain⟨X,Y⟩:=V;have i:=Aside0.mk (J.out _ (a.out.nT v (rd (eI s o v) v-o)));clear J a;generalize rd (eI s o v) v=y at X Y r i;go_wp2;go_roundg (n- (v+1))
   case measure=>rw[U.out];omega
   case rel=>exact⟨v+1,by omega,by go_num,i,⟨rfl⟩⟩
  ·obtain rfl:n=v:=by omega
   have s0:=a.out.f0;have K:=a.out.f3;have b:=a.out.f4;obtain⟨Z,e2,L⟩:=Kd.aA a.out.d;obtain⟨e4,M,N⟩:=Kd.aA a.out.s;have u:=Aside0.mk (And.intro e2 L);have x:=Aside0.mk (And.intro M N);have ab:Aside0 (∀v:Nat,v<n-> -1048576<=rd (eI s o n) v∧rd (eI s o n) v<=1048576):=⟨fun v l=>by
    rw[ow s o n v (by rw[j.out];omega) (by rw[j.out];exact l),if_pos l];have:=F.out v l;rw[I.out] at this;omega⟩
   clear Z e2 L e4 M N;go_wp2_with fail
   go_quiet ((first|(go_at_call 87;with_reducible exact tZ (some ⟨gd,0,none⟩) cd n d _ _ G.out z hn O.out (Kd.fs u.out.2 _) (by rw[G.out];exact u.out.1))|(go_at_call 87;with_reducible exact tZ (some ⟨gs,0,none⟩) cs n (eI s o n) _ _ (by rw[mI];exact j.out) z hn ab.out (Kd.fs x.out.2 _) (by rw[mI,j.out];exact x.out.1))))
   have i:=Aside0.mk (a.out.drewN nq);clear s0 K b a u x;generalize wr.drewN nq=W2 at i⊢;have K:=i.out.f3;have b:=i.out.f4;go_wp2_with fail
   go_quiet (fail)
   go_wp2;refine bodyPost_ret (results_tmp3 rfl _ _ _) rfl ?_;exact⟨rfl,by rw[I.out];exact i.out.drewN _⟩
end
def iP.f (k:Nat) (a:Int) (g:List (S83)) (e:Int) (l2:List Int):Option (Int):=(bS.f k a g).bind fun b=>(if b.2=0 then(if b.1=true then(if e<0 then(some 2) else(if e>=a then(some 2) else((bc.f k l2 a).bind fun t248=>(some t248)))) else(some 13)) else(some b.2))
theorem iP.calls (k:Nat) (g:Int) (m:Option Addr) (n:Nat) (i:List (S83)) (x:Int) (E:Option Addr) (c2:Nat) (l2:List Int) (r:Int) (w:World) (F:Kd.C aK w m i.length i) (G:i.length<=n) (I:Kd.C (Kd.int .i64) w E l2.length l2) (J:l2.length<=c2) (h:iP.f k g i x l2=some r):
  Calls Tryz.prog 108 #[.agg #[.int .i64 g,.slice m i.length n],.int .i64 x,.slice E l2.length c2] w fun e w'=>e= .returned (.int .i64 r)∧Below w.heap.size w w':=by
 have S:=Tryz.underlying24;have q:=Aside0.mk F;have s:=Aside0.mk G;clear F G;have K:=Aside0.mk I;have L:=Aside0.mk J;clear I J;have a:=Aside0.mk (Below.refl w.heap.size w);unfold iP.f at h;have H:=h;clear h;obtain⟨⟨t246,t247⟩,u,H⟩:=zo H;dsimp only at H;by_cases v:t247=0
 ·rw[if_pos v] at H
  obtain⟨M,O⟩:=bt v;clear v;by_cases y:t246=true
  ·subst y
   replace H:=zi H;by_cases o:x<0
   ·rw[if_pos o] at H
    have P:=decide_eq_true o;clear o;obtain rfl:=Option.some.inj H;go_enter Tryz.func108,Tryz.ntmps108
    go_wp2_with (first|((with_reducible refine aH (N:=3) rfl ?_);refine zX 3 #[.int .i64 g,.slice m i.length n] 24 ?_;intro z j T l hb;have b:=Aside0.mk (l);have B:=zG a j;have D:=zG a j;replace a:=zS a hb;clear hb l j;obtain⟨U,V,W,X⟩:=au b)|((with_reducible refine ax (f:=113) rfl ?_);refine zL (some 11) Tryz.func113 #[.agg #[.int .i64 g,.slice m i.length n]] ?_;(with_reducible refine(bS.calls k g _ _ i true t247 _ ?af ?ah u.out).mono ?_);(case af=>exact Kd.al q.out zB);(case ah=>exact s.out);rintro e Y ⟨rfl,hb⟩;refine⟨_,rfl,?_⟩;replace b:=zb b hb;replace a:=zS a hb;(try clear hb)))
    go_ret;exact⟨zE,zB⟩
   ·rw[if_neg o] at H
    have P:=decide_eq_false o;clear o;by_cases p:x>=g
    ·rw[if_pos p] at H
     have Q:=decide_eq_true p;clear p;obtain rfl:=Option.some.inj H;go_enter Tryz.func108,Tryz.ntmps108
     go_wp2_with (first|((with_reducible refine aH (N:=3) rfl ?_);refine zX 3 #[.int .i64 g,.slice m i.length n] 24 ?_;intro z j Z l hb;have b:=Aside0.mk (l);have B:=zG a j;have D:=zG a j;replace a:=zS a hb;clear hb l j;obtain⟨aa,ab,ad,ag⟩:=au b)|((with_reducible refine ax (f:=113) rfl ?_);refine zL (some 11) Tryz.func113 #[.agg #[.int .i64 g,.slice m i.length n]] ?_;(with_reducible refine(bS.calls k g _ _ i true t247 _ ?af ?ah u.out).mono ?_);(case af=>exact Kd.al q.out zB);(case ah=>exact s.out);rintro e ak ⟨rfl,hb⟩;refine⟨_,rfl,?_⟩;replace b:=zb b hb;replace a:=zS a hb;(try clear hb);obtain⟨am,an,ap,ar⟩:=au b))
     go_ret;exact⟨zE,zB⟩
    ·rw[if_neg p] at H
     have Q:=decide_eq_false p;clear p;obtain⟨t248,R,H⟩:=zo H;obtain rfl:=Option.some.inj H;go_enter Tryz.func108,Tryz.ntmps108
     go_wp2_with (first|((with_reducible refine aH (N:=3) rfl ?_);refine zX 3 #[.int .i64 g,.slice m i.length n] 24 ?_;intro z j av l hb;have b:=Aside0.mk (l);have B:=zG a j;have D:=zG a j;replace a:=zS a hb;clear hb l j;obtain⟨aB,aF,aL,aO⟩:=au b)|((with_reducible refine ax (f:=113) rfl ?_);refine zL (some 11) Tryz.func113 #[.agg #[.int .i64 g,.slice m i.length n]] ?_;(with_reducible refine(bS.calls k g _ _ i true t247 _ ?af ?ah u.out).mono ?_);(case af=>exact Kd.al q.out zB);(case ah=>exact s.out);rintro e aP ⟨rfl,hb⟩;refine⟨_,rfl,?_⟩;replace b:=zb b hb;replace a:=zS a hb;(try clear hb);obtain⟨aS,a0,a2,a3⟩:=au b)|((with_reducible refine ax (f:=87) rfl ?_);refine zL (some 33) Tryz.func87 #[.slice E l2.length c2,.int .i64 g] ?_;(with_reducible refine(bc.calls k _ _ l2 g t248 _ ?af ?ah R.out).mono ?_);(case af=>exact Kd.al K.out zB);(case ah=>exact L.out);rintro e w' ⟨rfl,⟨nd,rfl⟩⟩;refine⟨_,rfl,?_⟩))
     go_ret;exact⟨zE,zB⟩
  ·replace y:=Bool.eq_false_iff.mpr y
   subst y;replace H:=zj H;obtain rfl:=Option.some.inj H;go_enter Tryz.func108,Tryz.ntmps108
   go_wp2_with (first|((with_reducible refine aH (N:=3) rfl ?_);refine zX 3 #[.int .i64 g,.slice m i.length n] 24 ?_;intro z j a5 l hb;have b:=Aside0.mk (l);have B:=zG a j;have D:=zG a j;replace a:=zS a hb;clear hb l j;obtain⟨a9,be,bf,bg⟩:=au b)|((with_reducible refine ax (f:=113) rfl ?_);refine zL (some 11) Tryz.func113 #[.agg #[.int .i64 g,.slice m i.length n]] ?_;(with_reducible refine(bS.calls k g _ _ i false t247 _ ?af ?ah u.out).mono ?_);(case af=>exact Kd.al q.out zB);(case ah=>exact s.out);rintro e bi ⟨rfl,hb⟩;refine⟨_,rfl,?_⟩;replace b:=zb b hb;replace a:=zS a hb;(try clear hb)))
   go_ret;exact⟨zE,zB⟩
 ·rw[if_neg v] at H
  obtain⟨M,O⟩:=bu v;obtain rfl:=Option.some.inj H;go_enter Tryz.func108,Tryz.ntmps108
  go_wp2_with (first|((with_reducible refine aH (N:=3) rfl ?_);refine zX 3 #[.int .i64 g,.slice m i.length n] 24 ?_;intro z j bk l hb;have b:=Aside0.mk (l);have B:=zG a j;have D:=zG a j;replace a:=zS a hb;clear hb l j;obtain⟨bn,bo,bv,bw⟩:=au b)|((with_reducible refine ax (f:=113) rfl ?_);refine zL (some 11) Tryz.func113 #[.agg #[.int .i64 g,.slice m i.length n]] ?_;(with_reducible refine(bS.calls k g _ _ i t246 t247 _ ?af ?ah u.out).mono ?_);(case af=>exact Kd.al q.out zB);(case ah=>exact s.out);rintro e bx ⟨rfl,hb⟩;refine⟨_,rfl,?_⟩;replace b:=zb b hb;replace a:=zS a hb;(try clear hb)))
  go_ret;exact⟨zE,zB⟩
end Go.Proofs.YtffdiakgjakngaaGreat.P

