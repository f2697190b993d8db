/- Orients answers true whatever the input (text 5 of 7): own walks and plain laws; no conditions. -/
import Derived.BigQuiet
import Derived.Deep.QuietTactic
import Derived.Deep.RegionHeld3
import Derived.StillTailTactics
import Derived.Test.YtffdiakgjakngaaGreatOrients4
namespace Go.Proofs.YtffdiakgjakngaaGreat.P
open Go.RowKit Go.Proofs.YtffdiakgjakngaaGreatW.PrintWords Go.Proofs.YtffdiakgjakngaaGreatW.PrintLast Go.Proofs.YtffdiakgjakngaaGreatW.PrintMore
set_option linter.unusedVariables false
set_option linter.unusedSimpArgs false
set_option maxHeartbeats 8000000
set_option maxRecDepth 100000
section
attribute [local go_sem] Oper.semAt_some
theorem cF.xV {α:Type} {d:Kd α} {e base a b:Nat} {ok:Nat->Prop} {ds:List Deferred} {v:Value} {xs:List α} {W w1:World} (h:cF a b ds W) (i:d.Q e W base ok v xs) (j:W.grownBy w1 v.ownBlock):cF a b ds w1:=
 h.iI fun D _ hd=>(j.block D (Array.getElem?_eq_some_iff.1 hd).1 (fun e=>by
  obtain⟨cells,g⟩:=Kd.tN i D e.symm;rw[hd] at g;cases g)).trans hd
structure DI (w:World) (b3 b4 go co n lo hi:Nat) (out:List Int) (qv:Value) (Q:List Nat) (W:World):Prop where
 hb:Below w.heap.size w W
 x3:W.heap[b3]? =some (.cells #[.slice (some ⟨go,0,none⟩) n co] 25 (0,0))
 x4:W.heap[b4]? =some (.cells #[qv] 25 (0,0))
 ro:(Kd.int .i64).R 3 W w.heap.size (fun _=>True) (.slice (some ⟨go,0,none⟩) n co) out
 rq:(Kd.int .i64).Q 3 W w.heap.size (fun k=>k≠go/\(k<lo\/hi<=k)) qv (Q.map fun x:Nat=>(x:Int))
 ne:b3≠b4/\go≠b3/\go≠b4/\w.heap.size<=b3/\w.heap.size<=b4
theorem Gy {α:Type} {d:Kd α} {e base l:Nat} {ok:Nat->Prop} {v:Value} {xs:List α} {A B:World} (h:d.Q e A base ok v xs) (hb:Bk l A B):d.Q e B base ok v xs:=
 Kd.lZ (Kd.tG (Kd.oE h) (fun k hk=>by obtain⟨_,_,_,q,_,cells,a⟩:=hk;exact(hb.cells a).trans a.symm)) (fun k hk=>hk.1)
section
variable {F:Fence} {n:Nat} {P:Program} {ops:Array Oper} {rest:List Oper} {o:Oper} {a:Act} {Q':Exit->Act->World->Prop} {α:Type}
theorem xW (d:Kd α) {w0 W:World} (base:Nat) (j:o.guard=none) (s x:Operand) (t e:TypeId) (z:Value) (bytes:Nat)
  (g:o.op= .call {callee:=.builtin .append,args:=#[s,x],argTypes:=#[t,t]})
  (l:P.underlying t=some (.slice e)) (m:(P.info? e).map (fun i=>(i.zero,i.size,i.bytes))=some (some z,d.sz,bytes)) (q:z.cells.size=d.sz) (r:0<d.sz) (u:0<bytes)
  (v:Value) (xs:List α) (p:α) (cs:List Value) (ok okp:Nat->Prop) (w:a.eval s=v) (y:a.eval x= .slice (some ⟨W.heap.size,0,none⟩) 1 1) (hp:d.M W base okp p cs) (B:∀k,okp k->ok k/\some k≠v.ownBlock) (C:∀k,W.heap.size<=k->ok k)
  (D:d.Q e W base ok v xs) (E:Below base w0 W) (G:base<=W.heap.size) (H:(xs.length+1)*bytes<=140737488355328)
  (h:∀v1 w1,d.Q e w1 base ok v1 (xs++[p])->Below base w0 w1->W.grownBy w1 v.ownBlock->(v1.ownBlock=v.ownBlock\/∃b,v1.ownBlock=some b/\W.heap.size<=b)->wpListIn F n P ops Q' rest (a.put o.dst v1) w1):
  wpListIn F n P ops Q' (o::rest) a (W.alloc (.cells cs.toArray e)):=by
 obtain⟨v1,w1,I,h1,J,L,N⟩:=Kd.AM (P:=P) d base t o.type e z bytes l m q r u v xs p cs ok okp hp B C D E G H;refine wpListIn_plain j fun K O=>?_
 unfold Oper.wpIn;refine⟨?_,?_⟩
 ·simp[Oper.about,g,resolve,Target.leads,Sem.run_pure]
 ·rw[Oper.semAt_plain F _ _ (by rw[g];intro c R;cases R)]
  simp[execOp,g,resolve,invoke,builtin,w,y,I,Result.andThen];exact O _ _ (h v1 w1 h1 J L N)
end
theorem xX {α:Type} {d:Kd α} {e base nw:Nat} {ok:Nat->Prop} {v:Value} {xs:List α} {W w1:World} (g:d.Q e W base ok v xs) (h:W.grownBy w1 v.ownBlock):b8 nw W w1:=fun k o h1 j b i=>by
 refine(h.block k (Array.getElem?_eq_some_iff.1 b).1 (fun e=>?_)).trans b;obtain⟨cells,a⟩:=Kd.tN g k e.symm;rw[b] at a;injection a with a;subst a;simp[Obj.isCells] at i
theorem Bf.mJ {n q:Nat} {nb:Nat->Nat->Prop} {out:List Int} {Q:List Nat} {D:Int} {ex a:Nat->Nat->Prop} (h:Bf n q nb out Q D ex) (hex:∀x y,ex x y->a x y):Bf n q nb out Q D a:=
 ⟨h.len,h.q0,h.lo,h.hi,h.qv,h.nT,h.top,h.d0,h.back,fun v b e hn u hu g he=>h.kR v b e hn u hu g (fun k=>he (hex v u k))⟩
def pU (v:Nat) (pre:List (Int×Int)) (x y:Nat):Prop:=x=v/\¬∃m,((y:Int),m)∈pre
theorem Bf.done {n q:Nat} {nb:Nat->Nat->Prop} {out:List Int} {Q:List Nat} {D:Int} {ex:Nat->Nat->Prop} (h:Bf n q nb out Q D ex) (hex:∀x y,nb x y->¬ex x y):Bf n q nb out Q D (fun _ _=>False):=
 ⟨h.len,h.q0,h.lo,h.hi,h.qv,h.nT,h.top,h.d0,h.back,fun v b e hn u hu a _=>h.kR v b e hn u hu a (hex v u a)⟩
namespace DI
variable {w W W':World} {b3 b4 go co n lo hi lo' hi' l:Nat} {out:List Int} {qv:Value} {Q:List Nat}
theorem below (h:DI w b3 b4 go co n lo hi out qv Q W) (hb:Below W.heap.size W W'):DI w b3 b4 go co n lo hi out qv Q W':=⟨aQ h.hb hb,az h.x3 hb,az h.x4 hb,Kd.cz h.ro hb,Kd.tH h.rq hb,h.ne⟩
theorem alloc (h:DI w b3 b4 go co n lo hi out qv Q W) (o:Obj):DI w b3 b4 go co n lo hi out qv Q (W.alloc o):=h.below (ai (aj _ _) o)
theorem drewN (h:DI w b3 b4 go co n lo hi out qv Q W) (m:Nat):DI w b3 b4 go co n lo hi out qv Q (W.drewN m):=h.below (bU (aj _ _) m)
theorem bk (h:DI w b3 b4 go co n lo hi out qv Q W) (hb:Bk l W W') (a:w.heap.size<=l):DI w b3 b4 go co n lo hi out qv Q W':=⟨h.hb.trans (hb.below _ a),hb.cells h.x3,hb.cells h.x4,cQ h.ro hb,Gy h.rq hb,h.ne⟩
theorem ld (h:DI w b3 b4 go co n lo hi out qv Q W):go<W.heap.size/\b3<W.heap.size/\b4<W.heap.size/\w.heap.size<=go:=⟨Kd.a8 h.ro go rfl,ay h.x3,ay h.x4,Kd.dK h.ro go rfl⟩
theorem xY (h:DI w b3 b4 go co n lo hi out qv Q W) (v:Nat) (x:Int):DI w b3 b4 go co n lo hi (out.set v x) qv Q (W.setCell ⟨go,v,none⟩ (.int .i64 x)):=by
 obtain⟨h1,g,i,b⟩:=h.ld;have a:=Kd.dg h.ro (v:Int) x;rw[aD] at a;exact⟨Below.setCell h.hb b _,aG h.x3 (fun e=>h.ne.2.1 e.symm) _,aG h.x4 (fun e=>h.ne.2.2.1 e.symm) _,a.1,Kd.AG h.rq a.2 (fun k hk e=>by injection e with e;exact hk.1 e),h.ne⟩
theorem xZ (h:DI w b3 b4 go co n lo hi out qv Q W) {qv':Value} {Q':List Nat} (a:(Kd.int .i64).Q 3 W w.heap.size (fun k=>k≠go/\(k<lo'\/hi'<=k)) qv' (Q'.map fun x:Nat=>(x:Int))):DI w b3 b4 go co n lo' hi' out qv' Q' (W.setCell ⟨b4,0,none⟩ qv'):=by
 obtain⟨h1,b,g,i⟩:=h.ld;refine⟨Below.setCell h.hb h.ne.2.2.2.2 _,aG h.x3 h.ne.1 _,by simpa using bV h.x4 0 qv',?_,?_,h.ne⟩
 ·exact Kd.a_ (Kd.fK (Kd.gD rfl h.ro) (fun k hk=>Below.heap_setCell _ _ _ _ (fun e=>by injection hk with hk;exact h.ne.2.2.1 (hk.symm.trans e)))) (fun _ _=>trivial)
 ·exact Kd.tI a h.x4 (fun q a=>by rcases List.mem_cons.1 a with rfl|h;decide;cases h) 0 qv'
theorem c3 (h:DI w b3 b4 go co n lo hi out qv Q W):W.cell? ⟨b3,0,none⟩=some (.slice (some ⟨go,0,none⟩) n co):=(ah h.x3 0).trans rfl
theorem c4 (h:DI w b3 b4 go co n lo hi out qv Q W):W.cell? ⟨b4,0,none⟩=some qv:=(ah h.x4 0).trans rfl
theorem ki (h:DI w b3 b4 go co n lo hi out qv Q W) (v:Nat) (a:v<n):W.cell? ⟨go,v,none⟩=some (.int .i64 (rd out v)):=by
 have:=(Kd.bP 0 h.ro (v:Int) (by omega) (by omega)).1;rw[aD] at this;exact this
theorem x_ (h:DI w b3 b4 go co n lo hi out qv Q W) (v:Nat) (a:v<n):W.frozen? ⟨go,v,none⟩=false:=by
 have:=(Kd.bP 0 h.ro (v:Int) (by omega) (by omega)).2;rw[aD] at this;exact this
theorem free (h:DI w b3 b4 go co n lo hi out qv Q W):DI w b3 b4 go co n 0 0 out qv Q W:=⟨h.hb,h.x3,h.x4,h.ro,Kd.lZ h.rq (fun k hk=>⟨hk.1,.inr (Nat.zero_le _)⟩),h.ne⟩
theorem own (h:DI w b3 b4 go co n lo hi out qv Q W):∀k,qv.ownBlock=some k->k≠go/\(k<lo\/hi<=k)/\w.heap.size<=k/\k≠b3/\k≠b4:=fun k hk=>⟨(h.rq.1 k hk).1,(h.rq.1 k hk).2,Kd.AJ h.rq k hk,fun e=>Kd.tJ h.rq h.x3 (by decide) (by rw[hk,e]),fun e=>Kd.tJ h.rq h.x4 (by decide) (by rw[hk,e])⟩
theorem push (h:DI w b3 b4 go co n lo hi out qv Q W) {v1:Value} {w1:World} {u:Nat} (a:(Kd.int .i64).Q 3 w1 w.heap.size (fun k=>k≠go/\(k<lo\/hi<=k)) v1 (Q.map (fun x:Nat=>(x:Int))++[(u:Int)])) (b:W.grownBy w1 qv.ownBlock) (hb:Below w.heap.size w w1):DI w b3 b4 go co n lo hi out v1 (Q++[u]) (w1.setCell ⟨b4,0,none⟩ v1):=by
 have i:=di h.x3 b (fun e=>(h.own b3 e.symm).2.2.2.1 rfl);have g:=di h.x4 b (fun e=>(h.own b4 e.symm).2.2.2.2 rfl);have ro:=Kd.jd h.ro rfl b (fun e=>(h.own go e).1 rfl);refine⟨Below.setCell hb h.ne.2.2.2.2 _,aG i h.ne.1 _,by simpa using bV g 0 v1,?_,?_,h.ne⟩
 ·exact Kd.a_ (Kd.fK (Kd.gD rfl ro) (fun k hk=>Below.heap_setCell _ _ _ _ (fun e=>by injection hk with hk;exact h.ne.2.2.1 (hk.symm.trans e)))) (fun _ _=>trivial)
 ·rw[List.map_append]
  exact Kd.tI a g (fun q a=>by rcases List.mem_cons.1 a with rfl|h;decide;cases h) 0 v1
end DI
def lS (E:List S83) (v u:Nat):Prop:=∃m,(((u:Nat):Int),m)∈cK E v E.length
theorem Gz (g n:Nat) (A0:Option Addr) (c0:Nat) (E:List S83) (q:Nat) (dv sv:Value) (er:Int) (w:World) (f9:Kd.C aM w A0 E.length E) (hE:eE n E) (hn:n<=1000) (hq:q<n)
  (N:iu w g n (.slice A0 E.length c0) q dv sv er):
  Calls Tryz.prog 165 #[.pointer (some ⟨g,0,none⟩)] w fun e w'=>∃(go co:Nat) (out:List Int) (D:Int),e= .returned (.slice (some ⟨go,0,none⟩) n co)/\(Kd.int .i64).R 3 w' w.heap.size (fun _=>True) (.slice (some ⟨go,0,none⟩) n co) out/\Below w.heap.size w w'/\Bf n q (lS E) out [] D (fun _ _=>False):=by
 have hW:=Tryz.underlying188;have hu:=Tryz.underlying24;have HE:=zA hE;have c6:=zA N;have hX:=ay N;have g':1<=n:=by omega
 have hY:(0:Int)<=(q:Int):=by omega
 have hZ:(q:Int)<(n:Int):=by omega
 have hx:=(ah (a6 w (.cells #[.int .i64 (-1)] 3)) 0).trans rfl;have s0:(w.alloc (.cells #[.int .i64 (-1)] 3)).cell? ⟨g,0,none⟩=some (.int .i64 n):=(ah (aq N _) 0).trans rfl;clear hE N;refine(callsIn_wide (n:=10)).1 ?_;refine callsIn_of_wp_marks Tryz.func165 rfl trivial ?_ rfl;simp only[Tryz.ntmps165,List.size_toArray,List.length_cons,List.length_nil,Nat.reduceAdd,Nat.reduceSub,Array.replicate_succ,Array.replicate_zero,List.push_toArray,List.append_toArray,List.nil_append,List.cons_append];gi_wp2_with (first|(refine⟨trivial,?_⟩;gi_at_call 193;refine(callsIn_wide.2 (Gx w.heap.size 0 1 n (-1) _ hx g' hn)).mono ?_;rintro e w3 ⟨go,co,rfl,hR,hB⟩))
 have d9:=aQ (ai (aj w.heap.size w) _) hB;have he:w.heap.size<=go:=by have:=Kd.dK hR go rfl;simp at this;omega
 have hf:=Kd.a8 hR go rfl;have c8:Aside0 ((Kd.int .i64).R 3 (w3.alloc (.cells #[.slice (some ⟨go,0,none⟩) n co] 25)) w.heap.size (fun _=>True) (.slice (some ⟨go,0,none⟩) n co) (List.replicate n (-1))):=⟨Kd.aK (Kd.bc hR (by simp)) _⟩;have c9:=zA (ai d9 (.cells #[.slice (some ⟨go,0,none⟩) n co] 25));have b4:=zA (a6 w3 (.cells #[.slice (some ⟨go,0,none⟩) n co] 25));have hg:w.heap.size<=w3.heap.size:=d9.size;have dd:(w3.alloc (.cells #[.slice (some ⟨go,0,none⟩) n co] 25)).heap.size=w3.heap.size+1:=by simp
 clear hR hB d9 hx s0;obtain⟨b3,gd⟩:∃b,b=w3.heap.size:=⟨_,rfl⟩;rw[<-gd] at b4 hg dd hf⊢;clear gd;generalize w3.alloc (.cells #[.slice (some ⟨go,0,none⟩) n co] 25)=W1 at c8 c9 b4 dd⊢;have y0:=(ah b4.out 0).trans rfl;have y1:W1.cell? ⟨g,2,none⟩=some (.int .i64 q):=(ah (az c6.out c9.out) 2).trans rfl;obtain⟨y2,y3⟩:=Kd.bP 0 c8.out (q:Int) (by omega) (by omega);rw[aD] at y2 y3;generalize bL 0 (List.replicate n (-1)) (q:Int)=xq at y2;replace y2:W1.cell? ⟨go,q,none⟩=some (.int .i64 xq):=y2;have HP:=Kd.dg c8.out (q:Int) (0:Int);rw[aD] at HP;have b6:=zA (Kd.bA HP.1);have eb:=zA (ff (di (g:=b3) b4.out HP.2 (fun e=>by injection e with e;omega)));have dl:=zA (bY (Below.setCell (p:=⟨go,q,none⟩) c9.out he (.int .i64 0)));have b_:(W1.setCell ⟨go,q,none⟩ (.int .i64 0)).drew.heap.size=b3+1:=by simp[dd]
 clear HP;gi_region
 replace b6:Aside0 ((Kd.int .i64).R 3 (W1.setCell ⟨go,q,none⟩ (.int .i64 0)).drew w.heap.size (fun _=>True) (.slice (some ⟨go,0,none⟩) n co) ((List.replicate n (-1)).set q 0)):=b6;clear y0 y1 y2 y3 c8 b4 c9 dd;generalize (W1.setCell ⟨go,q,none⟩ (.int .i64 0)).drew=W2 at b6 eb dl b_⊢;have y1:W2.cell? ⟨g,2,none⟩=some (.int .i64 q):=(ah (az c6.out dl.out) 2).trans rfl;gi_wp2;have ed:Aside0 (DI w b3 (b3+1+1) go co n 0 0 ((List.replicate n (-1)).set q 0) (.slice (some ⟨b3+1,0,none⟩) 1 1) [q] ((W2.alloc (.cells #[.int .i64 q] 3)).alloc (.cells #[.slice (some ⟨b3+1,0,none⟩) 1 1] 25))):=⟨by
  have Z1:=a6 W2 (.cells #[.int .i64 q] 3);have Z2:=a6 (W2.alloc (.cells #[.int .i64 q] 3)) (.cells #[.slice (some ⟨b3+1,0,none⟩) 1 1] 25);rw[World.size_alloc,b_] at Z2;rw[b_] at Z1;refine⟨ai (ai dl.out _) _,aq (aq eb.out _) _,Z2,Kd.aK (Kd.aK b6.out _) _,Kd.AE (Kd.mR ⟨by simp[bX],.inr ⟨b3+1,1,_,rfl,by omega,aq Z1 _,by simp,by decide,by simp,by simp[bX]⟩⟩ (fun k hk=>by cases hk;exact⟨by show b3+1≠go;omega,.inr (Nat.zero_le _)⟩)),by omega,by omega,by omega,by omega,by omega⟩⟩
 have gg:=zA (Bf.start (nb:=lS E) hq);have gi:((W2.alloc (.cells #[.int .i64 q] 3)).alloc (.cells #[.slice (some ⟨b3+1,0,none⟩) 1 1] 25)).heap.size=b3+3:=by simp[b_]
 clear b6 eb dl b_ y1;generalize (W2.alloc (.cells #[.int .i64 q] 3)).alloc (.cells #[.slice (some ⟨b3+1,0,none⟩) 1 1] 25)=W4 at ed gi⊢;refine qW (b3+3) (fun kq tm wr=>∃(u5 u25 u26 u27 u28 u29 u30 u31 u32 u33 u34 u35:Value) (out:List Int) (qv:Value) (Q:List Nat) (D:Int),Aside0 (DI w b3 (b3+1+1) go co n 0 0 out qv Q wr)/\Aside0 (Bf n q (lS E) out Q D (fun _ _=>False))/\b3+3<=wr.heap.size/\Aside0 (kq=2*(n-ct out)+Q.length/\kq<=2*n+1)/\tm=#[.pointer (some ⟨g,0,none⟩),undef,.slice none 0 0,.pointer (some ⟨b3,0,none⟩),.pointer (some ⟨b3+1+1,0,none⟩),u5,undef,.slice (some ⟨w.heap.size,0,none⟩) 1 1,.pointer (some ⟨g,0,none⟩),.pointer (some ⟨g,0,none⟩),.pointer (some ⟨g,0,none⟩),.pointer (some ⟨g,0,none⟩),.int .i64 n,.slice (some ⟨go,0,none⟩) n co,.slice (some ⟨go,0,none⟩) n co,.pointer (some ⟨g,0,none⟩),.pointer (some ⟨g,0,none⟩),.pointer (some ⟨g,2,none⟩),.int .i64 q,.pointer (some ⟨go,q,none⟩),.pointer (some ⟨g,0,none⟩),.pointer (some ⟨g,0,none⟩),.pointer (some ⟨g,2,none⟩),.int .i64 q,.slice (some ⟨b3+1,0,none⟩) 1 1,u25,u26,u27,u28,u29,u30,u31,u32,u33,u34,u35,undef,undef,undef,undef,undef,undef,undef,undef,undef,undef,undef,undef,undef,undef,undef,undef,undef,undef,undef,undef]) (2*(n-ct ((List.replicate n (-1)).set q 0))+1) ⟨_,_,_,_,_,_,_,_,_,_,_,_,_,_,_,_,ed,gg,by omega,⟨rfl,by omega⟩,rfl⟩ (b3+3) (by omega) (cF.nil _ _ _) ?_;clear ed gg gi;rintro gk tm wr ⟨u5,u25,u26,u27,u28,u29,u30,u31,u32,u33,u34,u35,out,qv,Q,D,V,HF,aT,HK,rfl⟩ ds b hb gm J K hJ Y;have gp:=zA gm;have HJ:=zA hJ;clear gm hJ;have x4:=V.out.c4;have x3:=V.out.c3;cases Q with
 |nil=>
  obtain⟨A,c,rfl, -⟩:=Kd.oF V.out.rq;have hm:((([]:List Nat).map fun x:Nat=>(x:Int)).length:Int)=0:=rfl;simp only[List.map_nil,List.length_nil] at x4;clear hm Y;gi_wp2;refine(pd gp.out fun w' gs=>?_).1;exact⟨_,results_tmp rfl _ _ _,go,co,rfl,out,gs.R V.out.ro,V.out.hb.trans (gs.gG.mono (by omega)),D,HF.out⟩
 |cons v rest=>
  obtain⟨gq,oq,cq,rfl,h7,h8, -⟩:=Kd.Be V.out.rq (by simp);have hp:=HF.out.qv v (List.mem_cons_self ..);have a0:=hp.1;have b':=(Kd.Bh 0 V.out.rq 0 (by omega) (by simp)).1;have gt:=Kd.lZ (Kd.oE (Kd.AK (k:=1) V.out.rq (by simp))) (ok':=fun k=>k≠go/\(k<wr.heap.size\/wr.heap.size+3<=k)) (fun k hk=>⟨hk.1.1,.inl hk.2.2.1⟩);obtain⟨A',c',ha,hl⟩:=Kd.oF V.out.rq;injection ha with ht hv hw
  subst hw;have d2:=zA (a6 wr (.cells #[.int .i64 v] 3));have a1:=zA (V.out.alloc (.cells #[.int .i64 v] 3));have d3:=zA (gp.out.below (ai (aj _ _) (.cells #[.int .i64 v] 3)));have ca:=zA (Kd.AF gt (.cells #[.int .i64 v] 3));simp only[List.map_cons,List.length_cons,List.length_map,List.drop_succ_cons,List.drop_zero,Nat.add_sub_cancel] at x4 b' ca hl;replace b':wr.cell? ⟨gq,oq,none⟩=some (.int .i64 v):=b';obtain⟨L,hL⟩:∃L,L=rest.length+1:=⟨_,rfl⟩;rw[<-hL] at x4 hl;have gx:(1:Int)<=(L:Int):=by omega
  have g0:(L:Int)<=(cq:Int):=by omega
  have g5:(0:Int)<(L:Int):=by omega
  have d5:=a1.out.c4;simp only[List.map_cons,List.length_cons,List.length_map] at d5;rw[<-hL] at d5;have g6:=zA hL;clear ht hv hL gt;have g7:=bE a1.out.x4 0;have g8:=zA (Bf.pop HF.out);have h_:=HF.out.len;by_cases d6:cq=1
  ·subst d6
   obtain rfl:L=1:=by omega
   obtain⟨Z,a2⟩:∃Z,Z=Value.slice (some ⟨gq,oq,none⟩) 0 0:=⟨_,rfl⟩;have a3:=zA (a1.out.xZ (lo':=wr.heap.size) (hi':=wr.heap.size+3) (qv':=Z) (Q':=rest) (by have h:=ca.out;rw[if_pos rfl,show rest.length=0 by have:=g6.out;omega] at h;rw[a2];exact h));gi_wp2_with (first|(refine⟨trivial,?_⟩;gi_at_call 194;refine(callsIn_wide.2 (mq g v _)).mono ?_;rintro e w3 ⟨rfl,rfl⟩))
   rw[<-a2];obtain⟨M,aa⟩:∃X,X=(wr.alloc (.cells #[.int .i64 v] 3)).setCell ⟨b3+1+1,0,none⟩ Z:=⟨_,rfl⟩;have cb:Aside0 (M.heap[wr.heap.size]? =some (.cells #[.int .i64 v] 3 (0,0))):=⟨by rw[aa];exact aG d2.out (show wr.heap.size≠b3+1+1 by omega) _⟩;have cc:M.heap.size=wr.heap.size+1:=by rw[aa];simp
   have cd:Aside0 (cF (b3+3) b ds M):=⟨by rw[aa];exact d3.out.set a1.out.x4 _⟩;rw[<-aa] at a3⊢;have Z1:=a6 M (.cells #[.pointer (some ⟨g,0,none⟩)] 135);have Z2:=heap_alloc2_new M (.cells #[.pointer (some ⟨g,0,none⟩)] 135) (.cells #[.int .i64 v] 3);rw[cc] at Z1 Z2;have O:=zA ((a3.out.alloc (.cells #[.pointer (some ⟨g,0,none⟩)] 135)).alloc (.cells #[.int .i64 v] 3));have ap:=zA (aq (aq cb.out (.cells #[.pointer (some ⟨g,0,none⟩)] 135)) (.cells #[.int .i64 v] 3));have ar:=zA ((cd.out.below (ai (aj _ _) (.cells #[.pointer (some ⟨g,0,none⟩)] 135))).below (ai (aj _ _) (.cells #[.int .i64 v] 3)));have a4:=zA (aq Z1 (.cells #[.int .i64 v] 3));have a5:=zA Z2;have av:=zA (az c6.out O.out.hb);have a9:((M.alloc (.cells #[.pointer (some ⟨g,0,none⟩)] 135)).alloc (.cells #[.int .i64 v] 3)).heap.size=wr.heap.size+3:=by simp[cc]
   have em:=Nat.le_of_eq a9;have es:=Nat.le_of_eq a9.symm;clear a9;clear d2 d3 a1 ca a3 cb cd Z1 Z2 aa a2 V x4 d5 x3 b' g7 gx g0 g5 hl;generalize (M.alloc (.cells #[.pointer (some ⟨g,0,none⟩)] 135)).alloc (.cells #[.int .i64 v] 3)=r at O ap ar a4 a5 av em es⊢;refine gU (σ:=Unit) (α:=Int×Int) (F:=Fence.wide) (n:=10) rfl (by decide) (gf:=207) (lb:=#[.pointer (some ⟨wr.heap.size+1,0,none⟩),.pointer (some ⟨wr.heap.size+1+1,0,none⟩)]) rfl trivial (enters_of Tryz.func207 (by kernel_rfl) rfl)
    (fun o=>q_ (wr.heap.size+1) (wr.heap.size+1+1) g n A0 c0 E q dv sv er v w _ f9 HE.out hn a0 (ai (ai O.out.hb _) _) (aq (aq a4.out _) _) (aq (aq a5.out _) _) (aq (aq av.out _) _)) (fun _=>rfl)
    (fun _=>True) ?K9 ?st1 ?K8
    (fun _ pre W=>r.heap.size<=W.heap.size/\∃(a:List Int) (qv':Value) (Q':List Nat),DI w b3 (b3+1+1) go co n wr.heap.size (wr.heap.size+3) a qv' Q' W/\Bf n q (lS E) a Q' (rd a v) (pU v pre)/\2*(n-ct a)+Q'.length<=2*(n-ct out)+rest.length/\W.heap[wr.heap.size]? =some (.cells #[.int .i64 v] 3 (0,0))/\cF (b3+3) b ds W) (fun _ _ _ _=>False)
    ?KV (fun _ _ _ _ _ _ h _=>h) ?KY (fun _ _ _ _ _ h _=>h) ?KW ?KS ?MU ?KP ?K7 ?KZ (fun _ _ _ _ _ _ _ h=>h.elim)
   case KP=>
    intro l x W K Y;gi_wp2;exact Y
   case K9=>
    intro o s W1 h;exact⟨trivial,by rw[h];exact b8.refl _ _⟩
   case st1=>intro s A B _ h;exact cS h
   case K8=>intro s x A B _ h;exact cS h.2
   case KV=>
    rintro s pre A B _ ⟨P,a,qv',Q',h1,z,h4,h5,h6⟩ N;exact⟨Nat.le_trans P N.size,a,qv',Q',h1.below N,z,h4,az h5 N,h6.below N⟩
   case KY=>
    rintro s pre A B ⟨P,a,qv',Q',h1,z,h4,h5,h6⟩ aB;exact⟨by rw[aB.size];exact P,a,qv',Q',h1.bk aB (by omega),z,h4,aB.cells h5,h6.bk aB (by omega)⟩
   case KW=>
    intro s A B C D aF ce cf;refine⟨fun aT=>((aF.below w.heap.size (by omega)).trans (ce.1 (by rw[aF.size];exact aT))).trans (cf.below w.heap.size (by omega)),fun k hk cg=>?_⟩;have ch:k≠r.heap.size+1:=by rcases hk with rfl|rfl|rfl<;>omega
    exact(cf.heap k ch).trans ((ce.2 k hk (by rw[aF.size];exact cg)).trans (aF.heap k ch))
   case KS=>
    rintro o s W1 rfl;exact⟨by simp;omega,out,Z,rest,(O.out.alloc _).alloc _,g8.out.mJ (fun x y h=>⟨h,by simp⟩),aI _,aq (aq ap.out _) _,(ar.out.below (ai (aj _ _) _)).below (ai (aj _ _) _)⟩
   case K7=>
    rintro l s' pre ⟨u,m⟩ Wb Wc W _ ⟨P,a,qv',Q',i1,i2,i4,i5,i6⟩ ⟨⟨ci,ev⟩,ab⟩ ew H;have G:=zA ((i1.below ab).bk H (by omega));have S:=zA i4;have I5:=zA (H.cells (az i5 ab));have I6:=zA ((i6.below ab).bk H (by omega));have aO:r.heap.size<=W.heap.size:=by have:=H.size;have:=ab.size;omega
    clear i1 i4 i5 i6 ab H ew P;simp only at ci;obtain⟨u0,u1,m0,m1⟩:=ci;obtain⟨u,rfl⟩:=Int.eq_ofNat_of_zero_le u0;have aP:u<n:=by omega
    obtain⟨l1,l2⟩:=Bf.look (ex:=fun y=>¬∃m,((y:Int),m)∈pre) i2 aP a0 ⟨m,ev⟩;have hA:=i2.d0;have hC:rd a v<=1000:=by have h1:=i2.hi v a0;have z:=j5 a;have h3:=i2.len;omega
    have ey:=zA i2.len;have z3:=G.out.c3;have z4:=G.out.ki u aP;have ck:∀(ex:Nat->Prop) (x y:Nat),(x=v/\(¬∃m,((y:Int),m)∈pre)/\y≠u)->pU v (pre++[((u:Int),m)]) x y:=fun ex x y h=>⟨h.1,fun⟨m',ag⟩=>by
     rcases List.mem_append.1 ag with ag|ag
     ·exact h.2.1 ⟨m',ag⟩
     ·have:=List.mem_singleton.1 ag
      injection this with e1 e2
      exact h.2.2 (by omega)⟩
    have cl:=zA ck;clear ck i2;by_cases bg:rd a u<0
    ·obtain⟨k1,k2,k3,k4⟩:=l2 bg
     have K2:=zA k2;have K3:=zA k3;have K4:=zA (k4.mJ (cl.out (fun _=>True)));have e5:decide (rd a u<0)=true:=aE bg;clear l1 l2 k1 k2 k3 k4;gi_wp2;have z3:=G.out.c3;have z4:=G.out.ki v a0;have z5:=(ah I5.out 0).trans rfl;have e6:wrap64 (rd a v+1)=rd a v+1:=by unfold wrap64;omega
     have hH:(0:Int)<=(u:Int):=by omega
     have hI:(0:Int)<=(v:Int):=by omega
     have bl:(v:Int)<(n:Int):=by omega
     refine pP [_,_,_,_,_,_,_,_] _ rfl (by kernel_rfl) rfl (by kernel_rfl) (by kernel_rfl) (by kernel_rfl) (by kernel_rfl) ?_;repeat(gi_big_quiet_step (fail))
     refine wpQuietIn_nil ?_;rintro _ ⟨nq,rfl⟩;have I:=zA (G.out.drewN nq);have J5:=zA (i' I5.out nq);have J6:=zA (I6.out.below (bU (aj _ _) nq));have bv:r.heap.size<=(W.drewN nq).heap.size:=by simpa using aO
     have bw:=zA (cS (nw:=r.heap.size) (bU (aj W.heap.size W) nq));have bx:=zA (bU (aj w.heap.size W) nq);have b0:Aside0 (∀k,k≠go->(W.drewN nq).heap[k]? =W.heap[k]?):=⟨fun k _=>by simp⟩;clear z3 z4 z5 e6;have z5:=I.out.x_ u aP;have z6:=I.out.ki u aP;generalize W.drewN nq=Wq at I J5 J6 bv bw bx b0 z5 z6⊢;obtain⟨g1,g2,g3,g4⟩:=I.out.ld;obtain⟨n1,n2,n3,n4,n5⟩:=I.out.ne;have i:=zA (I.out.xY u (rd a v+1));have fb:wr.heap.size≠go:=by omega
     have fd:=zA (aG (p:=⟨go,u,none⟩) J5.out fb (.int .i64 (rd a v+1)));have fn:Aside0 (cF (b3+3) b ds (Wq.setCell ⟨go,u,none⟩ (.int .i64 (rd a v+1)))):=⟨by
      obtain⟨inner,ho⟩:=Kd.jS I.out.ro;obtain⟨cells,hc⟩:=jR ho go rfl;exact J6.out.set (p:=⟨go,u,none⟩) hc _⟩
     have fr:r.heap.size<=(Wq.setCell ⟨go,u,none⟩ (.int .i64 (rd a v+1))).heap.size:=by simpa using bv
     have ft:=zA (bw.out.trans (eU (bo:=go) (j:=u) Wq (.int .i64 (rd a v+1)) (show go<r.heap.size by omega)));have fv:Aside0 (∀k,k≠go->(Wq.setCell ⟨go,u,none⟩ (.int .i64 (rd a v+1))).heap[k]? =W.heap[k]?):=⟨fun k hk=>(Below.heap_setCell _ _ _ _ hk).trans (b0.out k hk)⟩;have f0:Aside0 (∀k,(Wq.setCell ⟨go,u,none⟩ (.int .i64 (rd a v+1))).heap.size<=k->k≠go/\(k<wr.heap.size\/wr.heap.size+3<=k)):=⟨fun k hk=>by
      simp only[World.size_setCell] at hk;omega⟩
     have f1:Aside0 (((Q'.map fun x:Nat=>(x:Int)).length+1)*8<=140737488355328):=⟨by
      have h1:=S.out;have z:=HK.out.1;have h3:=HK.out.2;rw[List.length_cons] at z;rw[List.length_map];omega⟩
     have f2:=zA (Below.setCell (p:=⟨go,u,none⟩) bx.out g4 (.int .i64 (rd a v+1)));have z4:=i.out.c4;have hO:go≠b3+1+1:=n3;clear G I5 I6 I J5 J6 bv bw bx b0 aO O ap ar av;gi_wp2_with (gi_at_builtin;go_loud (refine xW (Kd.int .i64) (w0:=w) w.heap.size rfl (.tmp 51) (.tmp 53) 25 3 (.int .i64 0) 8 rfl Tryz.underlying25 il rfl (by decide) (by omega) qv' (Q'.map fun x:Nat=>(x:Int)) (u:Int) [.int .i64 u] (fun k=>k≠go/\(k<wr.heap.size\/wr.heap.size+3<=k)) (fun _=>False) rfl (by rw[World.size_setCell];rfl) rfl (fun _ hk=>hk.elim) f0.out i.out.rq i.out.hb i.out.hb.size f1.out ?_;intro v1 hP T cx aS f3;obtain⟨A1,c1,bl, -⟩:=Kd.oF T;obtain⟨nx,c5⟩:∃nx,nx=((Q'.map fun x:Nat=>(x:Int))++[(u:Int)]).length:=⟨_,rfl⟩;rw[<-c5] at bl;clear c5;subst bl;have f4:=zA (i.out.push T aS cx);have X4:=zA (di i.out.x4 aS (fun e=>(i.out.own _ e.symm).2.2.2.2 rfl));have d6:=dc X4.out;have hT:=bE X4.out 0;have f5:=zA aS;clear T aS f3 cx))
     have U:=f5.out;have T:=i.out.own;have Y:∀k,(k=wr.heap.size\/k=wr.heap.size+1\/k=wr.heap.size+1+1\/k=g)->some k≠qv'.ownBlock:=fun k hk e=>by
      have:=T k e.symm;rcases hk with rfl|rfl|rfl|rfl<;>omega
     have hV:=U.size;refine⟨(ft.out.trans (xX i.out.rq U)).trans (eU _ _ (show b3+1+1<r.heap.size by omega)),⟨fun _=>Below.setCell (p:=⟨b3+1+1,0,none⟩) (f2.out.grown U i.out.hb.size (fun k e=>(T k e).2.2.1)) n5 _,fun k hk cg=>?_⟩,?_,_,_,Q'++[u],f4.out,?_,?_,aG (di fd.out U (Y _ (.inl rfl))) (show wr.heap.size≠b3+1+1 by omega) _,(fn.out.xV i.out.rq U).set X4.out _⟩
     ·refine(Below.heap_setCell _ _ _ _ (show k≠b3+1+1 by rcases hk with rfl|rfl|rfl<;>omega)).trans ((U.block k ?_ (Y k (hk.elim (fun h=>.inr (.inl h)) (fun h=>.inr (.inr h))))).trans (fv.out k (by rcases hk with rfl|rfl|rfl<;>omega)))
      have h1:=fr;rcases hk with rfl|rfl|rfl<;>omega
     ·simp only[World.size_setCell];omega
     ·rw[K2.out];exact K4.out
     ·rw[K3.out,List.length_append]
      have h1:=S.out;have z:=j5 (a.set u (rd a v+1));rw[K3.out,List.length_set,ey.out] at z;simp only[List.length_cons,List.length_nil];omega
    ·have K4:=zA ((l1 (by omega)).mJ (cl.out (fun _=>True)))
     have e5:decide (rd a u<0)=false:=ba bg;clear l1 l2 O ap ar a4 a5 av;gi_wp2;exact⟨b8.refl _ _,⟨fun _=>aj _ _,fun _ _ _=>rfl⟩,aO,a,qv',Q',G.out,K4.out,S.out,I5.out,I6.out⟩
   case KZ=>
    rintro s' xs W W' _ rfl ⟨P,a,qv',Q',i1,i2,i4,i5,i6⟩ H b2;have G:=zA (i1.bk H (by omega)).free;have I2:=zA (Bf.done i2 (fun x y f7 hex=>hex.2 (by rw[<-hex.1];exact f7)));have S:=zA i4;have I6:=zA (i6.bk H (by omega));have f8:=zA b2;have aO:r.heap.size<W'.heap.size:=(Array.getElem?_eq_some_iff.1 b2).1;clear i1 i2 i4 i5 i6 b2;gi_wp2;exact kC.intro (2*(n-ct a)+Q'.length) (by rw[HK.out.1];have:=S.out;simp only[List.length_cons];omega) (HJ.out _ _ _ ⟨_,_,_,_,_,_,_,_,_,_,_,_,a,qv',Q',_,G,I2,by omega,⟨rfl,by have h1:=S.out;have z:=HK.out.1;have h3:=HK.out.2;rw[List.length_cons] at z;omega⟩,rfl⟩) (r.heap.size+1) (by omega) (I6.out.push (by omega) (by omega) f8.out)
  ·obtain⟨Z,a2⟩:∃Z,Z=Value.slice (some ⟨gq,oq+1,none⟩) (L-1) (cq-1):=⟨_,rfl⟩
   have a3:=zA (a1.out.xZ (lo':=wr.heap.size) (hi':=wr.heap.size+3) (qv':=Z) (Q':=rest) (by have h:=ca.out;rw[if_neg d6,show rest.length=L-1 by have:=g6.out;omega] at h;rw[a2];exact h));gi_wp2_with (first|(refine⟨trivial,?_⟩;gi_at_call 194;refine(callsIn_wide.2 (mq g v _)).mono ?_;rintro e w3 ⟨rfl,rfl⟩))
   rw[<-a2];obtain⟨M,aa⟩:∃X,X=(wr.alloc (.cells #[.int .i64 v] 3)).setCell ⟨b3+1+1,0,none⟩ Z:=⟨_,rfl⟩;have cb:Aside0 (M.heap[wr.heap.size]? =some (.cells #[.int .i64 v] 3 (0,0))):=⟨by rw[aa];exact aG d2.out (show wr.heap.size≠b3+1+1 by omega) _⟩;have cc:M.heap.size=wr.heap.size+1:=by rw[aa];simp
   have cd:Aside0 (cF (b3+3) b ds M):=⟨by rw[aa];exact d3.out.set a1.out.x4 _⟩;rw[<-aa] at a3⊢;have Z1:=a6 M (.cells #[.pointer (some ⟨g,0,none⟩)] 135);have Z2:=heap_alloc2_new M (.cells #[.pointer (some ⟨g,0,none⟩)] 135) (.cells #[.int .i64 v] 3);rw[cc] at Z1 Z2;have O:=zA ((a3.out.alloc (.cells #[.pointer (some ⟨g,0,none⟩)] 135)).alloc (.cells #[.int .i64 v] 3));have ap:=zA (aq (aq cb.out (.cells #[.pointer (some ⟨g,0,none⟩)] 135)) (.cells #[.int .i64 v] 3));have ar:=zA ((cd.out.below (ai (aj _ _) (.cells #[.pointer (some ⟨g,0,none⟩)] 135))).below (ai (aj _ _) (.cells #[.int .i64 v] 3)));have a4:=zA (aq Z1 (.cells #[.int .i64 v] 3));have a5:=zA Z2;have av:=zA (az c6.out O.out.hb);have a9:((M.alloc (.cells #[.pointer (some ⟨g,0,none⟩)] 135)).alloc (.cells #[.int .i64 v] 3)).heap.size=wr.heap.size+3:=by simp[cc]
   have em:=Nat.le_of_eq a9;have es:=Nat.le_of_eq a9.symm;clear a9;clear d2 d3 a1 ca a3 cb cd Z1 Z2 aa a2 V x4 d5 x3 b' g7 gx g0 g5 hl;generalize (M.alloc (.cells #[.pointer (some ⟨g,0,none⟩)] 135)).alloc (.cells #[.int .i64 v] 3)=r at O ap ar a4 a5 av em es⊢;refine gU (σ:=Unit) (α:=Int×Int) (F:=Fence.wide) (n:=10) rfl (by decide) (gf:=207) (lb:=#[.pointer (some ⟨wr.heap.size+1,0,none⟩),.pointer (some ⟨wr.heap.size+1+1,0,none⟩)]) rfl trivial (enters_of Tryz.func207 (by kernel_rfl) rfl)
    (fun o=>q_ (wr.heap.size+1) (wr.heap.size+1+1) g n A0 c0 E q dv sv er v w _ f9 HE.out hn a0 (ai (ai O.out.hb _) _) (aq (aq a4.out _) _) (aq (aq a5.out _) _) (aq (aq av.out _) _)) (fun _=>rfl)
    (fun _=>True) ?KT ?st2 ?K5
    (fun _ pre W=>r.heap.size<=W.heap.size/\∃(a:List Int) (qv':Value) (Q':List Nat),DI w b3 (b3+1+1) go co n wr.heap.size (wr.heap.size+3) a qv' Q' W/\Bf n q (lS E) a Q' (rd a v) (pU v pre)/\2*(n-ct a)+Q'.length<=2*(n-ct out)+rest.length/\W.heap[wr.heap.size]? =some (.cells #[.int .i64 v] 3 (0,0))/\cF (b3+3) b ds W) (fun _ _ _ _=>False)
    ?K6 (fun _ _ _ _ _ _ h _=>h) ?K0 (fun _ _ _ _ _ h _=>h) ?KQ ?KU ?a12 ?KX ?KR ?KO (fun _ _ _ _ _ _ _ h=>h.elim)
   case KX=>
    intro l x W K Y;gi_wp2;exact Y
   case KT=>
    intro o s W1 h;exact⟨trivial,by rw[h];exact b8.refl _ _⟩
   case st2=>intro s A B _ h;exact cS h
   case K5=>intro s x A B _ h;exact cS h.2
   case K6=>
    rintro s pre A B _ ⟨P,a,qv',Q',h1,z,h4,h5,h6⟩ N;exact⟨Nat.le_trans P N.size,a,qv',Q',h1.below N,z,h4,az h5 N,h6.below N⟩
   case K0=>
    rintro s pre A B ⟨P,a,qv',Q',h1,z,h4,h5,h6⟩ aB;exact⟨by rw[aB.size];exact P,a,qv',Q',h1.bk aB (by omega),z,h4,aB.cells h5,h6.bk aB (by omega)⟩
   case KQ=>
    intro s A B C D aF ce cf;refine⟨fun aT=>((aF.below w.heap.size (by omega)).trans (ce.1 (by rw[aF.size];exact aT))).trans (cf.below w.heap.size (by omega)),fun k hk cg=>?_⟩;have ch:k≠r.heap.size+1:=by rcases hk with rfl|rfl|rfl<;>omega
    exact(cf.heap k ch).trans ((ce.2 k hk (by rw[aF.size];exact cg)).trans (aF.heap k ch))
   case KU=>
    rintro o s W1 rfl;exact⟨by simp;omega,out,Z,rest,(O.out.alloc _).alloc _,g8.out.mJ (fun x y h=>⟨h,by simp⟩),aI _,aq (aq ap.out _) _,(ar.out.below (ai (aj _ _) _)).below (ai (aj _ _) _)⟩
   case KR=>
    rintro l s' pre ⟨u,m⟩ Wb Wc W _ ⟨P,a,qv',Q',i1,i2,i4,i5,i6⟩ ⟨⟨ci,ev⟩,ab⟩ ew H;have G:=zA ((i1.below ab).bk H (by omega));have S:=zA i4;have I5:=zA (H.cells (az i5 ab));have I6:=zA ((i6.below ab).bk H (by omega));have aO:r.heap.size<=W.heap.size:=by have:=H.size;have:=ab.size;omega
    clear i1 i4 i5 i6 ab H ew P;simp only at ci;obtain⟨u0,u1,m0,m1⟩:=ci;obtain⟨u,rfl⟩:=Int.eq_ofNat_of_zero_le u0;have aP:u<n:=by omega
    obtain⟨l1,l2⟩:=Bf.look (ex:=fun y=>¬∃m,((y:Int),m)∈pre) i2 aP a0 ⟨m,ev⟩;have hA:=i2.d0;have hC:rd a v<=1000:=by have h1:=i2.hi v a0;have z:=j5 a;have h3:=i2.len;omega
    have ey:=zA i2.len;have z3:=G.out.c3;have z4:=G.out.ki u aP;have ck:∀(ex:Nat->Prop) (x y:Nat),(x=v/\(¬∃m,((y:Int),m)∈pre)/\y≠u)->pU v (pre++[((u:Int),m)]) x y:=fun ex x y h=>⟨h.1,fun⟨m',ag⟩=>by
     rcases List.mem_append.1 ag with ag|ag
     ·exact h.2.1 ⟨m',ag⟩
     ·have:=List.mem_singleton.1 ag
      injection this with e1 e2
      exact h.2.2 (by omega)⟩
    have cl:=zA ck;clear ck i2;by_cases bg:rd a u<0
    ·obtain⟨k1,k2,k3,k4⟩:=l2 bg
     have K2:=zA k2;have K3:=zA k3;have K4:=zA (k4.mJ (cl.out (fun _=>True)));have e5:decide (rd a u<0)=true:=aE bg;clear l1 l2 k1 k2 k3 k4;gi_wp2;have z3:=G.out.c3;have z4:=G.out.ki v a0;have z5:=(ah I5.out 0).trans rfl;have e6:wrap64 (rd a v+1)=rd a v+1:=by unfold wrap64;omega
     have hH:(0:Int)<=(u:Int):=by omega
     have hI:(0:Int)<=(v:Int):=by omega
     have bl:(v:Int)<(n:Int):=by omega
     refine pP [_,_,_,_,_,_,_,_] _ rfl (by kernel_rfl) rfl (by kernel_rfl) (by kernel_rfl) (by kernel_rfl) (by kernel_rfl) ?_;repeat(gi_big_quiet_step (fail))
     refine wpQuietIn_nil ?_;rintro _ ⟨nq,rfl⟩;have I:=zA (G.out.drewN nq);have J5:=zA (i' I5.out nq);have J6:=zA (I6.out.below (bU (aj _ _) nq));have bv:r.heap.size<=(W.drewN nq).heap.size:=by simpa using aO
     have bw:=zA (cS (nw:=r.heap.size) (bU (aj W.heap.size W) nq));have bx:=zA (bU (aj w.heap.size W) nq);have b0:Aside0 (∀k,k≠go->(W.drewN nq).heap[k]? =W.heap[k]?):=⟨fun k _=>by simp⟩;clear z3 z4 z5 e6;have z5:=I.out.x_ u aP;have z6:=I.out.ki u aP;generalize W.drewN nq=Wq at I J5 J6 bv bw bx b0 z5 z6⊢;obtain⟨g1,g2,g3,g4⟩:=I.out.ld;obtain⟨n1,n2,n3,n4,n5⟩:=I.out.ne;have i:=zA (I.out.xY u (rd a v+1));have fb:wr.heap.size≠go:=by omega
     have fd:=zA (aG (p:=⟨go,u,none⟩) J5.out fb (.int .i64 (rd a v+1)));have fn:Aside0 (cF (b3+3) b ds (Wq.setCell ⟨go,u,none⟩ (.int .i64 (rd a v+1)))):=⟨by
      obtain⟨inner,ho⟩:=Kd.jS I.out.ro;obtain⟨cells,hc⟩:=jR ho go rfl;exact J6.out.set (p:=⟨go,u,none⟩) hc _⟩
     have fr:r.heap.size<=(Wq.setCell ⟨go,u,none⟩ (.int .i64 (rd a v+1))).heap.size:=by simpa using bv
     have ft:=zA (bw.out.trans (eU (bo:=go) (j:=u) Wq (.int .i64 (rd a v+1)) (show go<r.heap.size by omega)));have fv:Aside0 (∀k,k≠go->(Wq.setCell ⟨go,u,none⟩ (.int .i64 (rd a v+1))).heap[k]? =W.heap[k]?):=⟨fun k hk=>(Below.heap_setCell _ _ _ _ hk).trans (b0.out k hk)⟩;have f0:Aside0 (∀k,(Wq.setCell ⟨go,u,none⟩ (.int .i64 (rd a v+1))).heap.size<=k->k≠go/\(k<wr.heap.size\/wr.heap.size+3<=k)):=⟨fun k hk=>by
      simp only[World.size_setCell] at hk;omega⟩
     have f1:Aside0 (((Q'.map fun x:Nat=>(x:Int)).length+1)*8<=140737488355328):=⟨by
      have h1:=S.out;have z:=HK.out.1;have h3:=HK.out.2;rw[List.length_cons] at z;rw[List.length_map];omega⟩
     have f2:=zA (Below.setCell (p:=⟨go,u,none⟩) bx.out g4 (.int .i64 (rd a v+1)));have z4:=i.out.c4;have hO:go≠b3+1+1:=n3;clear G I5 I6 I J5 J6 bv bw bx b0 aO O ap ar av;gi_wp2_with (gi_at_builtin;go_loud (refine xW (Kd.int .i64) (w0:=w) w.heap.size rfl (.tmp 51) (.tmp 53) 25 3 (.int .i64 0) 8 rfl Tryz.underlying25 il rfl (by decide) (by omega) qv' (Q'.map fun x:Nat=>(x:Int)) (u:Int) [.int .i64 u] (fun k=>k≠go/\(k<wr.heap.size\/wr.heap.size+3<=k)) (fun _=>False) rfl (by rw[World.size_setCell];rfl) rfl (fun _ hk=>hk.elim) f0.out i.out.rq i.out.hb i.out.hb.size f1.out ?_;intro v1 hP T cx aS f3;obtain⟨A1,c1,bl, -⟩:=Kd.oF T;obtain⟨nx,c5⟩:∃nx,nx=((Q'.map fun x:Nat=>(x:Int))++[(u:Int)]).length:=⟨_,rfl⟩;rw[<-c5] at bl;clear c5;subst bl;have f4:=zA (i.out.push T aS cx);have X4:=zA (di i.out.x4 aS (fun e=>(i.out.own _ e.symm).2.2.2.2 rfl));have d6:=dc X4.out;have hT:=bE X4.out 0;have f5:=zA aS;clear T aS f3 cx))
     have U:=f5.out;have T:=i.out.own;have Y:∀k,(k=wr.heap.size\/k=wr.heap.size+1\/k=wr.heap.size+1+1\/k=g)->some k≠qv'.ownBlock:=fun k hk e=>by
      have:=T k e.symm;rcases hk with rfl|rfl|rfl|rfl<;>omega
     have hV:=U.size;refine⟨(ft.out.trans (xX i.out.rq U)).trans (eU _ _ (show b3+1+1<r.heap.size by omega)),⟨fun _=>Below.setCell (p:=⟨b3+1+1,0,none⟩) (f2.out.grown U i.out.hb.size (fun k e=>(T k e).2.2.1)) n5 _,fun k hk cg=>?_⟩,?_,_,_,Q'++[u],f4.out,?_,?_,aG (di fd.out U (Y _ (.inl rfl))) (show wr.heap.size≠b3+1+1 by omega) _,(fn.out.xV i.out.rq U).set X4.out _⟩
     ·refine(Below.heap_setCell _ _ _ _ (show k≠b3+1+1 by rcases hk with rfl|rfl|rfl<;>omega)).trans ((U.block k ?_ (Y k (hk.elim (fun h=>.inr (.inl h)) (fun h=>.inr (.inr h))))).trans (fv.out k (by rcases hk with rfl|rfl|rfl<;>omega)))
      have h1:=fr;rcases hk with rfl|rfl|rfl<;>omega
     ·simp only[World.size_setCell];omega
     ·rw[K2.out];exact K4.out
     ·rw[K3.out,List.length_append]
      have h1:=S.out;have z:=j5 (a.set u (rd a v+1));rw[K3.out,List.length_set,ey.out] at z;simp only[List.length_cons,List.length_nil];omega
    ·have K4:=zA ((l1 (by omega)).mJ (cl.out (fun _=>True)))
     have e5:decide (rd a u<0)=false:=ba bg;clear l1 l2 O ap ar a4 a5 av;gi_wp2;exact⟨b8.refl _ _,⟨fun _=>aj _ _,fun _ _ _=>rfl⟩,aO,a,qv',Q',G.out,K4.out,S.out,I5.out,I6.out⟩
   case KO=>
    rintro s' xs W W' _ rfl ⟨P,a,qv',Q',i1,i2,i4,i5,i6⟩ H b2;have G:=zA (i1.bk H (by omega)).free;have I2:=zA (Bf.done i2 (fun x y f7 hex=>hex.2 (by rw[<-hex.1];exact f7)));have S:=zA i4;have I6:=zA (i6.bk H (by omega));have f8:=zA b2;have aO:r.heap.size<W'.heap.size:=(Array.getElem?_eq_some_iff.1 b2).1;clear i1 i2 i4 i5 i6 b2;gi_wp2;exact kC.intro (2*(n-ct a)+Q'.length) (by rw[HK.out.1];have:=S.out;simp only[List.length_cons];omega) (HJ.out _ _ _ ⟨_,_,_,_,_,_,_,_,_,_,_,_,a,qv',Q',_,G,I2,by omega,⟨rfl,by have h1:=S.out;have z:=HK.out.1;have h3:=HK.out.2;rw[List.length_cons] at z;omega⟩,rfl⟩) (r.heap.size+1) (by omega) (I6.out.push (by omega) (by omega) f8.out)
end
section
attribute [local go_sem] jU jV jW jX nc nf ng nh
def gP (xs:List Int):Nat->Int
 |0=>rd xs 0
 |k+1=>if gP xs k<rd xs ((k+1:Nat):Int) then rd xs ((k+1:Nat):Int) else gP xs k
theorem GA (A:Option Addr) (c:Nat) (xs:List Int) (w:World) (h:Kd.C (Kd.int .i64) w A xs.length xs) (h1:1<=xs.length):
  Calls Tryz.prog 167 #[.slice A xs.length c] w fun e w'=>e= .returned (.int .i64 (gP xs (xs.length-1)))/\Below w.heap.size w w':=by
 have v:xs.length<=9223372036854775807:=Kd.mS h;have b:=zA (aj w.heap.size w);have m:=zA h;obtain⟨a,n,g⟩:=Kd.cI h 0 (by omega) (by omega);subst n;have g:w.cell? a=some (.int .i64 (rd xs 0)):=by simpa [Addr.add] using g
 have x:(1:Int)<=(xs.length:Int):=by omega
 have B:((xs.length:Nat):Int)<=9223372036854775807:=by omega
 clear h;go_enter Tryz.func167,Tryz.ntmps167
 go_wp2;clear g;go_loopg [3,4] (xs.length-1) (fun o p q wr=>∃i:Nat,p= .int .i64 (gP xs (i-1))/\q= .int .i64 i/\1<=i/\i<=xs.length/\Aside0 (Below w.heap.size w wr)/\Aside0 (o=xs.length-i))
 case atStart=>exact⟨1,rfl,rfl,aI _,h1,b,⟨rfl⟩⟩
 case round=>
  clear b;obtain⟨i,rfl,rfl,D,E,b,r⟩:=hrel;by_cases F:i<xs.length
  ·have s:(0:Int)<=(i:Int):=by omega
   have u:(i:Int)<(xs.length:Int):=by omega
   obtain⟨a',k,g⟩:=Kd.cI (Kd.ax m.out b.out) (i:Int) s u;injection k with k
   subst k;rw[aD] at g;have l:Aside0 (gP xs (i+1-1)=if gP xs (i-1)<rd xs (i:Int) then rd xs (i:Int) else gP xs (i-1)):=⟨by
    obtain⟨j,rfl⟩:∃j,i=j+1:=⟨i-1,by omega⟩;rfl⟩
   generalize gP xs (i-1)=y at l⊢;generalize rd xs (i:Int)=z at g l;go_wp2
   all_goals
    go_roundg (xs.length- (i+1))
    case measure=>rw[r.out];omega
    case rel=>exact⟨i+1,(by rw[l.out];first|rw[if_pos (by assumption)]|rw[if_neg (by assumption)]|rw[if_neg (by omega)]),by go_num,by omega,by omega,b,⟨rfl⟩⟩
  ·obtain rfl:i=xs.length:=by omega
   go_wp2;go_ret;exact⟨rfl,b.out⟩
end
section
attribute [local go_sem] Oper.semAt_some
theorem GC (g n:Nat) (A0:Option Addr) (c0:Nat) (E:List S83) (q:Int) (dv Q:Value) (R:Int) (v:Nat) (lb:Array Value) (B:Nat->Bool) (w:World) (ab:Kd.C aM w A0 E.length E) (hE:eE n E) (hn:n<=1000) (hv:v<n) (i:iu w g n (.slice A0 E.length c0) q dv Q R)
  (hB:∀(W:World) (u:Int),Below w.heap.size w W->0<=u->u<n->Calls Tryz.prog 169 (#[.int .i64 u]++lb) W fun e w'=>e= .returned (.bool (B u.toNat))/\Below W.heap.size W w'):
  Calls Tryz.prog 168 #[.pointer (some ⟨g,0,none⟩),.int .i64 v,.func (.func 169) #[] lb] w fun e w'=>e= .returned (.int .i64 (eu B (cK E v E.length)))/\Below w.heap.size w w':=by
 have a9:=zA hB;have HE:=zA hE;have ak:=zA i;clear hB hE i;refine(callsIn_wide (n:=10)).1 ?_;refine callsIn_of_wp_marks Tryz.func168 rfl trivial ?_ rfl;simp only[Tryz.ntmps168,List.size_toArray,List.length_cons,List.length_nil,Nat.reduceAdd,Nat.reduceSub,Array.replicate_succ,Array.replicate_zero,List.push_toArray,List.append_toArray,List.nil_append,List.cons_append];gi_wp2_with (refine⟨trivial,?_⟩;gi_at_call 194;refine(callsIn_wide.2 (mq g v _)).mono ?_;rintro e w3 ⟨rfl,rfl⟩)
 obtain⟨p,am⟩:∃o:Obj,o= .cells #[.func (.func 169) #[] lb] 121:=⟨_,rfl⟩;obtain⟨on,an⟩:∃o:Obj,o= .cells #[.int .i64 0] 3:=⟨_,rfl⟩;obtain⟨r,ao⟩:∃o:Obj,o= .cells #[.pointer (some ⟨g,0,none⟩)] 135:=⟨_,rfl⟩;obtain⟨y,ap⟩:∃o:Obj,o= .cells #[.int .i64 v] 3:=⟨_,rfl⟩;have Z0:=a6 w p;have S:=a6 (w.alloc p) on;have T:=a6 ((w.alloc p).alloc on) r;have U:=a6 (((w.alloc p).alloc on).alloc r) y;simp only[World.size_alloc] at S T U;have H0:=zA ((aq (aq (aq Z0 on) r) y).trans (by rw[am]:_=some (.cells #[.func (.func 169) #[] lb] 121 (0,0))));have H1:=zA ((aq (aq S r) y).trans (by rw[an]:_=some (.cells #[.int .i64 0] 3 (0,0))));have H2:=zA ((aq T y).trans (by rw[ao]:_=some (.cells #[.pointer (some ⟨g,0,none⟩)] 135 (0,0))));have H3:=zA (U.trans (by rw[ap]:_=some (.cells #[.int .i64 v] 3 (0,0))));have z:=zA (ai (ai (ai (ai (aj w.heap.size w) p) on) r) y);have aO:Aside0 (iu ((((w.alloc p).alloc on).alloc r).alloc y) g n (.slice A0 E.length c0) q dv Q R):=⟨az ak.out z.out⟩;have bn:g<w.heap.size:=ay ak.out;have be:=zA (Kd.ax ab z.out);clear Z0 S T U;subst am an ao ap;have bf:=z.out.size;have bg:((((w.alloc (.cells #[.func (.func 169) #[] lb] 121)).alloc (.cells #[.int .i64 0] 3)).alloc (.cells #[.pointer (some ⟨g,0,none⟩)] 135)).alloc (.cells #[.int .i64 v] 3)).heap.size=w.heap.size+4:=by simp
 generalize ((((w.alloc (.cells #[.func (.func 169) #[] lb] 121)).alloc (.cells #[.int .i64 0] 3)).alloc (.cells #[.pointer (some ⟨g,0,none⟩)] 135)).alloc (.cells #[.int .i64 v] 3))=j at H0 H1 H2 H3 z aO be bf bg⊢;refine gU (σ:=Unit) (α:=Int×Int) (F:=Fence.wide) (n:=10) rfl (by decide) (gf:=207) (lb:=#[.pointer (some ⟨w.heap.size+1+1,0,none⟩),.pointer (some ⟨w.heap.size+1+1+1,0,none⟩)]) rfl trivial (enters_of Tryz.func207 (by kernel_rfl) rfl)
  (fun o=>pg (w.heap.size+1+1) (w.heap.size+1+1+1) g n A0 c0 E q dv Q R v w _ ab HE.out hn hv (ai (ai z.out _) _) (aq (aq H2.out _) _) (aq (aq H3.out _) _) (aq (aq aO.out _) _)) (fun _=>rfl)
  (fun _=>True) ?dH ?st ?ar
  (fun _ pre W=>j.heap.size<=W.heap.size/\W.heap[w.heap.size]? =some (.cells #[.func (.func 169) #[] lb] 121 (0,0))/\W.heap[w.heap.size+1]? =some (.cells #[.int .i64 (eu B pre)] 3 (0,0))/\Below w.heap.size w W) (fun _ _ _ _=>False)
  ?is (fun _ _ _ _ _ _ h _=>h) ?ib (fun _ _ _ _ _ h _=>h) ?kt ?h0 ?a1 ?assign ?body ?done (fun _ _ _ _ _ _ _ h=>h.elim)
 case assign=>
  intro l x W K hK;gi_wp2;exact hK
 case dH=>
  intro o s W1 h;exact⟨trivial,by rw[h];exact b8.refl _ _⟩
 case st=>intro s A B _ h;exact cS h
 case ar=>intro s x A B _ h;exact cS h.2
 case is=>
  rintro s pre A B _ ⟨H,h1,V,X⟩ i;exact⟨Nat.le_trans H i.size,az h1 i,az V i,aQ X i⟩
 case ib=>
  rintro s pre A B ⟨H,h1,V,X⟩ hb;exact⟨by rw[hb.size];exact H,hb.cells h1,hb.cells V,X.trans (hb.below w.heap.size (by omega))⟩
 case kt=>
  intro s A B C D N aP aS;refine⟨fun aT=>((N.below w.heap.size (by omega)).trans (aP.1 (by rw[N.size];exact aT))).trans (aS.below w.heap.size (by omega)),fun k hk I=>?_⟩;have a0:k≠j.heap.size+1:=by rcases hk with rfl|rfl|rfl<;>omega
  exact(aS.heap k a0).trans ((aP.2 k hk (by rw[N.size];exact I)).trans (N.heap k a0))
 case h0=>
  rintro o s W1 rfl;exact⟨by simp;omega,aq (aq H0.out _) _,aq (aq H1.out _) _,ai (ai z.out _) _⟩
 case body=>
  rintro l s pre ⟨u,m⟩ Wb W1 W _ ⟨H,i1,i2,i3⟩ ⟨Y,J⟩ bk b;have Z:=zA (b.cells (az i1 J));have L:=zA (b.cells (az i2 J));have b3:=zA ((aQ i3 J).trans (b.below w.heap.size (by omega)));have bq:j.heap.size<=W.heap.size:=by have:=b.size;have:=J.size;omega
  clear i1 i2 i3 J b bk;simp only at Y;have bv:W.cell? ⟨w.heap.size,0,none⟩=some (.func (.func 169) #[] lb):=(ah Z.out 0).trans rfl;have O:=zA (a9.out W u b3.out Y.1 Y.2.1);have M:=zA (su B pre (u,m));generalize eu B pre=s0 at L M;cases P:B u.toNat with
  |true=>
   rw[P] at O M;clear P;gi_wp2_with (refine⟨trivial,?_⟩;gi_at_call 169;refine(callsIn_wide.2 O.out).mono ?_;rintro e w5 ⟨rfl,G⟩;have a:=zA G;have D2:=zA (az L.out G);have c5:w5.cell? ⟨w.heap.size+1,0,none⟩=some (.int .i64 s0):=(ah D2.out 0).trans rfl;have f5:=bE D2.out 0;clear G)
   have aT:=a.out.size;refine⟨(cS a.out).trans (eU _ _ (by show w.heap.size+1<j.heap.size;omega)),⟨fun aT=>Below.setCell (a.out.mono aT) (by show w.heap.size<=w.heap.size+1;omega) _,fun k hk I=>?_⟩,by simp;omega,?_,?_,Below.setCell (aQ b3.out a.out) (by show w.heap.size<=w.heap.size+1;omega) _⟩
   ·rw[Below.heap_setCell _ _ _ _ (by rcases hk with rfl|rfl|rfl<;>(show _≠w.heap.size+1)<;>omega)]
    exact a.out.block k I
   ·rw[Below.heap_setCell _ _ _ _ (by show w.heap.size≠w.heap.size+1;omega)]
    exact az Z.out a.out
   ·have h:=bV D2.out 0 (.int .i64 (wrap64 (s0+m)))
    rw[M.out];simpa using h
  |false=>
   rw[P] at O M;clear P;gi_wp2_with (refine⟨trivial,?_⟩;gi_at_call 169;refine(callsIn_wide.2 O.out).mono ?_;rintro e w5 ⟨rfl,G⟩;have a:=zA G;clear G)
   have aT:=a.out.size;exact⟨cS a.out,⟨fun aT=>a.out.mono aT,fun k hk I=>a.out.block k I⟩,by omega,az Z.out a.out,by rw[M.out];exact az L.out a.out,aQ b3.out a.out⟩
 case done=>
  rintro s xs W W' _ rfl ⟨H,i1,i2,i3⟩ b a3;have L:=zA (b.cells i2);have b3:=zA (i3.trans (b.below w.heap.size (by omega)));have a4:=zA a3;clear i1 i2 i3 a3;have hc:W'.cell? ⟨w.heap.size+1,0,none⟩=some (.int .i64 (eu B (cK E v E.length))):=(ah L.out 0).trans rfl;gi_wp2_with fail
  have bl:Bk j.heap.size W' (W'.putObj j.heap.size (.deferred none)):=⟨_,_,a4.out,rfl,rfl⟩;exact iG (D:=j.heap.size) rfl a4.out (results_tmp rfl _ _ _) ⟨rfl,b3.out.trans (bl.below w.heap.size (by omega))⟩
end
section
attribute [local go_sem] Oper.semAt_some jU jV jW jX
theorem GD (gb a cr n:Nat) (B:Nat->Bool) (ok:Nat->Prop) (base:Nat) (W:World) (u:Int) (hb:W.heap[gb]? =some (.cells #[.slice (some ⟨a,0,none⟩) n cr] 43 (0,0))) (g:Kd.bool.R 4 W base ok (.slice (some ⟨a,0,none⟩) n cr) ((List.range n).map B)) (h:0<=u) (hn:u<n):
  Calls Tryz.prog 169 #[.int .i64 u,.pointer (some ⟨gb,0,none⟩)] W fun e w'=>e= .returned (.bool (B u.toNat))/\Below W.heap.size W w':=by
 have i:W.cell? ⟨gb,0,none⟩=some (.slice (some ⟨a,0,none⟩) n cr):=(ah hb 0).trans rfl;have b:=(Kd.bP false g u h hn).1;have e:bL false ((List.range n).map B) u=B u.toNat:=by
  obtain⟨m,rfl⟩:=Int.eq_ofNat_of_zero_le h;have:m<n:=by omega
  simp[bL,aW,List.getElem?_map,List.getElem?_range this]
 rw[e] at b;have b:W.cell? ⟨a,u.toNat,none⟩=some (.bool (B u.toNat)):=b;clear g hb e;go_enter Tryz.func169,Tryz.ntmps169
 go_wp2;go_ret;exact⟨rfl,aj _ _⟩
theorem GF (A:Option Addr) (c n:Nat) (xs:List Int) (w:World) (a:xs.length=n) (b:Kd.C (Kd.int .i64) w A xs.length xs) (h1:1<=n):
  Calls Tryz.prog 167 #[.slice A n c] w fun e w'=>e= .returned (.int .i64 (gP xs (n-1)))/\Below w.heap.size w w':=by
 subst a;exact GA A c xs w b h1
theorem ya (xs:List Int):∀k i:Nat,i<=k->rd xs (i:Int)<=gP xs k
 |0,i,h=>by
  obtain rfl:i=0:=by omega
  exact Int.le_refl _
 |k+1,i,h=>by
  unfold gP;by_cases e:i=k+1
  ·subst e;split<;>omega
  ·have:=ya xs k i (by omega)
   split<;>omega
theorem yb (xs:List Int):∀k:Nat,∃i,i<=k/\gP xs k=rd xs (i:Int)
 |0=>⟨0,aI _,rfl⟩
 |k+1=>by
  unfold gP;split
  ·exact⟨k+1,aI _,rfl⟩
  ·obtain⟨i,h1,a⟩:=yb xs k
   exact⟨i,by omega,a⟩
structure GG (n q:Nat) (t:Nat->Nat->Int) (out:List Int):Prop where
 len:out.length=n
 q0:rd out (q:Int)=0
 pos:∀v:Nat,v<n->0<=rd out (v:Int)/\rd out (v:Int)<n
 yc:∀u v:Nat,u<n->v<n->0<t u v->rd out (v:Int)<=rd out (u:Int)+1
 back:∀v:Nat,v<n->v≠q->∃u:Nat,u<n/\0<t v u/\rd out (u:Int)+1=rd out (v:Int)
theorem sM {n:Nat} {E:List S83} (h:bt n E) {u v:Nat} (hu:u<n) (g:v<n):lS E v u↔0<af E v u:=by
 have h1:∀L:List (Int×Int),(∀x∈L,0<=x.1/\x.1<n/\x.1≠v/\1<=x.2/\x.2<=50)->0<=dT (fun w=>if w=u then 1 else 0) L/\(0<dT (fun w=>if w=u then 1 else 0) L↔∃m,((u:Int),m)∈L):=by
  intro L;induction L with
  |nil=>intro _;simp[dT]
  |cons x L i=>
   intro a;obtain⟨i1,i2⟩:=i (fun y j=>a y (List.mem_cons_of_mem _ j));have k:=a x (List.mem_cons_self ..);simp only[dT];by_cases e:x.1.toNat=u
   ·rw[if_pos e,Int.mul_one]
    refine⟨by omega,fun _=>⟨x.2,?_⟩,fun _=>by omega⟩;have:x=((u:Int),x.2):=by rw[<-e];ext<;>simp;omega
    rw[<-this];exact List.mem_cons_self ..
   ·rw[if_neg e,Int.mul_zero,Int.zero_add]
    refine⟨i1,fun h=>?_,fun⟨m,hm⟩=>?_⟩
    ·obtain⟨m,hm⟩:=i2.1 h
     exact⟨m,List.mem_cons_of_mem _ hm⟩
    ·rcases List.mem_cons.1 hm with rfl|hm
     ·exact absurd (show ((u:Int)).toNat=u by simp) e
     ·exact i2.2 ⟨m,hm⟩
 have b:=h1 _ (pR h E.length (aI _) (v:=v));rw[pQ h _ g,T.jH hu (fun w _ hw=>by rw[if_neg hw,Int.mul_zero]),if_pos rfl,Int.mul_one] at b;exact b.2.symm
theorem Bf.dst {n q:Nat} {E:List S83} (h:bt n E) (m:T.dS n (af E)) (o:q<n) {out:List Int} {D:Int} (hb:Bf n q (lS E) out [] D (fun _ _=>False)):GG n q (af E) out:=by
 have i:∀v:Nat,v<n->0<=rd out (v:Int):=by
  intro v e;refine Classical.byContradiction fun p=>?_
  obtain⟨a,b,k,l,h1,g,j⟩:=m (fun v=>decide (0<=rd out (v:Int))) ⟨q,o,by simp[hb.q0]⟩ ⟨v,e,by simpa using p⟩;have:=hb.kR a k (aA h1) (by simp) b l ((sM h l k).2 j) (fun f=>f);exact(of_decide_eq_false g) this.1
 refine⟨hb.len,hb.q0,fun v e=>⟨i v e,?_⟩,fun u v hu e r=>(hb.kR u hu (i u hu) (by simp) v e ((sM h e hu).2 r) (fun f=>f)).2,fun v e s=>?_⟩
 ·have h1:=hb.hi v e
  have g:=j5 out;rw[hb.len] at g;omega
 ·obtain⟨u,hu,h1,g,j⟩:=hb.back v e s (i v e)
  exact⟨u,hu,by rw[h.wt.sym];exact(sM h e hu).1 h1,j⟩
structure LI (w0 w:World) (g gd gs go cd cs co n:Nat) (A0:Option Addr) (c0:Nat) (E:List S83) (q:Int) (out d s:List Int) (W:World):Prop where
 si:SI w0 g gd gs cd cs n A0 c0 E q d s W
 fo:(Kd.int .i64).R 3 W w.heap.size (fun _=>True) (.slice (some ⟨go,0,none⟩) n co) out
 hw:w0.heap.size<=w.heap.size/\gd<w.heap.size/\gs<w.heap.size/\g<w.heap.size/\w.heap.size<=go
namespace LI
variable {w0 w W W':World} {g gd gs go cd cs co n c0 l:Nat} {A0:Option Addr} {E:List S83} {q:Int} {out d s:List Int}
theorem below (h:LI w0 w g gd gs go cd cs co n A0 c0 E q out d s W) (hb:Below W.heap.size W W'):LI w0 w g gd gs go cd cs co n A0 c0 E q out d s W':=⟨h.si.below hb,Kd.cz h.fo hb,h.hw⟩
theorem alloc (h:LI w0 w g gd gs go cd cs co n A0 c0 E q out d s W) (o:Obj):LI w0 w g gd gs go cd cs co n A0 c0 E q out d s (W.alloc o):=h.below (ai (aj _ _) o)
theorem drewN (h:LI w0 w g gd gs go cd cs co n A0 c0 E q out d s W) (m:Nat):LI w0 w g gd gs go cd cs co n A0 c0 E q out d s (W.drewN m):=h.below (bU (aj _ _) m)
theorem drew (h:LI w0 w g gd gs go cd cs co n A0 c0 E q out d s W):LI w0 w g gd gs go cd cs co n A0 c0 E q out d s W.drew:=h.drewN 1
theorem iR (h:LI w0 w g gd gs go cd cs co n A0 c0 E q out d s W) (p:Addr) (v:Value) (a:w.heap.size<=p.block) (h1:p.block≠go):LI w0 w g gd gs go cd cs co n A0 c0 E q out d s (W.setCell p v):=
 ⟨h.si.iR p v (by have:=h.hw;omega) (by have:=h.hw;omega),Kd.a_ (Kd.fK (Kd.gD rfl h.fo) (fun k hk=>Below.heap_setCell _ _ _ _ (fun e=>h1 (by rw[<-e];injection hk)))) (fun _ _=>trivial),h.hw⟩
theorem ki (h:LI w0 w g gd gs go cd cs co n A0 c0 E q out d s W) (v:Nat) (a:v<n):W.cell? ⟨go,v,none⟩=some (.int .i64 (rd out v)):=by
 have:=(Kd.bP 0 h.fo (v:Int) (by omega) (by omega)).1;rw[aD] at this;exact this
theorem GH (h:LI w0 w g gd gs go cd cs co n A0 c0 E q out d s W) {d' s':List Int} (a:SI w0 g gd gs cd cs n A0 c0 E q d' s' W') (hk:∀k,k<W.heap.size->k≠gd->k≠gs->W'.heap[k]? =W.heap[k]?):LI w0 w g gd gs go cd cs co n A0 c0 E q out d' s' W':=
 ⟨a,Kd.a_ (Kd.fK (Kd.gD rfl h.fo) (fun k e=>by
  injection e with e
  subst e;have h1:=h.hw;exact hk _ (Kd.a8 h.fo _ rfl) (by omega) (by omega))) (fun _ _=>trivial),h.hw⟩
end LI
theorem GI (g gd gs cd cs n:Nat) (A0:Option Addr) (c0:Nat) (E:List S83) (q:Nat) (d:List Int) (w0 w:World) (an:Kd.C aM w0 A0 E.length E) (hE:bt n E) (hl:E.length<=1000) (hC:fC n E) (hn:n<=12) (hq:q<n) (aa:T.sN (T.val n (af E)) n<=19)
  (hd:∀v:Nat,v<n-> -200<=rd d v/\rd d v<=200) (bf:d.length=n) (h:SI w0 g gd gs cd cs n A0 c0 E q d (List.replicate n 0) w):
  Calls Tryz.prog 110 #[.pointer (some ⟨g,0,none⟩)] w fun e w'=>e= .returned (.tuple #[])/\∃(d' s':List Int),d'.length=n/\s'.length=n/\SI w0 g gd gs cd cs n A0 c0 E q d' s' w'/\(∀v:Nat,v<n->v≠q->0<=rd d' v)/\∃dist:Nat->Int,T.fE n (af E) (fun v=>rd d (v:Nat)) dist 200 0 (fun v=>rd d' (v:Nat)) (fun v=>rd s' (v:Nat)):=by
 have e2:=Tryz.underlying188;have hu:=Tryz.underlying24;have o:=zA hE;have HC:=zA hC;have HD:=zA hd;have bg:=h.hb.size;obtain⟨q1,q2,q3,q4,q5⟩:=h.ld;have HS:=zA h;have c4:1<=n:=by omega
 clear hE hC hd h;go_enter Tryz.func110,Tryz.ntmps110
 go_wp2_with (first|(go_at_call 165;refine(Gz g n A0 c0 E q _ _ 0 _ (Kd.ax an HS.out.hb) o.out.kg (by omega) hq HS.out.st).mono ?_;rintro e w1 ⟨go,co,out,D,rfl,hO,K,bi⟩;have s:=zA (Bf.dst o.out (o.out.conn HC.out) hq bi);have ap:Aside0 (LI w0 w g gd gs go cd cs co n A0 c0 E q out d (List.replicate n 0) w1):=⟨HS.out.below K,hO,bg,q1,q2,q3,Kd.dK hO go rfl⟩;clear hO K bi)|(go_at_call 167;refine(GF _ _ n out _ s.out.len (Kd.aN ap.out.fo).2.2 c4).mono ?_;rintro e w2 ⟨rfl,K⟩;have L:=zA (ap.out.below K);clear K ap))
 obtain⟨im,c5,c6⟩:=yb out (n-1);obtain⟨G,ar⟩:∃G:Nat,gP out (n-1)=G:=⟨(gP out (n-1)).toNat,by have:=s.out.pos im (by omega);omega⟩;have av:G<=n:=by have:=s.out.pos im (by omega);omega
 have HM:Aside0 (∀v:Nat,v<n->rd out (v:Int)<=G):=⟨fun v l=>by rw[<-ar];exact ya out (n-1) v (by omega)⟩;have bn:Aside0 (T.fE n (af E) (fun v=>rd d (v:Nat)) (fun v=>rd out (v:Nat)) 200 G (fun v=>rd d (v:Nat)) (fun v=>rd (List.replicate n 0) (v:Nat))):=⟨by
  have h:=T.fE.start (n:=n) (t:=af E) (D:=fun v=>rd d (v:Nat)) (dist:=fun v=>rd out (v:Nat)) (B:=200) (k:=G) (by omega) (fun v l=>(HD.out v l).1) HM.out (by omega);rw[show (fun v:Nat=>rd (List.replicate n 0) (v:Int))=fun _=>0 from by
   funext v
   simp[rd,aW,List.getElem?_replicate];split<;>rfl]
  exact h⟩
 rw[ar];clear ar c6 c5;have c7:=zA bf;have c8:=zA (List.length_replicate (n:=n) (a:=(0:Int)));clear bf;go_loopg [4] (G) (fun M kv wr=>∃(k:Nat) (d' s':List Int),kv= .int .i64 k/\k<=n/\Aside0 (LI w0 w g gd gs go cd cs co n A0 c0 E q out d' s' wr)/\Aside0 (d'.length=n)/\Aside0 (s'.length=n)/\Aside0 (T.fE n (af E) (fun v=>rd d (v:Nat)) (fun v=>rd out (v:Nat)) 200 k (fun v=>rd d' (v:Nat)) (fun v=>rd s' (v:Nat)))/\Aside0 (M=k))
 case atStart=>exact⟨G,d,List.replicate n 0,rfl,av,L,c7,c8,bn,⟨rfl⟩⟩
 case round=>
  clear L bn HM av HS;obtain⟨k,d',s',rfl,av,b,O,P,I,HK⟩:=hrel;by_cases hk:0<k
  ·have e5:(0:Int)<(k:Int):=by omega
   have c':(0:Int)<=(n:Int):=by omega
   have s5:=b.out.si.f5;have s0:=b.out.si.f0;go_wp2_with (first|((with_reducible refine aU (N:=33) rfl ?_);refine Kd.lr Kd.bool _ 4 rfl (N:=33) rfl 43 _ _ rfl (n:Int) rfl rfl Tryz.underlying43 (.bool false) 1 lF rfl (by decide) (by omega) false (ok:=fun _=>True) (okp:=fun _=>True) rfl (fun _ hk=>hk) trivial c' (by simp;omega) (aj _ _) (aI _) ?_;intro v1 w5 ho hb dk dl;rw[aD] at ho;obtain⟨j,cr,l,e6,ds, -⟩:=Kd.gC ho (by rw[List.length_replicate];omega);rw[List.length_replicate] at l;subst l;have bq:=zA ho;have bv:=zA (b.out.below hb);clear ho hb dk dl))
   have e_:=Kd.a8 b.out.fo go rfl;have e':=b.out.si.hb.size;have fb:=b.out.hw;have dv:w.heap.size<=wr.heap.size:=by omega
   have dx:j≠go:=by omega
   have d0:w.heap.size<=j:=by omega
   have ag:=zA (a6 w5 (.cells #[.slice (some ⟨j,0,none⟩) n cr] 43));have aF:=zA (Kd.bc (Kd.aK bq.out (.cells #[.slice (some ⟨j,0,none⟩) n cr] 43)) (base':=w.heap.size) dv);have aL:=zA (bv.out.alloc (.cells #[.slice (some ⟨j,0,none⟩) n cr] 43));clear bq bv s5 s0 b;generalize w5.alloc (.cells #[.slice (some ⟨j,0,none⟩) n cr] 43)=W6 at ag aF aL⊢;generalize w5.heap.size=gb at ag ds⊢;have bw:Aside0 (Kd.bool.R 4 W6 w.heap.size (fun _=>True) (.slice (some ⟨j,0,none⟩) n cr) ((List.range n).map fun u:Nat=>if u<0 then decide (rd out (u:Int)<k) else false)):=⟨by
    have h:=aF.out;rw[show (List.replicate n false:List Bool)=(List.range n).map fun u:Nat=>if u<0 then decide (rd out (u:Int)<k) else false from by
     refine List.ext_getElem (by simp) fun i h1 H=>?_
     simp] at h
    exact h⟩
   clear aF;go_loopg [36] (n) (fun M vv aP=>∃v:Nat,v<=n/\vv= .int .i64 v/\Aside0 (LI w0 w g gd gs go cd cs co n A0 c0 E q out d' s' aP)/\Aside0 (aP.heap[gb]? =some (.cells #[.slice (some ⟨j,0,none⟩) n cr] 43 (0,0)))/\Aside0 (Kd.bool.R 4 aP w.heap.size (fun _=>True) (.slice (some ⟨j,0,none⟩) n cr) ((List.range n).map fun u:Nat=>if u<v then decide (rd out (u:Int)<k) else false))/\Aside0 (M=n-v))
   case atStart=>exact⟨0,by omega,rfl,aL,ag,bw,⟨rfl⟩⟩
   case round=>
    clear aL ag bw;obtain⟨v,l,rfl,b,m,Q,J⟩:=hrel;by_cases p:v<n
    ·have d2:(0:Int)<=(v:Int):=by omega
     have d3:(v:Int)<(n:Int):=by omega
     have S:=dc m.out;have b1:=b.out.ki v p;obtain⟨U,hf⟩:=Kd.bP false Q.out (v:Int) (by omega) (by omega);rw[aD] at U hf;generalize bL false ((List.range n).map fun u:Nat=>if u<v then decide (rd out (u:Int)<k) else false) (v:Int)=z at U;replace U:wr.cell? ⟨j,v,none⟩=some (.bool z):=U;have V:=Kd.dg Q.out (v:Int) (decide (rd out (v:Int)<k));rw[aD] at V;have em:(((List.range n).map fun u:Nat=>if u<v then decide (rd out (u:Int)<k) else false).set v (decide (rd out (v:Int)<k)))=(List.range n).map fun u:Nat=>if u<v+1 then decide (rd out (u:Int)<k) else false:=by
      refine List.ext_getElem (by simp) fun i h1 H=>?_
      rw[List.getElem_set];simp only[List.getElem_map,List.getElem_range];by_cases e:v=i
      ·subst e;simp
      ·rw[if_neg e]
       by_cases h:i<v
       ·rw[if_pos h,if_pos (by omega)]
       ·rw[if_neg h,if_neg (by omega)]
     rw[em] at V;have bx:=zA (Kd.bA V.1);have b4:=zA (ff (di (g:=gb) m.out V.2 (fun e=>by injection e with e;omega)));have L:=zA ((b.out.iR ⟨j,v,none⟩ (.bool (decide (rd out (v:Int)<k))) d0 dx).drew);clear V em b m Q;go_wp2;go_region
     clear S b1 U hf;generalize (wr.setCell ⟨j,v,none⟩ (.bool (decide (rd out (v:Int)<k)))).drew=W7 at L b4 bx⊢;go_wp2;go_roundg (n- (v+1))
     case measure=>rw[J.out];omega
     case rel=>exact⟨v+1,by omega,by go_num,L,b4,bx,⟨rfl⟩⟩
    ·obtain rfl:n=v:=by omega
     go_wp2;have r:Aside0 (Kd.bool.R 4 wr w.heap.size (fun _=>True) (.slice (some ⟨j,0,none⟩) n cr) ((List.range n).map (T.bI (fun v=>rd out (v:Nat)) k))):=⟨by
      have h:=Q.out;rw[show ((List.range n).map fun u:Nat=>if u<n then decide (rd out (u:Int)<k) else false)=(List.range n).map (T.bI (fun v=>rd out (v:Nat)) k) from List.map_congr_left fun u hu=>by
       rw[if_pos (List.mem_range.1 hu)];rfl] at h
      exact h⟩
     have d4:0<=T.fW n (af E) (fun v=>rd out (v:Nat)) 200 k:=by have:=T.pL (n:=n) (t:=af E) (fun v=>rd out (v:Nat)) (show (0:Int)<=200 by omega) k;omega
     have d5:=T.sr o.out.wt (fun v=>rd out (v:Nat)) (B:=200) (by omega) aa k;have b5:Aside0 (∀v:Nat,v<n-> -T.fW n (af E) (fun v=>rd out (v:Nat)) 200 k<=rd d' v):=⟨fun v l=>I.out.low v l⟩;clear Q J;obtain⟨Y,a0⟩:∃Y,Y=T.fW n (af E) (fun v=>rd out (v:Nat)) 200 k:=⟨_,rfl⟩;rw[<-a0] at d4 d5 b5;have d6:=zA a0;clear a0;go_loopg [51,7] (n) (fun M vv tv wr=>∃(v:Nat) (x:Int),v<=n/\vv= .int .i64 v/\tv= .int .i64 x/\0<=x/\x<=Y/\Aside0 (∀u:Nat,u<v->rd out u=k->rd d' u<0-> -rd d' u<=x*T.sN (fun w=>if T.bI (fun v=>rd out (v:Nat)) k w=true then af E u w else 0) n)/\Aside0 (LI w0 w g gd gs go cd cs co n A0 c0 E q out d' s' wr)/\Aside0 (wr.heap[gb]? =some (.cells #[.slice (some ⟨j,0,none⟩) n cr] 43 (0,0)))/\Aside0 (Kd.bool.R 4 wr w.heap.size (fun _=>True) (.slice (some ⟨j,0,none⟩) n cr) ((List.range n).map (T.bI (fun v=>rd out (v:Nat)) k)))/\Aside0 (M=n-v))
     case atStart=>exact⟨0,0,by omega,rfl,rfl,by omega,by omega,⟨fun u hu=>by omega⟩,b,m,r,⟨rfl⟩⟩
     case round=>
      clear b m r;obtain⟨v,x,l,rfl,rfl,a1,a2,X,b,m,r,J⟩:=hrel;by_cases p:v<n
      ·have d2:(0:Int)<=(v:Int):=by omega
       have d3:(v:Int)<(n:Int):=by omega
       have S:=dc m.out;have b1:=b.out.ki v p;have b2:=b.out.si.kS v p;have b3:=b.out.si.f3;by_cases F:rd out v=k
       ·have d9:(rd out v==(k:Int))=true:=by simpa using F
        by_cases b6:rd d' v<0
        ·have ea:decide (rd d' v<0)=true:=aE b6
         obtain⟨u,hu,b_,b'⟩:=s.out.back v p (fun e=>by have:=s.out.q0;rw[<-e] at this;omega);have ca:=zA (Ge o.out.wt hu b_ b' F);have cb:Aside0 (T.sN (fun w=>if T.bI (fun v=>rd out (v:Nat)) k w=true then af E v w else 0) n<=600):=⟨by
          have h:=T.cZ (f:=fun w=>if T.bI (fun v=>rd out (v:Nat)) k w=true then af E v w else 0) (g:=fun _=>50) (n:=n) (fun w _=>by
           have:=o.out.kg.times v w;show (if T.bI (fun v=>rd out (v:Nat)) k w=true then af E v w else 0)<=50
           split<;>omega)
          rw[T.iw] at h;omega⟩
         have cc:=zA (sB o.out hl (T.bI (fun v=>rd out (v:Nat)) k) p);have fn:=(nW o.out.wt hn aa (fun v l=>HD.out v l) (by omega) (by omega) I.out v p).1;have fq:=b5.out v p;have a3:=zA F;clear F b_ b';go_wp2_with (go_at_call 168;refine(GC g n A0 c0 E q _ _ 0 v #[.pointer (some ⟨gb,0,none⟩)] (T.bI (fun v=>rd out (v:Nat)) k) _ (Kd.ax an b.out.si.hb) o.out.kg (by omega) p b.out.si.st (fun W u ce eb ed=>GD gb j cr n _ _ _ W u (az m.out ce) (Kd.cz r.out ce) eb ed)).mono ?_;rintro e w8 ⟨rfl,ak⟩;have Z:=zA (b.out.below ak);have ek:=zA (az m.out ak);have el:=zA (Kd.cz r.out ak);have c2:=Z.out.si.kS v p;have c3:=Z.out.si.f3;rw[cc.out];clear ak S b1 b2 b3 b m r;obtain⟨y,hy⟩:∃y,y=T.sN (fun w=>if T.bI (fun v=>rd out (v:Nat)) k w=true then af E v w else 0) n:=⟨_,rfl⟩;rw[<-hy];have a4:=ca.out;have er:=cb.out;rw[<-hy] at a4 er;have HY:=zA hy;clear hy ca cb cc)
         all_goals
          have ev:=zA (Ga (a:= -rd d' v) (x:=y) a4);have cf:=zA (Gb (a:= -rd d' v) (x:=y) (by omega) a4);go_roundg (n- (v+1))
          case measure=>rw[J.out];omega
          case rel=>exact⟨v+1,_,by omega,by go_num,rfl,by have:=cf.out;omega,by have:=cf.out;omega,⟨fun u hu h1 H=>by
           have hc:=ev.out;by_cases e:u=v
           ·subst e
            rw[<-HY.out];first|exact hc|exact Int.le_trans hc (Int.mul_le_mul_of_nonneg_right (by assumption) (by omega))
           ·have hT:=X.out u (by omega) h1 H
            first|exact hT|exact Int.le_trans hT (Int.mul_le_mul_of_nonneg_right (by omega) (T.dR fun w _=>by
             show 0<=(if T.bI (fun v=>rd out (v:Nat)) k w=true then af E u w else 0)
             have:=o.out.wt.pos u w;split<;>omega))⟩,Z,ek,el,⟨rfl⟩⟩
        ·have ea:decide (rd d' v<0)=false:=ba b6
         have a3:=zA F;clear F;go_wp2;go_roundg (n- (v+1))
         case measure=>rw[J.out];omega
         case rel=>exact⟨v+1,x,by omega,by go_num,rfl,a1,a2,⟨fun u hu h1 H=>by
          by_cases e:u=v
          ·subst e;omega
          ·exact X.out u (by omega) h1 H⟩,b,m,r,⟨rfl⟩⟩
       ·have d9:(rd out v==(k:Int))=false:=by simpa using F
        have a3:=zA F;clear F;go_wp2;go_roundg (n- (v+1))
        case measure=>rw[J.out];omega
        case rel=>exact⟨v+1,x,by omega,by go_num,rfl,a1,a2,⟨fun u hu h1 H=>by
         by_cases e:u=v
         ·subst e;exact absurd h1 a3.out
         ·exact X.out u (by omega) h1 H⟩,b,m,r,⟨rfl⟩⟩
      ·obtain rfl:n=v:=by omega
       by_cases fr:0<x
       ·have S:=dc m.out
        obtain⟨ci,cj⟩:=Gc o.out hn aa (fun v l=>HD.out v l) s.out.yc (show (1:Int)<=(k:Int) by omega) (by omega) O.out P.out I.out a1 (by rw[<-d6.out];exact a2) X.out;have ew:=zA ci;have ex:=zA cj;obtain⟨a5,a9⟩:=nU E (T.bI (fun v=>rd out (v:Nat)) k) x (d',s') n;have a5:=zA a5;have a9:=zA a9;clear ci cj;rename_i ey e0;clear ey e0;go_wp2_with (go_at_call 166;refine(xA g gd gs j cd cs cr n A0 c0 E q d' s' (T.bI (fun v=>rd out (v:Nat)) k) x w0 _ an o.out.kg (by omega) (by omega) b.out.si (Kd.bc r.out bg) ⟨by omega,by omega⟩ O.out P.out ex.out).mono ?_;rintro e w8 ⟨rfl,ck,cl,aT⟩;have Z:=zA (b.out.GH ck cl);clear ck cl b m r S)
        go_roundg (k-1)
        case measure=>rw[HK.out];omega
        case rel=>exact⟨k-1,_,_,by go_num,by omega,Z,⟨a5.out.trans O.out⟩,⟨a9.out.trans P.out⟩,⟨by
         have h:=ew.out;rw[show ((k:Int)-1)=((k-1:Nat):Int) by omega] at h;exact h⟩,⟨rfl⟩⟩
       ·obtain rfl:x=0:=by omega
        go_wp2;go_roundg (k-1)
        case measure=>rw[HK.out];omega
        case rel=>exact⟨k-1,d',s',by go_num,by omega,b,O,P,⟨by
         have h:=Gd o.out aa s.out.yc I.out X.out;rw[show ((k:Int)-1)=((k-1:Nat):Int) by omega] at h;exact h⟩,⟨rfl⟩⟩
  ·obtain rfl:k=0:=by omega
   go_wp2;go_end0;exact⟨rfl,d',s',O.out,P.out,b.out.si,fun v l e1=>I.out.kP v l (by obtain⟨u,hu,h1,H⟩:=s.out.back v l e1;have:=s.out.pos u hu;show ((0:Nat):Int)<rd out (v:Int);omega),_,I.out⟩
end
section
attribute [local go_sem] Oper.semAt_some
theorem GJ (A0:Option Addr) (c0 n:Nat) (l0:List Int) (w:World) (h:l0.length=n) (h1:1<=n) (hn:n<=1000) (i:Kd.C (Kd.int .i64) w A0 l0.length l0) (j:l0.length<=c0):
  Calls Tryz.prog 57 #[.slice A0 n c0] w fun e w'=>∃gd a,e= .returned (.slice (some ⟨gd,0,none⟩) n a)/\(Kd.int .i64).R 3 w' w.heap.size (fun _=>True) (.slice (some ⟨gd,0,none⟩) n a) l0/\Below w.heap.size w w':=by
 subst h;refine(fN.calls A0 c0 l0 l0 w i j (by unfold fN.f clone.f;rw[if_pos (by omega)])).mono ?_;rintro e w1 ⟨v0,rfl,b,k⟩;obtain⟨g,cap,rfl, -⟩:=Kd.gC b (by omega);exact⟨g,cap,rfl,b,k⟩
abbrev Hg (w:World) (N:Int) (A0:Option Addr) (k c0:Nat) (w':World):Prop:=w'.heap[w.heap.size]? =some (.cells #[.int .i64 N,.slice A0 k c0] 24 (0,0))/\w'.cell? ⟨w.heap.size,0,none⟩=some (.int .i64 N)/\w'.cell? ⟨w.heap.size,1,none⟩=some (.slice A0 k c0)/\Below w.heap.size w w'
theorem Hg.of {w w':World} {N:Int} {A0:Option Addr} {k c0:Nat} (h:w'.heap[w.heap.size]? =some (.cells #[.int .i64 N,.slice A0 k c0] 24 (0,0))) (hb:Below w.heap.size w w'):Hg w N A0 k c0 w':=⟨h,(ah h 0).trans rfl,(ah h 1).trans rfl,hb⟩
theorem Hg.start (w:World) (N:Int) (A0:Option Addr) (k c0:Nat):Hg w N A0 k c0 (w.alloc (.cells #[.int .i64 N,.slice A0 k c0] 24)).drew:=Hg.of (ff (a6 w _)) (bY (ai (aj _ _) _))
theorem Hg.alloc {w w':World} {N:Int} {A0:Option Addr} {k c0:Nat} (h:w'.heap[w.heap.size]? =some (.cells #[.int .i64 N,.slice A0 k c0] 24 (0,0))) (hb:Below w.heap.size w w') (o:Obj):Hg w N A0 k c0 (w'.alloc o):=Hg.of (aq h o) (ai hb o)
theorem Hg.below {w w' a:World} {N:Int} {A0:Option Addr} {k c0:Nat} (h:w'.heap[w.heap.size]? =some (.cells #[.int .i64 N,.slice A0 k c0] 24 (0,0))) (hb:Below w.heap.size w w') (b:Below w'.heap.size w' a):Hg w N A0 k c0 a:=Hg.of (az h b) (aQ hb b)
theorem GK (n:Nat) (q:Int) (A0:Option Addr) (c0:Nat) (E:List S83) (m:Option Addr) (cd:Nat) (d:List Int) (w:World) (hd:Kd.C (Kd.int .i64) w m d.length d) (r:d.length<=cd) (s:d.length=n) (h1:1<=n) (hn:n<=1000):
  Calls Tryz.prog 109 #[.agg #[.int .i64 n,.slice A0 E.length c0],.int .i64 q,.slice m n cd] w fun e w'=>∃g gd gs b x,e= .returned (.pointer (some ⟨g,0,none⟩))/\SI w g gd gs b x n A0 c0 E q d (List.replicate n 0) w':=by
 have hu:=Tryz.underlying24;have G:=Tryz.underlying188;have y:=zA s;have z:=zA r;have B:=zA hd;have H:(0:Int)<=(n:Int):=by omega
 have I:(n:Int)<=1000:=by omega
 obtain⟨zs,u,v⟩:=lG 29 Tryz.underlying29 n hn;have l:=zA v;clear s r hd v;go_enter Tryz.func109,Tryz.ntmps109
 go_wp2_with fail
 go_region_held3 (fun w'=>w'.heap[w.heap.size]? =some (.cells #[.int .i64 n,.slice A0 E.length c0] 24 (0,0))/\w'.cell? ⟨w.heap.size,0,none⟩=some (.int .i64 n)/\w'.cell? ⟨w.heap.size,1,none⟩=some (.slice A0 E.length c0)/\Below w.heap.size w w')
  (first
   |exact Hg.start w n A0 E.length c0
   |((try go_split_ands);refine⟨by assumption,by assumption,by assumption,by assumption⟩)
   |((try go_split_ands);exact Hg.alloc (by assumption) (by assumption) _)
   |((try go_split_ands);exact Hg.below (by assumption) (by assumption) (by assumption))
   |fail)
  ((go_at_call 57;refine(GJ m cd n d _ y.out h1 hn (Kd.ax B.out (by go_split_ands;assumption)) z.out).mono ?_;rintro e w1 ⟨gd,b,rfl,a,i⟩))
 ·rename_i hHeld
  obtain⟨-, -, -,j⟩:=hHeld;have D:=Kd.a8 a gd rfl;have o:=Kd.dK a gd rfl;have p:=i.size;simp only[World.drew,World.size_alloc] at o p;have hS:=l.out w1 (fun _=>True) trivial;have k:=zA (SI.mk (g:=w1.heap.size+1) j (by have h:=a6 (w1.alloc (.cells zs 3)) (.cells #[.int .i64 n,.slice A0 E.length c0,.int .i64 q,.slice (some ⟨gd,0,none⟩) n b,.slice (some ⟨w1.heap.size,0,none⟩) n n,.int .i64 0] 188);rw[World.size_alloc] at h;exact h)
   (Kd.aK (Kd.aK (Kd.bc a (by simp[World.drew])) _) _) (Kd.bc (Kd.aK hS _) (by omega)) ⟨by omega,by omega,by omega,by omega⟩)
  clear a i j hS l u;generalize (w1.alloc (.cells zs 3)).alloc (.cells #[.int .i64 n,.slice A0 E.length c0,.int .i64 q,.slice (some ⟨gd,0,none⟩) n b,.slice (some ⟨w1.heap.size,0,none⟩) n n,.int .i64 0] 188)=F at k⊢;go_wp2;go_ret;exact⟨_,_,_,_,_,rfl,k.out⟩
 ·rename_i hHeld
  obtain⟨-, -, -,j⟩:=hHeld;have D:=Kd.a8 a gd rfl;have o:=Kd.dK a gd rfl;have p:=i.size;simp only[World.drew,World.size_alloc] at o p;have hS:=Kd.cz (Kd.bA (l.out (w.alloc (.cells #[.int .i64 n,.slice A0 E.length c0] 24)) (fun _=>True) trivial)) i;rw[World.size_alloc] at hS;have k:=zA (SI.mk (g:=w1.heap.size) j (a6 w1 (.cells #[.int .i64 n,.slice A0 E.length c0,.int .i64 q,.slice (some ⟨gd,0,none⟩) n b,.slice (some ⟨w.heap.size+1,0,none⟩) n n,.int .i64 0] 188))
   (Kd.aK (Kd.bc a (by simp[World.drew];omega)) _) (Kd.bc (Kd.aK hS _) (by omega)) ⟨by omega,by omega,by omega,by omega⟩)
  clear a i j hS l u;generalize w1.alloc (.cells #[.int .i64 n,.slice A0 E.length c0,.int .i64 q,.slice (some ⟨gd,0,none⟩) n b,.slice (some ⟨w.heap.size+1,0,none⟩) n n,.int .i64 0] 188)=F at k⊢;go_wp2;go_ret;exact⟨_,_,_,_,_,rfl,k.out⟩
end
section
attribute [local go_sem] Oper.semAt_some
def fp (s:List Int) (o:Int):Nat->List Int
 |0=>s
 |k+1=>(fp s o k).set k (rd (fp s o k) k-o)
theorem n9 (s:List Int) (o:Int):∀k,(fp s o k).length=s.length
 |0=>rfl
 |k+1=>by simp[fp,n9 s o k]
theorem pV (s:List Int) (o:Int):∀(k v:Nat),k<=s.length->v<s.length->rd (fp s o k) v=if v<k then rd s v-o else rd s v
 |0,v,_,a=>by rw[if_neg (by omega)];rfl
 |k+1,v,hk,a=>by
  have b:=pV s o k;unfold fp;by_cases e:k=v
  ·subst e
   rw[kf _ _ _ (by rw[n9];exact a),b k (by omega) a,if_neg (by omega),if_pos (by omega)]
  ·rw[ju _ _ _ _ e,b v (by omega) a]
   by_cases h:v<k
   ·rw[if_pos h,if_pos (by omega)]
   ·rw[if_neg h,if_neg (by omega)]
theorem GL (g gd gs cd cs n:Nat) (A0:Option Addr) (c0:Nat) (E:List S83) (q:Nat) (d s:List Int) (w0 w:World) (z:1<=n) (hn:n<=12) (B:q<n) (h:SI w0 g gd gs cd cs n A0 c0 E q d s w) (C:d.length=n) (D:s.length=n)
  (hd:∀v:Nat,v<n-> -1048576<=rd d v/\rd d v<=1048576) (p:∀v:Nat,v<n->0<=rd s v/\rd s v<=2000000/\ -1048576<=rd s v-rd s q/\rd s v-rd s q<=1048576):
  Calls Tryz.prog 112 #[.pointer (some ⟨g,0,none⟩)] w fun e w'=>e= .returned (.tuple #[.slice (some ⟨gd,0,none⟩) n cd,.slice (some ⟨gs,0,none⟩) n cs,.int .i64 0])/\SI w0 g gd gs cd cs n A0 c0 E q d (fp s (rd s q) n) w':=by
 have ad:=Tryz.underlying188;have hu:=Tryz.underlying24;have O:=zA hd;have F:=zA p;have G:=zA C;have j:=zA D;have a:=zA h;obtain⟨P,Q, -, -⟩:=p q B;have ag:(q:Int)<(n:Int):=by omega
 have ak:(0:Int)<=(q:Int):=by omega
 clear hd p C D h;have R:=a.out.f5;have b:=a.out.f4;have s2:=a.out.f2;have r:=a.out.cells q B;go_enter Tryz.func112,Tryz.ntmps112
 go_wp2_with fail
 go_quiet (fail)
 clear R s2 r;rename_i nq;have k:=zA (a.out.drewN nq);clear a b;generalize w.drewN nq=W1 at k⊢;have b:=k.out.f4;generalize H:rd s q=o at P Q;have I:=zA H;clear H;go_wp2;go_loopg [31] (n) (fun S T wr=>∃v:Nat,v<=n/\T= .int .i64 v/\Aside0 (SI w0 g gd gs cd cs n A0 c0 E q d (fp s o v) wr)/\Aside0 (S=n-v))
 case atStart=>exact⟨0,by omega,rfl,k,⟨rfl⟩⟩
 case round=>
  clear k b;obtain⟨v,l,rfl,a,U⟩:=hrel;by_cases m:v<n
  ·have am:(0:Int)<=(v:Int):=by omega
   have an:(v:Int)<(n:Int):=by omega
   have b:=a.out.f4;have r:=a.out.cells v m;have sf:=a.out.xt v m;have J:Aside0 (∀W,SI w0 g gd gs cd cs n A0 c0 E q d ((fp s o v).set v (rd (fp s o v) v-o)) W->SI w0 g gd gs cd cs n A0 c0 E q d (fp s o (v+1)) W):=⟨fun W h=>h⟩;have V:0<=rd (fp s o v) v/\rd (fp s o v) v<=2000000:=by
    rw[pV s o v v (by rw[j.out];omega) (by rw[j.out];exact m),if_neg (by omega)];have:=F.out v m;omega
   obtain⟨X,Y⟩:=V;have i:=zA (J.out _ (a.out.pN v (rd (fp s o v) v-o)));clear J a;generalize rd (fp s o v) v=y at X Y r i;go_wp2;go_roundg (n- (v+1))
   case measure=>rw[U.out];omega
   case rel=>exact⟨v+1,by omega,by go_num,i,⟨rfl⟩⟩
  ·obtain rfl:n=v:=by omega
   have s0:=a.out.f0;have K:=a.out.f3;have b:=a.out.f4;obtain⟨Z,e2,L⟩:=Kd.aN a.out.d;obtain⟨e4,M,N⟩:=Kd.aN a.out.s;have u:=zA (And.intro e2 L);have x:=zA (And.intro M N);have ab:Aside0 (∀v:Nat,v<n-> -1048576<=rd (fp s o n) v/\rd (fp s o n) v<=1048576):=⟨fun v l=>by
    rw[pV s o n v (by rw[j.out];omega) (by rw[j.out];exact l),if_pos l];have:=F.out v l;rw[I.out] at this;omega⟩
   clear Z e2 L e4 M N;go_wp2_with fail
   go_quiet ((first|(go_at_call 87;with_reducible exact xN (some ⟨gd,0,none⟩) cd n d _ _ G.out z hn O.out (Kd.gB u.out.2 _) (by rw[G.out];exact u.out.1))|(go_at_call 87;with_reducible exact xN (some ⟨gs,0,none⟩) cs n (fp s o n) _ _ (by rw[n9];exact j.out) z hn ab.out (Kd.gB x.out.2 _) (by rw[n9,j.out];exact x.out.1))))
   have i:=zA (a.out.drewN nq);clear s0 K b a u x;generalize wr.drewN nq=W2 at i⊢;have K:=i.out.f3;have b:=i.out.f4;go_wp2_with fail
   go_quiet (fail)
   go_wp2;refine bodyPost_ret (results_tmp3 rfl _ _ _) rfl ?_;exact⟨rfl,by rw[I.out];exact i.out.drewN _⟩
end
def jM.f (k:Nat) (a:Int) (g:List (S83)) (e:Int) (l2:List Int):Option (Int):=(cG.f k a g).bind fun b=>(if b.2=0 then(if b.1=true then(if e<0 then(some 2) else(if e>=a then(some 2) else((bz.f k l2 a).bind fun t248=>(some t248)))) else(some 13)) else(some b.2))
theorem jM.calls (k:Nat) (g:Int) (m:Option Addr) (n:Nat) (i:List (S83)) (x:Int) (E:Option Addr) (c2:Nat) (l2:List Int) (r:Int) (w:World) (F:Kd.C aM w m i.length i) (G:i.length<=n) (I:Kd.C (Kd.int .i64) w E l2.length l2) (J:l2.length<=c2) (h:jM.f k g i x l2=some r):
  Calls Tryz.prog 108 #[.agg #[.int .i64 g,.slice m i.length n],.int .i64 x,.slice E l2.length c2] w fun e w'=>e= .returned (.int .i64 r)/\Below w.heap.size w w':=by
 have S:=Tryz.underlying24;have q:=zA F;have s:=zA G;clear F G;have K:=zA I;have L:=zA J;clear I J;have a:=zA (aj w.heap.size w);unfold jM.f at h;have H:=h;clear h;obtain⟨⟨t246,t247⟩,u,H⟩:=zo H;dsimp only at H;by_cases v:t247=0
 ·rw[if_pos v] at H
  obtain⟨M,O⟩:=bZ v;clear v;by_cases y:t246=true
  ·subst y
   replace H:=zi H;by_cases o:x<0
   ·rw[if_pos o] at H
    have P:=aE o;clear o;obtain rfl:=aX H;go_enter Tryz.func108,Tryz.ntmps108
    go_wp2_with (first|((with_reducible refine aU (N:=3) rfl ?_);refine zX 3 #[.int .i64 g,.slice m i.length n] 24 ?_;intro z j T l hb;have b:=zA (l);have B:=zG a j;have D:=zG a j;replace a:=zS a hb;clear hb l j;obtain⟨U,V,W,X⟩:=aC b)|((with_reducible refine aR (f:=113) rfl ?_);refine zL (some 11) Tryz.func113 #[.agg #[.int .i64 g,.slice m i.length n]] ?_;(with_reducible refine(cG.calls k g _ _ i true t247 _ ?au ?aw u.out).mono ?_);(case au=>exact Kd.ax q.out zB);(case aw=>exact s.out);rintro e Y ⟨rfl,hb⟩;refine⟨_,rfl,?_⟩;replace b:=zb b hb;replace a:=zS a hb;(try clear hb)))
    go_ret;exact⟨zE,zB⟩
   ·rw[if_neg o] at H
    have P:=ba o;clear o;by_cases p:x>=g
    ·rw[if_pos p] at H
     have Q:=aE p;clear p;obtain rfl:=aX H;go_enter Tryz.func108,Tryz.ntmps108
     go_wp2_with (first|((with_reducible refine aU (N:=3) rfl ?_);refine zX 3 #[.int .i64 g,.slice m i.length n] 24 ?_;intro z j Z l hb;have b:=zA (l);have B:=zG a j;have D:=zG a j;replace a:=zS a hb;clear hb l j;obtain⟨aa,ab,ad,ag⟩:=aC b)|((with_reducible refine aR (f:=113) rfl ?_);refine zL (some 11) Tryz.func113 #[.agg #[.int .i64 g,.slice m i.length n]] ?_;(with_reducible refine(cG.calls k g _ _ i true t247 _ ?au ?aw u.out).mono ?_);(case au=>exact Kd.ax q.out zB);(case aw=>exact s.out);rintro e ak ⟨rfl,hb⟩;refine⟨_,rfl,?_⟩;replace b:=zb b hb;replace a:=zS a hb;(try clear hb);obtain⟨am,an,ao,ap⟩:=aC b))
     go_ret;exact⟨zE,zB⟩
    ·rw[if_neg p] at H
     have Q:=ba p;clear p;obtain⟨t248,R,H⟩:=zo H;obtain rfl:=aX H;go_enter Tryz.func108,Tryz.ntmps108
     go_wp2_with (first|((with_reducible refine aU (N:=3) rfl ?_);refine zX 3 #[.int .i64 g,.slice m i.length n] 24 ?_;intro z j ar l hb;have b:=zA (l);have B:=zG a j;have D:=zG a j;replace a:=zS a hb;clear hb l j;obtain⟨av,aB,aF,aL⟩:=aC b)|((with_reducible refine aR (f:=113) rfl ?_);refine zL (some 11) Tryz.func113 #[.agg #[.int .i64 g,.slice m i.length n]] ?_;(with_reducible refine(cG.calls k g _ _ i true t247 _ ?au ?aw u.out).mono ?_);(case au=>exact Kd.ax q.out zB);(case aw=>exact s.out);rintro e aO ⟨rfl,hb⟩;refine⟨_,rfl,?_⟩;replace b:=zb b hb;replace a:=zS a hb;(try clear hb);obtain⟨aP,aS,a0,a2⟩:=aC b)|((with_reducible refine aR (f:=87) rfl ?_);refine zL (some 33) Tryz.func87 #[.slice E l2.length c2,.int .i64 g] ?_;(with_reducible refine(bz.calls k _ _ l2 g t248 _ ?au ?aw R.out).mono ?_);(case au=>exact Kd.ax K.out zB);(case aw=>exact L.out);rintro e w' ⟨rfl,⟨nd,rfl⟩⟩;refine⟨_,rfl,?_⟩))
     go_ret;exact⟨zE,zB⟩
  ·replace y:=Bool.eq_false_iff.mpr y
   subst y;replace H:=zj H;obtain rfl:=aX H;go_enter Tryz.func108,Tryz.ntmps108
   go_wp2_with (first|((with_reducible refine aU (N:=3) rfl ?_);refine zX 3 #[.int .i64 g,.slice m i.length n] 24 ?_;intro z j a3 l hb;have b:=zA (l);have B:=zG a j;have D:=zG a j;replace a:=zS a hb;clear hb l j;obtain⟨a4,a5,a9,bb⟩:=aC b)|((with_reducible refine aR (f:=113) rfl ?_);refine zL (some 11) Tryz.func113 #[.agg #[.int .i64 g,.slice m i.length n]] ?_;(with_reducible refine(cG.calls k g _ _ i false t247 _ ?au ?aw u.out).mono ?_);(case au=>exact Kd.ax q.out zB);(case aw=>exact s.out);rintro e be ⟨rfl,hb⟩;refine⟨_,rfl,?_⟩;replace b:=zb b hb;replace a:=zS a hb;(try clear hb)))
   go_ret;exact⟨zE,zB⟩
 ·rw[if_neg v] at H
  obtain⟨M,O⟩:=b7 v;obtain rfl:=aX H;go_enter Tryz.func108,Tryz.ntmps108
  go_wp2_with (first|((with_reducible refine aU (N:=3) rfl ?_);refine zX 3 #[.int .i64 g,.slice m i.length n] 24 ?_;intro z j bf l hb;have b:=zA (l);have B:=zG a j;have D:=zG a j;replace a:=zS a hb;clear hb l j;obtain⟨bg,bi,bk,bl⟩:=aC b)|((with_reducible refine aR (f:=113) rfl ?_);refine zL (some 11) Tryz.func113 #[.agg #[.int .i64 g,.slice m i.length n]] ?_;(with_reducible refine(cG.calls k g _ _ i t246 t247 _ ?au ?aw u.out).mono ?_);(case au=>exact Kd.ax q.out zB);(case aw=>exact s.out);rintro e bn ⟨rfl,hb⟩;refine⟨_,rfl,?_⟩;replace b:=zb b hb;replace a:=zS a hb;(try clear hb)))
  go_ret;exact⟨zE,zB⟩
end Go.Proofs.YtffdiakgjakngaaGreat.P


namespace Go.Proofs.YtffdiakgjakngaaGreat.P
open Go.RowKit Go.Proofs.YtffdiakgjakngaaGreatW.PrintWords Go.Proofs.YtffdiakgjakngaaGreatW.PrintLast Go.Proofs.YtffdiakgjakngaaGreatW.PrintMore
set_option linter.unusedVariables false
set_option linter.unusedSimpArgs false
set_option maxHeartbeats 8000000
set_option maxRecDepth 100000
section
attribute [local go_sem] Oper.semAt_some
def kV.f (k:Nat) (N:Int) (E:List S83) (q:Int) (d:List Int):Option (List Int×List Int×Int):=
 (jM.f k N E q d).bind fun e=>if e=0 then(if jw N E q d=true then((iS N.toNat E q.toNat d k).bind fun s=>some (eO N.toNat E d s,s,0)) else none) else some ([],[],e)
theorem GM {n q:Nat} {t:Nat->Nat->Int} (b:T.Wt n t) (a:q<n) (hn:n<=12) (e:T.sN (T.val n t) n<=19) {D dist:Nat->Int} (g:∀v,v<n-> -200<=D v/\D v<=200) {d s:List Int} (i:d.length=n) (j:s.length=n) (hp:∀v:Nat,v<n->v≠q->0<=rd d v)
  (h:T.fE n t D dist 200 0 (fun v=>rd d (v:Nat)) (fun v=>rd s (v:Nat))):jL n q t D d s:=by
 have hb:=nW b hn e g (by omega) (by omega) h;exact⟨i,j,h.eq,hp,(hb q a).1,fun v k=>(hb v k).2.2.1,(hb q a).2.2.2⟩
theorem GN (k:Nat) (N:Int) (A0:Option Addr) (c0:Nat) (E:List S83) (q:Int) (a:Option Addr) (c2:Nat) (d:List Int) (t:Int) (w:World) (j:Kd.C aM w A0 E.length E) (l:E.length<=c0) (b:Kd.C (Kd.int .i64) w a d.length d) (g:d.length<=c2)
  (h:jM.f k N E q d=some t) (i:t≠0):
  Calls Tryz.prog 54 #[.agg #[.int .i64 N,.slice A0 E.length c0],.int .i64 q,.slice a d.length c2] w fun e w'=>e= .returned (.tuple #[.slice none 0 0,.slice none 0 0,.int .i64 t])/\Below w.heap.size w w':=by
 have hu:=Tryz.underlying24;have m:=zA h;have n:=zA b;have o:=zA g;have r:(t != 0)=true:=by simpa using i
 clear h i b g;go_enter Tryz.func54,Tryz.ntmps54
 go_wp2_with (go_at_call 108;refine(jM.calls k N A0 c0 E q a c2 d t _ (Kd.bC j _) l (Kd.bC n.out _) o.out m.out).mono ?_;rintro e w1 ⟨rfl,hb⟩;have p:=zA (aQ (ai (aj w.heap.size w) _) hb);clear hb)
 refine bodyPost_ret (results_tmp3 rfl _ _ _) rfl ?_;exact⟨rfl,p.out⟩
theorem GO (n:Nat) (q:Int) (A0:Option Addr) (c0:Nat) (E:List S83) (a:Option Addr) (cd:Nat) (d:List Int) (w:World) (hd:Kd.C (Kd.int .i64) w a d.length d) (b:d.length<=cd) (h:d.length=n) (h1:1<=n) (hn:n<=1000):
  Calls Tryz.prog 109 #[.agg #[.int .i64 n,.slice A0 E.length c0],.int .i64 q,.slice a d.length cd] w fun e w'=>∃g gd gs i j,e= .returned (.pointer (some ⟨g,0,none⟩))/\SI w g gd gs i j n A0 c0 E q d (List.replicate n 0) w':=by
 subst h;exact GK d.length q A0 c0 E a cd d w hd b rfl h1 hn
theorem GQ (k n:Nat) (A0:Option Addr) (c0:Nat) (E:List S83) (q:Nat) (z:Option Addr) (c2:Nat) (d s:List Int) (w:World) (J:Kd.C aM w A0 E.length E) (ak:E.length<=c0) (K:Kd.C (Kd.int .i64) w z d.length d) (L:d.length<=c2)
  (M:jM.f k n E q d=some 0) (l:eP n q E d) (N:kU n E q d s=true):
  Calls Tryz.prog 54 #[.agg #[.int .i64 n,.slice A0 E.length c0],.int .i64 q,.slice z d.length c2] w fun e w'=>∃gd gs m o,e= .returned (.tuple #[.slice (some ⟨gd,0,none⟩) n m,.slice (some ⟨gs,0,none⟩) n o,.int .i64 0])/\gd≠gs/\(Kd.int .i64).R 3 w' w.heap.size (fun _=>True) (.slice (some ⟨gd,0,none⟩) n m) (eO n E d s)/\(Kd.int .i64).R 3 w' w.heap.size (fun _=>True) (.slice (some ⟨gs,0,none⟩) n o) s/\Below w.heap.size w w':=by
 have hu:=Tryz.underlying24;have HG:=zA M;have O:=zA K;have P:=zA L;have a:=zA l;have F:=(nX l.right).1 N;have G:=zA F.2;have an:=zA F.1;have Q:=zA l.dl;clear M K L F N;have S:=l.n1;have r:=l.n12;have p:=l.q;clear l;go_enter Tryz.func54,Tryz.ntmps54
 go_wp2_with (go_at_call 108;refine(jM.calls k n A0 c0 E q z c2 d 0 _ (Kd.bC J _) ak (Kd.bC O.out _) P.out HG.out).mono ?_;rintro e w1 ⟨rfl,hb⟩;have H:=az (a6 w (.cells #[.int .i64 n,.slice A0 E.length c0] 24)) hb;have y0:=(ah H 0).trans rfl;have y1:=(ah H 1).trans rfl;have B:=zA (aQ (ai (aj w.heap.size w) _) hb);clear hb H)
 refine(GO n q A0 c0 E z c2 d w1 (Kd.ax O.out B.out) P.out Q.out S (by omega)).mono ?_;rintro e w2 ⟨g,gd,gs,m,o,rfl,j⟩;have U:=zA j;have V:=zA (Kd.ax J B.out);have W:=B.out.size;clear j y0 y1;go_wp2_with (go_at_call 110;refine(GI g gd gs m o n A0 c0 E q d w1 _ V.out a.out.right a.out.len a.out.conn r p a.out.val a.out.d Q.out U.out).mono ?_;rintro e w3 ⟨rfl,d3,s3,l1,l2,j,hp,dist,hle⟩;have X:=zA j;have Y:=zA (GM a.out.right.wt p r a.out.val a.out.d l1 l2 hp hle);clear l1 l2 j hp hle U)
 refine(Gt g gd gs m o n A0 c0 E q (fun v=>rd d (v:Nat)) (fun v=>rd (eO n E d s) (v:Nat)) (fun v=>rd s (v:Nat)) d3 s3 w1 w3 V.out a.out.right a.out.len a.out.conn r p a.out.val a.out.d G.out Y.out X.out).mono ?_;rintro e w4 ⟨rfl,d4,b,j,x,Z⟩;have aa:=zA j;have av:=zA (x.bounds a.out.right.wt (a.out.right.conn a.out.conn) p r a.out.val a.out.d G.out);have I:e9 n q (af E) (fun v=>rd d (v:Nat)) (fun v=>rd d4 (v:Nat)) (fun v=>rd b (v:Nat)-rd b q):=⟨⟨x.kP,Z⟩,fun v i=>by
  have h:=T.mw n (af E) (fun u=>rd b (u:Nat)) (fun _=>rd b q) v;rw[T.kI] at h;rw[h,x.eq v i];omega,by show rd b q-rd b q=0;omega⟩
 have HU:=zA (e9.unique a.out.right.wt (a.out.right.conn a.out.conn) p I G.out);have ad:=zA (e9.bound a.out.right.wt (a.out.right.conn a.out.conn) p r a.out.val a.out.d I);have ag:=zA x.dl;have D:=zA x.sl;clear j x Z I X Y;go_wp2_with (go_at_call 112;refine(GL g gd gs m o n A0 c0 E q d4 b w1 _ S r p aa.out ag.out D.out (fun v i=>by have:=ad.out v i;omega) (fun v i=>by have h1: -31536<=rd b v-rd b q/\rd b v-rd b q<=31536/\_:=ad.out v i;have h2:=av.out v i;omega)).mono ?_;rintro e w5 ⟨rfl,j⟩;have aB:=zA j;clear j aa)
 refine bodyPost_ret (results_tmp3 rfl _ _ _) rfl ?_;have e1:d4=eO n E d s:=xQ ag.out (sG n E d s) (fun v i=>(HU.out v i).1);have e2:fp b (rd b q) n=s:=xQ ((n9 _ _ _).trans D.out) an.out (fun v i=>by
  rw[pV _ _ _ _ (by rw[D.out];omega) (by rw[D.out];exact i),if_pos i];exact(HU.out v i).2)
 have y:=aB.out;rw[e1,e2] at y;exact⟨gd,gs,m,o,rfl,y.ne.1,Kd.bc y.d W,Kd.bc y.s W,aQ B.out y.hb⟩
theorem kV.calls (k:Nat) (b:Int) (g:Option Addr) (i:Nat) (a:List (S83)) (j:Int) (l:Option Addr) (c2:Nat) (l2:List Int) (y:List Int) (z:List Int) (B:Int) (w:World) (D:Kd.C aM w g a.length a) (E:a.length<=i) (F:Kd.C (Kd.int .i64) w l l2.length l2) (G:l2.length<=c2) (h:kV.f k b a j l2=some (y,z,B)):
  Calls Tryz.prog 54 #[.agg #[.int .i64 b,.slice g a.length i],.int .i64 j,.slice l l2.length c2] w fun e w'=>∃o p:Value,e= .returned (.tuple #[o,p,.int .i64 B])/\Kd.R (Kd.int .i64) 3 w' w.heap.size (fun r=>some r≠(p:Value).ownBlock) o y/\Kd.R (Kd.int .i64) 3 w' w.heap.size (fun r=>some r≠(o:Value).ownBlock) p z/\Below w.heap.size w w':=by
 unfold kV.f at h;obtain⟨e,he,u⟩:=Option.bind_eq_some_iff.1 h;clear h;have h:=u;by_cases v:e=0
 ·subst v
  rw[if_pos rfl] at h;by_cases x:jw b a j l2=true
  ·rw[if_pos x] at h
   obtain⟨n,q,rfl,rfl,hk⟩:=pT x;obtain⟨s,m,u⟩:=Option.bind_eq_some_iff.1 h;clear h;have h:=u;simp only[aD,Option.some.injEq,Prod.mk.injEq] at m h;obtain⟨rfl,rfl,rfl⟩:=h;refine(GQ k n g i a q l c2 l2 s w D E F G he hk (sH m)).mono ?_;rintro e w' ⟨gd,gs,K,L,rfl,H,hd,m,hb⟩;exact⟨_,_,rfl,Kd.a_ (Kd.gD rfl hd) (fun k hk e=>H (by have:=hk.symm.trans e;injection this)),Kd.a_ (Kd.gD rfl m) (fun k hk e=>H (by have:=e.symm.trans hk;injection this)),hb⟩
  ·rw[if_neg x] at h;cases h
 ·rw[if_neg v] at h
  injection h with h
  injection h with h1 h
  injection h with I J
  subst h1 I J;refine(GN k b g i a j l c2 l2 e w D E F G he v).mono ?_;rintro e' w' ⟨rfl,hb⟩;exact⟨_,_,rfl,Kd.df _ _ _ _ _,Kd.df _ _ _ _ _,hb⟩
end
section
attribute [local go_sem] Oper.semAt_some
theorem yd (W:World) (t:TypeId) {A B:Option Addr} {a b:List Int} {e cb:Nat} (h:Kd.C (Kd.int .i64) W A a.length a) (k:a.length<=e) (hb:Kd.C (Kd.int .i64) W B b.length b) (l:b.length<=cb):
  Kd.C (Kd.slice 3 (Kd.int .i64)) (W.alloc (.cells #[.slice A a.length e,.slice B b.length cb] t)) (some ⟨W.heap.size,0,none⟩) [a,b].length [a,b]:=by
 have g:=a6 W (.cells #[.slice A a.length e,.slice B b.length cb] t);refine⟨rfl,by simp,fun _=>⟨_,rfl,fun j p hp=>?_⟩⟩;match j,hp with
 |0,hp=>
  obtain rfl:a=p:=by simpa using hp
  refine⟨[.slice A a.length e],rfl,⟨A,e,rfl,k,Kd.bC h _⟩,fun i u hu=>?_⟩;match i,hu with
  |0,hu=>
   obtain rfl:Value.slice A a.length e=u:=by simpa using hu
   rw[add_plain];exact(ah g 0).trans rfl
  |i+1,hu=>simp at hu
 |1,hp=>
  obtain rfl:b=p:=by simpa using hp
  refine⟨[.slice B b.length cb],rfl,⟨B,cb,rfl,l,Kd.bC hb _⟩,fun i u hu=>?_⟩;match i,hu with
  |0,hu=>
   obtain rfl:Value.slice B b.length cb=u:=by simpa using hu
   rw[add_plain];exact(ah g 1).trans rfl
  |i+1,hu=>simp at hu
 |j+2,hp=>simp at hp
theorem sO (W:World) (t:TypeId) {A:Option Addr} {a:List Int} {b:Nat} (e:Kd.C (Kd.int .i64) W A a.length a) (g:a.length<=b):
  Kd.C (Kd.slice 3 (Kd.int .i64)) (W.alloc (.cells #[.slice A a.length b] t)) (some ⟨W.heap.size,0,none⟩) [a].length [a]:=by
 have h:=a6 W (.cells #[.slice A a.length b] t);refine⟨rfl,by simp,fun _=>⟨_,rfl,fun j p hp=>?_⟩⟩;match j,hp with
 |0,hp=>
  obtain rfl:a=p:=by simpa using hp
  refine⟨[.slice A a.length b],rfl,⟨A,b,rfl,g,Kd.bC e _⟩,fun i u hu=>?_⟩;match i,hu with
  |0,hu=>
   obtain rfl:Value.slice A a.length b=u:=by simpa using hu
   rw[add_plain];exact(ah h 0).trans rfl
  |i+1,hu=>simp at hu
 |j+1,hp=>simp at hp
def iU (a b:List Int) (k:Nat):List Int:=(List.range a.length).map fun v=>if v<k then rd a (v:Nat)-rd b (v:Nat) else 0
def fX (a b:List Int):List Int:=iU a b a.length
def sP (a b:List Int):Bool:=decide (a.length=b.length/\1<=a.length/\a.length<=12)&&a.all c_&&b.all c_
def jN.f (k:Nat) (a b:List Int):Option (List Int×Int):=
 (cy.f k [a,b]).bind fun e=>if e=0 then(if sP a b=true then(if(fX a b).all c_=true then some (fX a b,0) else some ([],11)) else none) else some ([],e)
theorem jN.mono:∀l0 l1 k,al (jN.f k l0 l1) (jN.f (k+1) l0 l1):=by
 intro a b k;unfold jN.f;exact al.bind (cy.mono _ _) (fun _=>al.refl _)
theorem GR (x y:Int) (w:World) (a: -1048576<=x/\x<=1048576) (b: -1048576<=y/\y<=1048576):Calls Tryz.prog 59 #[.int .i64 x,.int .i64 y] w fun e w'=>e= .returned (.int .i64 (x-y))/\w'=w:=by
 obtain⟨h1,g⟩:=a;obtain⟨h,i⟩:=b;go_enter Tryz.func59,Tryz.ntmps59
 go_wp2;go_ret;exact⟨rfl,rfl⟩
theorem ye (a b:List Int) (k:Nat):(iU a b k).length=a.length:=by simp[iU]
theorem GU {a b:List Int} {v:Nat} (g:v<a.length):(iU a b v).set v (rd a v-rd b v)=iU a b (v+1):=by
 unfold iU;refine List.ext_getElem (by simp) fun i h1 j=>?_
 rw[List.getElem_set];simp only[List.getElem_map,List.getElem_range];by_cases e:v=i
 ·subst e;simp
 ·rw[if_neg e]
  by_cases h:i<v
  ·rw[if_pos h,if_pos (by omega)]
  ·rw[if_neg h,if_neg (by omega)]
theorem yf {a b:List Int} {v:Nat} (e:v<a.length):rd (fX a b) v=rd a v-rd b v:=by
 rw[show rd (fX a b) (v:Int)=(fX a b).getD v 0 by simp[rd],fX,iU,aW,List.getElem?_map,List.getElem?_range e];simp[e]
theorem GV (k:Nat) (A0:Option Addr) (c0:Nat) (a:List Int) (g:Option Addr) (c1:Nat) (b:List Int) (t:Int) (n:Value) (w:World) (h:Kd.C (Kd.int .i64) w A0 a.length a) (o:a.length<=c0) (i:Kd.C (Kd.int .i64) w g b.length b) (p:b.length<=c1)
  (j:cy.f k [a,b]=some t) (l:t≠0):
  Calls Tryz.prog 58 #[.slice A0 a.length c0,.slice g b.length c1,n] w fun e w'=>e= .returned (.tuple #[.slice none 0 0,.int .i64 t])/\Below w.heap.size w w':=by
 have q:=zA j;have r:=zA (yd w 26 h o i p);have s:(t != 0)=true:=by simpa using l
 clear j l h i;go_enter Tryz.func58,Tryz.ntmps58
 go_wp2_with (go_at_call 118;refine(cy.calls k (some ⟨w.heap.size,0,none⟩) 2 [a,b] t _ r.out (by simp) q.out).mono ?_;rintro e w1 ⟨rfl,⟨m,rfl⟩⟩)
 go_ret2;exact⟨rfl,bU (ai (aj _ _) _) m⟩
def jx (n:Nat) (a b:List Int) (base:Nat) (e:Ending) (w':World):Prop:=if(fX a b).all c_=true then ∃go co,e= .returned (.tuple #[.slice (some ⟨go,0,none⟩) n co,.int .i64 0])/\(Kd.int .i64).R 3 w' base (fun _=>True) (.slice (some ⟨go,0,none⟩) n co) (fX a b) else e= .returned (.tuple #[.slice none 0 0,.int .i64 11])
theorem jx.bad {n:Nat} {a b:List Int} {base:Nat} {w':World} {v:Nat} (e:v<a.length) (h:c_ (rd a v-rd b v)=false):jx n a b base (.returned (.tuple #[.slice none 0 0,.int .i64 11])) w':=by
 unfold jx;rw[if_neg];intro g;rw[List.all_eq_true] at g;have i:v<(fX a b).length:=by simpa [fX,ye] using e
 have h1:=g (fX a b)[v] (List.getElem_mem i);have j:=yf (b:=b) e;rw[show rd (fX a b) (v:Int)=(fX a b)[v] by simp[rd,aW,bp i]] at j;rw[j,h] at h1;cases h1
theorem GX (k n:Nat) (A0:Option Addr) (c0:Nat) (a:List Int) (S:Option Addr) (c1:Nat) (b:List Int) (w:World) (E:Kd.C (Kd.int .i64) w A0 a.length a) (an:a.length<=c0) (F:Kd.C (Kd.int .i64) w S b.length b) (ao:b.length<=c1)
  (T:cy.f k [a,b]=some 0) (G:a.length=n) (H:b.length=n) (bn:1<=n) (hn:n<=12) (U:∀v:Nat,v<n-> -1048576<=rd a v/\rd a v<=1048576) (hb:∀v:Nat,v<n-> -1048576<=rd b v/\rd b v<=1048576):
  Calls Tryz.prog 58 #[.slice A0 n c0,.slice S n c1,.func (.func 59) #[] #[]] w fun e w'=>jx n a b w.heap.size e w'/\Below w.heap.size w w':=by
 have HG:=zA T;have I:=yd w 26 E an F ao;rw[G,H] at I;have HC:=zA I;have av:=zA E;have aB:=zA F;have HA:=zA U;have HB:=zA hb;have q:=zA G;have aO:=zA H;have aP:(0:Int)<=(n:Int):=by omega
 clear T E F U hb I G H;go_enter Tryz.func58,Tryz.ntmps58
 go_wp2_with (first|(go_at_call 118;refine(cy.calls k (some ⟨w.heap.size,0,none⟩) 2 [a,b] 0 _ HC.out (by simp) HG.out).mono ?_;rintro e w1 ⟨rfl,⟨m,rfl⟩⟩)|((with_reducible refine aU (N:=20) rfl ?_);refine Kd.lr (Kd.int .i64) (w0:=w) w.heap.size 3 rfl (N:=20) rfl 26 _ _ rfl (n:Int) rfl rfl Tryz.underlying26 (.int .i64 0) 8 il rfl (by decide) (by omega) 0 (ok:=fun _=>True) (okp:=fun _=>True) rfl (fun _ hk=>hk) trivial aP (by simp;omega) (bU (ai (aj _ _) _) m) (by simp) ?_;intro v1 w5 r hb a0 a1;rw[aD] at r;obtain⟨go,co,J,a2,bo, -⟩:=Kd.gC r (by rw[List.length_replicate];omega);rw[List.length_replicate] at J;subst J;have V:=zA r;have W:=zA hb;clear r hb a0 a1))
 have X:Aside0 ((Kd.int .i64).R 3 w5 w.heap.size (fun _=>True) (.slice (some ⟨go,0,none⟩) n co) (iU a b 0)):=⟨by
  have h:=V.out;rw[show List.replicate n (0:Int)=iU a b 0 from by
   rw[<-q.out];unfold iU;refine List.ext_getElem (by simp) fun i h1 h2=>?_
   simp] at h
  exact h⟩
 clear V;go_loopg [23] (n) (fun kq vv wr=>∃v:Nat,v<=n/\vv= .int .i64 v/\Aside0 ((Kd.int .i64).R 3 wr w.heap.size (fun _=>True) (.slice (some ⟨go,0,none⟩) n co) (iU a b v))/\Aside0 (Below w.heap.size w wr)/\Aside0 (∀u:Nat,u<v->c_ (rd a u-rd b u)=true)/\Aside0 (kq=n-v))
 case atStart=>exact⟨0,by omega,rfl,X,W,⟨fun u hu=>by omega⟩,⟨rfl⟩⟩
 case round=>
  clear X W;obtain⟨v,J,rfl,s,l,Y,HK⟩:=hrel;by_cases Z:v<n
  ·have bv:(0:Int)<=(v:Int):=by omega
   have bw:(v:Int)<(n:Int):=by omega
   have ad:=q.out;have a9:=aO.out;obtain⟨aa,ea,K⟩:=Kd.cI (Kd.ax av.out l.out) (v:Int) (by omega) (by omega);obtain⟨ab,eb,L⟩:=Kd.cI (Kd.ax aB.out l.out) (v:Int) (by omega) (by omega);subst ea eb;rw[aD] at K L;obtain⟨g,hf⟩:=Kd.bP 0 s.out (v:Int) (by omega) (by omega);rw[aD] at g hf;generalize bL 0 (iU a b v) (v:Int)=z at g;replace g:wr.cell? ⟨go,v,none⟩=some (.int .i64 z):=g;have ag:=HA.out v Z;have ak:=HB.out v Z;have M:=Kd.dg (Kd.bA s.out) (v:Int) (rd a v-rd b v);rw[aD,GU (show v<a.length by omega)] at M;have B:=zA M.1;have o:=zA (Below.setCell (p:=⟨go,v,none⟩) (bY l.out) a2 (.int .i64 (rd a v-rd b v)));have O:=zA (show c_ (rd a v-rd b v)=true->∀u:Nat,u<v+1->c_ (rd a u-rd b u)=true from fun h u hu=>by
    by_cases e:u=v
    ·subst e;exact h
    ·exact Y.out u (by omega))
   have P:Aside0 (c_ (rd a v-rd b v)=false->∀w',jx n a b w.heap.size (.returned (.tuple #[.slice none 0 0,.int .i64 11])) w'):=⟨fun h w'=>jx.bad (by omega) h⟩;have b1:=zA ad;clear M s l ad a9;generalize rd a v=x at K ag B o O P;generalize rd b v=y at L ak B o O P;go_wp2_with fail
   refine wp_region_still_tail 13 (by kernel_rfl) (by kernel_rfl) ?_;simp only[List.take_succ_cons,List.take_zero,List.drop_succ_cons,List.drop_zero];repeat(first|still_step|still_call (GR x y _ ag ak))
   refine wpStill_nil ?_;change wpList _ _ _ _ _ wr.drew
   have bf:wr.drew.cell? ⟨go,v,none⟩=some (.int .i64 z):=g;have bg:wr.drew.frozen? ⟨go,v,none⟩=false:=hf;clear g hf K L;generalize wr.drew=W2 at B o bf bg⊢;have D:=zA (xL (x-y));cases j:c_ (x-y) with
   |true=>
    have Q:=zA j;rw[j] at D;clear j;go_wp2_with (go_at_call 119;refine(ir.calls (x-y) true _ D.out).mono ?_;rintro e w8 ⟨rfl,⟨m8,rfl⟩⟩)
    go_roundg (n- (v+1))
    case measure=>rw[HK.out];omega
    case rel=>exact⟨v+1,by omega,by go_num,⟨Kd.bJ B.out _⟩,⟨bU o.out _⟩,⟨O.out Q.out⟩,⟨rfl⟩⟩
   |false=>
    have Q:=zA j;rw[j] at D;clear j;go_wp2_with (go_at_call 119;refine(ir.calls (x-y) false _ D.out).mono ?_;rintro e w8 ⟨rfl,⟨m8,rfl⟩⟩)
    go_ret2;exact⟨P.out Q.out _,bU o.out _⟩
  ·obtain rfl:n=v:=by omega
   go_wp2;go_ret2;have bk:(fX a b).all c_=true:=by
    rw[List.all_eq_true];intro x hx;obtain⟨u,hu,rfl⟩:=List.getElem_of_mem hx;have am:u<a.length:=by simpa [fX,ye] using hu
    have:=Y.out u (by rw[<-q.out];exact am);rw[<-yf am] at this;simpa [rd,aW,bp hu] using this
   refine⟨?_,l.out⟩;unfold jx;rw[if_pos bk];refine⟨go,co,rfl,?_⟩;have h:=s.out;unfold fX;rw[q.out];exact h
theorem yg {l:List Int}:l.all c_=true↔∀v:Nat,v<l.length-> -1048576<=rd l v/\rd l v<=1048576:=by
 have e:∀(v:Nat) (a:v<l.length),rd l (v:Int)=l[v]:=fun v a=>by simp[rd,aW,bp a]
 rw[List.all_eq_true];constructor
 ·intro h v a
  rw[e v a];simpa [c_] using h l[v] (List.getElem_mem a)
 ·intro h x b
  obtain⟨v,a,rfl⟩:=List.getElem_of_mem b;have:=h v a;rw[e v a] at this;simpa [c_] using this
theorem GY (k:Nat) (A0:Option Addr) (c0:Nat) (a:List Int) (g:Option Addr) (c1:Nat) (b:List Int) (t:Int) (w:World) (h:Kd.C (Kd.int .i64) w A0 a.length a) (i:a.length<=c0) (j:Kd.C (Kd.int .i64) w g b.length b) (l:b.length<=c1)
  (m:cy.f k [a,b]=some t) (n:t≠0):
  Calls Tryz.prog 16 #[.slice A0 a.length c0,.slice g b.length c1] w fun e w'=>e= .returned (.tuple #[.slice none 0 0,.int .i64 t])/\Below w.heap.size w w':=by
 have o:=zA (GV k A0 c0 a g c1 b t (.func (.func 59) #[] #[]) w h i j l m n);clear h i j l m n;go_enter Tryz.func16,Tryz.ntmps16
 go_wp2_with (go_at_call 58;refine o.out.mono ?_;rintro e w1 ⟨rfl,hb⟩;have p:=zA hb;clear hb)
 go_ret2;exact⟨rfl,p.out⟩
theorem GZ (k n:Nat) (A0:Option Addr) (c0:Nat) (a:List Int) (g:Option Addr) (c1:Nat) (b:List Int) (w:World) (m:Kd.C (Kd.int .i64) w A0 a.length a) (o:a.length<=c0) (p:Kd.C (Kd.int .i64) w g b.length b) (q:b.length<=c1)
  (r:cy.f k [a,b]=some 0) (i:a.length=n) (j:b.length=n) (z:1<=n) (hn:n<=12) (s:∀v:Nat,v<n-> -1048576<=rd a v/\rd a v<=1048576) (hb:∀v:Nat,v<n-> -1048576<=rd b v/\rd b v<=1048576):
  Calls Tryz.prog 16 #[.slice A0 a.length c0,.slice g b.length c1] w fun e w'=>jx n a b w.heap.size e w'/\Below w.heap.size w w':=by
 have B:=zA (GX k n A0 c0 a g c1 b w m o p q r i j z hn s hb);rw[i,j];clear m o p q r s hb i j;have u:=zA (show ∀e w',jx n a b w.heap.size e w'->(∃go co,e= .returned (.tuple #[.slice (some ⟨go,0,none⟩) n co,.int .i64 0]))\/e= .returned (.tuple #[.slice none 0 0,.int .i64 11]) from fun e w' h=>by
  unfold jx at h;split at h
  ·obtain⟨go,co,he, -⟩:=h;exact .inl ⟨go,co,he⟩
  ·exact .inr h)
 go_enter Tryz.func16,Tryz.ntmps16
 go_wp2_with fail
 refine B.out.mono ?_;rintro e w1 ⟨l,hb⟩;have x:=zA l;have y:=zA hb;have hp:=u.out e w1 l;clear l hb u;rcases hp with⟨go,co,rfl⟩|rfl
 ·go_wp2
  go_ret2;exact⟨x.out,y.out⟩
 ·go_wp2
  go_ret2;exact⟨x.out,y.out⟩
theorem jN.calls (k:Nat) (A0:Option Addr) (c0:Nat) (l0:List Int) (g:Option Addr) (c1:Nat) (l1:List Int) (j:List Int) (l:Int) (w:World) (m:Kd.C (Kd.int .i64) w A0 l0.length l0) (n:l0.length<=c0) (o:Kd.C (Kd.int .i64) w g l1.length l1) (p:l1.length<=c1) (h:jN.f k l0 l1=some (j,l)):
  Calls Tryz.prog 16 #[.slice A0 l0.length c0,.slice g l1.length c1] w fun e w'=>∃q:Value,e= .returned (.tuple #[q,.int .i64 l])/\Kd.R (Kd.int .i64) 3 w' w.heap.size (fun _=>True) q j/\Below w.heap.size w w':=by
 unfold jN.f at h;obtain⟨e,he,r⟩:=Option.bind_eq_some_iff.1 h;clear h;have h:=r;clear r;by_cases i:e=0
 ·subst i
  rw[if_pos rfl] at h;by_cases a:sP l0 l1=true
  ·rw[if_pos a] at h
   unfold sP at a;simp only[Bool.and_eq_true,decide_eq_true_eq] at a;obtain⟨⟨⟨h1,u,x⟩,y⟩,z⟩:=a;refine(GZ k l0.length A0 c0 l0 g c1 l1 w m n o p he rfl h1.symm u x (yg.1 y) (fun v D=>yg.1 z v (by omega))).mono ?_;rintro e w' ⟨b,hb⟩;unfold jx at b;by_cases s:(fX l0 l1).all c_=true
   ·rw[if_pos s] at b h
    obtain⟨go,co,rfl,B⟩:=b;simp only[Option.some.injEq,Prod.mk.injEq] at h;obtain⟨rfl,rfl⟩:=h;exact⟨_,rfl,B,hb⟩
   ·rw[if_neg s] at b h
    simp only[Option.some.injEq,Prod.mk.injEq] at h;obtain⟨rfl,rfl⟩:=h;exact⟨_,b,Kd.df _ _ _ _ _,hb⟩
  ·rw[if_neg a] at h;cases h
 ·rw[if_neg i] at h
  simp only[Option.some.injEq,Prod.mk.injEq] at h;obtain⟨rfl,rfl⟩:=h;refine(GY k A0 c0 l0 g c1 l1 e w m n o p he i).mono ?_;rintro e' w' ⟨rfl,hb⟩;exact⟨_,rfl,Kd.df _ _ _ _ _,hb⟩
end
def kX.f (k:Nat) (b:Int) (e:List (S83)) (l1:List Int):Option (Bool×List Int×List Int×Int):=(kV.f k b e 0 l1).bind fun a=>(if a.2.2=0 then(if 0<(a.1.length:Int) then(some (decide ((rd a.1 0)>=0),a.1,a.2.1,0)) else(none)) else(some (false,([]:List Int),([]:List Int),a.2.2)))
theorem kX.calls (k:Nat) (g:Int) (l:Option Addr) (m:Nat) (b:List (S83)) (q:Option Addr) (c1:Nat) (l1:List Int) (B:Bool) (D:List Int) (E:List Int) (F:Int) (w:World) (G:Kd.C aM w l b.length b) (I:b.length<=m) (J:Kd.C (Kd.int .i64) w q l1.length l1) (K:l1.length<=c1) (h:kX.f k g b l1=some (B,D,E,F)):
  Calls Tryz.prog 14 #[.agg #[.int .i64 g,.slice l b.length m],.slice q l1.length c1] w fun e w'=>∃u v:Value,e= .returned (.tuple #[.bool B,u,v,.int .i64 F])/\Kd.R (Kd.int .i64) 3 w' w.heap.size (fun x=>some x≠(v:Value).ownBlock) u D/\Kd.R (Kd.int .i64) 3 w' w.heap.size (fun x=>some x≠(u:Value).ownBlock) v E/\Below w.heap.size w w':=by
 have ag:=Tryz.underlying24;have L:=zA G;have M:=zA I;clear G I;have O:=zA J;have P:=zA K;clear J K;have a:=zA (aj w.heap.size w);unfold kX.f at h;have H:=h;clear h;obtain⟨⟨t250,t253,t256⟩,Q,H⟩:=zo H;dsimp only at H;by_cases c4:t256=0
 ·rw[if_pos c4] at H
  obtain⟨U,V⟩:=bZ c4;clear c4;by_cases r:0<(t250.length:Int)
  ·rw[if_pos r] at H
   have ak:=aE r;have am:decide (0<t250.length)=true:=aE (by omega);clear r;simp only[Option.some.injEq,Prod.mk.injEq] at H;obtain⟨rfl,rfl,rfl,rfl⟩:=H;go_enter Tryz.func14,Tryz.ntmps14
   go_wp2_with (first|((with_reducible refine aU (N:=2) rfl ?_);refine zX 2 #[.int .i64 g,.slice l b.length m] 24 ?_;intro W i w6 n hb;have j:=zA (n);have X:=zG a i;have Y:=zG a i;replace a:=zS a hb;clear hb n i;obtain⟨ao,ap,ar,av⟩:=aC j)|((with_reducible refine aR (f:=54) rfl ?_);refine zL (some 14) Tryz.func54 #[.agg #[.int .i64 g,.slice l b.length m],.int .i64 0,.slice q l1.length c1] ?_;(with_reducible refine(kV.calls k g _ _ b 0 _ _ l1 t250 t253 t256 _ ?au ?aw ?bs ?br Q.out).mono ?_);(case au=>exact Kd.ax L.out zB);(case aw=>exact M.out);(case bs=>exact Kd.ax O.out zB);(case br=>exact P.out);rintro e w8 ⟨Z,aa,rfl,o,p,hb⟩;refine⟨_,rfl,?_⟩;have s:=zA (Kd.bc o (bO zB));have S:=zA (Kd.bc p (bO zB));replace j:=zb j hb;replace a:=zS a hb;(try clear hb);(try clear o);(try clear p);obtain⟨aF,aL,ab⟩:=Kd.bh s.out;subst ab;have y:0<=(0:Int):=(by omega);have z:0<(t250.length:Int):=aA ‹_›;obtain⟨aO,ad,T⟩:=Kd.cI (Kd.aN s.out).2.2 0 y z;cases ad;have aP:(0<t250.length)=True:=eq_true (by omega);(try rw[show ((0:Int)).toNat=0 from rfl] at T);(try rw[Addr.add_zero'] at T);replace y:=eq_true y;replace z:=eq_true z))
   refine bodyPost_ret (tR (rs:=[.tmp 4,.tmp 5,.tmp 6,.tmp 7]) rfl (by simp) (.tmp (.tmp (.tmp (.tmp .nil))))) rfl ?_;exact⟨_,_,zE,by(with_reducible repeat(first|apply Kd.aK|apply Kd.bJ|apply Kd.bA));exact s.out,by(with_reducible repeat(first|apply Kd.aK|apply Kd.bJ|apply Kd.bA));exact S.out,zB⟩
  ·rw[if_neg r] at H
   exact absurd H (by simp)
 ·rw[if_neg c4] at H
  obtain⟨U,V⟩:=b7 c4;simp only[Option.some.injEq,Prod.mk.injEq] at H;obtain⟨rfl,rfl,rfl,rfl⟩:=H;go_enter Tryz.func14,Tryz.ntmps14
  go_wp2_with (first|((with_reducible refine aU (N:=2) rfl ?_);refine zX 2 #[.int .i64 g,.slice l b.length m] 24 ?_;intro W i aS n hb;have j:=zA (n);have X:=zG a i;have Y:=zG a i;replace a:=zS a hb;clear hb n i;obtain⟨a0,a1,a2,a3⟩:=aC j)|((with_reducible refine aR (f:=54) rfl ?_);refine zL (some 14) Tryz.func54 #[.agg #[.int .i64 g,.slice l b.length m],.int .i64 0,.slice q l1.length c1] ?_;(with_reducible refine(kV.calls k g _ _ b 0 _ _ l1 t250 t253 t256 _ ?au ?aw ?bs ?br Q.out).mono ?_);(case au=>exact Kd.ax L.out zB);(case aw=>exact M.out);(case bs=>exact Kd.ax O.out zB);(case br=>exact P.out);rintro e a4 ⟨Z,aa,rfl,o,p,hb⟩;refine⟨_,rfl,?_⟩;have s:=zA (Kd.bc o (bO zB));have S:=zA (Kd.bc p (bO zB));replace j:=zb j hb;replace a:=zS a hb;(try clear hb);(try clear o);(try clear p)))
  refine bodyPost_ret (tR (rs:=[.tmp 4,.tmp 5,.tmp 6,.tmp 7]) rfl (by simp) (.tmp (.tmp (.tmp (.tmp .nil))))) rfl ?_;exact⟨_,_,zE,by first|exact Kd.df _ _ _ _ _|exact Kd.iE _ _ _ _ _|exact Kd.V_nil _ _ _ _ _|exact Kd.Q_nil _ _ _ _ _|exact Kd.ij _ _ _ _ _,by first|exact Kd.df _ _ _ _ _|exact Kd.iE _ _ _ _ _|exact Kd.V_nil _ _ _ _ _|exact Kd.Q_nil _ _ _ _ _|exact Kd.ij _ _ _ _ _,zB⟩
def fF.l0:Nat->List (List Int)->Int->Int->Int->List (S83)->Option (Int)
 |0,_,_,_,_,_=>none
 |k+1,b,e,a,g,i=>if a<e then(if 0<=a then(if a<(b.length:Int) then((bz.f k (aZ b a) g).bind fun h=>(if h=0 then(fF.l0 k b e (wrap64 (a+1)) g i) else(some h))) else(none)) else(none)) else(some 0)
def fF.f (k:Nat) (b:Int) (e:List (S83)) (l1:List (List Int)):Option (Int):=(cG.f k b e).bind fun a=>(if a.2=0 then(if a.1=true then(fF.l0 k l1 (l1.length:Int) 0 b e) else(some 13)) else(some a.2))
theorem fF.calls (k:Nat) (b:Int) (m:Option Addr) (n:Nat) (i:List (S83)) (U:Option Addr) (c1:Nat) (l1:List (List Int)) (r:Int) (w:World) (V:Kd.C aM w m i.length i) (W:i.length<=n) (X:Kd.C (Kd.slice 3 (Kd.int .i64)) w U l1.length l1) (Y:l1.length<=c1) (h:fF.f k b i l1=some r):
  Calls Tryz.prog 93 #[.agg #[.int .i64 b,.slice m i.length n],.slice U l1.length c1] w fun e w'=>e= .returned (.int .i64 r)/\Below w.heap.size w w':=by
 have aS:=Tryz.underlying24;have G:=zA V;have I:=zA W;clear V W;have Z:=zA X;have a0:=zA Y;clear X Y;have a:=zA (aj w.heap.size w);unfold fF.f at h;have H:=h;clear h;obtain⟨⟨aa,z⟩,J,H⟩:=zo H;dsimp only at H;by_cases c4:z=0
 ·rw[if_pos c4] at H
  obtain⟨ab,ad⟩:=bZ c4;clear c4;by_cases B:aa=true
  ·subst B
   replace H:=zi H;have D:=zA H;clear H;go_enter Tryz.func93,Tryz.ntmps93
   go_wp2_with (first|((with_reducible refine aU (N:=2) rfl ?_);refine zX 2 #[.int .i64 b,.slice m i.length n] 24 ?_;intro K l w6 o hb;have j:=zA (o);have ag:=zG a l;have ak:=zG a l;replace a:=zS a hb;clear hb o l;obtain⟨ap,ar,av,aB⟩:=aC j)|((with_reducible refine aR (f:=113) rfl ?_);refine zL (some 12) Tryz.func113 #[.agg #[.int .i64 b,.slice m i.length n]] ?_;(with_reducible refine(cG.calls k b _ _ i true z _ ?au ?aw J.out).mono ?_);(case au=>exact Kd.ax G.out zB);(case aw=>exact I.out);rintro e w8 ⟨rfl,hb⟩;refine⟨_,rfl,?_⟩;replace j:=zb j hb;replace a:=zS a hb;(try clear hb)))
   go_loopg [22] k (fun kq v22 w'=>∃(g:Int),v22= .int .i64 g/\Aside0 (fF.l0 kq l1 (l1.length:Int) g b i=some r)/\Aside0 (kq<=k)/\Aside0 (w'.heap[K]? =some (.cells #[.int .i64 b,(.slice m i.length n)] 24 (0,0)))/\Aside0 (Below w.heap.size w w'))
   case atStart=>exact⟨(0),zT,D,⟨aI _⟩,⟨zK j⟩,⟨zB⟩⟩
   case round=>
    clear D;clear ab ad ap ar av aB;obtain⟨g,rfl,L,an,j,a⟩:=hrel;cases gk with
    |zero=>exact absurd L.out (by simp[fF.l0])
    |succ M=>
     have H:=L.out;clear L;simp only[fF.l0] at H;by_cases u:g<(l1.length:Int)
     ·rw[if_pos u] at H
      have aF:=aE u;clear u;by_cases E:0<=g
      ·rw[if_pos E] at H
       have a3:=aE E;clear E;by_cases F:g<(l1.length:Int)
       ·rw[if_pos F] at H
        have a4:=aE F;clear F;obtain⟨O,ao,H⟩:=zo H;by_cases v:O=0
        ·rw[if_pos v] at H
         obtain⟨aL,aO⟩:=bZ v;clear v;have D:=zA H;clear H;have p:0<=(g:Int):=aA ‹_›;have q:g<(l1.length:Int):=aA ‹_›;obtain⟨aP,P,Q,R,s,x,y⟩:=gT Z.out g p q;cases R;replace s:=(a.out.cell (bm w _ s)).trans s;have S:=zA y;have T:=zA x;clear y x;replace p:=eq_true p;replace q:=eq_true q;obtain⟨a5,a9,bb,be⟩:=aC j;go_wp2_with (first|((with_reducible refine aR (f:=87) rfl ?_);refine zL (some 29) Tryz.func87 #[.slice P (aZ l1 g).length Q,.int .i64 b] ?_;(with_reducible refine(bz.calls M _ _ (aZ l1 g) b O _ ?au ?aw ao.out).mono ?_);(case au=>exact Kd.ax S.out zB);(case aw=>exact T.out);rintro e w' ⟨rfl,⟨nd,rfl⟩⟩;refine⟨_,rfl,?_⟩))
         go_roundg M
         case measure=>have:=an.out;omega
         case rel=>exact⟨(wrap64 (g+1)),zT,D,⟨by have:=an.out;omega⟩,⟨zK j⟩,⟨zB⟩⟩
        ·rw[if_neg v] at H
         obtain⟨aL,aO⟩:=b7 v;obtain rfl:=aX H;have p:0<=(g:Int):=aA ‹_›;have q:g<(l1.length:Int):=aA ‹_›;obtain⟨aP,P,Q,R,s,x,y⟩:=gT Z.out g p q;cases R;replace s:=(a.out.cell (bm w _ s)).trans s;have S:=zA y;have T:=zA x;clear y x;replace p:=eq_true p;replace q:=eq_true q;obtain⟨bf,bg,bi,bk⟩:=aC j;go_wp2_with (first|((with_reducible refine aR (f:=87) rfl ?_);refine zL (some 29) Tryz.func87 #[.slice P (aZ l1 g).length Q,.int .i64 b] ?_;(with_reducible refine(bz.calls M _ _ (aZ l1 g) b O _ ?au ?aw ao.out).mono ?_);(case au=>exact Kd.ax S.out zB);(case aw=>exact T.out);rintro e w' ⟨rfl,⟨nd,rfl⟩⟩;refine⟨_,rfl,?_⟩))
         go_ret;exact⟨zE,zB⟩
       ·rw[if_neg F] at H
        exact absurd H (by simp)
      ·rw[if_neg E] at H
       exact absurd H (by simp)
     ·rw[if_neg u] at H
      have aF:=ba u;clear u;obtain rfl:=aX H;go_wp2;go_ret;exact⟨zE,zB⟩
  ·replace B:=Bool.eq_false_iff.mpr B
   subst B;replace H:=zj H;obtain rfl:=aX H;go_enter Tryz.func93,Tryz.ntmps93
   go_wp2_with (first|((with_reducible refine aU (N:=2) rfl ?_);refine zX 2 #[.int .i64 b,.slice m i.length n] 24 ?_;intro K l bl o hb;have j:=zA (o);have ag:=zG a l;have ak:=zG a l;replace a:=zS a hb;clear hb o l;obtain⟨bn,bo,bq,bv⟩:=aC j)|((with_reducible refine aR (f:=113) rfl ?_);refine zL (some 12) Tryz.func113 #[.agg #[.int .i64 b,.slice m i.length n]] ?_;(with_reducible refine(cG.calls k b _ _ i false z _ ?au ?aw J.out).mono ?_);(case au=>exact Kd.ax G.out zB);(case aw=>exact I.out);rintro e bw ⟨rfl,hb⟩;refine⟨_,rfl,?_⟩;replace j:=zb j hb;replace a:=zS a hb;(try clear hb)))
   go_ret;exact⟨zE,zB⟩
 ·rw[if_neg c4] at H
  obtain⟨ab,ad⟩:=b7 c4;obtain rfl:=aX H;go_enter Tryz.func93,Tryz.ntmps93
  go_wp2_with (first|((with_reducible refine aU (N:=2) rfl ?_);refine zX 2 #[.int .i64 b,.slice m i.length n] 24 ?_;intro K l bx o hb;have j:=zA (o);have ag:=zG a l;have ak:=zG a l;replace a:=zS a hb;clear hb o l;obtain⟨b0,b1,b2,b3⟩:=aC j)|((with_reducible refine aR (f:=113) rfl ?_);refine zL (some 12) Tryz.func113 #[.agg #[.int .i64 b,.slice m i.length n]] ?_;(with_reducible refine(cG.calls k b _ _ i aa z _ ?au ?aw J.out).mono ?_);(case au=>exact Kd.ax G.out zB);(case aw=>exact I.out);rintro e b4 ⟨rfl,hb⟩;refine⟨_,rfl,?_⟩;replace j:=zb j hb;replace a:=zS a hb;(try clear hb)))
  go_ret;exact⟨zE,zB⟩
def ez.f (k:Nat) (b:Int) (e:List (S83)):Option (Int):=(cG.f k b e).bind fun a=>(if a.2=0 then(if a.1=true then(some 0) else(some 13)) else(some a.2))
theorem ez.mono:∀a0 a k,al (ez.f k a0 a) (ez.f (k+1) a0 a):=by
 intro a0 a k;unfold ez.f;with_reducible repeat' first|exact cG.mono _ _ _|exact al.refl _|exact al.none _|refine al.ite ?_ ?_|refine al.bind ?_ (fun _=>?_)
theorem ez.calls (k:Nat) (g:Int) (l:Option Addr) (m:Nat) (b:List (S83)) (r:Int) (w:World) (s:Kd.C aM w l b.length b) (u:b.length<=m) (h:ez.f k g b=some r):
  Calls Tryz.prog 55 #[.agg #[.int .i64 g,.slice l b.length m]] w fun e w'=>e= .returned (.int .i64 r)/\Below w.heap.size w w':=by
 have D:=Tryz.underlying24;have o:=zA s;have p:=zA u;clear s u;have a:=zA (aj w.heap.size w);unfold ez.f at h;have H:=h;clear h;obtain⟨⟨t198,t199⟩,q,H⟩:=zo H;dsimp only at H;by_cases c3:t199=0
 ·rw[if_pos c3] at H
  obtain⟨z,B⟩:=bZ c3;clear c3;by_cases c4:t198=true
  ·subst c4
   replace H:=zi H;obtain rfl:=aX H;go_enter Tryz.func55,Tryz.ntmps55
   go_wp2_with (first|((with_reducible refine aU (N:=1) rfl ?_);refine zX 1 #[.int .i64 g,.slice l b.length m] 24 ?_;intro v i E n hb;have j:=zA (n);have x:=zG a i;have y:=zG a i;replace a:=zS a hb;clear hb n i;obtain⟨F,G,I,J⟩:=aC j)|((with_reducible refine aR (f:=113) rfl ?_);refine zL (some 7) Tryz.func113 #[.agg #[.int .i64 g,.slice l b.length m]] ?_;(with_reducible refine(cG.calls k g _ _ b true t199 _ ?au ?aw q.out).mono ?_);(case au=>exact Kd.ax o.out zB);(case aw=>exact p.out);rintro e K ⟨rfl,hb⟩;refine⟨_,rfl,?_⟩;replace j:=zb j hb;replace a:=zS a hb;(try clear hb)))
   go_ret;exact⟨zE,zB⟩
  ·replace c4:=Bool.eq_false_iff.mpr c4
   subst c4;replace H:=zj H;obtain rfl:=aX H;go_enter Tryz.func55,Tryz.ntmps55
   go_wp2_with (first|((with_reducible refine aU (N:=1) rfl ?_);refine zX 1 #[.int .i64 g,.slice l b.length m] 24 ?_;intro v i L n hb;have j:=zA (n);have x:=zG a i;have y:=zG a i;replace a:=zS a hb;clear hb n i;obtain⟨M,O,P,Q⟩:=aC j)|((with_reducible refine aR (f:=113) rfl ?_);refine zL (some 7) Tryz.func113 #[.agg #[.int .i64 g,.slice l b.length m]] ?_;(with_reducible refine(cG.calls k g _ _ b false t199 _ ?au ?aw q.out).mono ?_);(case au=>exact Kd.ax o.out zB);(case aw=>exact p.out);rintro e R ⟨rfl,hb⟩;refine⟨_,rfl,?_⟩;replace j:=zb j hb;replace a:=zS a hb;(try clear hb)))
   go_ret;exact⟨zE,zB⟩
 ·rw[if_neg c3] at H
  obtain⟨z,B⟩:=b7 c3;obtain rfl:=aX H;go_enter Tryz.func55,Tryz.ntmps55
  go_wp2_with (first|((with_reducible refine aU (N:=1) rfl ?_);refine zX 1 #[.int .i64 g,.slice l b.length m] 24 ?_;intro v i S n hb;have j:=zA (n);have x:=zG a i;have y:=zG a i;replace a:=zS a hb;clear hb n i;obtain⟨T,U,V,W⟩:=aC j)|((with_reducible refine aR (f:=113) rfl ?_);refine zL (some 7) Tryz.func113 #[.agg #[.int .i64 g,.slice l b.length m]] ?_;(with_reducible refine(cG.calls k g _ _ b t198 t199 _ ?au ?aw q.out).mono ?_);(case au=>exact Kd.ax o.out zB);(case aw=>exact p.out);rintro e X ⟨rfl,hb⟩;refine⟨_,rfl,?_⟩;replace j:=zb j hb;replace a:=zS a hb;(try clear hb)))
  go_ret;exact⟨zE,zB⟩
theorem sQ {n:Nat} {E:List S83} (g:E.length<=1000) (b:cL n E=0) (hp:partsOf E n=1):Ev (fun k=>cG.f k n E) (true,(0:Int)):=by
 obtain⟨h1,j,a⟩:=jq b;unfold cG.f;have e:=mC (n:Int) E g;rw[b] at e;refine Ev.bind e ?_;have h:kE (n:Int) E=true:=by
  unfold kE;rw[aE (by omega),Bool.true_and];refine List.all_eq_true.2 fun x i=>?_
  have:=a.ok x i;simp[bQ] at this⊢;omega
 simp only[if_true,if_pos h,aD];rw[show decide (cm (aJ E) n=1)=true from aE ((rN (by omega) (jE a.c_)).2 ((jI (by omega) a).1 hp))];exact Ev.const _
theorem yh {l:List Int} {n:Nat} (h1:1<=n) (a:n<=12) (b:l.length=n) (hb:∀v:Nat,v<n-> -1048576<=rd l v/\rd l v<=1048576):lR l n=0:=sF.2 ⟨by omega,by omega,by omega,fun v e=>hb v (by omega)⟩
theorem G0 {n q:Nat} {E:List S83} {d:List Int} (h:eP n q E d) (b:cL n E=0):Ev (fun k=>jM.f k n E q d) 0:=by
 unfold jM.f;have h1:=h.q;refine Ev.bind (sQ h.len b ((jI h.n1 h.right).2 h.conn)) ?_;simp only[if_true,if_neg (show ¬(q:Int)<0 by omega),if_neg (show ¬(q:Int)>=(n:Int) by omega)];refine Ev.bind (a:=(0:Int)) ?_ (Ev.const _);have:=pS d n (by have:=h.dl;have:=h.n12;omega);rw[yh h.n1 h.n12 h.dl (fun v e=>by have:=h.d v e;omega)] at this;exact this
theorem G2 {n q:Nat} {E:List S83} {d:List Int} (h:eP n q E d) (a:cL n E=0):∃s,Ev (fun k=>kV.f k n E q d) (eO n E d s,s,(0:Int))/\s.length=n/\e9 n q (af E) (fun v=>rd d (v:Nat)) (fun v=>rd (eO n E d s) (v:Nat)) (fun v=>rd s (v:Nat)):=by
 obtain⟨s,h1,b,e⟩:=Gn h.right h.conn h.q d;refine⟨s,?_,b,e⟩;unfold kV.f;refine Ev.bind (G0 h a) ?_;simp only[if_true,if_pos (h.ok a),aD];exact Ev.bind h1 (Ev.const _)
theorem G3 {n:Nat} {E:List S83} {d:List Int} (h:eP n 0 E d) (a:cL n E=0):∃s,Ev (fun k=>kX.f k n E d) (decide (rd (eO n E d s) 0>=0),eO n E d s,s,(0:Int))/\s.length=n/\e9 n 0 (af E) (fun v=>rd d (v:Nat)) (fun v=>rd (eO n E d s) (v:Nat)) (fun v=>rd s (v:Nat)):=by
 obtain⟨s,h1,b,e⟩:=G2 h a;refine⟨s,?_,b,e⟩;unfold kX.f;refine Ev.bind h1 ?_;have:=h.n1;simp only[if_true,if_pos (show (0:Int)<((eO n E d s).length:Int) by rw[sG];omega)];exact Ev.const _
theorem G4 {n:Nat} {E:List S83} {d:List Int} (h:eP n 0 E d) (b:cL n E=0):Ev (fun k=>fF.f k n E [d]) 0:=by
 unfold fF.f;refine Ev.bind (sQ h.len b ((jI h.n1 h.right).2 h.conn)) ?_;simp only[if_true];refine Ev.of_succ ?_;simp only[fF.l0,List.length_singleton,if_pos (show (0:Int)<((1:Nat):Int) by decide),if_pos (show (0:Int)<=0 by decide),sK,sI];have a:=pS d n (by have:=h.dl;have:=h.n12;omega);rw[yh h.n1 h.n12 h.dl (fun v e=>by have:=h.d v e;omega)] at a;refine Ev.bind a ?_;simp only[if_true];refine Ev.of_succ ?_;simp only[fF.l0,if_neg (show ¬(1:Int)<((1:Nat):Int) by decide)];exact Ev.const _
section
namespace Small
variable {n q:Nat} {E:List S83}
def pW (n q:Nat) (E:List S83) (c:List Int):Bool:=(List.range n).all fun v=>decide (v=q)|| !b9 n (af E) q (c.set v (rd c v+1))
theorem pX {c:List Int}:pW n q E c=true↔∀v,v<n->v≠q->b9 n (af E) q (c.set v (rd c v+1))=false:=by
 unfold pW;rw[List.all_eq_true];constructor
 ·intro h v a b
  have:=h v (List.mem_range.2 a);rw[ba b,Bool.false_or,Bool.not_eq_true'] at this;exact this
 ·intro h v a
  by_cases e:v=q
  ·rw[aE e];rfl
  ·rw[ba e,Bool.false_or,Bool.not_eq_true']
   exact h v (List.mem_range.1 a) e
def fY (n q:Nat) (E:List S83):List (List Int):=(dZ n E q).filter fun c=>pW n q E c
theorem G5 (h:Small n q E) (u:fD n E q=0):Ev (fun k=>gN.f k n E q) (fY n q E,(0:Int)):=by
 unfold gN.f;refine Ev.bind (h.Fk u) ?_;simp only[if_true];obtain⟨B,y⟩:=h.FC u;refine⟨B,fun K g=>?_⟩;have g:=y K g;have h1:kN K n E q (dZ n E q)=true:=by
  unfold kN;refine List.all_eq_true.2 fun c b=>List.all_eq_true.2 fun v i=>?_
  have z:=(h.nR b).1;by_cases a:v=q
  ·simp[a]
  ·obtain⟨r,j,m,_⟩:=g c b v (List.mem_range.2 (by have:=List.mem_range.1 i;omega)) a
   rw[j];simp[m]
 show (if kN K n E q (dZ n E q)=true then some (List.filter (fun x=> !eZ x q (gY K n E q x) x.length) (dZ n E q),(0:Int)) else none)=_
 rw[if_pos h1];congr 2
 refine List.filter_congr fun c b=>?_
 have z:=(h.nR b).1;rw[Bool.eq_iff_iff,pX];unfold eZ;rw[Bool.not_eq_true',List.any_eq_false];constructor
 ·intro o v i a
  obtain⟨r,j,m,p⟩:=g c b v (List.mem_range.2 i) a;have s:=o v (List.mem_range.2 (by omega));rw[show gY K n E q c v=r by unfold gY;rw[j];rfl] at s;cases e:b9 n (af E) q (c.set v (rd c v+1)) with
  |false=>rfl
  |true=>
   have:=p.2 e;rw[aE (show (v:Int)≠q by omega),aE this] at s;exact absurd rfl s
 ·intro o v i l
  have w:v<n:=by have:=List.mem_range.1 i;omega
  rw[Bool.and_eq_true,decide_eq_true_iff,decide_eq_true_iff] at l;have a:v≠q:=fun e=>l.1 (by omega)
  obtain⟨r,j,m,p⟩:=g c b v (List.mem_range.2 w) a;rw[show gY K n E q c v=r by unfold gY;rw[j];rfl] at l;have:=p.1 l.2;rw[o v w a] at this;cases this
theorem yi (h:Small n q E):∀(m:Nat) (c:List Int),c∈dZ n E q->8*n-T.sN (fun v=>rd c (v:Nat)) n<m->∃d∈fY n q E,∀v:Nat,v<n->rd c v<=rd d v
 |0,c,a,hm=>by
  have h1:=(h.nR a).2;have o:T.sN (fun v=>rd c (v:Nat)) n<=T.sN (fun _=>8) n:=T.cZ fun v _=>(h1 v).2
  have p:∀k:Nat,T.sN (fun _=>8) k=8*k:=by
   intro k;induction k with
   |zero=>simp[T.sN]
   |succ k r=>show T.sN (fun _=>8) k+8=_;rw[r];omega
  rw[p] at o;omega
 |m+1,c,a,hm=>by
  cases g:pW n q E c with
  |true=>exact⟨c,List.mem_filter.2 ⟨a,g⟩,fun v _=>Int.le_refl _⟩
  |false=>
   have hn:¬∀v,v<n->v≠q->b9 n (af E) q (c.set v (rd c v+1))=false:=fun s=>by
    rw[pX.2 s] at g;cases g
   have hex:∃v,v<n/\v≠q/\b9 n (af E) q (c.set v (rd c v+1))=true:=Classical.byContradiction fun w=>hn fun v i j=>by
    cases e:b9 n (af E) q (c.set v (rd c v+1)) with
    |false=>rfl
    |true=>exact absurd ⟨v,i,j,e⟩ w
   obtain⟨v,i,j,x⟩:=hex;obtain⟨c1,c2,c3,c4⟩:=(h.iQ c).1 a;have b:∀u:Nat,rd (c.set v (rd c v+1)) u=rd c u+T.one v u:=fun u=>by
    unfold T.one;by_cases e:u=v
    ·subst e;rw[et (by omega),if_pos rfl]
    ·rw[eM (fun k=>e k.symm),if_neg e];omega
   have l:∀u,0<=T.one v u:=fun u=>by unfold T.one;split<;>omega
   have y:c.set v (rd c v+1)∈dZ n E q:=(h.iQ _).2 ⟨by rw[List.length_set];exact c1,fun u=>by rw[b u];have:=c2 u;have:=l u;omega,by rw[b q,c3];unfold T.one;rw[if_neg (fun e=>j e.symm)];omega,x⟩;obtain⟨d,hd,hle⟩:=h.yi m _ y (by
    rw[T.bK (fun u _=>b u),T.dF,T.fl i];omega)
   exact⟨d,hd,fun u hu=>by have:=hle u hu;rw[b u] at this;have:=l u;omega⟩
theorem G6 (h:Small n q E) (D:Nat->Int):¬T.cn n (af E) D↔∃c∈fY n q E,T.cn n (af E) (fun v=>rd (c.set q (-1)) (v:Nat)-D v):=by
 have j:=h.q;have g:=h.right.wt;have x:=h.right.conn h.conn;have l:∀c:List Int,c.length=n->rd c q=0->∀u:Nat,rd (c.set q (-1)) u=if u=q then -1 else rd c u:=fun c p s u=>by
  by_cases e:u=q
  ·subst e;rw[et (by omega),if_pos rfl]
  ·rw[eM (fun k=>e k.symm),if_neg e]
 constructor
 ·intro p
  obtain⟨r,h1,o⟩:=T.rB g x j D;have K:r q<0:=by
   refine Classical.byContradiction fun L=>p ?_
   exact((T.mz g j o).2 (by omega)).fQ h1.symm
  let c:List Int:=(List.range n).map fun v=>if v=q then 0 else r v
  have y:c.length=n:=by simp[c]
  have m:∀v:Nat,v<n->rd c v=if v=q then 0 else r v:=fun v a=>by simp[c,rd,aW,List.getElem?_map,List.getElem?_range a]
  have z:b9 n (af E) q c=true:=by
   refine(kT g).1 ?_;intro S hS i;obtain⟨v,a,b,a2⟩:=o.2 S hS i;refine⟨v,a,b,?_⟩;show rd c (v:Nat)<_
   rw[m v a,if_neg (fun e=>by subst e;rw[i] at b;cases b)];exact a2
  have B:c∈dZ n E q:=(h.iQ c).2 ⟨y,fun v=>by
   by_cases a:v<n
   ·rw[m v a]
    split
    ·omega
    ·rename_i e;exact o.1 v a e
   ·rw[nS (by omega)];omega,by rw[m q j,if_pos rfl],z⟩
  obtain⟨d,hd,hle⟩:=h.yi ((8*n-T.sN (fun v=>rd c (v:Nat)) n).toNat+1) c B (by omega);have w:=(h.iQ d).1 (List.mem_filter.1 hd).1;refine⟨d,hd,?_⟩;have C:T.bT n (af E) (fun v=>rd (d.set q (-1)) (v:Nat)+ -r v) (fun v=>rd (d.set q (-1)) (v:Nat)+ -D v):=(T.bT.refl _ _ _).add h1.symm.neg;refine T.cn.fQ C (T.cn.pk fun v a=>?_);show 0<=rd (d.set q (-1)) (v:Nat)+ -r v
  rw[l d w.1 w.2.2.1 v];have:=hle v a;rw[m v a] at this;by_cases e:v=q
  ·subst e;rw[if_pos rfl];omega
  ·rw[if_neg e] at this⊢;omega
 ·rintro⟨c,F,hw⟩ G
  obtain⟨c1,c2,c3,c4⟩:=(h.iQ c).1 (List.mem_filter.1 F).1;have H:T.cn n (af E) (fun v=>rd (c.set q (-1)) (v:Nat)):=(hw.add G).fQ (T.bT.of_eq fun v a=>by show rd (c.set q (-1)) (v:Nat)=rd (c.set q (-1)) (v:Nat)-D v+D v;omega);have I:T.j6 n (af E) q (fun v=>rd (c.set q (-1)) (v:Nat)):=by
   refine⟨fun v a J=>by show 0<=rd (c.set q (-1)) (v:Nat);rw[l c c1 c3 v,if_neg J];exact c2 v,?_⟩;intro S hS i;obtain⟨v,a,b,a2⟩:=(kT g).2 c4 S hS i;refine⟨v,a,b,?_⟩;show rd (c.set q (-1)) (v:Nat)<_
   rw[l c c1 c3 v,if_neg (fun e=>by subst e;rw[i] at b;cases b)];exact a2
  have:=(T.mz g j I).1 H;have s:0<=rd (c.set q (-1)) (q:Nat):=this;rw[l c c1 c3 q,if_pos rfl] at s;omega
end Small
end
namespace Small
theorem G7 {n q:Nat} {E:List S83} (h:Small n q E) {c:List Int} (m:c∈fY n q E):∃pos:Nat->Nat,T.eW n pos/\pos q=0/\∀v:Nat,v<n->rd (c.set q (-1)) v=T.nu n (af E) pos v:=by
 have o:=h.q;have a:=h.right.wt;obtain⟨hm,p⟩:=List.mem_filter.1 m;obtain⟨c1,c2,c3,c4⟩:=(h.iQ c).1 hm;obtain⟨pos,r,b,g⟩:=T.rD a o ((kT a).2 c4);have s:=pX.1 p;refine⟨pos,r,b,fun v i=>?_⟩;by_cases e:v=q
 ·subst e
  rw[et (by omega),T.rE b]
 ·rw[eM (fun k=>e k.symm)]
  have hle:=(g v i e).2;refine Classical.byContradiction fun j=>?_
  have w:rd c (v:Nat)<T.nu n (af E) pos v:=by
   have:rd c (v:Nat)<=T.nu n (af E) pos v:=hle;omega
  have l:b9 n (af E) q (c.set v (rd c v+1))=true:=(kT a).1 ((T.vY a q pos).down fun u hu j=>by
   show rd (c.set v (rd c v+1)) (u:Nat)<=_
   by_cases e2:u=v
   ·subst e2;rw[et (by omega)];omega
   ·rw[eM (fun k=>e2 k.symm)];exact(g u hu j).2)
  rw[s v i e] at l;cases l
end Small
section
def cM (S:List (Nat×Int×Int)):List (Nat×Nat):=S.map fun x=>(x.2.1.toNat,x.2.2.toNat)
def gz (x:Nat×Nat):Int×Int:=((x.1:Int),(x.2:Int))
theorem oa (S:List (Nat×Int×Int)):(cM S).length=S.length:=by simp[cM]
theorem od {S:List (Nat×Int×Int)} {o:List Bool} (a:o.length=S.length):(T.arr (cM S) o).length=S.length:=by simp[T.arr,oa,a]
theorem yj {n:Nat} {S:List (Nat×Int×Int)} {o:List Bool} (h:fj n S) (b:o.length=S.length):dE S o S.length=(T.arr (cM S) o).map gz:=by
 refine List.ext_getElem (by rw[List.length_map,od b];simp[dE]) fun i h1 g=>?_
 have hi:i<S.length:=by simpa [dE] using h1
 obtain⟨e,a2,a3,a4⟩:=h i hi;have a:S.getD i (0,0,0)=S[i]:=by rw[aW,bp hi];rfl
 have e2:o.getD i false=o[i]:=by rw[aW,bp (by omega)];rfl
 rw[a] at e a2 a3 a4;simp only[dE,List.getElem_map,List.getElem_range,a,e2,T.arr,List.getElem_zipWith,cM,gz,kG,T.tl,T.hd];cases o[i] with
 |true=>simp;omega
 |false=>simp;omega
theorem yk {n:Nat} {S:List (Nat×Int×Int)} (h:fj n S):∀x∈cM S,x.1<n/\x.2<n:=fun x a=>by
 obtain⟨y,b,rfl⟩:=List.mem_map.1 a;obtain⟨i,hi,rfl⟩:=List.getElem_of_mem b;obtain⟨e,a2,a3,a4⟩:=h i hi;have g:S.getD i (0,0,0)=S[i]:=by rw[aW,bp hi];rfl
 rw[g] at e a2 a3 a4;constructor
 ·show S[i].2.1.toNat<n;omega
 ·show S[i].2.2.toNat<n;omega
theorem sR {n:Nat}:∀{L:List (Nat×Nat)} {o:List Bool},(∀x∈L,x.1<n/\x.2<n)->∀x∈T.arr L o,x.1<n/\x.2<n
 |[],o,_,x,a=>by simp[T.arr] at a
 |y::L,[],_,x,a=>by simp[T.arr] at a
 |y::L,b::o,h,x,a=>by
  rw[T.arr,List.zipWith_cons_cons] at a;rcases List.mem_cons.1 a with rfl|a
  ·have:=h y (List.mem_cons_self ..)
   cases b
   ·exact⟨this.2,this.1⟩
   ·exact this
  ·exact sR (o:=o) (fun z e=>h z (List.mem_cons_of_mem _ e)) x a
theorem yl (x:Nat×Nat) (A:List (Nat×Nat)) (p:Nat->Bool) (u:Nat):T.dq (x::A) p u=T.dq A p u+if p x.1=true/\x.2=u then 1 else 0:=by
 unfold T.dq;rw[List.countP_cons];simp only[Bool.and_eq_true,decide_eq_true_eq];split<;>omega
theorem ym {n:Nat}:∀(A:List (Nat×Nat)) (L:List Int),L.length=n->(∀x∈A,x.2<n)->(∀u:Nat,u<n->0<=rd L u/\rd L u+A.length<=1000000)->∀u:Nat,u<n->rd ((A.map gz).foldl (fun l x=>l.set x.2.toNat (wrap64 (rd l x.2+1))) L) u=rd L u+T.dq A (fun _=>true) u
 |[],L,_,_,_,u,_=>by simp[T.dq]
 |x::A,L,b,a,hb,u,hu=>by
  have g:=a x (List.mem_cons_self ..);have h:=hb x.2 g;simp only[List.length_cons] at hb h;have hw:wrap64 (rd L (x.2:Nat)+1)=rd L (x.2:Nat)+1:=jm (by omega);rw[List.map_cons,List.foldl_cons];have h1:=ym A (L.set x.2 (rd L (x.2:Nat)+1)) (by rw[List.length_set];exact b) (fun y i=>a y (List.mem_cons_of_mem _ i)) (fun v j=>by
   have:=hb v j;by_cases e:x.2=v
   ·subst e;rw[et (by omega)];omega
   ·rw[eM e];omega) u hu
  show rd ((A.map gz).foldl _ (L.set (x.2:Int).toNat (wrap64 (rd L (x.2:Int)+1)))) u=_
  rw[aD,hw,h1,yl];simp only[true_and];by_cases e:x.2=u
  ·subst e;rw[et (by omega),if_pos rfl];omega
  ·rw[eM e,if_neg e];omega
theorem sS {n v:Nat}:∀(A:List (Nat×Nat)) (L:List Int),L.length=n->(∀x∈A,x.2<n)->(∀u:Nat,u<n-> -1000000<=rd L u-A.length/\rd L u<=1000000)->∀u:Nat,u<n->rd (en v L (A.map gz)) u=rd L u-T.dq A (fun t=>decide (t=v)) u
 |[],L,_,_,_,u,_=>by simp[T.dq,en]
 |x::A,L,j,a,hb,u,hu=>by
  have k:=a x (List.mem_cons_self ..);have l:=hb x.2 k;simp only[List.length_cons] at hb l;have hw:wrap64 (rd L (x.2:Nat)-1)=rd L (x.2:Nat)-1:=jm (by omega);rw[yl];simp only[decide_eq_true_eq];by_cases c:x.1=v
  ·have h1:=sS (v:=v) A (L.set x.2 (rd L (x.2:Nat)-1)) (by rw[List.length_set];exact j) (fun y b=>a y (List.mem_cons_of_mem _ b)) (fun w g=>by
    have:=hb w g;by_cases e:x.2=w
    ·subst e;rw[et (by omega)];omega
    ·rw[eM e];omega) u hu
   have i:en v L ((x::A).map gz)=en v (L.set x.2 (rd L (x.2:Nat)-1)) (A.map gz):=by
    show (A.map gz).foldl _ (if(x.1:Int)=(v:Int) then L.set (x.2:Int).toNat (wrap64 (rd L (x.2:Int)-1)) else L)=_
    rw[if_pos (by omega),aD,hw];rfl
   rw[i,h1];by_cases e:x.2=u
   ·subst e;rw[et (by omega),if_pos ⟨c,rfl⟩];omega
   ·rw[eM e,if_neg (fun h=>e h.2)];omega
  ·have h1:=sS (v:=v) A L j (fun y b=>a y (List.mem_cons_of_mem _ b)) (fun w g=>by have:=hb w g;omega) u hu
   have i:en v L ((x::A).map gz)=en v L (A.map gz):=by
    show (A.map gz).foldl _ (if(x.1:Int)=(v:Int) then L.set (x.2:Int).toNat (wrap64 (rd L (x.2:Int)-1)) else L)=_
    rw[if_neg (by omega)];rfl
   rw[i,h1,if_neg (fun h=>c h.1)];omega
theorem G8 {n:Nat} {A:List (Nat×Nat)} {on:List Nat} {W W':Nat->Int} (h:T.gL n A on W) (e:∀u,u<n->W' u=W u):T.gL n A on W':=⟨h.nd,h.lt,fun u hu=>by rw[e u hu];exact h.w u hu,h.up⟩
section
variable {n:Nat} {A:List (Nat×Nat)} {L0:List Int}
theorem G9 (g:∀x∈A,x.1<n/\x.2<n) (m:A.length<=100000) {W:List Int} {on:List Nat} (a:W.length=n) (hS:T.gL n A on (fun u=>rd W (u:Nat))) {v:Nat} (h:v<n) (i:rd W (v:Nat)=0):
  (en v (W.set v (-1)) (A.map gz)).length=n/\T.gL n A (on++[v]) (fun u=>rd (en v (W.set v (-1)) (A.map gz)) (u:Nat)):=by
 refine⟨by rw[rl,List.length_set,a],G8 (hS.step h i) fun u hu=>?_⟩;have b:∀w:Nat,w<n->rd (W.set v (-1)) (w:Nat)=if w=v then -1 else rd W (w:Nat):=fun w hw=>by
  by_cases e:w=v
  ·subst e;rw[et (by omega),if_pos rfl]
  ·rw[eM (fun k=>e k.symm),if_neg e]
 rw[sS A (W.set v (-1)) (by rw[List.length_set,a]) (fun x j=>(g x j).2) (fun w hw=>by
  rw[b w hw];have h1:=hS.w w hw;have o:=T.pr A (fun t=>decide (t∉on)) w;have p:=T.rK A (fun t=>decide (t∉on)) w;have q: -1<=rd W (w:Nat)/\rd W (w:Nat)<=A.length:=by
   have l:rd W (w:Nat)=if w∈on then -1 else T.dq A (fun t=>decide (t∉on)) w:=h1
   rw[l];split<;>omega
  split<;>omega) u hu,b u hu]
theorem sT (b:∀x∈A,x.1<n/\x.2<n) (g:A.length<=100000) (j:L0.length=n) (k:∀u:Nat,u<n->rd L0 u=T.dq A (fun _=>true) u):∀(i:Nat) (p:List Int×List Int),gv (A.map gz) L0 i=some p->p.1.length=n/\∃on:List Nat,on.length=i/\T.gL n A on (fun u=>rd p.1 (u:Nat))
 |0,p,h=>by injection h with h;subst h;exact⟨j,[],rfl,T.gL.start k⟩
 |i+1,p,h=>by
  obtain⟨r,h1,a⟩:=Option.bind_eq_some_iff.1 h;obtain⟨l,on,m,o⟩:=sT b g j k i r h1;split at a
  ·cases a
  ·rename_i y
   injection a with a
   subst a;rcases rj r.1 0 with⟨e,_⟩|⟨v,z,e2,q,_⟩
   ·omega
   ·rw[e2]
    obtain⟨s,w⟩:=G9 b g l o (v:=v) (by omega) q;exact⟨s,on++[v],by simp[m],w⟩
theorem yn (a:∀x∈A,x.1<n/\x.2<n) (b:A.length<=100000) (g:L0.length=n) (h:∀u:Nat,u<n->rd L0 u=T.dq A (fun _=>true) u) {pos:Nat->Nat} (hp:∀x∈A,pos x.1<pos x.2):∀i:Nat,i<=n->∃p,gv (A.map gz) L0 i=some p
 |0,_=>⟨_,rfl⟩
 |i+1,hi=>by
  obtain⟨r,j⟩:=yn a b g h hp i (by omega);obtain⟨q,on,s,k⟩:=sT a b g h i r j;obtain⟨v,w,l⟩:=k.next (fun x m=>(a x m).1) hp (by omega);have o:¬idxOf r.1 0<0:=by
   rcases rj r.1 0 with⟨_,e⟩|⟨u,_,e,_,_⟩
   ·exact absurd l (e v (by omega))
   ·omega
  refine⟨(en (idxOf r.1 0) (r.1.set (idxOf r.1 0).toNat (-1)) (A.map gz),r.2++[idxOf r.1 0]),?_⟩;rw[gv,j];exact if_neg o
end
theorem pY {n:Nat} {S:List (Nat×Int×Int)} {o:List Bool} (h:fj n S) (a:o.length=S.length) (hS:S.length<=100000) {u:Nat} (hu:u<n):rd (cB n S o) u=T.gw (cM S) o u:=by
 unfold cB fP;rw[yj h a,ym (n:=n) _ _ (by simp) (fun x b=>(sR (yk h) x b).2) (fun v e=>by
  have:rd (List.replicate n 0) (v:Nat)=0:=by simp[rd,aW,List.getElem?_replicate,e]
  rw[this,od a];omega) u hu,T.mB]
 have:rd (List.replicate n 0) (u:Nat)=0:=by simp[rd,aW,List.getElem?_replicate,hu]
 omega
theorem yo {n:Nat} {S:List (Nat×Int×Int)} {o:List Bool} (h:fj n S) (a:o.length=S.length) (hS:S.length<=100000):(gv (dE S o S.length) (cB n S o) n).isSome=true↔∃pos:Nat->Nat,T.eW n pos/\T.iO (cM S) o pos:=by
 have b:=sR (n:=n) (o:=o) (yk h);have g:(T.arr (cM S) o).length<=100000:=by rw[od a];exact hS
 have i:(cB n S o).length=n:=nF _ _;have j:∀u:Nat,u<n->rd (cB n S o) u=T.dq (T.arr (cM S) o) (fun _=>true) u:=fun u hu=>by rw[pY h a hS hu,T.mB]
 rw[yj h a];constructor
 ·intro l
  obtain⟨p,hp⟩:=Option.isSome_iff_exists.1 l;obtain⟨s,on,m,q⟩:=sT b g i j n p hp;obtain⟨pos,k,e⟩:=q.order (fun x r=>(b x r).2) m;exact⟨pos,k,T.rJ.2 e⟩
 ·rintro⟨pos,k,e⟩
  obtain⟨p,hp⟩:=yn b g i j (T.rJ.1 e) n (aI _);rw[hp];rfl
theorem range_one {n q:Nat} (g:q<n):(List.range n).filter (fun v=>decide (v=q))=[q]:=by
 induction n with
 |zero=>omega
 |succ n a=>
  rw[List.range_succ,List.filter_append];by_cases e:q=n
  ·subst e
   have:(List.range q).filter (fun v=>decide (v=q))=[]:=List.filter_eq_nil_iff.2 fun x b=>by
    have:=List.mem_range.1 b;simp;omega
   rw[this];simp
  ·rw[a (by omega)]
   have e2:¬n=q:=fun h=>e h.symm
   simp[e2]
theorem G_ {L:List Int} {n q:Nat} (b:q<n):gJ L n=[(q:Int)]↔∀v:Nat,v<n->(rd L v=0↔v=q):=by
 unfold gJ;constructor
 ·intro h v a
  have hm:∀u:Nat,(u:Int)∈((List.range n).filter fun u:Nat=>decide (rd L u=0)).map (fun u:Nat=>(u:Int))↔u<n/\rd L u=0:=fun u=>by
   rw[List.mem_map];constructor
   ·rintro⟨w,hw,e⟩
    obtain rfl:w=u:=by omega
    rw[List.mem_filter,List.mem_range] at hw;exact⟨hw.1,aA hw.2⟩
   ·rintro⟨h1,g⟩
    exact⟨u,List.mem_filter.2 ⟨List.mem_range.2 h1,aE g⟩,rfl⟩
  rw[h] at hm;constructor
  ·intro i
   have:=(hm v).2 ⟨a,i⟩;rw[List.mem_singleton] at this;omega
  ·rintro rfl
   exact((hm v).1 (List.mem_singleton.2 rfl)).2
 ·intro h
  rw[List.filter_congr (q:=fun v=>decide (v=q)) fun v a=>by
   have:=h v (List.mem_range.1 a);rw[decide_eq_decide];exact this,range_one b]
  rfl
end
end Go.Proofs.YtffdiakgjakngaaGreat.P
namespace Go.Proofs.YtffdiakgjakngaaGreat.T
set_option linter.unusedVariables false
set_option linter.unusedSimpArgs false
set_option maxHeartbeats 8000000
set_option maxRecDepth 100000
def fa:List Bool->Option (List Bool)
 |[]=>none
 |b::l=>match fa l with
  |some l'=>some (b::l')
  |none=>if b=true then none else some (true::List.replicate l.length false)
def fZ:Nat->List (List Bool)
 |0=>[[]]
 |n+1=>(fZ n).map (fun l=>false::l)++(fZ n).map (fun l=>true::l)
theorem sU:∀n,(fZ n).length=2 ^ n
 |0=>rfl
 |n+1=>by simp only[fZ,List.length_append,List.length_map,sU n,Nat.pow_succ];omega
theorem pZ:∀{n:Nat} {o:List Bool},o∈fZ n↔o.length=n
 |0,o=>by simp[fZ]
 |n+1,o=>by
  simp only[fZ,List.mem_append,List.mem_map];constructor
  ·rintro(⟨l,a,rfl⟩|⟨l,a,rfl⟩)
   ·simp[pZ.1 a]
   ·simp[pZ.1 a]
  ·intro h
   cases o with
   |nil=>simp at h
   |cons b l=>
    have a:l∈fZ n:=pZ.2 (by simpa using h);cases b with
    |true=>exact .inr ⟨l,a,rfl⟩
    |false=>exact .inl ⟨l,a,rfl⟩
theorem sV:∀n,(fZ n).Nodup
 |0=>by simp[fZ]
 |n+1=>by
  unfold fZ;refine List.nodup_append.2 ⟨?_,?_,?_⟩
  ·exact List.Pairwise.map (R:=fun a b=>a≠b) _ (fun a b h e=>h (by injection e)) (sV n)
  ·exact List.Pairwise.map (R:=fun a b=>a≠b) _ (fun a b h e=>h (by injection e)) (sV n)
  ·intro a g b hb e
   obtain⟨x, -,rfl⟩:=List.mem_map.1 g;obtain⟨y, -,rfl⟩:=List.mem_map.1 hb;cases e
inductive fs:List Bool->List (List Bool)->Prop
 |last {o:List Bool} (h:fa o=none):fs o [o]
 |step {o a:List Bool} {xs:List (List Bool)} (h:fa o=some a) (r:fs a xs):fs o (o::xs)
theorem yp:∀{o a:List Bool},fa o=some a->a.length=o.length
 |[],a,h=>by simp[fa] at h
 |b::l,a,h=>by
  unfold fa at h;cases e:fa l with
  |some l'=>rw[e] at h;injection h with h;subst h;simp[yp e]
  |none=>
   rw[e] at h;cases b with
   |true=>simp at h
   |false=>simp at h;subst h;simp
theorem sW {b:Bool} {l l':List Bool} (h:fa l=some l'):fa (b::l)=some (b::l'):=by unfold fa;rw[h]
theorem yq {l:List Bool} (h:fa l=none):fa (true::l)=none:=by unfold fa;rw[h];rfl
theorem yr {l:List Bool} (h:fa l=none):fa (false::l)=some (true::List.replicate l.length false):=by unfold fa;rw[h];rfl
theorem fs.G' {o:List Bool} {xs:List (List Bool)} (h:fs o xs):fs (true::o) (xs.map fun l=>true::l):=by
 induction h with
 |last h=>exact .last (yq h)
 |step h _ a=>exact .step (sW h) a
theorem fs.Hc {o:List Bool} {xs ys:List (List Bool)} (h:fs o xs):∀{m:Nat},o.length=m->fs (true::List.replicate m false) ys->fs (false::o) ((xs.map fun l=>false::l)++ys):=by
 induction h with
 |last h=>intro m hm a;subst hm;exact .step (yr h) a
 |step h _ b=>intro m hm a;exact .step (sW h) (b (by rw[yp h,hm]) a)
theorem sX:∀n,fs (List.replicate n false) (fZ n)
 |0=>.last rfl
 |n+1=>(sX n).Hc (by simp) (sX n).G'
theorem sY:∀m,fa (List.replicate m true)=none
 |0=>rfl
 |m+1=>yq (sY m)
theorem yt (m:Nat):∀p:List Bool,fa (p++false::List.replicate m true)=some (p++true::List.replicate m false)
 |[]=>by
  have h:=yr (sY m);rw[List.length_replicate] at h;exact h
 |b::p=>sW (yt m p)
theorem fs.len {o:List Bool} {xs:List (List Bool)} (h:fs o xs):0<xs.length:=by cases h<;>simp
theorem fs.next {o b:List Bool} {xs:List (List Bool)} (h:fs o xs) (a:fa o=some b):∃ys,xs=o::ys/\fs b ys:=by
 cases h with
 |last h=>rw[h] at a;cases a
 |step h r=>rw[h] at a;injection a with a;subst a;exact⟨_,rfl,r⟩
theorem fs.stop {o:List Bool} {xs:List (List Bool)} (h:fs o xs) (a:fa o=none):xs=[o]:=by
 cases h with
 |last h=>rfl
 |step h r=>rw[h] at a;cases a
end Go.Proofs.YtffdiakgjakngaaGreat.T
namespace Go.Proofs.YtffdiakgjakngaaGreat.P
open Go.RowKit Go.Proofs.YtffdiakgjakngaaGreatW.PrintWords Go.Proofs.YtffdiakgjakngaaGreatW.PrintLast Go.Proofs.YtffdiakgjakngaaGreatW.PrintMore
set_option linter.unusedVariables false
set_option linter.unusedSimpArgs false
set_option maxHeartbeats 8000000
set_option maxRecDepth 100000
section
attribute [local go_sem] Oper.semAt_some
def gZ (n:Nat) (S:List (Nat×Int×Int)) (q:Int) (o:List Bool):Bool:=(gv (dE S o S.length) (cB n S o) n).isSome&&decide (gJ (cB n S o) n=[q])
def uniq (n:Nat) (S:List (Nat×Int×Int)) (q:Int):List (List Bool):=(T.fZ S.length).filter (gZ n S q)
theorem Hd (W:World) (t:TypeId) (x:Int):Kd.C (Kd.int .i64) (W.alloc (.cells #[.int .i64 x] t)) (some ⟨W.heap.size,0,none⟩) [x].length [x]:=by
 have a:=a6 W (.cells #[.int .i64 x] t);refine⟨rfl,by simp,fun _=>⟨_,rfl,fun j p hp=>?_⟩⟩;match j,hp with
 |0,hp=>
  obtain rfl:x=p:=by simpa using hp
  refine⟨[.int .i64 x],rfl,rfl,fun i u hu=>?_⟩;match i,hu with
  |0,hu=>
   obtain rfl:Value.int .i64 x=u:=by simpa using hu
   rw[add_plain];exact(ah a 0).trans rfl
  |i+1,hu=>simp at hu
 |j+1,hp=>simp at hp
theorem yu {b:Nat} (W:World) (t:TypeId) (x:Int) (h:W.heap.size=b):Kd.C (Kd.int .i64) (W.alloc (.cells #[.int .i64 x] t)) (some ⟨b,0,none⟩) [x].length [x]:=by subst h;exact Hd W t x
section
variable {w w':World} {bg bq c0 m:Nat} {n q:Int} {A0:Option Addr}
theorem UQ.mk (a:w'.heap[bg]? =some (.cells #[.int .i64 n,.slice A0 m c0] 24 (0,0))) (b:w'.heap[bq]? =some (.cells #[.int .i64 q] 3 (0,0))) (hb:Below w.heap.size w w'):
  w'.heap[bg]? =some (.cells #[.int .i64 n,.slice A0 m c0] 24 (0,0))/\w'.heap[bq]? =some (.cells #[.int .i64 q] 3 (0,0))/\w'.cell? ⟨bg,0,none⟩=some (.int .i64 n)/\w'.cell? ⟨bg,1,none⟩=some (.slice A0 m c0)/\w'.cell? ⟨bq,0,none⟩=some (.int .i64 q)/\Below w.heap.size w w':=
 ⟨a,b,(ah a 0).trans rfl,(ah a 1).trans rfl,(ah b 0).trans rfl,hb⟩
theorem UQ.alloc (b:w'.heap[bg]? =some (.cells #[.int .i64 n,.slice A0 m c0] 24 (0,0))) (e:w'.heap[bq]? =some (.cells #[.int .i64 q] 3 (0,0))) (hb:Below w.heap.size w w') (a:Obj):
  (w'.alloc a).heap[bg]? =some (.cells #[.int .i64 n,.slice A0 m c0] 24 (0,0))/\(w'.alloc a).heap[bq]? =some (.cells #[.int .i64 q] 3 (0,0))/\(w'.alloc a).cell? ⟨bg,0,none⟩=some (.int .i64 n)/\(w'.alloc a).cell? ⟨bg,1,none⟩=some (.slice A0 m c0)/\(w'.alloc a).cell? ⟨bq,0,none⟩=some (.int .i64 q)/\Below w.heap.size w (w'.alloc a):=
 UQ.mk (aq b a) (aq e a) (ai hb a)
theorem UQ.step {w2:World} (b:w'.heap[bg]? =some (.cells #[.int .i64 n,.slice A0 m c0] 24 (0,0))) (e:w'.heap[bq]? =some (.cells #[.int .i64 q] 3 (0,0))) (hb:Below w.heap.size w w') (a:Below w'.heap.size w' w2):
  w2.heap[bg]? =some (.cells #[.int .i64 n,.slice A0 m c0] 24 (0,0))/\w2.heap[bq]? =some (.cells #[.int .i64 q] 3 (0,0))/\w2.cell? ⟨bg,0,none⟩=some (.int .i64 n)/\w2.cell? ⟨bg,1,none⟩=some (.slice A0 m c0)/\w2.cell? ⟨bq,0,none⟩=some (.int .i64 q)/\Below w.heap.size w w2:=
 UQ.mk (az b a) (az e a) (aQ hb a)
end
theorem He (bg bq k n:Nat) (A0:Option Addr) (c0:Nat) (E:List S83) (i:Option Addr) (co:Nat) (o:List Bool) (S:List (Nat×Int×Int)) (q:Int) (w0 w:World) (m:Kd.C aM w0 A0 E.length E) (p:E.length<=c0) (r:Kd.bool.C w i o.length o) (hn:n<=1000) (s:a7.f k n E=some 0) (u:dh E=true) (hS:bu E E.length=S) (v:o.length=S.length) (x:S.length<=1000000) (y:fj n S)
  (hb:Below w0.heap.size w0 w) (j:w.heap[bg]? =some (.cells #[.int .i64 n,.slice A0 E.length c0] 24 (0,0))) (F:w.heap[bq]? =some (.cells #[.int .i64 q] 3 (0,0))):
  Calls Tryz.prog 66 #[.slice i o.length co,.pointer (some ⟨bg,0,none⟩),.pointer (some ⟨bq,0,none⟩)] w fun e w'=>e= .returned (.bool (gZ n S q o))/\Below w.heap.size w w':=by
 unfold gZ;have hu:=Tryz.underlying24;have l:Aside0 (∀W,Below w.heap.size w W->_):=⟨fun W g=>Dx k n A0 c0 E i co o S W (Kd.ax m (aQ hb g)) p (Kd.ax r g) hn s u hS v x y⟩;have G:Aside0 (∀W,Below w.heap.size w W->_):=⟨fun W g=>Dz k n A0 c0 E i co o S W (Kd.ax m (aQ hb g)) p (Kd.ax r g) hn s u hS v x y⟩;have z:=zA (vM (cB n S o) n);have H:=zA j;have I:=zA F;have N:w.cell? ⟨bg,0,none⟩=some (.int .i64 n):=(ah j 0).trans rfl;have O:w.cell? ⟨bg,1,none⟩=some (.slice A0 E.length c0):=(ah j 1).trans rfl;clear m r s u hS v x y hb j F p;generalize gJ (cB n S o) n=Z at G z⊢;generalize gv (dE S o S.length) (cB n S o) n=R at l⊢;have P:Aside0 (Z.length<=1000000):=⟨Nat.le_trans z.out (by omega)⟩;clear z;obtain⟨ok,J⟩:∃b:Bool,b=R.isSome:=⟨_,rfl⟩;rw[<-J] at l⊢;clear J;go_enter Tryz.func66,Tryz.ntmps66
 go_wp2_with (go_at_call 67;refine(l.out _ (aj _ _)).mono ?_;rintro e w3 ⟨v3,rfl,h,a⟩;have K:=zA a;have B:=zA (az H.out a);have L:=zA (az I.out a);clear h a)
 clear N O l H I;cases ok with
 |false=>
  go_quiet (fail)
  go_wp2;go_ret;exact⟨rfl,bU K.out _⟩
 |true=>
  have X:w3.cell? ⟨bg,0,none⟩=some (.int .i64 n):=(ah B.out 0).trans rfl;have Y:w3.cell? ⟨bg,1,none⟩=some (.slice A0 E.length c0):=(ah B.out 1).trans rfl;have y2:w3.cell? ⟨bq,0,none⟩=some (.int .i64 q):=(ah L.out 0).trans rfl;have EQ:Aside0 (∀{D:Option Addr} {c4:Nat} {M:Option Addr} {Q:Nat} (W:World),Kd.C (Kd.int .i64) W D Z.length Z->Kd.C (Kd.int .i64) W M [q].length [q]->Calls Tryz.prog 68 #[.slice D Z.length c4,.slice M 1 Q] W fun e w'=>e= .returned (.bool (decide (Z=[q])))/\Below W.heap.size W w'):=⟨fun W h1 T=>Du _ _ Z _ _ [q] W h1 T P.out (by simp)⟩;go_region_held3 (fun w'=>w'.heap[bg]? =some (.cells #[.int .i64 n,.slice A0 E.length c0] 24 (0,0))/\w'.heap[bq]? =some (.cells #[.int .i64 q] 3 (0,0))/\w'.cell? ⟨bg,0,none⟩=some (.int .i64 n)/\w'.cell? ⟨bg,1,none⟩=some (.slice A0 E.length c0)/\w'.cell? ⟨bq,0,none⟩=some (.int .i64 q)/\Below w.heap.size w w')
   (first
    |exact UQ.mk (ff B.out) (ff L.out) (bY K.out)
    |((try go_split_ands);refine⟨by assumption,by assumption,by assumption,by assumption,by assumption,by assumption⟩)
    |((try go_split_ands);exact UQ.alloc (by assumption) (by assumption) (by assumption) _)
    |((try go_split_ands);exact UQ.step (by assumption) (by assumption) (by assumption) (by assumption))
    |fail)
   (first
    |(go_at_call 69;refine(G.out _ (by go_split_ands;assumption)).mono ?_;rintro e w4 ⟨v4,rfl,h,a⟩;obtain⟨D,c4,rfl⟩:=Kd.bh h)
    |(go_at_call 68;first
      |(with_reducible refine(EQ.out _ (Kd.aN h).2.2 (Kd.ax (Kd.eS (yu _ _ _ rfl)) a)).mono ?_;rintro e U ⟨rfl,V⟩)
      |(with_reducible refine(EQ.out _ (Kd.bC (Kd.aN h).2.2 _) (yu _ _ _ rfl)).mono ?_;rintro e U ⟨rfl,V⟩)))
  all_goals rename_i hHeld
  all_goals go_wp2
  all_goals go_ret
  all_goals exact⟨rfl,by go_split_ands;assumption⟩
end
section
theorem mK {p l:List Int} {v:Nat} (h:v<p.length):rd (p++l) v=rd p v:=by simp[rd,aW,List.getElem?_append_left h]
theorem yv (p:List Int) (x:Int):rd (p++[x]) p.length=x:=by simp[rd,aW]
def Lex (a b:List Int):Prop:=∃i:Nat,i<a.length/\(∀j:Nat,j<i->rd a j=rd b j)/\rd a i<rd b i
theorem Lex.irrefl (a:List Int):¬Lex a a:=fun⟨i,_,_,h⟩=>by omega
theorem Lex.trans {a b c:List Int} (h:Lex a b) (g:Lex b c) (m:a.length=b.length):Lex a c:=by
 obtain⟨i,i1,i2,i3⟩:=h;obtain⟨j,n,j2,l⟩:=g;by_cases e:i<j
 ·exact⟨i,i1,fun k hk=>(i2 k hk).trans (j2 k (by omega)),by rw[<-j2 i e];exact i3⟩
 ·by_cases e2:j<i
  ·exact⟨j,by omega,fun k hk=>(i2 k (by omega)).trans (j2 k hk),by rw[i2 j e2];exact l⟩
  ·obtain rfl:i=j:=by omega
   exact⟨i,i1,fun k hk=>(i2 k hk).trans (j2 k hk),by omega⟩
theorem yw (g:Nat->Nat):∀m,(dX g m).Pairwise Lex
 |0=>List.pairwise_singleton _ _
 |m+1=>by
  have h:=yw g m;simp only[dX,kF];rw[List.pairwise_flatMap];constructor
  ·intro p hp
   rw[List.pairwise_map];refine List.Pairwise.imp ?_ (List.pairwise_lt_range (n:=g m+1));intro x y v;refine⟨p.length,by simp,fun j e=>by rw[mK e,mK e],?_⟩;rw[yv,yv];omega
  ·refine List.Pairwise.imp_of_mem ?_ h
   intro p r hp k l x o y q;obtain⟨a,_,rfl⟩:=List.mem_map.1 o;obtain⟨b,_,rfl⟩:=List.mem_map.1 q;have l1:=mr _ _ _ hp;have l2:=mr _ _ _ k;obtain⟨i,h1,s,u⟩:=l;refine⟨i,by simp;omega,fun j e=>?_,?_⟩
   ·rw[mK (by omega),mK (by omega)];exact s j e
   ·rw[mK (by omega),mK (by omega)];exact u
theorem yx {a b:List Int} (e:a.length=b.length) (h:∀v:Nat,v<a.length->rd a v=rd b v):a=b:=by
 apply List.ext_getElem e
 intro i h1 g;have:=h i h1;simpa [rd,aW,bp h1,bp g] using this
theorem yy {n:Nat}:∀{l l':List (List Int)},l.Pairwise Lex->l'.Pairwise Lex->(∀x∈l,x.length=n)->(∀x,x∈l↔x∈l')->l=l'
 |[],[],_,_,_,_=>rfl
 |[],b::l',_,_,_,h=>absurd ((h b).2 (List.mem_cons_self ..)) (by simp)
 |a::l,[],_,_,_,h=>absurd ((h a).1 (List.mem_cons_self ..)) (by simp)
 |a::l,b::l',h1,o,hn,h=>by
  obtain⟨i,p⟩:=List.pairwise_cons.1 h1;obtain⟨j,q⟩:=List.pairwise_cons.1 o;have r:a=b:=Classical.byContradiction fun k=>by
   have m:b∈l:=by
    rcases List.mem_cons.1 ((h b).2 (List.mem_cons_self ..)) with e|e
    ·exact absurd e.symm k
    ·exact e
   have s:a∈l':=by
    rcases List.mem_cons.1 ((h a).1 (List.mem_cons_self ..)) with e|e
    ·exact absurd e k
    ·exact e
   exact Lex.irrefl a ((i b m).trans (j a s) (by rw[hn a (List.mem_cons_self ..),hn b (List.mem_cons_of_mem _ m)]))
  subst r;have u:l=l':=yy p q (fun x g=>hn x (List.mem_cons_of_mem _ g)) fun x=>by
   constructor
   ·intro g
    rcases List.mem_cons.1 ((h x).1 (List.mem_cons_of_mem _ g)) with e|e
    ·subst e;exact absurd (i _ g) (Lex.irrefl _)
    ·exact e
   ·intro g
    rcases List.mem_cons.1 ((h x).2 (List.mem_cons_of_mem _ g)) with e|e
    ·subst e;exact absurd (j _ g) (Lex.irrefl _)
    ·exact e
  rw[u]
theorem p4:∀{a b:List Int},a.length=b.length->a≠b->Lex a b\/Lex b a
 |[],[],_,h=>absurd rfl h
 |x::a,y::b,n,h=>by
  have e:∀(z:Int) (l:List Int) (u:Nat),rd (z::l) ((u+1:Nat):Int)=rd l (u:Int):=fun z l u=>by simp only[rd,aD,List.getD_cons_succ]
  have g:∀(z:Int) (l:List Int),rd (z::l) ((0:Nat):Int)=z:=fun z l=>rfl
  have up:∀{p r:List Int} {z:Int},Lex p r->Lex (z::p) (z::r):=fun {p r z} ⟨i,i1,i2,i3⟩=>⟨i+1,by simp;omega,fun j m=>by
   cases j with
   |zero=>rfl
   |succ j=>rw[e,e];exact i2 j (by omega),by rw[e,e];exact i3⟩
  rcases Int.lt_trichotomy x y with c|c|c
  ·exact .inl ⟨0,by simp,fun j m=>by omega,by rw[g,g];exact c⟩
  ·subst c
   rcases p4 (a:=a) (b:=b) (by simpa using n) (fun k=>h (by rw[k])) with k|k
   ·exact .inl (up k)
   ·exact .inr (up k)
  ·exact .inr ⟨0,by simp,fun j m=>by omega,by rw[g,g];exact c⟩
namespace Small
variable {n q:Nat} {E:List S83}
theorem Hh (h:Small n q E):(dZ n E q).Pairwise Lex:=by
 rw[h.pF];exact(yw _ _).filter _
theorem yz (h:Small n q E) (x:Int):((fY n q E).map fun c=>c.set q x).Pairwise Lex:=by
 rw[List.pairwise_map];refine List.Pairwise.imp_of_mem ?_ (h.Hh.filter _);intro a b k hb l;have o:=h.q;obtain⟨p,a2,a3,_⟩:=(h.iQ a).1 (List.mem_filter.1 k).1;obtain⟨r,s,b3,_⟩:=(h.iQ b).1 (List.mem_filter.1 hb).1;obtain⟨i,i1,i2,i3⟩:=l;have g:q≠i:=fun e=>by subst e;omega
 refine⟨i,by rw[List.length_set];exact i1,fun j m=>?_,?_⟩
 ·by_cases e:q=j
  ·subst e;rw[et (by omega),et (by omega)]
  ·rw[eM e,eM e];exact i2 j m
 ·rw[eM g,eM g];exact i3
end Small
end
theorem Hi {i:Nat} (h:(i:Int)<9223372036854775807):wrap64 ((i:Int)+1)=((i+1:Nat):Int):=by unfold wrap64;omega
theorem Hk (N:Int) (E:List S83) (m:E.length<=9223372036854775807) (i:Nat) (hi:i<E.length):Ev (fun k=>fB.f k N E i) (dY N (jn E i) (jo E i) (ae E i)):=by
 unfold fB.f;simp only[if_pos (show (0:Int)<=(i:Int) by omega),if_pos (show (i:Int)<(E.length:Int) by omega),Ec,Option.bind_some];generalize n:ae E i=x;have key:∀b:Bool,b= !bQ N x->Ev (fun k=>fB.j0 k i b N E x.f0 x.f1 x.f2) (dY N (jn E i) (jo E i) x):=by
  rintro b rfl;refine Ev.of_succ ?_;simp only[fB.j0];cases h:bQ N x with
  |false=>simp[dY,h];exact Ev.const _
  |true=>
   simp only[Bool.not_true,Bool.false_eq_true,if_false];have o:0<=x.f0:=by simp[bQ] at h;omega
   by_cases l:x.f0>x.f1
   ·have e:dY N (jn E i) (jo E i) x=9:=by simp[dY,h,l]
    rw[e];simp only[if_pos l];exact Ev.const _
   ·simp only[if_neg l]
    by_cases a:i=0
    ·subst a
     have e:dY N (jn E 0) (jo E 0) x=0:=by
      unfold dY jn jo;rw[h,if_neg (by decide),if_neg (by simp;omega)]
     rw[e];simp;exact Ev.const _
    ·simp only[if_pos (show (i:Int)>0 by omega),show wrap64 ((i:Int)-1)=((i-1:Nat):Int) by unfold wrap64;omega,if_pos (show (0:Int)<=((i-1:Nat):Int) by omega),if_pos (show ((i-1:Nat):Int)<(E.length:Int) by omega)]
     unfold jn jo;rw[if_neg a,if_neg a];generalize ae E (i-1:Nat)=y;unfold dY;rw[h,if_neg (show ¬(true=false) by decide)];by_cases h1:x.f0<y.f0
     ·simp only[if_pos h1];rw[if_pos (.inl h1)];exact Ev.const _
     ·simp only[if_neg h1]
      by_cases g:x.f0=y.f0
      ·simp only[if_pos g]
       by_cases j:x.f1<=y.f1
       ·simp only[if_pos j];rw[if_pos (.inr (.inl ⟨g,j⟩))];exact Ev.const _
       ·simp only[if_neg j];rw[if_neg (by omega)];exact Ev.const _
      ·simp only[if_neg g];rw[if_neg (by omega)];exact Ev.const _
 by_cases a:0<=x.f0/\x.f0<N
 ·simp only[aE a,if_true]
  by_cases h1:0<=x.f1/\x.f1<N
  ·simp only[aE h1,if_true]
   by_cases g:x.f2<1
   ·simp only[if_pos g]
    exact key true (by simp[bQ];omega)
   ·simp only[if_neg g]
    exact key _ (by unfold bQ;by_cases j:x.f2>50<;>simp[j]<;>omega)
  ·simp only[ba h1,Bool.false_eq_true,if_false]
   exact key true (by simp[bQ];omega)
 ·simp only[ba a,Bool.false_eq_true,if_false]
  exact key true (by simp[bQ];omega)
theorem yA (N:Int) (E:List S83) (a:E.length<=9223372036854775807):∀(m i:Nat),i+m=E.length->Ev (fun k=>dw.l0 k i N E) (iy N (jn E i) (jo E i) (E.drop i))
 |0,i,hi=>by
  refine Ev.of_succ ?_;simp only[dw.l0,if_neg (show ¬((i:Int)<(E.length:Int)) by omega)];rw[List.drop_eq_nil_of_le (by omega)];exact Ev.const _
 |m+1,i,hi=>by
  have b:=yA N E a m (i+1) (by omega);refine Ev.of_succ ?_;simp only[dw.l0,if_pos (show (i:Int)<(E.length:Int) by omega)];rw[nM (by omega),iy];refine Ev.bind (Hk N E a i (by omega)) ?_;have e:jn E (i+1)=(ae E i).f0:=by simp[jn]
  have g:jo E (i+1)=(ae E i).f1:=by simp[jo]
  rw[e,g] at b;by_cases h:dY N (jn E i) (jo E i) (ae E i)=0
  ·simp only[if_pos h,Hi (show (i:Int)<9223372036854775807 by omega)];exact b
  ·simp only[if_neg h];exact Ev.const _
theorem yB (N:Int) (E:List S83) (a:E.length<=9223372036854775807):Ev (fun k=>dw.f k N E) (cL N E):=by
 unfold dw.f cL;have key:∀b:Bool,b=decide (N<1\/N>12)->Ev (fun k=>dw.j0 k b N E) (if N<1\/N>12 then 2 else iy N (-1) (-1) E):=by
  rintro b rfl;refine Ev.of_succ ?_;simp only[dw.j0];by_cases h:N<1\/N>12
  ·simp[h];exact Ev.const _
  ·simp only[ba h,Bool.false_eq_true,if_false,if_neg h]
   have:=yA N E a E.length 0 (by omega);simpa [jn,jo] using this
 by_cases h:N<1
 ·simp only[if_pos h];exact key true (by simp[h])
 ·simp only[if_neg h];exact key _ (by simp[h])
theorem Hl {n:Nat} {t:Nat->Nat->Int} (i:T.Wt n t) (hn:0<n) {D:Nat->Int} (hw:T.cn n t D) {L:Int} (h1:∀v,v<n->∀k,T.cu n t (fun u=>D u-T.one v u) k->L<=k+1) (g:L=T.sN D n\/∃v,v<n/\∃k,T.cu n t (fun u=>D u-T.one v u) k/\L=k+1):T.cu n t D L:=by
 obtain⟨r,h⟩:=T.j7 i hn D;obtain⟨a,v,m,b⟩:=T.DZ i hn hw h;obtain⟨j,l⟩:=T.j7 i hn (fun u=>D u-T.one v u);have p:=b j l;have e2:=h1 v m j l;have o:0<=r:=by
  have:=h.1;by_cases e:r= -1
  ·exact absurd hw ((T.cu.mA hn h).1 e)
  ·omega
 have q:r<=L:=by
  rcases g with g|⟨u,hu,k,hk,g⟩
  ·rw[g];exact h.rH i hn o
  ·rw[g];exact a u hu k hk
 have:r=L:=by omega
 rw[<-this];exact h
theorem yC {n:Nat} {t:Nat->Nat->Int} (b:T.Wt n t) (hn:0<n) {D:Nat->Int} (hw:¬T.cn n t D):T.cu n t D (-1):=by
 obtain⟨r,a⟩:=T.j7 b hn D;have:=(T.cu.mA hn a).2 hw;rw[<-this];exact a
theorem Hm {n:Nat} {t:Nat->Nat->Int} (a:T.Wt n t) (e:T.dS n t) (hn:0<n) {g:Int} (h:T.ep n t g) {D:Nat->Int} (hd:2*g-2<T.sN D n):T.cu n t D (T.sN D n-g):=by
 obtain⟨r,b⟩:=T.j7 a hn D;have:=T.D0 a e hn h hd b;rw[<-this];exact b
def Rk (n:Nat) (t:Nat->Nat->Int) (d:List Int) (r:Int):Prop:=T.cu n t (fun v=>rd d (v:Nat)) r
theorem sZ {n:Nat} {t:Nat->Nat->Int} {D D':Nat->Int} (h:∀v,v<n->D' v=D v) {r:Int} (a:T.cu n t D r):T.cu n t D' r:=a.fQ (T.bT.of_eq h)
theorem Hn {c:List Int} {n v:Nat} (a:c.length=n) (b:v<n):∀u,u<n->rd (c.set v (rd c v-1)) (u:Nat)=rd c u-T.one v u:=fun u hu=>by
 unfold T.one;by_cases e:u=v
 ·subst e;rw[kf _ _ _ (by omega),if_pos rfl]
 ·rw[ju _ _ _ _ (fun k=>e k.symm),if_neg e];omega
theorem Ho {c:List Int} {v:Nat} (a:v<c.length) (x:Int):(c.set v x).set v (rd c v)=c:=by
 rw[List.set_set];refine List.ext_getElem (by simp) fun i h1 b=>?_
 rw[List.getElem_set];split
 ·rename_i e;subst e;simp[rd,aW,bp a]
 ·rfl
def jO (c:List Int):List Int:=c++List.replicate (12-c.length) 0
theorem Hp {c:List Int} (h:c.length<=12):(jO c).length=12:=by simp[jO];omega
def kj (n:Nat) (t:Nat->Nat->Int) (g:Int) (l:List Int) (x:Int):Prop:=∃c:List Int,c.length=n/\l=jO c/\Rk n t c x/\(∀v:Nat,v<n->0<=rd c v)/\(∀v:Nat,v<n->v≠0->rd c v<T.val n t v)/\T.sN (fun v=>rd c (v:Nat)) n<=2*g-2
theorem Hq {n:Nat} {a b:List Int} (e:a.length=n) (hb:b.length=n) (h:jO a=jO b):a=b:=by
 unfold jO at h;rw[e,hb] at h;exact List.append_cancel_right h
theorem s6 {α:Type} [DecidableEq α]:∀{a L:List α},a.Pairwise (· ≠ ·)->(∀x∈a,x∈L)->a.length<=L.length
 |[],_,_,_=>Nat.zero_le _
 |x::a,L,h,hm=>by
  rw[List.pairwise_cons] at h;have b:=hm x (List.mem_cons_self ..);have h1:=s6 (L:=L.erase x) h.2 (fun y g=>(List.mem_erase_of_ne (fun e=>h.1 y g e.symm)).2 (hm y (List.mem_cons_of_mem _ g)));have i:=List.length_erase_of_mem b;have j:=List.length_pos_of_mem b;rw[List.length_cons];omega
def lT (B:Nat->Nat):Nat->List (List Int)
 |0=>[[]]
 |n+1=>(lT B n).flatMap fun c=>(List.range (B n)).map fun x:Nat=>c++[(x:Int)]
def iV (B:Nat->Nat):Nat->Nat
 |0=>1
 |n+1=>iV B n*B n
theorem yD {α β:Type} {f:α->List β} {m:Nat}:∀{l:List α},(∀x∈l,(f x).length=m)->(l.flatMap f).length=l.length*m
 |[],_=>by simp
 |x::l,h=>by
  rw[List.flatMap_cons,List.length_append,h x (List.mem_cons_self ..),yD (fun y a=>h y (List.mem_cons_of_mem _ a)),List.length_cons,Nat.succ_mul,Nat.add_comm]
theorem yE (B:Nat->Nat):∀n,(lT B n).length=iV B n
 |0=>rfl
 |n+1=>by
  rw[lT,yD (m:=B n) (fun c _=>by simp),yE B n];rfl
theorem yF (B:Nat->Nat) (f:Nat->Int):∀n,(∀v,v<n->0<=f v/\f v<B v)->(List.range n).map f∈lT B n
 |0,_=>by simp[lT]
 |n+1,h=>by
  rw[lT,List.mem_flatMap];refine⟨(List.range n).map f,yF B f n (fun v a=>h v (by omega)),List.mem_map.2 ⟨(f n).toNat,List.mem_range.2 ?_,?_⟩⟩
  ·have:=h n (by omega)
   omega
  ·have:=h n (by omega)
   rw[List.range_succ,List.map_append,Int.toNat_of_nonneg this.1];rfl
theorem Hu:∀x:Nat,x<19->x ^ 3<=3 ^ x:=by decide
def g_ (n:Nat) (t:Nat->Nat->Int) (v:Nat):Nat:=if v=0 then 17 else(T.val n t v).toNat
theorem Hv {n:Nat} {t:Nat->Nat->Int} (b:∀v,v<n->0<=T.val n t v) (o:T.sN (T.val n t) n<=18):∀m,m<=n->0<=T.sN (fun v=>if v=0 then 0 else T.val n t v) m/\T.sN (fun v=>if v=0 then 0 else T.val n t v) m<=18/\iV (g_ n t) m ^ 3<=17 ^ 3*3 ^ (T.sN (fun v=>if v=0 then 0 else T.val n t v) m).toNat/\(m=0->iV (g_ n t) m ^ 3<=1):=by
 have hle:∀m,m<=n->T.sN (fun v=>if v=0 then 0 else T.val n t v) m<=T.sN (T.val n t) m/\T.sN (T.val n t) m<=18:=by
  intro m hm;refine⟨T.cZ fun v p=>by have:=b v (by omega);show (if v=0 then 0 else T.val n t v)<=_;split<;>omega,?_⟩;have key:∀k,m+k<=n->T.sN (T.val n t) m<=T.sN (T.val n t) (m+k):=by
   intro k;induction k with
   |zero=>intro _;exact Int.le_refl _
   |succ k g=>
    intro hk;have:=g (by omega);show _<=T.sN (T.val n t) (m+k)+T.val n t (m+k)
    have:=b (m+k) (by omega);omega
  have:=key (n-m) (by omega);rw[show m+(n-m)=n by omega] at this;omega
 intro m;induction m with
 |zero=>intro _;exact⟨by simp[T.sN],by simp[T.sN],by simp[T.sN,iV],fun _=>by simp[iV]⟩
 |succ m g=>
  intro hm;obtain⟨i1,i2,i3,i4⟩:=g (by omega);have j:=(hle (m+1) hm);have hb:=b m (by omega);have e:T.sN (fun v=>if v=0 then 0 else T.val n t v) (m+1)=T.sN (fun v=>if v=0 then 0 else T.val n t v) m+(if m=0 then 0 else T.val n t m):=rfl;refine⟨by rw[e];split<;>omega,by omega,?_,fun h=>by omega⟩;show (iV (g_ n t) m*g_ n t m) ^ 3<=_
  rw[Nat.mul_pow];by_cases a:m=0
  ·have h1:=i4 a
   have i:g_ n t m=17:=if_pos a;rw[i];have l:1<=3 ^ (T.sN (fun v=>if v=0 then 0 else T.val n t v) (m+1)).toNat:=Nat.pow_pos (by decide);calc iV (g_ n t) m ^ 3*17 ^ 3<=1*17 ^ 3:=Nat.mul_le_mul_right _ h1
    _=17 ^ 3*1:=by simp
    _<=_:=Nat.mul_le_mul_left _ l
  ·have i:g_ n t m=(T.val n t m).toNat:=if_neg a
   rw[e,if_neg a] at j;rw[e,if_neg a,i,Int.toNat_add i1 hb,Nat.pow_add,<-Nat.mul_assoc];exact Nat.mul_le_mul i3 (Hu _ (by omega))
theorem Hw {n:Nat} {t:Nat->Nat->Int} (a:∀v,v<n->0<=T.val n t v) (b:T.sN (T.val n t) n<=18):iV (g_ n t) n<16384:=by
 obtain⟨h1,l,e, -⟩:=Hv a b n (aI n);have g:3 ^ (T.sN (fun v=>if v=0 then 0 else T.val n t v) n).toNat<=3 ^ 18:=Nat.pow_le_pow_right (by decide) (by omega);have i:iV (g_ n t) n ^ 3<=17 ^ 3*3 ^ 18:=Nat.le_trans e (Nat.mul_le_mul_left _ g);rcases Nat.lt_or_ge (iV (g_ n t) n) 16384 with h|h
 ·exact h
 ·have j:16384 ^ 3<=iV (g_ n t) n ^ 3:=Nat.pow_le_pow_left h 3
  have k:=Nat.le_trans j i;exact absurd k (by decide)
theorem Hx {c:List Int}:(List.range c.length).map (fun v:Nat=>rd c (v:Int))=c:=by
 refine List.ext_getElem (by simp) fun i h1 a=>?_
 simp[rd,aW,bp a]
theorem Hy {n:Nat} {t:Nat->Nat->Int} (k:T.Wt n t) (hn:0<n) {g:Int} (o:T.ep n t g) (B:T.sN (T.val n t) n<=19) (b:List (List Int)) (hk:b.Pairwise (· ≠ ·)) (p:∀l∈b,∃x,kj n t g l x):b.length<16384:=by
 have q:∀v,v<n->0<=T.val n t v:=fun v _=>T.dR fun u _=>k.pos v u
 have h1:T.sN (T.can n t) n=T.sN (T.val n t) n-2*n:=by
  have key:∀m:Nat,T.sN (T.can n t) m=T.sN (T.val n t) m-2*m:=by
   intro m;induction m with
   |zero=>simp[T.sN]
   |succ m r=>
    show T.sN (T.can n t) m+T.can n t m=T.sN (T.val n t) m+T.val n t m-_
    rw[r];unfold T.can;omega
  exact key n
 have C:T.sN (T.can n t) n=2*g-2:=o;have s:T.sN (T.val n t) n<=18:=by omega
 have hle:=s6 (L:=(lT (g_ n t) n).map jO) hk (fun l w=>by
  obtain⟨x,c,i,rfl, -,h,y,D⟩:=p l w;refine List.mem_map.2 ⟨c,?_,rfl⟩;have:=yF (g_ n t) (fun v=>rd c (v:Nat)) n (fun v a=>⟨h v a,by
   unfold g_;split
   ·rename_i e
    subst e;have j:=T.iM (f:=fun v=>rd c (v:Nat)) a h;have z:rd c ((0:Nat):Int)<=T.sN (fun v=>rd c (v:Nat)) n:=j;show rd c ((0:Nat):Int)<_
    omega
   ·rename_i e
    have j:=y v a e;have z:=h v a;show rd c (v:Int)<_
    omega⟩)
  rw[<-i,Hx,i] at this;exact this)
 rw[List.length_map,yE] at hle;exact Nat.lt_of_le_of_lt hle (Hw q s)
end Go.Proofs.YtffdiakgjakngaaGreat.P


namespace Go.Proofs.YtffdiakgjakngaaGreat.P
open Go.RowKit Go.Proofs.YtffdiakgjakngaaGreatW.PrintWords Go.Proofs.YtffdiakgjakngaaGreatW.PrintLast Go.Proofs.YtffdiakgjakngaaGreatW.PrintMore
set_option linter.unusedVariables false
set_option linter.unusedSimpArgs false
set_option maxHeartbeats 8000000
set_option maxRecDepth 100000
def iW.f (k:Nat) (a:Int) (b:List (S83)):Option (Int):=(dw.f k a b).bind fun t149=>(if t149=0 then((mF.f k a b).bind fun t150=>(if t150=true then(some 0) else(some 13))) else(some t149))
theorem iW.calls (k:Nat) (i:Int) (l:Option Addr) (m:Nat) (b:List (S83)) (r:Int) (w:World) (u:Kd.C aM w l b.length b) (v:b.length<=m) (h:iW.f k i b=some r):
  Calls Tryz.prog 48 #[.agg #[.int .i64 i,.slice l b.length m]] w fun e w'=>e= .returned (.int .i64 r)/\Below w.heap.size w w':=by
 have F:=Tryz.underlying24;have o:=zA u;have p:=zA v;clear u v;have a:=zA (aj w.heap.size w);unfold iW.f at h;have H:=h;clear h;obtain⟨t149,s,H⟩:=zo H;by_cases c3:t149=0
 ·rw[if_pos c3] at H
  obtain⟨D,E⟩:=bZ c3;clear c3;obtain⟨t150,x,H⟩:=zo H;by_cases q:t150=true
  ·subst q
   replace H:=zi H;obtain rfl:=aX H;go_enter Tryz.func48,Tryz.ntmps48
   go_wp2_with (first|((with_reducible refine aU (N:=1) rfl ?_);refine zX 1 #[.int .i64 i,.slice l b.length m] 24 ?_;intro y j G n hb;have g:=zA (n);have z:=zG a j;have B:=zG a j;replace a:=zS a hb;clear hb n j;obtain⟨I,J,K,L⟩:=aC g)|((with_reducible refine aR (f:=103) rfl ?_);refine zL (some 5) Tryz.func103 #[.agg #[.int .i64 i,.slice l b.length m]] ?_;(with_reducible refine(dw.calls k i _ _ b t149 _ ?au ?aw s.out).mono ?_);(case au=>exact Kd.ax o.out zB);(case aw=>exact p.out);rintro e M ⟨rfl,hb⟩;refine⟨_,rfl,?_⟩;replace g:=zb g hb;replace a:=zS a hb;(try clear hb);obtain⟨O,P,Q,R⟩:=aC g)|((with_reducible refine aR (f:=104) rfl ?_);refine zL (some 10) Tryz.func104 #[.agg #[.int .i64 i,.slice l b.length m]] ?_;(with_reducible refine(mF.calls k i _ _ b true _ ?au ?aw x.out).mono ?_);(case au=>exact Kd.ax o.out zB);(case aw=>exact p.out);rintro e S ⟨rfl,hb⟩;refine⟨_,rfl,?_⟩;replace g:=zb g hb;replace a:=zS a hb;(try clear hb)))
   go_ret;exact⟨zE,zB⟩
  ·replace q:=Bool.eq_false_iff.mpr q
   subst q;replace H:=zj H;obtain rfl:=aX H;go_enter Tryz.func48,Tryz.ntmps48
   go_wp2_with (first|((with_reducible refine aU (N:=1) rfl ?_);refine zX 1 #[.int .i64 i,.slice l b.length m] 24 ?_;intro y j T n hb;have g:=zA (n);have z:=zG a j;have B:=zG a j;replace a:=zS a hb;clear hb n j;obtain⟨U,V,W,X⟩:=aC g)|((with_reducible refine aR (f:=103) rfl ?_);refine zL (some 5) Tryz.func103 #[.agg #[.int .i64 i,.slice l b.length m]] ?_;(with_reducible refine(dw.calls k i _ _ b t149 _ ?au ?aw s.out).mono ?_);(case au=>exact Kd.ax o.out zB);(case aw=>exact p.out);rintro e Y ⟨rfl,hb⟩;refine⟨_,rfl,?_⟩;replace g:=zb g hb;replace a:=zS a hb;(try clear hb);obtain⟨Z,aa,ab,ad⟩:=aC g)|((with_reducible refine aR (f:=104) rfl ?_);refine zL (some 10) Tryz.func104 #[.agg #[.int .i64 i,.slice l b.length m]] ?_;(with_reducible refine(mF.calls k i _ _ b false _ ?au ?aw x.out).mono ?_);(case au=>exact Kd.ax o.out zB);(case aw=>exact p.out);rintro e ag ⟨rfl,hb⟩;refine⟨_,rfl,?_⟩;replace g:=zb g hb;replace a:=zS a hb;(try clear hb)))
   go_ret;exact⟨zE,zB⟩
 ·rw[if_neg c3] at H
  obtain⟨D,E⟩:=b7 c3;obtain rfl:=aX H;go_enter Tryz.func48,Tryz.ntmps48
  go_wp2_with (first|((with_reducible refine aU (N:=1) rfl ?_);refine zX 1 #[.int .i64 i,.slice l b.length m] 24 ?_;intro y j ak n hb;have g:=zA (n);have z:=zG a j;have B:=zG a j;replace a:=zS a hb;clear hb n j;obtain⟨am,an,ao,ap⟩:=aC g)|((with_reducible refine aR (f:=103) rfl ?_);refine zL (some 5) Tryz.func103 #[.agg #[.int .i64 i,.slice l b.length m]] ?_;(with_reducible refine(dw.calls k i _ _ b t149 _ ?au ?aw s.out).mono ?_);(case au=>exact Kd.ax o.out zB);(case aw=>exact p.out);rintro e ar ⟨rfl,hb⟩;refine⟨_,rfl,?_⟩;replace g:=zb g hb;replace a:=zS a hb;(try clear hb)))
  go_ret;exact⟨zE,zB⟩
def fG.l0:Nat->List Int->Int->Int->Option (Int)
 |0,_,_,_=>none
 |k+1,a,x3,x4=>if x4<(a.length:Int) then(if 0<=x4 then(fG.l0 k a (wrap64 (x3+(rd a x4))) (wrap64 (x4+1))) else(none)) else(some x3)
def fG.f (k:Nat) (l0:List Int):Option (Int):=fG.l0 k l0 0 0
theorem fG.calls (k:Nat) (A0:Option Addr) (c0:Nat) (l0:List Int) (r:Int) (w:World) (m:Kd.C (Kd.int .i64) w A0 l0.length l0) (n:l0.length<=c0) (h:fG.f k l0=some r):
  Calls Tryz.prog 22 #[.slice A0 l0.length c0] w fun e w'=>e= .returned (.int .i64 r)/\aH w w':=by
 have q:=zA m;have x:=zA n;clear m n;have H:(fG.l0 k l0 0 0)=some r:=h;clear h;have b:=zA H;clear H;go_enter Tryz.func22,Tryz.ntmps22
 go_wp2;go_loopg [3,4] k (fun o v3 v4 w'=>∃(g:Int) (a:Int),v3= .int .i64 g/\v4= .int .i64 a/\Aside0 (fG.l0 o l0 g a=some r)/\Aside0 (o<=k)/\aH w w')
 case atStart=>exact⟨(0),(0),zT,zT,b,⟨aI _⟩,by repeat(first|exact aH.refl _|apply aH.step)⟩
 case round=>
  clear b;obtain⟨g,a,rfl,rfl,i,p,⟨m1,rfl⟩⟩:=hrel;cases gk with
  |zero=>exact absurd i.out (by simp[fG.l0])
  |succ s=>
   have H:=i.out;clear i;simp only[fG.l0] at H;by_cases c2:a<(l0.length:Int)
   ·rw[if_pos c2] at H
    have u:=aE c2;clear c2;by_cases c3:0<=a
    ·rw[if_pos c3] at H
     have y:=aE c3;clear c3;have b:=zA H;clear H;have j:0<=(a:Int):=aA ‹_›;have l:a<(l0.length:Int):=aA ‹_›;obtain⟨z,v,B⟩:=Kd.cI q.out a j l;cases v;replace j:=eq_true j;replace l:=eq_true l;go_wp2;go_roundg s
     case measure=>have:=p.out;omega
     case rel=>exact⟨(wrap64 (g+(rd l0 a))),(wrap64 (a+1)),zT,zT,b,⟨by have:=p.out;omega⟩,by repeat(first|exact aH.refl _|apply aH.step)⟩
    ·rw[if_neg c3] at H
     exact absurd H (by simp)
   ·rw[if_neg c2] at H
    have u:=ba c2;clear c2;obtain rfl:=aX H;go_wp2;go_ret;exact⟨zT,by repeat(first|exact aH.refl _|apply aH.step)⟩
def lU.f (k:Nat) (a:Int) (b:List (S83)) (e:Int) (a2:Int):Option (Bool):=if(b.length:Int)>40 then(some false) else((dw.f k a b).bind fun t119=>(if t119=0 then(if a<=e then((mf.f a b).bind fun t120=>(some (decide (t120<=a2)))) else(some false)) else(some true)))
theorem lU.calls (k:Nat) (j:Int) (m:Option Addr) (n:Nat) (b:List (S83)) (u:Int) (a2:Int) (r:Bool) (w:World) (B:Kd.C aM w m b.length b) (D:b.length<=n) (h:lU.f k j b u a2=some r):
  Calls Tryz.prog 97 #[.agg #[.int .i64 j,.slice m b.length n],.int .i64 u,.int .i64 a2] w fun e w'=>e= .returned (.bool r)/\Below w.heap.size w w':=by
 have L:=Tryz.underlying24;have q:=zA B;have s:=zA D;clear B D;have a:=zA (aj w.heap.size w);unfold lU.f at h;have H:=h;clear h;by_cases c4:(b.length:Int)>40
 ·rw[if_pos c4] at H
  have E:=aE c4;have F:decide (40<b.length)=true:=aE (by omega);clear c4;obtain rfl:=aX H;go_enter Tryz.func97,Tryz.ntmps97
  go_wp2_with (first|((with_reducible refine aU (N:=3) rfl ?_);refine zX 3 #[.int .i64 j,.slice m b.length n] 24 ?_;intro v i M l hb;have g:=zA (l);have x:=zG a i;have y:=zG a i;replace a:=zS a hb;clear hb l i;obtain⟨O,P,Q,R⟩:=aC g))
  go_ret;exact⟨zE,zB⟩
 ·rw[if_neg c4] at H
  have E:=ba c4;have F:decide (40<b.length)=false:=ba (by omega);clear c4;obtain⟨t119,z,H⟩:=zo H;by_cases p:t119=0
  ·rw[if_pos p] at H
   obtain⟨G,I⟩:=bZ p;clear p;by_cases o:j<=u
   ·rw[if_pos o] at H
    have J:=aE o;clear o;obtain⟨t120,K,H⟩:=zo H;obtain rfl:=aX H;go_enter Tryz.func97,Tryz.ntmps97
    go_wp2_with (first|((with_reducible refine aU (N:=3) rfl ?_);refine zX 3 #[.int .i64 j,.slice m b.length n] 24 ?_;intro v i S l hb;have g:=zA (l);have x:=zG a i;have y:=zG a i;replace a:=zS a hb;clear hb l i;obtain⟨T,U,V,W⟩:=aC g)|((with_reducible refine aR (f:=103) rfl ?_);refine zL (some 12) Tryz.func103 #[.agg #[.int .i64 j,.slice m b.length n]] ?_;(with_reducible refine(dw.calls k j _ _ b t119 _ ?au ?aw z.out).mono ?_);(case au=>exact Kd.ax q.out zB);(case aw=>exact s.out);rintro e X ⟨rfl,hb⟩;refine⟨_,rfl,?_⟩;replace g:=zb g hb;replace a:=zS a hb;(try clear hb);obtain⟨Y,Z,aa,ab⟩:=aC g)|(go_at_call 73;(with_reducible refine(mf.calls j _ _ b t120 _ ?au ?aw K.out).mono ?_);(case au=>exact Kd.ax q.out zB);(case aw=>exact s.out);rintro e ad ⟨rfl,hb⟩;replace g:=zb g hb;replace a:=zS a hb;(try clear hb)))
    go_ret;exact⟨zE,zB⟩
   ·rw[if_neg o] at H
    have J:=ba o;clear o;obtain rfl:=aX H;go_enter Tryz.func97,Tryz.ntmps97
    go_wp2_with (first|((with_reducible refine aU (N:=3) rfl ?_);refine zX 3 #[.int .i64 j,.slice m b.length n] 24 ?_;intro v i ag l hb;have g:=zA (l);have x:=zG a i;have y:=zG a i;replace a:=zS a hb;clear hb l i;obtain⟨ak,am,an,ao⟩:=aC g)|((with_reducible refine aR (f:=103) rfl ?_);refine zL (some 12) Tryz.func103 #[.agg #[.int .i64 j,.slice m b.length n]] ?_;(with_reducible refine(dw.calls k j _ _ b t119 _ ?au ?aw z.out).mono ?_);(case au=>exact Kd.ax q.out zB);(case aw=>exact s.out);rintro e ap ⟨rfl,hb⟩;refine⟨_,rfl,?_⟩;replace g:=zb g hb;replace a:=zS a hb;(try clear hb);obtain⟨ar,av,aB,aF⟩:=aC g))
    go_ret;exact⟨zE,zB⟩
  ·rw[if_neg p] at H
   obtain⟨G,I⟩:=b7 p;obtain rfl:=aX H;go_enter Tryz.func97,Tryz.ntmps97
   go_wp2_with (first|((with_reducible refine aU (N:=3) rfl ?_);refine zX 3 #[.int .i64 j,.slice m b.length n] 24 ?_;intro v i aL l hb;have g:=zA (l);have x:=zG a i;have y:=zG a i;replace a:=zS a hb;clear hb l i;obtain⟨aO,aP,aS,a0⟩:=aC g)|((with_reducible refine aR (f:=103) rfl ?_);refine zL (some 12) Tryz.func103 #[.agg #[.int .i64 j,.slice m b.length n]] ?_;(with_reducible refine(dw.calls k j _ _ b t119 _ ?au ?aw z.out).mono ?_);(case au=>exact Kd.ax q.out zB);(case aw=>exact s.out);rintro e a3 ⟨rfl,hb⟩;refine⟨_,rfl,?_⟩;replace g:=zb g hb;replace a:=zS a hb;(try clear hb)))
   go_ret;exact⟨zE,zB⟩
def jP.f (k:Nat) (a:Int) (b:List (S83)):Option (Bool):=(lU.f k a b 5 7).bind fun t122=>(some t122)
theorem jP.calls (k:Nat) (b:Int) (i:Option Addr) (j:Nat) (a:List (S83)) (r:Bool) (w:World) (n:Kd.C aM w i a.length a) (o:a.length<=j) (h:jP.f k b a=some r):
  Calls Tryz.prog 44 #[.agg #[.int .i64 b,.slice i a.length j]] w fun e w'=>e= .returned (.bool r)/\Below w.heap.size w w':=by
 have v:=Tryz.underlying24;have q:=zA n;have s:=zA o;clear n o;have g:=zA (aj w.heap.size w);have H:((lU.f k b a 5 7).bind fun t122=>(some t122))=some r:=h;clear h;obtain⟨t122,u,H⟩:=zo H;obtain rfl:=aX H;go_enter Tryz.func44,Tryz.ntmps44
 go_wp2_with (first|((with_reducible refine aU (N:=1) rfl ?_);refine zX 1 #[.int .i64 b,.slice i a.length j] 24 ?_;intro x l w3 p hb;have m:=zA (p);have y:=zG g l;have z:=zG g l;replace g:=zS g hb;clear hb p l;obtain⟨B,D,E,F⟩:=aC m)|((with_reducible refine aR (f:=97) rfl ?_);refine zL (some 4) Tryz.func97 #[.agg #[.int .i64 b,.slice i a.length j],.int .i64 5,.int .i64 7] ?_;(with_reducible refine(lU.calls k b _ _ a 5 7 t122 _ ?au ?aw u.out).mono ?_);(case au=>exact Kd.ax q.out zB);(case aw=>exact s.out);rintro e G ⟨rfl,hb⟩;refine⟨_,rfl,?_⟩;replace m:=zb m hb;replace g:=zS g hb;(try clear hb)))
 go_ret;exact⟨zE,zB⟩
def Hz:List (Int×Int):=(List.range 12).flatMap fun a=>(List.range 12).map fun b:Nat=>(((a:Nat):Int),(b:Int))
theorem H7 {N:Int} {E:List S83} (g:N<=12) (h:bt N E):E.length<=144:=by
 have h1:(E.map fun x=>(x.f0,x.f1)).length<=Hz.length:=by
  refine s6 ?_ (fun p hp=>?_)
  ·rw[List.pairwise_map]
   refine h.order.imp fun {x y} a e=>?_
   injection e with i e2
   unfold iP at a;omega
  ·obtain⟨x,b,rfl⟩:=List.mem_map.1 hp
   have:=h.ok x b;simp[bQ] at this;refine List.mem_flatMap.2 ⟨x.f0.toNat,List.mem_range.2 (by omega),List.mem_map.2 ⟨x.f1.toNat,List.mem_range.2 (by omega),?_⟩⟩;rw[Int.toNat_of_nonneg (by omega),Int.toNat_of_nonneg (by omega)]
 rw[List.length_map] at h1;exact h1
theorem H8 {n:Nat} {f:Nat->Nat->Int} (hf:∀u v,0<=f u v) {x:S83} (o:0<=x.f0/\x.f0<n) (h1:0<=x.f1/\x.f1<n) (p:1<=x.f2):
  (∀u v,0<=cY f x u v)/\T.sN (T.val n (cY f x)) n<=T.sN (T.val n f) n+2*x.f2:=by
 unfold cY;by_cases e:x.f0=x.f1
 ·simp only[if_pos e]
  exact⟨hf,by omega⟩
 ·simp only[if_neg e]
  refine⟨fun u v=>?_,?_⟩
  ·split
   ·omega
   ·split
    ·omega
    ·exact hf u v
  ·have i:x.f0.toNat<n:=by omega
   have hb:x.f1.toNat<n:=by omega
   have h:∀a u,0<=T.one a u:=fun a u=>by unfold T.one;split<;>omega
   have hle:∀u,u<n->T.val n (fun a b=>if a=x.f1.toNat/\b=x.f0.toNat then x.f2 else if a=x.f0.toNat/\b=x.f1.toNat then x.f2 else f a b) u<=T.val n f u+(T.one x.f1.toNat u*x.f2+T.one x.f0.toNat u*x.f2):=fun u hu=>by
    unfold T.val;have k:T.one x.f1.toNat u*x.f2=T.sN (fun v=>(T.one x.f1.toNat u*x.f2)*T.one x.f0.toNat v) n:=by rw[T.fk,T.fl i,Int.mul_one]
    have e2:T.one x.f0.toNat u*x.f2=T.sN (fun v=>(T.one x.f0.toNat u*x.f2)*T.one x.f1.toNat v) n:=by rw[T.fk,T.fl hb,Int.mul_one]
    rw[k,e2,<-T.dF,<-T.dF];refine T.cZ fun v q=>?_
    have r:=hf u v;have s:0<=T.one x.f1.toNat u*x.f2*T.one x.f0.toNat v:=Int.mul_nonneg (Int.mul_nonneg (h _ _) (by omega)) (h _ _);have w:0<=T.one x.f0.toNat u*x.f2*T.one x.f1.toNat v:=Int.mul_nonneg (Int.mul_nonneg (h _ _) (by omega)) (h _ _);show (if u=x.f1.toNat/\v=x.f0.toNat then x.f2 else if u=x.f0.toNat/\v=x.f1.toNat then x.f2 else f u v)<=_
    split
    ·rename_i c
     have:T.one x.f1.toNat u*x.f2*T.one x.f0.toNat v=x.f2:=by unfold T.one;rw[if_pos c.1,if_pos c.2];omega
     omega
    ·split
     ·rename_i c
      have:T.one x.f0.toNat u*x.f2*T.one x.f1.toNat v=x.f2:=by unfold T.one;rw[if_pos c.1,if_pos c.2];omega
      omega
     ·omega
   have j:=T.cZ hle;rw[T.dF,T.dF] at j;have l:T.sN (fun u=>T.one x.f1.toNat u*x.f2) n=x.f2:=by
    rw[T.bK (g:=fun u=>x.f2*T.one x.f1.toNat u) (fun u _=>Int.mul_comm _ _),T.fk,T.fl hb,Int.mul_one]
   have m:T.sN (fun u=>T.one x.f0.toNat u*x.f2) n=x.f2:=by
    rw[T.bK (g:=fun u=>x.f2*T.one x.f0.toNat u) (fun u _=>Int.mul_comm _ _),T.fk,T.fl i,Int.mul_one]
   rw[l,m] at j;omega
theorem yG {n:Nat}:∀(E:List S83) (f:Nat->Nat->Int),(∀u v,0<=f u v)->(∀x∈E,bQ n x=true)->T.sN (T.val n (E.foldl cY f)) n<=T.sN (T.val n f) n+2*e7 E
 |[],f,_,_=>by simp[e7]
 |x::E,f,hf,h=>by
  have e:=h x (List.mem_cons_self ..);simp[bQ] at e;obtain⟨a,b⟩:=H8 (n:=n) hf (x:=x) (by omega) (by omega) (by omega);have i:=yG E (cY f x) a (fun y g=>h y (List.mem_cons_of_mem _ g));rw[List.foldl_cons,e7];omega
theorem H9 {n:Nat} {E:List S83} (h:bt n E):T.sN (T.val n (af E)) n<=2*(cV E E.length:Nat):=by
 have h1:=yG (n:=n) E (fun _ _=>0) (fun _ _=>Int.le_refl _) h.ok;have b:T.sN (T.val n fun _ _=>0) n=0:=T.gK fun u _=>T.kH n
 have a:=nQ h E.length (aI _);rw[List.take_length] at a;unfold af;omega
def mL (N:Int) (E:List S83):Int:=if cL N E=0 then(if partsOf E N.toNat=1 then 0 else 13) else cL N E
theorem H_ (N:Int) (E:List S83) (e:E.length<=9223372036854775807):Ev (fun k=>iW.f k N E) (mL N E):=by
 unfold iW.f mL;refine Ev.bind (yB N E e) ?_;by_cases b:cL N E=0
 ·obtain⟨h1,g,h⟩:=jq b
  obtain⟨n,rfl⟩:=Int.eq_ofNat_of_zero_le (show 0<=N by omega);have i:=H7 g h;simp only[if_pos b,aD];refine Ev.bind (a:=decide (partsOf E n=1)) ?_ ?_
  ·unfold mF.f
   refine Ev.bind (Ek E (by omega) n (by omega)) ?_;rw[show (((partsOf E n:Nat):Int)==1)=decide (partsOf E n=1) by rw[Bool.eq_iff_iff];simp;omega];exact Ev.const _
  ·by_cases hp:partsOf E n=1
   ·simp only[aE hp,if_true,if_pos hp];exact Ev.const _
   ·simp only[ba hp,Bool.false_eq_true,if_false,if_neg hp];exact Ev.const _
 ·simp only[if_neg b];exact Ev.const _
theorem yH {N:Int} {E:List S83} (h:mL N E=0):cL N E=0/\partsOf E N.toNat=1:=by
 unfold mL at h;by_cases a:cL N E=0
 ·rw[if_pos a] at h
  by_cases hp:partsOf E N.toNat=1
  ·exact⟨a,hp⟩
  ·rw[if_neg hp] at h;cases h
 ·rw[if_neg a] at h;exact absurd h a
def oe (N:Int) (E:List S83):Bool:=decide (E.length<=40/\N<=5/\cV E E.length<=7)
theorem Ia {N:Int} {E:List S83} (b:cL N E=0):Ev (fun k=>jP.f k N E) (oe N E):=by
 unfold jP.f lU.f oe;refine Ev.bind (a:=decide (E.length<=40/\N<=5/\cV E E.length<=7)) ?_ (Ev.const _);by_cases g:E.length>40
 ·simp only[if_pos (show (E.length:Int)>40 by omega)]
  rw[ba (fun h=>by omega)];exact Ev.const _
 ·simp only[if_neg (show ¬(E.length:Int)>40 by omega)]
  refine Ev.bind (yB N E (by omega)) ?_;simp only[if_pos b];by_cases e:N<=5
  ·simp only[if_pos e,mf.f,(jq b).2.2.wX (by omega),Option.bind_some,if_true]
   rw[show decide (((cV E E.length:Nat):Int)<=7)=decide (E.length<=40/\N<=5/\cV E E.length<=7) by congr 1;exact propext (by omega)];exact Ev.const _
  ·simp only[if_neg e]
   rw[ba (fun h=>by omega)];exact Ev.const _
def p5 (N:Int) (c:List Int):Int:=if(c.length:Int)=N then fV c else 8
def Ib (c:List Int):Bool:=c.all fun x=>decide (-100<=x/\x<=100)
structure Curve (n:Nat) (E:List S83) (d:List Int):Prop where
 check:cL n E=0
 small:∀q,q<n->Small n q E
 val:T.sN (T.val n (af E)) n<=14
 dl:d.length=n
 low:∀v:Nat,v<n-> -100<=rd d v/\rd d v<=100
theorem Ic {N:Int} {E:List S83} {d:List Int} (h:mL N E=0) (a:p5 N d=0) (b:oe N E=true) (j:Ib d=true):∃n:Nat,N=n/\1<=n/\Curve n E d:=by
 obtain⟨g,j2⟩:=yH h;obtain⟨g1,g2,g3⟩:=jq g;obtain⟨n,rfl⟩:=Int.eq_ofNat_of_zero_le (show 0<=N by omega);rw[aD] at j2;unfold oe at b;rw[decide_eq_true_iff] at b;have hd:d.length=n:=by
  unfold p5 at a;by_cases e:(d.length:Int)=(n:Int)
  ·omega
  ·rw[if_neg e] at a;cases a
 refine⟨n,rfl,by omega,g,fun q k=>⟨g3,(jI (by omega) g3).1 j2,b.1,by omega,by omega,k,by omega⟩,?_,hd,fun v m=>?_⟩
 ·have:=H9 g3
  omega
 ·have l:=List.all_eq_true.1 j
  have i:v<d.length:=by omega
  have:=l d[v] (List.getElem_mem i);rw[decide_eq_true_iff] at this;have e:rd d (v:Int)=d[v]:=by simp[rd,aW,bp i]
  rw[e];exact this
section
def eH (w:World) (g:Nat) (p:Nat->Nat):Prop:=∃cs:Array Value,w.heap[g]? =some (.cells cs 111 (0,0))/\cs.size=12/\∀i,i<12->cs[i]? =some (.int .i64 (p i:Nat))
namespace eH
variable {w w':World} {g:Nat} {p:Nat->Nat}
theorem lt (h:eH w g p):g<w.heap.size:=by
 obtain⟨cs,hb,_⟩:=h;exact ay hb
theorem cell (h:eH w g p) (i:Nat) (hi:i<12):w.cell? ⟨g,i,none⟩=some (.int .i64 (p i:Nat)):=by
 obtain⟨cs,hb,_,a⟩:=h;exact(ah hb i).trans (a i hi)
theorem frozen (h:eH w g p) (k:Nat):w.frozen? ⟨g,k,none⟩=false:=by
 obtain⟨cs,hb,_⟩:=h;exact bE hb k
theorem grown {row:Option Nat} (h:eH w g p) (a:w.grownBy w' row) (b:some g≠row):eH w' g p:=by
 obtain⟨cs,e,i⟩:=h;exact⟨cs,di e a b,i⟩
theorem below (h:eH w g p) (hb:Below w.heap.size w w'):eH w' g p:=by
 obtain⟨cs,a,b⟩:=h;exact⟨cs,az a hb,b⟩
theorem alloc (h:eH w g p) (o:Obj):eH (w.alloc o) g p:=h.below (ai (aj _ _) o)
theorem set (h:eH w g p) (i:Nat) (hi:i<12) (x:Nat):eH (w.setCell ⟨g,i,none⟩ (.int .i64 x)) g (fun j=>if j=i then x else p j):=by
 obtain⟨cs,a,b,l⟩:=h;refine⟨cs.setIfInBounds i (.int .i64 x),by simpa using bV a i (.int .i64 x),by simp[b],?_⟩;intro k hk;by_cases e:k=i
 ·subst e
  rw[Array.getElem?_setIfInBounds_self_of_lt (by omega)];simp
 ·rw[Array.getElem?_setIfInBounds_ne (by omega),l k hk];simp[e]
theorem congr {q:Nat->Nat} (h:eH w g p) (he:∀i,i<12->q i=p i):eH w g q:=by
 obtain⟨cs,a,b,e⟩:=h;exact⟨cs,a,b,fun i hi=>by rw[he i hi];exact e i hi⟩
end eH
theorem yI (g v:Nat) (p:Nat->Nat) (w:World) (hf:iJ p) (m:v<12) (hw:eH w g p):
  Calls Tryz.prog 86 #[.pointer (some ⟨g,0,none⟩),.int .i64 v] w fun e w'=>e= .returned (.int .i64 (rootOf p v:Nat))/\w=w':=by
 go_enter Tryz.func86,Tryz.ntmps86
 go_wp2;go_loop [1] (fun u=>∃k:Nat,k<12/\u= .int .i64 k/\rootOf p k=rootOf p v) (fun u=>(intOf u).toNat)
 case atStart=>exact⟨v,m,rfl,rfl⟩
 case round=>
  obtain⟨k,hk,rfl,h⟩:=hrel;have i:=Lib.hid h;clear h;have n:=hw.cell k hk;have o:(0:Int)<=(k:Int):=by omega
  have q:(k:Int)<12:=by omega
  have hle:=hf k;by_cases j:p k<k
  ·have a:rootOf p k=rootOf p (p k):=by rw[rootOf,dif_pos j]
   have b:=Lib.hid a;clear a;have r:((p k:Nat):Int)≠(k:Int):=by omega
   go_wp2;go_round
   case rel=>exact⟨p k,by omega,rfl,by rw[<-i.out,b.out]⟩
   case measure=>simp[intOf];omega
  ·have a:rootOf p k=k:=by rw[rootOf,dif_neg j]
   have b:=Lib.hid a;clear a;have l:p k=k:=by omega
   rw[l] at n;clear l;go_wp2;go_ret;exact⟨vo (by rw[<-i.out,b.out]),rfl⟩
end
section
attribute [local go_sem] Oper.semAt_some jU jV jW jX
theorem Ie (l f:Nat):(Fence.wide.inRound l).fn f=True:=rfl
attribute [local simp] Ie
def fH (s:(Nat->Nat)×Nat) (x:Nat×Int×Int):(Nat->Nat)×Nat:=(dP s.1 x.2.1.toNat x.2.2.toNat,if rootOf s.1 x.2.1.toNat=rootOf s.1 x.2.2.toNat then s.2+1 else s.2)
def cH (xs:List (Nat×Int×Int)):(Nat->Nat)×Nat:=xs.foldl fH (id,0)
theorem Ig (xs:List (Nat×Int×Int)) (x:Nat×Int×Int):cH (xs++[x])=fH (cH xs) x:=by simp[cH,List.foldl_append]
theorem yJ (xs:List (Nat×Int×Int)):iJ (cH xs).1/\(cH xs).2<=xs.length:=by
 have:∀(xs:List (Nat×Int×Int)) (s:(Nat->Nat)×Nat),iJ s.1->iJ (xs.foldl fH s).1/\(xs.foldl fH s).2<=s.2+xs.length:=by
  intro xs;induction xs with
  |nil=>intro s h;exact⟨h,by simp⟩
  |cons x xs a=>
   intro s h;obtain⟨h1,b⟩:=a (fH s x) (vk h _ _);refine⟨h1,Nat.le_trans b ?_⟩;have:(fH s x).2<=s.2+1:=by unfold fH;dsimp only;split<;>omega
   simp only[List.length_cons];omega
 have:=this xs (id,0) (fun i=>aI _);exact⟨this.1,by simpa [cH] using this.2⟩
theorem Ih (k:Nat) (N:Int) (A0:Option Addr) (c0:Nat) (E:List S83) (t:Int) (w:World) (g:Kd.C aM w A0 E.length E) (h:E.length<=c0) (a:a7.f k N E=some t) (b:t≠0):
  Calls Tryz.prog 31 #[.agg #[.int .i64 N,.slice A0 E.length c0]] w fun e w'=>e= .returned (.tuple #[.int .i64 0,.int .i64 t])/\Below w.heap.size w w':=by
 have hu:=Tryz.underlying24;have i:=zA a;have l:(t != 0)=true:=by simpa using b
 clear a b;go_enter Tryz.func31,Tryz.ntmps31
 go_wp2_with (go_at_call 64;refine(a7.calls k N A0 c0 E t _ (Kd.bC g _) h i.out).mono ?_;rintro e w1 ⟨rfl,hb⟩;have j:=zA (aQ (ai (aj w.heap.size w) _) hb);clear hb)
 go_ret2;exact⟨rfl,j.out⟩
theorem Ii (k n:Nat) (A0:Option Addr) (c0:Nat) (E:List S83) (w:World) (bi:Kd.C aM w A0 E.length E) (cv:E.length<=c0) (r:a7.f k n E=some 0) (hE:dh E=true) (aa:eE n E) (hn:n<=12):
  Calls Tryz.prog 31 #[.agg #[.int .i64 n,.slice A0 E.length c0]] w fun e w'=>e= .returned (.tuple #[.int .i64 (cH (bu E E.length)).2,.int .i64 0])/\Below w.heap.size w w':=by
 have hu:=Tryz.underlying24;have Ht:=zA r;have HE:=zA hE;have HI:=zA aa;clear r hE aa;refine(callsIn_wide (n:=10)).1 ?_;refine callsIn_of_wp_marks Tryz.func31 rfl trivial ?_ rfl;simp only[Tryz.ntmps31,List.size_toArray,List.length_cons,List.length_nil,Nat.reduceAdd,Nat.reduceSub,Array.replicate_succ,Array.replicate_zero,List.push_toArray,List.append_toArray,List.nil_append,List.cons_append];gi_wp2_with (refine⟨trivial,?_⟩;gi_at_call 64;refine(callsIn_wide.2 (a7.calls k n A0 c0 E 0 _ (Kd.bC bi _) cv Ht.out)).mono ?_;rintro e w1 ⟨rfl,hb⟩;have G:=zA (az (a6 w (.cells #[.int .i64 n,.slice A0 E.length c0] 24)) hb);have J:=zA (aQ (ai (aj w.heap.size w) _) hb);clear hb)
 have ab:Aside0 (eH (w1.alloc (.cells #[.int .i64 0,.int .i64 0,.int .i64 0,.int .i64 0,.int .i64 0,.int .i64 0,.int .i64 0,.int .i64 0,.int .i64 0,.int .i64 0,.int .i64 0,.int .i64 0] 111)) w1.heap.size (fun i=>if i<0 then i else 0)):=⟨⟨_,a6 _ _,rfl,fun i hi=>by
  rw[show (#[.int .i64 0,.int .i64 0,.int .i64 0,.int .i64 0,.int .i64 0,.int .i64 0,.int .i64 0,.int .i64 0,.int .i64 0,.int .i64 0,.int .i64 0,.int .i64 0]:Array Value)=Array.replicate 12 (.int .i64 0) from rfl,Array.getElem?_replicate,if_pos hi];rfl⟩⟩
 have aF:=zA (aq G.out (.cells #[.int .i64 0,.int .i64 0,.int .i64 0,.int .i64 0,.int .i64 0,.int .i64 0,.int .i64 0,.int .i64 0,.int .i64 0,.int .i64 0,.int .i64 0,.int .i64 0] 111));have aL:=zA (ai J.out (.cells #[.int .i64 0,.int .i64 0,.int .i64 0,.int .i64 0,.int .i64 0,.int .i64 0,.int .i64 0,.int .i64 0,.int .i64 0,.int .i64 0,.int .i64 0,.int .i64 0] 111));have c3:w.heap.size<w1.heap.size:=ay G.out;clear G J;generalize w1.alloc (.cells #[.int .i64 0,.int .i64 0,.int .i64 0,.int .i64 0,.int .i64 0,.int .i64 0,.int .i64 0,.int .i64 0,.int .i64 0,.int .i64 0,.int .i64 0,.int .i64 0] 111)=W1 at ab aF aL⊢;generalize w1.heap.size=gf at ab c3⊢;gi_loopg [17] (12) (fun kq vv wr=>∃v:Nat,v<=12/\vv= .int .i64 v/\Aside0 (eH wr gf (fun i=>if i<v then i else 0))/\Aside0 (wr.heap[w.heap.size]? =some (.cells #[.int .i64 n,.slice A0 E.length c0] 24 (0,0)))/\Aside0 (Below w.heap.size w wr)/\Aside0 (kq=12-v))
 case atStart=>exact⟨0,by omega,rfl,ab,aF,aL,⟨rfl⟩⟩
 case round=>
  clear ab aF aL;obtain⟨v,hv,rfl,O,G,J,HK⟩:=hrel;by_cases bl:v<12
  ·have ew:(0:Int)<=(v:Int):=by omega
   have ex:(v:Int)<12:=by omega
   have z1:=O.out.cell v bl;have z2:=O.out.frozen v;generalize (if v<v then v else 0)=z at z1;have c7:=zA ((O.out.set v bl v).congr (q:=fun i=>if i<v+1 then i else 0) (fun i hi=>by
    by_cases e:i=v
    ·subst e;simp
    ·simp only[if_neg e]
     by_cases h:i<v
     ·rw[if_pos h,if_pos (by omega)]
     ·rw[if_neg h,if_neg (by omega)]))
   have c8:=zA (aG (p:=⟨gf,v,none⟩) G.out (by show w.heap.size≠gf;omega) (.int .i64 v));have c9:=zA (Below.setCell (p:=⟨gf,v,none⟩) J.out (by show w.heap.size<=gf;omega) (.int .i64 v));clear O G J;gi_wp2;gi_roundg (12- (v+1))
   case measure=>rw[HK.out];omega
   case rel=>exact⟨v+1,by omega,by go_num,c7,c8,c9,⟨rfl⟩⟩
  ·obtain rfl:v=12:=by omega
   have aO:=zA (O.out.congr (q:=(cH []).1) (fun i hi=>by simp[cH,hi]));have y0:(wr.alloc (.cells #[.int .i64 0] 3)).cell? ⟨w.heap.size,0,none⟩=some (.int .i64 n):=(ah (aq G.out _) 0).trans rfl;have y1:(wr.alloc (.cells #[.int .i64 0] 3)).cell? ⟨w.heap.size,1,none⟩=some (.slice A0 E.length c0):=(ah (aq G.out _) 1).trans rfl;gi_wp2_with (refine⟨trivial,?_⟩;gi_at_call 85;refine(callsIn_wide.2 (uS n A0 c0 E _)).mono ?_;rintro e w3 ⟨rfl,rfl⟩)
   have S:=zA (show ((wr.alloc (.cells #[.int .i64 0] 3)).alloc (.cells #[.int .i64 n,.slice A0 E.length c0] 24)).heap[wr.heap.size]? =some (.cells #[.int .i64 ((cH []).2:Nat)] 3 (0,0)) from aq (a6 wr _) _);have T:=zA (show ((wr.alloc (.cells #[.int .i64 0] 3)).alloc (.cells #[.int .i64 n,.slice A0 E.length c0] 24)).heap[wr.heap.size+1]? =some (.cells #[.int .i64 n,.slice A0 E.length c0] 24 (0,0)) from heap_alloc2_new wr _ _);have I:=zA (ai (ai J.out (.cells #[.int .i64 0] 3)) (.cells #[.int .i64 n,.slice A0 E.length c0] 24));have aP:=zA ((aO.out.alloc (.cells #[.int .i64 0] 3)).alloc (.cells #[.int .i64 n,.slice A0 E.length c0] 24));have dk:=aO.out.lt;clear y0 y1 O aO G J;generalize ((wr.alloc (.cells #[.int .i64 0] 3)).alloc (.cells #[.int .i64 n,.slice A0 E.length c0] 24))=g at S T I aP⊢;have bn:=ay S.out;have dl:=ay T.out;generalize aS:wr.heap.size+1=bx at T dl⊢;generalize wr.heap.size=bo at S dk bn aS⊢;have ey:=Nat.le_of_eq aS;clear aS;refine uX (σ:=Unit) (α:=Nat×Int×Int) (F:=Fence.wide) (n:=10) rfl (by decide) (gf:=140) (lb:=#[.pointer (some ⟨bx,0,none⟩)]) rfl trivial (enters_of Tryz.func140 (by kernel_rfl) rfl)
    (fun o=>uW bx n A0 c0 E w _ bi HE.out (ai (ai I.out _) _) (aq (aq T.out _) _)) (fun _=>rfl)
    (fun _=>True) ?dH ?st ?ar
    (fun _ pre W=>g.heap.size<=W.heap.size/\eH W gf (cH pre).1/\W.heap[bo]? =some (.cells #[.int .i64 ((cH pre).2:Nat)] 3 (0,0))/\Below w.heap.size w W) (fun _ _ _ _=>False)
    ?is (fun _ _ _ _ _ _ h _=>h) ?ib (fun _ _ _ _ _ h _=>h) ?kt ?h0 ?a1 (fun x W=>W.alloc (.cells #[.int .i64 x.2.1,.int .i64 x.2.2] 116)) ?hw ?tn ?assign ?body ?done (fun _ _ _ _ _ _ _ h=>h.elim)
   case assign=>
    intro l x W K hK;gi_wp2;exact hK
   case dH=>
    intro o s W1 h;exact⟨trivial,by rw[h];exact b8.refl _ _⟩
   case st=>intro s A B _ h;exact cS h
   case ar=>intro s x A B _ h;exact cS h.2
   case hw=>intro x W k o h1 h2 U _;exact aq U _
   case tn=>
    intro s x A D h;exact⟨fun aT=>((aj w.heap.size A).alloc aT _).trans (h.1 (by simp;omega)),fun k cs t r hk=>h.2 k cs t r (aq hk _)⟩
   case is=>
    rintro s pre A B _ ⟨L,h1,h2,U⟩ ag;exact⟨Nat.le_trans L ag.size,h1.below ag,az h2 ag,aQ U ag⟩
   case ib=>
    rintro s pre A B ⟨L,⟨cs,h1,ak⟩,h2,U⟩ hb;exact⟨by rw[hb.size];exact L,⟨cs,hb.cells h1,ak⟩,hb.cells h2,U.trans (hb.below w.heap.size (by have:=I.out.size;omega))⟩
   case kt=>
    intro s A B C D a0 bv bw;have:=I.out.size;exact⟨fun aT=>((a0.below w.heap.size (by omega)).trans (bv.1 (by rw[a0.size];exact aT))).trans (bw.below w.heap.size (by omega)),fun k cs t r hk=>bw.cells (bv.2 k cs t r (a0.cells hk))⟩
   case h0=>
    rintro o s W1 rfl;exact⟨by simp;omega,(aP.out.alloc _).alloc _,aq (aq S.out _) _,ai (ai I.out _) _⟩
   case body=>
    rintro l s pre ⟨i,a,b⟩ Wb W1 W _ ⟨L,i1,i2,i3⟩ ⟨b0,V⟩ b5 H;obtain⟨ed,b6,b_,b'⟩:=nB E E.length (aI _) _ b0;have aa:=HI.out ed b6;simp only at b_ b';obtain⟨a,rfl⟩:=Int.eq_ofNat_of_zero_le (show 0<=a by omega);obtain⟨b,rfl⟩:=Int.eq_ofNat_of_zero_le (show 0<=b by omega);have ha:a<12:=by omega
    have hb:b<12:=by omega
    have d0:=I.out.size;have d1:g.heap.size<=W1.heap.size:=Nat.le_trans L V.size;have ca:=(yJ pre).1;have d2:=(yJ pre).2;have HS:=zA (Ig pre (i,(a:Int),(b:Int)));have b5:pre.length<2000:=b5;obtain⟨cs,h1,ak⟩:=(i1.below V).alloc (.cells #[.int .i64 a,.int .i64 b] 116);have M:Aside0 (eH W gf (cH pre).1):=⟨cs,H.cells h1,ak⟩;have b2:=zA (H.cells (aq (az i2 V) (.cells #[.int .i64 a,.int .i64 b] 116)));have b3:=zA ((ai (aQ i3 V) (.cells #[.int .i64 a,.int .i64 b] 116)).trans (H.below w.heap.size (by omega)));have b4:=zA (H.cells (a6 W1 (.cells #[.int .i64 a,.int .i64 b] 116)));have aT:W.heap.size=W1.heap.size+1:=by rw[H.size];simp
    have cc:g.heap.size<=W.heap.size:=by omega
    clear i1 i2 i3 V H h1 ak aT d1 L b0 b6 b_ b' aa;generalize W1.heap.size=pb at b4⊢;have d3:W.cell? ⟨pb,0,none⟩=some (.int .i64 a):=(ah b4.out 0).trans rfl;have d4:W.cell? ⟨pb,1,none⟩=some (.int .i64 b):=(ah b4.out 1).trans rfl;have e1:=Tryz.underlying116;have a2:=zA (fun m=>yI gf a (cH pre).1 (W.drewN m) ca ha (M.out.below (bU (aj _ _) m)));have a3:=zA (fun m=>yI gf b (cH pre).1 (W.drewN m) ca hb (M.out.below (bU (aj _ _) m)));have d5:=ji (cH pre).1 a;have d6:=ji (cH pre).1 b;have P:Aside0 (fH (cH pre) (i,(a:Int),(b:Int))=(dP (cH pre).1 a b,if rootOf (cH pre).1 a=rootOf (cH pre).1 b then(cH pre).2+1 else(cH pre).2)):=⟨rfl⟩;have Q:Aside0 (dP (cH pre).1 a b=fun j=>if j=max (rootOf (cH pre).1 a) (rootOf (cH pre).1 b) then min (rootOf (cH pre).1 a) (rootOf (cH pre).1 b) else(cH pre).1 j):=⟨rfl⟩;generalize dP (cH pre).1 a b=pj at P Q;generalize rootOf (cH pre).1 a=x at a2 P Q d5;generalize rootOf (cH pre).1 b=y at a3 P Q d6;generalize ce:(cH pre).2=gc at b2 d2 P;clear ce;have e2:(0:Int)<=(x:Int):=by omega
    have e3:(0:Int)<=(y:Int):=by omega
    have e4:(x:Int)<12:=by omega
    have e5:(y:Int)<12:=by omega
    gi_wp2;refine F3 rfl (by kernel_rfl) (by kernel_rfl) ?_;repeat(gi_big_quiet_step (fail))
    gi_big_quiet_want
    gi_big_quiet_op
    gi_big_quiet_call ((gi_at_call 86;exact CallsIn.quiet_of_same (callsIn_wide.2 ((a2.out _).mono (fun e w' h=>⟨h.1,h.2.symm⟩)))))
    repeat(gi_big_quiet_step (fail))
    gi_big_quiet_want
    gi_big_quiet_op
    gi_big_quiet_call ((gi_at_call 86;exact CallsIn.quiet_of_same (callsIn_wide.2 ((a3.out _).mono (fun e w' h=>⟨h.1,h.2.symm⟩)))))
    repeat(gi_big_quiet_step (fail))
    refine wpQuietIn_nil ?_;rintro _ ⟨nq,rfl⟩;have u:=zA (M.out.below (bU (aj _ _) nq));have R:=zA (i' b2.out nq);have I3:=zA (bU b3.out nq);have ao:=zA (cS (nw:=g.heap.size) (bU (aj W.heap.size W) nq));have ap:=zA (bU (aj w.heap.size W) nq);have av:Aside0 (∀k:Nat,(W.drewN nq).heap[k]? =W.heap[k]?):=⟨fun k=>by simp⟩;have aB:g.heap.size<=(W.drewN nq).heap.size:=by simpa using cc
    have d8:Aside0 (∀(k:Nat) (cs:Array Value) (t:TypeId),(t=24\/t=83)->W.heap[k]? =some (Obj.cells cs t (0,0))->k≠gf/\k≠bo):=⟨fun k cs t r hk=>by
     obtain⟨cf,cg, -⟩:=M.out;refine⟨fun e=>?_,fun e=>?_⟩
     ·subst e;rw[hk] at cg;injection cg with h;injection h with _ h _;rcases r with rfl|rfl<;>exact absurd h (by decide)
     ·subst e;have h:=hk.symm.trans b2.out;injection h with h;injection h with _ h _;rcases r with rfl|rfl<;>exact absurd h (by decide)⟩
    have ch:gf≠bo:=by omega
    have ci:w.heap.size<=gf:=by omega
    have cj:w.heap.size<=bo:=by omega
    have ce:(gc:Int)<=2000:=by omega
    have e_:(0:Int)<=(gc:Int):=by omega
    clear M b2 b3 b4 d3 d4 a2 a3 cc S T I aP;generalize W.drewN nq=N at u R I3 ao ap av aB⊢;have e':=zA (fun j=>u.out.frozen j);have ck:∀(j v:Nat) (W1:World) (g':Nat),j<12->g.heap.size<=W1.heap.size->eH W1 gf (cH pre).1->W1.heap[bo]? =some (.cells #[.int .i64 (g':Nat)] 3 (0,0))->Below w.heap.size w W1->b8 g.heap.size W W1->Below w.heap.size W W1->(∀k,k≠gf->k≠bo->W1.heap[k]? =W.heap[k]?)->
      (fun i=>if i=j then v else(cH pre).1 i)=pj->g'=(if x=y then gc+1 else gc)->qR (σ:=Unit) g.heap.size (fun X Y=>qT w.heap.size X Y) (fun pre W=>g.heap.size<=W.heap.size/\eH W gf (cH pre).1/\W.heap[bo]? =some (.cells #[.int .i64 ((cH pre).2:Nat)] 3 (0,0))/\Below w.heap.size w W) (fun (_:Code) (_:List (Nat×Int×Int)) (_:World)=>False) (pre++[(i,(a:Int),(b:Int))]) W Exit.normal {tmps:=#[],defers:=[]} (W1.setCell ⟨gf,j,none⟩ (.int .i64 v)):=by
     intro j v W1 g' hj a5 f1 f2 f3 f4 f5 f6 f7 f8;refine⟨f4.trans (eU _ _ (show gf<g.heap.size by omega)),⟨fun _=>Below.setCell (p:=⟨gf,j,none⟩) f5 ci _,fun k cs t r hk=>?_⟩,by simpa using a5,?_,?_,Below.setCell (p:=⟨gf,j,none⟩) f3 ci _⟩
     ·obtain⟨k1,k2⟩:=d8.out k cs t r hk
      exact(Below.heap_setCell _ _ _ _ k1).trans ((f6 k k1 k2).trans hk)
     ·rw[HS.out,P.out]
      have h:=f1.set j hj v;rw[f7] at h;exact h
     ·rw[HS.out,P.out]
      simp only;rw[<-f8];exact aG f2 (fun e=>ch e.symm) _
    have a9:=zA ck;clear ck;rcases Nat.lt_trichotomy x y with bb|bb|bb
    ·have hl:(x:Int)<(y:Int):=by omega
     have he:((x:Int)==(y:Int))=false:=by simpa using (show ¬(x:Int)=(y:Int) by omega)
     have hm:max x y=y:=by omega
     have Z:min x y=x:=by omega
     have hz:=u.out.cell y (by omega);have hf:=u.out.frozen y;have HM:=zA hm;have bf:=zA Z;clear hm Z;gi_wp2;exact a9.out y x N gc (by omega) aB u.out R.out I3.out ao.out ap.out (fun k _ _=>av.out k) (by rw[Q.out,HM.out,bf.out]) (by rw[if_neg (by omega)])
    ·subst bb
     have he:((x:Int)==(x:Int))=true:=by simp
     have hl:¬(x:Int)<(x:Int):=by omega
     have hz:=u.out.cell x (by omega);have hf:=u.out.frozen x;have z1:=dc R.out;have z2:=bE R.out 0;have eb:bo<g.heap.size:=bn;have a5:=zA (show g.heap.size<=(N.setCell ⟨bo,0,none⟩ (.int .i64 ((gc:Int)+1))).heap.size by simpa using aB);have J1:=zA (u.out.grown (kD N bo 0 (.int .i64 ((gc:Int)+1))) (fun e=>by injection e with e;exact ch e));have fb:=J1.out.cell x (by omega);have fd:=J1.out.frozen x;have J2:Aside0 ((N.setCell ⟨bo,0,none⟩ (.int .i64 ((gc:Int)+1))).heap[bo]? =some (.cells #[.int .i64 ((gc+1:Nat):Int)] 3 (0,0))):=⟨by simpa using bV R.out 0 (.int .i64 ((gc:Int)+1))⟩;have J3:=zA (Below.setCell (p:=⟨bo,0,none⟩) I3.out cj (.int .i64 ((gc:Int)+1)));have J4:=zA (ao.out.trans (eU (bo:=bo) (j:=0) N (.int .i64 ((gc:Int)+1)) eb));have J5:=zA (Below.setCell (p:=⟨bo,0,none⟩) ap.out cj (.int .i64 ((gc:Int)+1)));have J6:Aside0 (∀k,k≠gf->k≠bo->(N.setCell ⟨bo,0,none⟩ (.int .i64 ((gc:Int)+1))).heap[k]? =W.heap[k]?):=⟨fun k _ h=>(Below.heap_setCell _ _ _ _ h).trans (av.out k)⟩;gi_wp2;exact a9.out x x _ (gc+1) (by omega) a5.out J1.out J2.out J3.out J4.out J5.out J6.out (by rw[Q.out,Nat.max_self,Nat.min_self]) (by simp)
    ·have hl:¬(x:Int)<(y:Int):=by omega
     have fn:(y:Int)<(x:Int):=by omega
     have he:((x:Int)==(y:Int))=false:=by simpa using (show ¬(x:Int)=(y:Int) by omega)
     have hm:max x y=x:=by omega
     have Z:min x y=y:=by omega
     have hz:=u.out.cell x (by omega);have hf:=u.out.frozen x;have HM:=zA hm;have bf:=zA Z;clear hm Z;gi_wp2;exact a9.out x y N gc (by omega) aB u.out R.out I3.out ao.out ap.out (fun k _ _=>av.out k) (by rw[Q.out,HM.out,bf.out]) (by rw[if_neg (by omega)])
   case done=>
    rintro s xs W W' _ rfl ⟨L,i1,i2,i3⟩ H cq;have d0:=I.out.size;have M:=zA (H.cells i2);have b3:=zA (i3.trans (H.below w.heap.size (by omega)));have cr:=zA cq;clear i1 i2 i3 cq;have hc:=dc M.out;gi_wp2_with fail
    have es:Bk g.heap.size W' (W'.putObj g.heap.size (.deferred none)):=⟨_,_,cr.out,rfl,rfl⟩;exact iG (D:=g.heap.size) rfl cr.out (results_tmp2 rfl _ _ _) ⟨rfl,b3.out.trans (es.below w.heap.size (by omega))⟩
def oh (N:Int) (E:List S83):Bool:=decide (0<=N/\N<=12)&&dh E&&jf N E
def fu.f (k:Nat) (N:Int) (E:List S83):Option (Int×Int):=
 (a7.f k N E).bind fun e=>if e=0 then(if oh N E=true then some (((cH (bu E E.length)).2:Nat),0) else none) else some (0,e)
theorem fu.mono:∀a b k,al (fu.f k a b) (fu.f (k+1) a b):=by
 intro N E k;unfold fu.f;exact al.bind (a7.mono _ _ _) (fun _=>al.refl _)
theorem fu.calls (k:Nat) (i:Int) (j:Option Addr) (l:Nat) (b:List (S83)) (o:Int) (p:Int) (w:World) (q:Kd.C aM w j b.length b) (r:b.length<=l) (h:fu.f k i b=some (o,p)):
  Calls Tryz.prog 31 #[.agg #[.int .i64 i,.slice j b.length l]] w fun e w'=>e= .returned (.tuple #[.int .i64 o,.int .i64 p])/\Below w.heap.size w w':=by
 unfold fu.f at h;obtain⟨e,he,a⟩:=Option.bind_eq_some_iff.1 h;clear h;by_cases m:e=0
 ·subst m
  rw[if_pos rfl] at a;by_cases g:oh i b=true
  ·rw[if_pos g] at a
   simp only[Option.some.injEq,Prod.mk.injEq] at a;obtain⟨rfl,rfl⟩:=a;unfold oh at g;simp only[Bool.and_eq_true,decide_eq_true_eq] at g;obtain⟨⟨⟨h1,v⟩,s⟩,u⟩:=g;obtain⟨n,rfl⟩:=Int.eq_ofNat_of_zero_le h1;exact Ii k n j l b w q r he s (jE u) (by omega)
  ·rw[if_neg g] at a;cases a
 ·rw[if_neg m] at a
  simp only[Option.some.injEq,Prod.mk.injEq] at a;obtain⟨rfl,rfl⟩:=a;exact Ih k i j l b e w q r he m
end
section
attribute [local go_sem] jU jV jW jX nc nf ng nh
def dt.l0:Nat->Int->List (S83)->Int->Int->Int->List (S83)->Option (Int×(List (S83))×Int)
 |0,_,_,_,_,_,_=>none
 |k+1,x1,b,g,a,h,e=>if a<g then(if 0<=a then(if a<(b.length:Int) then(if((ae b a).f0)=((ae b a).f1) then(dt.l0 k x1 b g (wrap64 (a+1)) h e) else(if e.length<5864062014805 then(dt.l0 k x1 b g (wrap64 (a+1)) h (e++[(⟨(ae b a).f0,(ae b a).f1,mn ((ae b a).f2) x1⟩:S83)])) else(none))) else(none)) else(none)) else(some (h,e,0))
def dt.f (k:Nat) (b:Int) (a:List (S83)) (e:Int):Option (Int×(List (S83))×Int):=(a7.f k b a).bind fun t260=>(if t260=0 then(dt.l0 k e a (a.length:Int) 0 b ([]:List (S83))) else(some (0,([]:List (S83)),t260)))
theorem dt.cE:∀k,(∀a b e g i j,al (dt.l0 k a b e g i j) (dt.l0 (k+1) a b e g i j))
 |0=>fun _ _ _ _ _ _ r h=>by simp[dt.l0] at h
 |k+1=>by
  have l:=dt.cE k
  ·intro a b e g i j
   unfold dt.l0;with_reducible repeat' first|exact l _ _ _ _ _ _|exact a7.mono _ _ _|exact al.refl _|exact al.none _|refine al.ite ?_ ?_|refine al.bind ?_ (fun _=>?_)
theorem dt.mono:∀a0 a a2 k,al (dt.f k a0 a a2) (dt.f (k+1) a0 a a2):=by
 intro a0 a a2 k;have b:=dt.cE k;unfold dt.f;with_reducible repeat' first|exact b _ _ _ _ _ _|exact a7.mono _ _ _|exact al.refl _|exact al.none _|refine al.ite ?_ ?_|refine al.bind ?_ (fun _=>?_)
theorem dt.calls (k:Nat) (n:Int) (B:Option Addr) (y:Nat) (a:List (S83)) (K:Int) (Z:Int) (r2:List (S83)) (r3:Int) (w:World) (bk:Kd.C aM w B a.length a) (bl:a.length<=y) (h:dt.f k n a K=some (Z,r2,r3)):
  Calls Tryz.prog 84 #[.agg #[.int .i64 n,.slice B a.length y],.int .i64 K] w fun e w'=>∃bn:Value,e= .returned (.tuple #[.agg #[.int .i64 Z,bn],.int .i64 r3])/\Kd.R aM 83 w' w.heap.size (fun _=>True) bn r2/\Below w.heap.size w w':=by
 have dk:=Tryz.underlying24;have dl:=Tryz.underlying83;have ag:=zA bk;have bo:=zA bl;clear bk bl;have l:=zA (aj w.heap.size w);unfold dt.f at h;have H:=h;clear h;obtain⟨t260,A3,H⟩:=zo H;by_cases c4:t260=0
 ·rw[if_pos c4] at H
  obtain⟨bv,bw⟩:=bZ c4;clear c4;have U:=zA H;clear H;go_enter Tryz.func84,Tryz.ntmps84
  go_wp2_with (first|((with_reducible refine aU (N:=2) rfl ?_);refine zX 2 #[.int .i64 n,.slice B a.length y] 24 ?_;intro s j w5 v hb;have m:=zA (v);have b5:=zG l j;have b6:=zG l j;replace l:=zS l hb;clear hb v j)|((with_reducible refine aU (N:=4) rfl ?_);refine zX 4 #[.int .i64 0,.slice none 0 0] 24 ?_;intro u j w6 v hb;have r:=zA (v);have b_:=zG l j;have b':=zG l j;replace l:=zS l hb;have ak:=zA ((by rw[j];exact Nat.ne_of_lt (ay (g:=s) (o:=.cells #[.int .i64 n,.slice B a.length y] 24 (0,0)) (zK m)):s≠u));have am:=zA ((by rw[j];exact Nat.ne_of_gt (ay (g:=s) (o:=.cells #[.int .i64 n,.slice B a.length y] 24 (0,0)) (zK m)):u≠s));replace m:=zb m hb;clear hb v j;have dx:=ak.out;have d0:=am.out;obtain⟨ca,cb,cc,cd⟩:=aC m)|((with_reducible refine aR (f:=64) rfl ?_);refine zL (some 11) Tryz.func64 #[.agg #[.int .i64 n,.slice B a.length y]] ?_;(with_reducible refine(a7.calls k n _ _ a t260 _ ?au ?aw A3.out).mono ?_);(case au=>exact Kd.ax ag.out zB);(case aw=>exact bo.out);rintro e w9 ⟨rfl,hb⟩;refine⟨_,rfl,?_⟩;replace m:=zb m hb;replace r:=zb r hb;replace l:=zS l hb;(try clear hb);obtain⟨ce,cf,cg,ch⟩:=aC m)|((with_reducible refine aU (N:=7) rfl ?_);refine zX 7 #[.int .i64 0,.slice none 0 0] 24 ?_;intro z j d2 v hb;have x:=zA (v);have d3:=zG l j;have d4:=zG l j;replace l:=zS l hb;have V:=zA ((by rw[j];exact Nat.ne_of_lt (ay (g:=s) (o:=.cells #[.int .i64 n,.slice B a.length y] 24 (0,0)) (zK m)):s≠z));have a2:=zA ((by rw[j];exact Nat.ne_of_gt (ay (g:=s) (o:=.cells #[.int .i64 n,.slice B a.length y] 24 (0,0)) (zK m)):z≠s));replace m:=zb m hb;have W:=zA ((by rw[j];exact Nat.ne_of_lt (ay (g:=u) (o:=.cells #[.int .i64 0,.slice none 0 0] 24 (0,0)) (zK r)):u≠z));have a3:=zA ((by rw[j];exact Nat.ne_of_gt (ay (g:=u) (o:=.cells #[.int .i64 0,.slice none 0 0] 24 (0,0)) (zK r)):z≠u));replace r:=zb r hb;clear hb v j;have d5:=a2.out;have d6:=V.out;have d7:=a3.out;have d8:=W.out;obtain⟨ci,cj,ck,cl⟩:=aC x;obtain⟨co,cp,cq,cr⟩:=aC m))
  go_loopg [22] k (fun kq v22 w'=>∃(i:Int) (E:List (S83)) (u262001:Value),v22= .int .i64 i/\Aside0 (dt.l0 kq K a (a.length:Int) i n E=some (Z,r2,r3))/\Aside0 (kq<=k)/\Aside0 (Kd.R aM 83 w' w.heap.size (fun _=>True) u262001 E)/\Aside0 (w'.heap[s]? =some (.cells #[.int .i64 n,(.slice B a.length y)] 24 (0,0)))/\Aside0 (w'.heap[u]? =some (.cells #[.int .i64 0,(.slice none 0 0)] 24 (0,0)))/\Aside0 (w'.heap[z]? =some (.cells #[.int .i64 n,u262001] 24 (0,0)))/\Aside0 (Below w.heap.size w w'))
  case atStart=>exact⟨(0),(([]:List (S83))),(.slice none 0 0),zT,U,⟨aI _⟩,⟨by first|exact Kd.df _ _ _ _ _|exact Kd.iE _ _ _ _ _|exact Kd.V_nil _ _ _ _ _|exact Kd.Q_nil _ _ _ _ _|exact Kd.ij _ _ _ _ _⟩,⟨by refine zk ?_;refine aG ?_ V.out _;refine zk ?_;refine aG ?_ V.out _;exact zK m⟩,⟨by refine zk ?_;refine aG ?_ W.out _;refine zk ?_;refine aG ?_ W.out _;exact zK r⟩,⟨by refine zk ?_;refine bH (cs:=#[.int .i64 n,.slice none 0 0]) ?_ 1 _ rfl;refine zk ?_;refine bH (cs:=#[.int .i64 0,.slice none 0 0]) ?_ 0 _ rfl;exact zK x⟩,⟨zB⟩⟩
  case round=>
   clear U;clear bv bw ce cf ci cj co cp ca cb cg ch ck cl cq cr cc cd;obtain⟨i,E,u262001,rfl,HA,an,D,m,r,x,l⟩:=hrel;cases gk with
   |zero=>exact absurd HA.out (by simp[dt.l0])
   |succ k1=>
    have H:=HA.out;clear HA;simp only[dt.l0] at H;by_cases X:i<(a.length:Int)
    ·rw[if_pos X] at H
     have cv:=aE X;clear X;by_cases ap:0<=i
     ·rw[if_pos ap] at H
      have d9:=aE ap;clear ap;by_cases ar:i<(a.length:Int)
      ·rw[if_pos ar] at H
       have ea:=aE ar;clear ar;by_cases ad:((ae a i).f0)=((ae a i).f1)
       ·rw[if_pos ad] at H
        obtain⟨cx,c0⟩:=bZ ad;clear ad;have U:=zA H;clear H;have L:0<=(i:Int):=aA ‹_›;have M:i<(a.length:Int):=aA ‹_›;obtain⟨Y,a5,O,P,Q⟩:=dM ag.out i L M;cases a5;replace O:=(l.out.cell (bm w _ O)).trans O;replace P:=(l.out.cell (bm w _ P)).trans P;replace Q:=(l.out.cell (bm w _ Q)).trans Q;replace L:=eq_true L;replace M:=eq_true M;go_wp2_with (first|((with_reducible refine aU (N:=9) rfl ?_);refine zX 9 #[.int .i64 0,.int .i64 0,.int .i64 0] 83 ?_;intro q j eb v hb;replace D:=zA (Kd.cz (Kd.tQ (zR D) q (Nat.le_of_eq j.symm)) hb);have S:=zA (v);have c1:=zG l j;have c2:=zG l j;replace l:=zS l hb;have G:=zA ((by rw[j];exact Nat.ne_of_lt (ay (g:=s) (o:=.cells #[.int .i64 n,.slice (some Y) a.length y] 24 (0,0)) (zK m)):s≠q));have a9:=zA ((by rw[j];exact Nat.ne_of_gt (ay (g:=s) (o:=.cells #[.int .i64 n,.slice (some Y) a.length y] 24 (0,0)) (zK m)):q≠s));replace m:=zb m hb;have I:=zA ((by rw[j];exact Nat.ne_of_lt (ay (g:=u) (o:=.cells #[.int .i64 0,.slice none 0 0] 24 (0,0)) (zK r)):u≠q));have bb:=zA ((by rw[j];exact Nat.ne_of_gt (ay (g:=u) (o:=.cells #[.int .i64 0,.slice none 0 0] 24 (0,0)) (zK r)):q≠u));replace r:=zb r hb;have J:=zA ((by rw[j];exact Nat.ne_of_lt (ay (g:=z) (o:=.cells #[.int .i64 n,u262001] 24 (0,0)) (zK x)):z≠q));have be:=zA ((by rw[j];exact Nat.ne_of_gt (ay (g:=z) (o:=.cells #[.int .i64 n,u262001] 24 (0,0)) (zK x)):q≠z));replace x:=zb x hb;clear hb v j;have ed:=a9.out;have eg:=G.out;have ek:=bb.out;have el:=I.out;have em:=be.out;have er:=J.out;obtain⟨es,ev,ew,ex,ey,e0⟩:=cC S))
        go_roundg k1
        case measure=>have:=an.out;omega
        case rel=>exact⟨(wrap64 (i+1)),(E),(u262001),zT,U,⟨by have:=an.out;omega⟩,⟨by(with_reducible repeat(first|apply Kd.aK|apply Kd.bJ|apply Kd.bA));exact Kd.a_ (Kd.ee (p:=⟨q,2,none⟩) (Kd.ee (p:=⟨q,1,none⟩) (Kd.ee (p:=⟨q,0,none⟩) (Kd.a_ D.out (fun T hk=>(⟨hk,hk.2⟩:_/\T≠q))) (fun _ hk=>hk.2) (.int .i64 ((ae a i).f0))) (fun _ hk=>hk.2) (.int .i64 ((ae a i).f1))) (fun _ hk=>hk.2) (.int .i64 ((ae a i).f2))) (fun _ hk=>trivial)⟩,⟨by refine zk ?_;refine aG ?_ G.out _;refine zk ?_;refine aG ?_ G.out _;refine zk ?_;refine aG ?_ G.out _;exact zK m⟩,⟨by refine zk ?_;refine aG ?_ I.out _;refine zk ?_;refine aG ?_ I.out _;refine zk ?_;refine aG ?_ I.out _;exact zK r⟩,⟨by refine zk ?_;refine aG ?_ J.out _;refine zk ?_;refine aG ?_ J.out _;refine zk ?_;refine aG ?_ J.out _;exact zK x⟩,⟨zB⟩⟩
       ·rw[if_neg ad] at H
        obtain⟨cx,c0⟩:=b7 ad;obtain⟨F,bf⟩:∃j_:Int,(mn ((ae a i).f2) K)=j_:=⟨_,rfl⟩;replace H:(if E.length<5864062014805 then(dt.l0 k1 K a (a.length:Int) (wrap64 (i+1)) n (E++[(⟨(ae a i).f0,(ae a i).f1,F⟩:S83)])) else(none))=some (Z,r2,r3):=by first|(rw[bf] at H;exact H)|(simp only[bf] at H⊢;exact H)
        have e1:(if K<((ae a i).f2) then K else((ae a i).f2))=F:=bf;by_cases av:E.length<5864062014805
        ·rw[if_pos av] at H
         have c5:=zA av;clear av;obtain⟨a0,bg⟩:∃y_:List (S83),y_=(E++[(⟨(ae a i).f0,(ae a i).f1,F⟩:S83)]):=⟨_,rfl⟩;replace H:(dt.l0 k1 K a (a.length:Int) (wrap64 (i+1)) n a0)=some (Z,r2,r3):=zh bg H;have c7:=zA bg;clear bg;have U:=zA H;clear H;have L:0<=(i:Int):=aA ‹_›;have M:i<(a.length:Int):=aA ‹_›;obtain⟨Y,a5,O,P,Q⟩:=dM ag.out i L M;cases a5;replace O:=(l.out.cell (bm w _ O)).trans O;replace P:=(l.out.cell (bm w _ P)).trans P;replace Q:=(l.out.cell (bm w _ Q)).trans Q;replace L:=eq_true L;replace M:=eq_true M;go_wp2_with (first|((with_reducible refine aU (N:=9) rfl ?_);refine zX 9 #[.int .i64 0,.int .i64 0,.int .i64 0] 83 ?_;intro q j c8 v hb;replace D:=zA (Kd.cz (Kd.tQ (zR D) q (Nat.le_of_eq j.symm)) hb);have S:=zA (v);have c1:=zG l j;have c2:=zG l j;replace l:=zS l hb;have G:=zA ((by rw[j];exact Nat.ne_of_lt (ay (g:=s) (o:=.cells #[.int .i64 n,.slice (some Y) a.length y] 24 (0,0)) (zK m)):s≠q));have a9:=zA ((by rw[j];exact Nat.ne_of_gt (ay (g:=s) (o:=.cells #[.int .i64 n,.slice (some Y) a.length y] 24 (0,0)) (zK m)):q≠s));replace m:=zb m hb;have I:=zA ((by rw[j];exact Nat.ne_of_lt (ay (g:=u) (o:=.cells #[.int .i64 0,.slice none 0 0] 24 (0,0)) (zK r)):u≠q));have bb:=zA ((by rw[j];exact Nat.ne_of_gt (ay (g:=u) (o:=.cells #[.int .i64 0,.slice none 0 0] 24 (0,0)) (zK r)):q≠u));replace r:=zb r hb;have J:=zA ((by rw[j];exact Nat.ne_of_lt (ay (g:=z) (o:=.cells #[.int .i64 n,u262001] 24 (0,0)) (zK x)):z≠q));have be:=zA ((by rw[j];exact Nat.ne_of_gt (ay (g:=z) (o:=.cells #[.int .i64 n,u262001] 24 (0,0)) (zK x)):q≠z));replace x:=zb x hb;clear hb v j;have e2:=a9.out;have e3:=G.out;have e4:=bb.out;have e5:=I.out;have e6:=be.out;have e_:=J.out;obtain⟨e',fb,fd,fn,fo,fq⟩:=cC S;have fr:=a2.out;have ft:=V.out;have fv:=a3.out;have f3:=W.out;obtain⟨f4,f5,f6,f7⟩:=aC x;have f8:((((c8.setCell ⟨q,0,none⟩ (.int .i64 (ae a i).f0)).setCell ⟨q,1,none⟩ (.int .i64 (ae a i).f1)).setCell ⟨q,2,none⟩ (.int .i64 (ae a i).f2)).setCell ⟨q,2,none⟩ (.int .i64 F)).cell? ⟨q,2,none⟩=some (.int .i64 F):=(ah (bH (cs:=#[(.int .i64 (ae a i).f0),(.int .i64 (ae a i).f1),(.int .i64 (ae a i).f2)]) (bH (cs:=#[(.int .i64 (ae a i).f0),(.int .i64 (ae a i).f1),(.int .i64 0)]) (bH (cs:=#[(.int .i64 (ae a i).f0),(.int .i64 0),(.int .i64 0)]) (bH (cs:=#[(.int .i64 0),(.int .i64 0),(.int .i64 0)]) S.out 0 _ rfl) 1 _ rfl) 2 _ rfl) 2 _ rfl) 2).trans rfl)|((with_reducible refine um (b:=.append) (xs:=#[.tmp 37,.tmp 39]) rfl ?_);at_builtin;refine Kd.mQ aM (w0:=w) w.heap.size rfl (.tmp 37) (.tmp 39) 22 83 (.agg #[(.int .i64 0),(.int .i64 0),(.int .i64 0)]) 24 rfl Tryz.underlying22 Cf rfl (by decide) (by omega) u262001 E (⟨(ae a i).f0,(ae a i).f1,F⟩:S83) [.int .i64 ((ae a i).f0),.int .i64 ((ae a i).f1),.int .i64 F] (fun T=>T≠q) (fun _=>False) rfl (by first|(go_simp;done)|(go_simp;rfl)) ?aP (fun _ hk=>hk.elim) ?aF ?aO ?aB ?aS ?aL ?_;(case aP=>exact jD _ _ _ (⟨(ae a i).f0,(ae a i).f1,F⟩:S83));(case aB=>exact zB);(case aF=>exact(fun T hk=>Kd.l4 (g:=q) (o:=.cells #[.int .i64 ((ae a i).f0),.int .i64 ((ae a i).f1),.int .i64 F] 83 (0,0)) (by refine zk ?_;refine bH (cs:=#[.int .i64 ((ae a i).f0),.int .i64 ((ae a i).f1),.int .i64 ((ae a i).f2)]) ?_ 2 _ rfl;refine zk ?_;refine bH (cs:=#[.int .i64 ((ae a i).f0),.int .i64 ((ae a i).f1),.int .i64 0]) ?_ 2 _ rfl;refine zk ?_;refine bH (cs:=#[.int .i64 ((ae a i).f0),.int .i64 0,.int .i64 0]) ?_ 1 _ rfl;refine zk ?_;refine bH (cs:=#[.int .i64 0,.int .i64 0,.int .i64 0]) ?_ 0 _ rfl;exact zK S) T hk));(case aO=>exact(by(with_reducible repeat(first|apply Kd.aK|apply Kd.bJ|apply Kd.bA));exact Kd.a_ (Kd.ee (p:=⟨q,2,none⟩) (Kd.ee (p:=⟨q,2,none⟩) (Kd.ee (p:=⟨q,1,none⟩) (Kd.ee (p:=⟨q,0,none⟩) (Kd.a_ D.out (fun T hk=>(⟨hk,hk.2⟩:_/\T≠q))) (fun _ hk=>hk.2) (.int .i64 ((ae a i).f0))) (fun _ hk=>hk.2) (.int .i64 ((ae a i).f1))) (fun _ hk=>hk.2) (.int .i64 ((ae a i).f2))) (fun _ hk=>hk.2) (.int .i64 F)) (fun _ hk=>hk.1.2)));(case aS=>exact(bO zB));(case aL=>have:=c5.out;omega);intro f9 f' ho hb j c9;rw[<-c7.out] at ho;replace m:=zA (di (g:=s) (o:=.cells #[.int .i64 n,.slice (some Y) a.length y] 24 (0,0)) (by refine zk ?_;refine aG ?_ G.out _;refine zk ?_;refine aG ?_ G.out _;refine zk ?_;refine aG ?_ G.out _;refine zk ?_;refine aG ?_ G.out _;exact zK m) j (Kd.dm D.out m.out (by decide)));replace r:=zA (di (g:=u) (o:=.cells #[.int .i64 0,.slice none 0 0] 24 (0,0)) (by refine zk ?_;refine aG ?_ I.out _;refine zk ?_;refine aG ?_ I.out _;refine zk ?_;refine aG ?_ I.out _;refine zk ?_;refine aG ?_ I.out _;exact zK r) j (Kd.dm D.out r.out (by decide)));replace x:=zA (di (g:=z) (o:=.cells #[.int .i64 n,u262001] 24 (0,0)) (by refine zk ?_;refine aG ?_ J.out _;refine zk ?_;refine aG ?_ J.out _;refine zk ?_;refine aG ?_ J.out _;refine zk ?_;refine aG ?_ J.out _;exact zK x) j (Kd.dm D.out x.out (by decide)));replace S:=zA (di (g:=q) (o:=.cells #[.int .i64 ((ae a i).f0),.int .i64 ((ae a i).f1),.int .i64 F] 83 (0,0)) (by refine zk ?_;refine bH (cs:=#[.int .i64 ((ae a i).f0),.int .i64 ((ae a i).f1),.int .i64 ((ae a i).f2)]) ?_ 2 _ rfl;refine zk ?_;refine bH (cs:=#[.int .i64 ((ae a i).f0),.int .i64 ((ae a i).f1),.int .i64 0]) ?_ 2 _ rfl;refine zk ?_;refine bH (cs:=#[.int .i64 ((ae a i).f0),.int .i64 0,.int .i64 0]) ?_ 1 _ rfl;refine zk ?_;refine bH (cs:=#[.int .i64 0,.int .i64 0,.int .i64 0]) ?_ 0 _ rfl;exact zK S) j (Kd.Ak D.out (fun _ hk=>hk.2)));replace l:=zA (hb);have b0:=zA (ho);clear D;clear ho hb j c9;obtain⟨b1,b2,c'⟩:=Kd.bh b0.out;subst c';obtain⟨ga,gb,gc,gd⟩:=aC x))
         go_roundg k1
         case measure=>have:=an.out;omega
         case rel=>exact⟨(wrap64 (i+1)),(a0),(.slice b1 a0.length b2),zT,U,⟨by have:=an.out;omega⟩,⟨by(with_reducible repeat(first|apply Kd.aK|apply Kd.bJ|apply Kd.bA));exact Kd.a_ (Kd.ee (p:=⟨z,1,none⟩) (Kd.iC b0.out x.out (by decide)) (fun _ hk=>hk.2) (.slice b1 a0.length b2)) (fun _ hk=>trivial)⟩,⟨by refine zk ?_;refine aG ?_ V.out _;exact zK m⟩,⟨by refine zk ?_;refine aG ?_ W.out _;exact zK r⟩,⟨by refine zk ?_;refine bH (cs:=#[.int .i64 n,u262001]) ?_ 1 _ rfl;exact zK x⟩,⟨zB⟩⟩
        ·rw[if_neg av] at H
         exact absurd H (by simp)
      ·rw[if_neg ar] at H
       exact absurd H (by simp)
     ·rw[if_neg ap] at H
      exact absurd H (by simp)
    ·rw[if_neg X] at H
     have cv:=ba X;clear X;simp only[Option.some.injEq,Prod.mk.injEq] at H;obtain⟨rfl,rfl,rfl⟩:=H;have ge:=a2.out;have gf:=V.out;have gg:=a3.out;have gi:=W.out;obtain⟨gl,gm,gn,go⟩:=aC x;have gp:=am.out;have gq:=ak.out;obtain⟨gr,gs,gt,gx⟩:=aC r;obtain⟨b3,b4,dd⟩:=Kd.bh D.out;subst dd;go_wp2;refine bodyPost_ret (qg rfl _ _ u 24 #[.int .i64 n,.slice b3 E.length b4] (0,0) _ rfl (by refine zk ?_;refine bH (cs:=#[.int .i64 n,.slice none 0 0]) ?_ 1 _ rfl;refine zk ?_;refine bH (cs:=#[.int .i64 0,.slice none 0 0]) ?_ 0 _ rfl;exact zK r) Tryz.underlying24 rfl (by kernel_rfl)) rfl ?_;exact⟨_,zE,by(with_reducible repeat(first|apply Kd.aK|apply Kd.bJ|apply Kd.bA));exact Kd.a_ (Kd.ee (p:=⟨u,1,none⟩) (Kd.ee (p:=⟨u,0,none⟩) (Kd.iC D.out r.out (by decide)) (fun _ hk=>hk.2) (.int .i64 n)) (fun _ hk=>hk.2) (.slice b3 E.length b4)) (fun _ hk=>trivial),zB⟩
 ·rw[if_neg c4] at H
  obtain⟨bv,bw⟩:=b7 c4;simp only[Option.some.injEq,Prod.mk.injEq] at H;obtain⟨rfl,rfl,rfl⟩:=H;go_enter Tryz.func84,Tryz.ntmps84
  go_wp2_with (first|((with_reducible refine aU (N:=2) rfl ?_);refine zX 2 #[.int .i64 n,.slice B a.length y] 24 ?_;intro s j g0 v hb;have m:=zA (v);have b5:=zG l j;have b6:=zG l j;replace l:=zS l hb;clear hb v j)|((with_reducible refine aU (N:=4) rfl ?_);refine zX 4 #[.int .i64 0,.slice none 0 0] 24 ?_;intro u j g1 v hb;have r:=zA (v);have b_:=zG l j;have b':=zG l j;replace l:=zS l hb;have ak:=zA ((by rw[j];exact Nat.ne_of_lt (ay (g:=s) (o:=.cells #[.int .i64 n,.slice B a.length y] 24 (0,0)) (zK m)):s≠u));have am:=zA ((by rw[j];exact Nat.ne_of_gt (ay (g:=s) (o:=.cells #[.int .i64 n,.slice B a.length y] 24 (0,0)) (zK m)):u≠s));replace m:=zb m hb;clear hb v j;have g2:=ak.out;have g3:=am.out;obtain⟨g4,g5,g6,g7⟩:=aC m)|((with_reducible refine aR (f:=64) rfl ?_);refine zL (some 11) Tryz.func64 #[.agg #[.int .i64 n,.slice B a.length y]] ?_;(with_reducible refine(a7.calls k n _ _ a t260 _ ?au ?aw A3.out).mono ?_);(case au=>exact Kd.ax ag.out zB);(case aw=>exact bo.out);rintro e g8 ⟨rfl,hb⟩;refine⟨_,rfl,?_⟩;replace m:=zb m hb;replace r:=zb r hb;replace l:=zS l hb;(try clear hb);obtain⟨g9,g',ha,hc⟩:=aC r))
  refine bodyPost_ret (qg rfl _ _ u 24 #[.int .i64 0,.slice none 0 0] (0,0) _ rfl (by refine zk ?_;refine bH (cs:=#[.int .i64 0,.slice none 0 0]) ?_ 1 _ rfl;refine zk ?_;refine bH (cs:=#[.int .i64 0,.slice none 0 0]) ?_ 0 _ rfl;exact zK r) Tryz.underlying24 rfl (by kernel_rfl)) rfl ?_;exact⟨_,zE,by first|exact Kd.df _ _ _ _ _|exact Kd.iE _ _ _ _ _|exact Kd.V_nil _ _ _ _ _|exact Kd.Q_nil _ _ _ _ _|exact Kd.ij _ _ _ _ _,zB⟩
end
def eI.f (k:Nat) (b:Int) (e:List (S83)):Option (Int×(List (S83))×Int):=(dt.f k b e 50).bind fun a=>(some (a.1,a.2.1,a.2.2))
theorem eI.mono:∀a0 a k,al (eI.f k a0 a) (eI.f (k+1) a0 a):=by
 intro a0 a k;unfold eI.f;with_reducible repeat' first|exact dt.mono _ _ _ _|exact al.refl _|exact al.none _|refine al.ite ?_ ?_|refine al.bind ?_ (fun _=>?_)
theorem eI.calls (k:Nat) (j:Int) (m:Option Addr) (n:Nat) (a:List (S83)) (y:Int) (z:List (S83)) (B:Int) (w:World) (D:Kd.C aM w m a.length a) (E:a.length<=n) (h:eI.f k j a=some (y,z,B)):
  Calls Tryz.prog 30 #[.agg #[.int .i64 j,.slice m a.length n]] w fun e w'=>∃F:Value,e= .returned (.tuple #[.agg #[.int .i64 y,F],.int .i64 B])/\Kd.R aM 83 w' w.heap.size (fun _=>True) F z/\Below w.heap.size w w':=by
 have U:=Tryz.underlying24;have L:=zA D;have M:=zA E;clear D E;have b:=zA (aj w.heap.size w);unfold eI.f at h;have H:=h;clear h;obtain⟨⟨u,x,O⟩,P,H⟩:=zo H;dsimp only at H;simp only[Option.some.injEq,Prod.mk.injEq] at H;obtain⟨rfl,rfl,rfl⟩:=H;go_enter Tryz.func30,Tryz.ntmps30
 go_wp2_with (first|((with_reducible refine aU (N:=1) rfl ?_);refine zX 1 #[.int .i64 j,.slice m a.length n] 24 ?_;intro v i w3 q hb;have l:=zA (q);have V:=zG b i;have W:=zG b i;replace b:=zS b hb;clear hb q i)|((with_reducible refine aU (N:=2) rfl ?_);refine zX 2 #[.int .i64 0,.slice none 0 0] 24 ?_;intro r i X q hb;have s:=zA (q);have Y:=zG b i;have Z:=zG b i;replace b:=zS b hb;have Q:=zA ((by rw[i];exact Nat.ne_of_lt (ay (g:=v) (o:=.cells #[.int .i64 j,.slice m a.length n] 24 (0,0)) (zK l)):v≠r));have S:=zA ((by rw[i];exact Nat.ne_of_gt (ay (g:=v) (o:=.cells #[.int .i64 j,.slice m a.length n] 24 (0,0)) (zK l)):r≠v));replace l:=zb l hb;clear hb q i;have aa:=Q.out;have ab:=S.out;obtain⟨ad,ag,ak,am⟩:=aC l)|((with_reducible refine aR (f:=84) rfl ?_);refine zL (some 5) Tryz.func84 #[.agg #[.int .i64 j,.slice m a.length n],.int .i64 50] ?_;(with_reducible refine(dt.calls k j _ _ a 50 u x O _ ?au ?aw P.out).mono ?_);(case au=>exact Kd.ax L.out zB);(case aw=>exact M.out);rintro e w7 ⟨ao,rfl,G,hb⟩;refine⟨_,rfl,?_⟩;have I:=zA (Kd.bc G (bO zB));replace l:=zb l hb;replace s:=zb s hb;replace b:=zS b hb;(try clear hb);(try clear G);obtain⟨ap,ar,av,aB⟩:=aC s;obtain⟨J,K,T⟩:=Kd.bh I.out;subst T))
 refine bodyPost_ret (qg rfl _ _ r 24 #[.int .i64 u,.slice J x.length K] (0,0) _ rfl (by refine zk ?_;refine bH (cs:=#[.int .i64 u,.slice none 0 0]) ?_ 1 _ rfl;refine zk ?_;refine bH (cs:=#[.int .i64 0,.slice none 0 0]) ?_ 0 _ rfl;exact zK s) Tryz.underlying24 rfl (by kernel_rfl)) rfl ?_;exact⟨_,zE,by(with_reducible repeat(first|apply Kd.aK|apply Kd.bJ|apply Kd.bA));exact Kd.a_ (Kd.ee (p:=⟨r,1,none⟩) (Kd.ee (p:=⟨r,0,none⟩) (Kd.iC I.out s.out (by decide)) (fun _ hk=>hk.2) (.int .i64 u)) (fun _ hk=>hk.2) (.slice J x.length K)) (fun _ hk=>trivial),zB⟩
def bN (E:List S83):List S83:=E.filter fun x=>decide (x.f0≠x.f1)
theorem kY {E:List S83} {x:S83}:x∈bN E↔x∈E/\x.f0≠x.f1:=by simp[bN]
theorem p6 (E:List S83):af (bN E)=af E:=by
 unfold af bN;generalize (fun _ _=>(0:Int):Nat->Nat->Int)=f;induction E generalizing f with
 |nil=>rfl
 |cons x E a=>
  by_cases e:x.f0=x.f1
  ·rw[List.filter_cons_of_neg (by simp[e]),List.foldl_cons,a,show cY f x=f from if_pos e]
  ·rw[List.filter_cons_of_pos (by simp[e]),List.foldl_cons,List.foldl_cons,a]
theorem bt.bN {N:Int} {E:List S83} (h:bt N E):bt N (bN E):=
 ⟨fun x a=>h.ok x (kY.1 a).1,fun x a=>h.le x (kY.1 a).1,h.order.sublist (List.filter_sublist ..)⟩
theorem yK {N:Int}:∀{E:List S83} {a b:Int},(∀x∈E,bQ N x=true/\x.f0<=x.f1/\(a<x.f0\/a=x.f0/\b<x.f1))->E.Pairwise iP->iy N a b E=0
 |[],_,_,_,_=>rfl
 |y::E,a,b,h,hp=>by
  obtain⟨g,i⟩:=List.pairwise_cons.1 hp;obtain⟨h1,j,k⟩:=h y (List.mem_cons_self ..);have he:dY N a b y=0:=by
   unfold dY;rw[h1,if_neg (by decide),if_neg (by omega)]
  rw[iy,if_pos he];exact yK (fun x e=>⟨(h x (List.mem_cons_of_mem _ e)).1,(h x (List.mem_cons_of_mem _ e)).2.1,g x e⟩) i
theorem yL {N:Int} {E:List S83} (h1:1<=N) (b:N<=12) (h:bt N E):cL N E=0:=by
 unfold cL;rw[if_neg (by omega)];refine yK (fun x a=>⟨h.ok x a,h.le x a,?_⟩) h.order;have:=h.ok x a;simp[bQ] at this;omega
theorem fC.bN {n:Nat} {E:List S83} (h:fC n E):fC n (bN E):=fun S h1 b=>by
 obtain⟨x,g,a⟩:=h S h1 b;exact⟨x,kY.2 ⟨g,fun e=>a (by rw[e])⟩,a⟩
theorem s7 {N:Int} {E:List S83} (b:E.length<=1000) (hm:∀x∈E,x.f2<=50):∀(m i:Nat) (o:List S83),i+m=E.length->o.length<=i->Ev (fun k=>dt.l0 k 50 E E.length i N o) (N,o++bN (E.drop i),(0:Int))
 |0,i,o,hi,g=>by
  refine Ev.of_succ ?_;simp only[dt.l0,if_neg (show ¬((i:Int)<(E.length:Int)) by omega)];rw[List.drop_eq_nil_of_le (by omega)];simpa [bN] using Ev.const (N,o,(0:Int))
 |m+1,i,o,hi,g=>by
  have h:ae E i∈E:=by
   have:ae E i=E[i]:=by simp[ae,aW,bp (show i<E.length by omega)]
   rw[this];exact List.getElem_mem _
  have l:=hm _ h;rw[nM (show i<E.length by omega)];refine Ev.of_succ ?_;by_cases e:(ae E i).f0=(ae E i).f1
  ·have a:=s7 (N:=N) b hm m (i+1) o (by omega) (by omega)
   simp only[dt.l0,if_pos (show (i:Int)<(E.length:Int) by omega),if_pos (show (0:Int)<=(i:Int) by omega),if_pos e,eX (show i<=1000000 by omega)];rw[show Go.Proofs.YtffdiakgjakngaaGreat.P.bN (ae E i::E.drop (i+1))=Go.Proofs.YtffdiakgjakngaaGreat.P.bN (E.drop (i+1)) from List.filter_cons_of_neg (by simp[e])];exact a
  ·have j:mn (ae E i).f2 50=(ae E i).f2:=by unfold mn;first|(rw[if_pos (by omega)])|(rw[if_neg (by omega)])|omega
   have a:=s7 (N:=N) b hm m (i+1) (o++[ae E i]) (by omega) (by simp;omega);simp only[dt.l0,if_pos (show (i:Int)<(E.length:Int) by omega),if_pos (show (0:Int)<=(i:Int) by omega),if_neg e,if_pos (show o.length<5864062014805 by omega),eX (show i<=1000000 by omega),j];rw[show Go.Proofs.YtffdiakgjakngaaGreat.P.bN (ae E i::E.drop (i+1))=ae E i::Go.Proofs.YtffdiakgjakngaaGreat.P.bN (E.drop (i+1)) from List.filter_cons_of_pos (by simp[e])];rw[List.append_assoc] at a;exact a
theorem Ij {N:Int} {E:List S83} (b:E.length<=1000) (e:cL N E=0):Ev (fun k=>eI.f k N E) (N,bN E,(0:Int)):=by
 unfold eI.f dt.f;have h:=mC N E b;rw[e] at h;refine Ev.bind (a:=(N,bN E,(0:Int))) (Ev.bind h ?_) (Ev.const _);simp only[if_true];have hm:∀x∈E,x.f2<=50:=fun x g=>by
  have:=(jq e).2.2.ok x g;simp[bQ] at this;omega
 simpa using s7 (N:=N) b hm E.length 0 [] (by omega) (by simp)
theorem yM {p q:Nat->Nat} (h:∀v,rootOf q v=rootOf p v):∀u,cm q u=cm p u
 |0=>rfl
 |u+1=>by rw[cm,cm,yM h u,h u]
theorem yN {p q:Nat->Nat} {M m:Nat} (g:rootOf p M=M) (hm:rootOf p m=m) (a:m≠M) (h:∀v,rootOf q v=if rootOf p v=M then m else rootOf p v):∀u,cm q u+(if M<u then 1 else 0)=cm p u
 |0=>rfl
 |u+1=>by
  have b:=yN g hm a h u;rw[cm,cm,h u];rcases Nat.lt_trichotomy u M with e|e|e
  ·have e2:rootOf p u≠M:=by have:=ji p u;omega
   rw[if_neg (by omega)] at b;rw[if_neg e2,if_neg (show ¬M<u+1 by omega)];omega
  ·subst e
   rw[if_neg (Nat.lt_irrefl _)] at b;rw[g,if_pos rfl,if_neg a,if_pos (Nat.lt_succ_self _),if_pos rfl];omega
  ·rw[if_pos e] at b
   rw[if_pos (show M<u+1 by omega)];by_cases e2:rootOf p u=M
   ·have i:m≠u:=fun j=>a (by rw[<-hm,j,e2])
    rw[if_pos e2,if_neg i,e2,if_neg (show ¬M=u by omega)];omega
   ·rw[if_neg e2]
    omega
theorem Ik {n:Nat} (s:(Nat->Nat)×Nat) (x:Nat×Int×Int) (h1:x.2.1.toNat<n) (g:x.2.2.toNat<n):(fH s x).2+cm s.1 n=s.2+1+cm (fH s x).1 n:=by
 unfold fH;have a:=mE s.1 x.2.1.toNat x.2.2.toNat;have i:=mj s.1 x.2.1.toNat;have hb:=mj s.1 x.2.2.toNat;have j:=ji s.1 x.2.1.toNat;have lb:=ji s.1 x.2.2.toNat;by_cases e:rootOf s.1 x.2.1.toNat=rootOf s.1 x.2.2.toNat
 ·rw[if_pos e,yM (q:=dP s.1 x.2.1.toNat x.2.2.toNat) (p:=s.1) (fun v=>by
   rw[a v,e,Nat.max_self,Nat.min_self];split
   ·rename_i h;exact h.symm
   ·rfl) n]
 ·rw[if_neg e]
  have b:=yN (p:=s.1) (q:=dP s.1 x.2.1.toNat x.2.2.toNat) (M:=max (rootOf s.1 x.2.1.toNat) (rootOf s.1 x.2.2.toNat)) (m:=min (rootOf s.1 x.2.1.toNat) (rootOf s.1 x.2.2.toNat))
   (by rw[Nat.max_def];split<;>assumption) (by rw[Nat.min_def];split<;>assumption) (by omega) a n
  rw[if_pos (by omega)] at b;dsimp only;omega
theorem yO {n:Nat}:∀(xs:List (Nat×Int×Int)) (s:(Nat->Nat)×Nat),(∀x∈xs,x.2.1.toNat<n/\x.2.2.toNat<n)->(xs.foldl fH s).2+cm s.1 n=s.2+xs.length+cm (xs.foldl fH s).1 n
 |[],s,_=>by simp
 |x::xs,s,h=>by
  have h1:=Ik s x (h x (List.mem_cons_self ..)).1 (h x (List.mem_cons_self ..)).2;have b:=yO xs (fH s x) (fun y a=>h y (List.mem_cons_of_mem _ a));rw[List.foldl_cons,List.length_cons];omega
def om (x:Nat×Int×Int):S83:=⟨x.2.1,x.2.2,1⟩
theorem yP:∀(xs:List (Nat×Int×Int)) (s:(Nat->Nat)×Nat),(xs.foldl fH s).1=(xs.map om).foldl (fun p x=>dP p x.f0.toNat x.f1.toNat) s.1
 |[],s=>rfl
 |x::xs,s=>by rw[List.foldl_cons,List.map_cons,List.foldl_cons,yP xs (fH s x)];rfl
theorem yQ:∀n,cm id n=n
 |0=>rfl
 |n+1=>by rw[cm,yQ n,mD (by simp),if_pos rfl]
theorem yR {E:List S83} {y:Nat×Int×Int} (h:y∈bu E E.length):∃x∈E,y.2=(x.f0,x.f1):=by
 obtain⟨x,a,h1,b⟩:=nB E _ (aI _) y h;exact⟨x,a,Prod.ext h1 b⟩
theorem yS {E:List S83} {i:Nat} (hi:i<E.length) (hm:1<=(ae E i).f2):∀{k:Nat},i<k->∃y∈bu E k,y.2=((ae E i).f0,(ae E i).f1)
 |0,h=>by omega
 |k+1,h=>by
  by_cases e:i=k
  ·subst e
   obtain⟨j,a⟩:∃j,(ae E i).f2.toNat=j+1:=⟨(ae E i).f2.toNat-1,by omega⟩;refine⟨_,List.mem_append_right _ (by rw[a];exact List.mem_append_right _ (List.mem_singleton.2 rfl)),rfl⟩
  ·obtain⟨y,b,he⟩:=yS hi hm (k:=k) (by omega)
   exact⟨y,List.mem_append_left _ b,he⟩
theorem Il {n:Nat} {E:List S83} (e:bt n E) (h:fC n E):fC n ((bu E E.length).map om):=fun S h1 g=>by
 obtain⟨x,a,j⟩:=h S h1 g;obtain⟨i,hi,rfl⟩:=List.getElem_of_mem a;have b:ae E i=E[i]:=by simp[ae,aW,bp hi]
 have k:=e.ok _ a;simp[bQ] at k;obtain⟨y,l,he⟩:=yS hi (by rw[b];omega) hi;rw[b] at he;refine⟨om y,List.mem_map.2 ⟨y,l,rfl⟩,?_⟩;show S y.2.1.toNat≠S y.2.2.toNat
 rw[he];exact j
theorem Im {n:Nat} {E:List S83} (hn:1<=n) (a:bt n E) (h:fC n E):(cH (bu E E.length)).2+n=(bu E E.length).length+1:=by
 have i:∀x∈bu E E.length,x.2.1.toNat<n/\x.2.2.toNat<n:=fun y b=>by
  obtain⟨x,e,he⟩:=yR b;have g:=a.ok x e;simp[bQ] at g;rw[he];show x.f0.toNat<n/\x.f1.toNat<n
  omega
 have j:=yO (n:=n) (bu E E.length) (id,0) i;have hf:=yP (bu E E.length) (id,0);have h1:cm (aJ ((bu E E.length).map om)) n=1:=(rN hn (fun z k=>by
  obtain⟨y,b,rfl⟩:=List.mem_map.1 k;obtain⟨x,e,he⟩:=yR b;have g:=a.ok x e;simp[bQ] at g;show 0<=y.2.1/\y.2.1<n/\0<=y.2.2/\y.2.2<n/\(1:Int)<=1/\(1:Int)<=50
  rw[he];show 0<=x.f0/\x.f0<n/\0<=x.f1/\x.f1<n/\(1:Int)<=1/\(1:Int)<=50
  omega)).2 (Il a h)
 rw[show ((bu E E.length).foldl fH (id,0)).1=aJ ((bu E E.length).map om) from hf,h1,yQ] at j;show ((bu E E.length).foldl fH (id,0)).2+n=_
 omega
theorem val_step_eq {n:Nat} {f:Nat->Nat->Int} {x:S83} (j:0<=x.f0/\x.f0<n) (h1:0<=x.f1/\x.f1<n) (a:x.f0≠x.f1) (b:f x.f0.toNat x.f1.toNat=0) (e:f x.f1.toNat x.f0.toNat=0) {u:Nat} (hu:u<n):
  T.val n (cY f x) u=T.val n f u+(T.one x.f1.toNat u*x.f2+T.one x.f0.toNat u*x.f2):=by
 unfold cY;rw[if_neg a];have g:x.f0.toNat<n:=by omega
 have hb:x.f1.toNat<n:=by omega
 have k:x.f0.toNat≠x.f1.toNat:=by omega
 unfold T.val;have i:T.one x.f1.toNat u*x.f2=T.sN (fun v=>(T.one x.f1.toNat u*x.f2)*T.one x.f0.toNat v) n:=by rw[T.fk,T.fl g,Int.mul_one]
 have e2:T.one x.f0.toNat u*x.f2=T.sN (fun v=>(T.one x.f0.toNat u*x.f2)*T.one x.f1.toNat v) n:=by rw[T.fk,T.fl hb,Int.mul_one]
 rw[i,e2,<-T.dF,<-T.dF];refine T.bK fun v l=>?_
 unfold T.one;dsimp only;by_cases c1:u=x.f1.toNat/\v=x.f0.toNat
 ·rw[if_pos c1,if_pos c1.1,if_pos c1.2,if_neg (show ¬u=x.f0.toNat by omega),c1.1,c1.2,e];omega
 ·rw[if_neg c1]
  by_cases c2:u=x.f0.toNat/\v=x.f1.toNat
  ·rw[if_pos c2,if_pos c2.1,if_pos c2.2,if_neg (show ¬u=x.f1.toNat by omega),c2.1,c2.2,b];omega
  ·rw[if_neg c2]
   by_cases c3:u=x.f1.toNat
   ·rw[if_pos c3,if_neg (fun h=>c1 ⟨c3,h⟩),if_neg (show ¬u=x.f0.toNat by omega)];omega
   ·rw[if_neg c3]
    by_cases c4:u=x.f0.toNat
    ·rw[if_pos c4,if_neg (fun h=>c2 ⟨c4,h⟩)];omega
    ·rw[if_neg c4];omega
theorem Io {n:Nat} {f:Nat->Nat->Int} {x:S83} (b:0<=x.f0/\x.f0<n) (h1:0<=x.f1/\x.f1<n) (e:x.f0≠x.f1) (h:f x.f0.toNat x.f1.toNat=0) (i:f x.f1.toNat x.f0.toNat=0):
  T.sN (T.val n (cY f x)) n=T.sN (T.val n f) n+2*x.f2:=by
 have j:x.f0.toNat<n:=by omega
 have hb:x.f1.toNat<n:=by omega
 have a:=T.bK fun u hu=>val_step_eq b h1 e h i (u:=u) hu
 rw[T.dF,T.dF] at a;have k:T.sN (fun u=>T.one x.f1.toNat u*x.f2) n=x.f2:=by
  rw[T.bK (g:=fun u=>x.f2*T.one x.f1.toNat u) (fun u _=>Int.mul_comm _ _),T.fk,T.fl hb,Int.mul_one]
 have l:T.sN (fun u=>T.one x.f0.toNat u*x.f2) n=x.f2:=by
  rw[T.bK (g:=fun u=>x.f2*T.one x.f0.toNat u) (fun u _=>Int.mul_comm _ _),T.fk,T.fl j,Int.mul_one]
 rw[k,l] at a;omega
theorem yT {n:Nat}:∀(E:List S83) (f:Nat->Nat->Int),(∀x∈E,bQ n x=true/\x.f0<x.f1/\f x.f0.toNat x.f1.toNat=0/\f x.f1.toNat x.f0.toNat=0)->E.Pairwise iP->T.sN (T.val n (E.foldl cY f)) n=T.sN (T.val n f) n+2*e7 E
 |[],f,_,_=>by simp[e7]
 |x::E,f,h,hp=>by
  obtain⟨e,g⟩:=List.pairwise_cons.1 hp;obtain⟨h1,r,i,j⟩:=h x (List.mem_cons_self ..);simp[bQ] at h1;have k:=Io (n:=n) (f:=f) (x:=x) (by omega) (by omega) (by omega) i j;have l:=yT E (cY f x) (fun y a=>by
   obtain⟨b,m,o,p⟩:=h y (List.mem_cons_of_mem _ a);have hb:=e y a;unfold iP at hb;have q:=b;simp[bQ] at q;unfold cY;rw[if_neg (show ¬x.f0=x.f1 by omega)];refine⟨b,m,?_,?_⟩
   ·show (if _ then _ else _)=_
    rw[if_neg (by omega),if_neg (by omega)];exact o
   ·show (if _ then _ else _)=_
    rw[if_neg (by omega),if_neg (by omega)];exact p) g
  rw[List.foldl_cons,l,k,e7];omega
theorem s8 {n:Nat} {E:List S83} (h:bt n E) (b:∀x∈E,x.f0≠x.f1):T.sN (T.val n (af E)) n=2*(cV E E.length:Nat):=by
 have h1:=yT (n:=n) E (fun _ _=>0) (fun x a=>⟨h.ok x a,by have:=h.le x a;have:=b x a;omega,rfl,rfl⟩) h.order;have g:T.sN (T.val n fun _ _=>0) n=0:=T.gK fun u _=>T.kH n
 have e:=nQ h E.length (aI _);rw[List.take_length] at e;unfold af;omega
theorem Ip {n:Nat} {E:List S83} (hn:1<=n) (m:n<=12) (o:E.length<=40) (e:cL n E=0) (hC:fC n E):
  ∃g:Nat,Ev (fun k=>fu.f k n (bN E)) ((g:Int),(0:Int))/\T.ep n (af E) g:=by
 have a:=(jq e).2.2.bN;have p:(bN E).length<=E.length:=List.length_filter_le _ _;have i:=Im hn a hC.bN;refine⟨(cH (bu (bN E) (bN E).length)).2,?_,?_⟩
 ·unfold fu.f
  have h:=mC n (bN E) (by omega);rw[yL (by omega) (by omega) a] at h;refine Ev.bind h ?_;have j:oh n (bN E)=true:=by
   unfold oh dh;rw[a.c_,aE (by omega),aE (show (bN E).length<=40 by omega)];simp only[Bool.true_and,Bool.and_true];refine List.all_eq_true.2 fun x b=>?_
   have:=a.ok x b;simp[bQ] at this;exact aE (by omega)
  simp only[if_true,if_pos j];exact Ev.const _
 ·have h1:=s8 a (fun x b=>(kY.1 b).2)
  rw[p6] at h1;show T.sN (T.can n (af E)) n=_
  have l:T.sN (T.can n (af E)) n=T.sN (T.val n (af E)) n-2*n:=by
   show T.sN (fun v=>T.val n (af E) v-2) n=_
   rw[T.dB,T.iw];omega
  rw[nA] at i;rw[l,h1];omega
end Go.Proofs.YtffdiakgjakngaaGreat.P


