/- RiemannrochHolds answers true whatever the input (text 2 of 20): own walks and plain laws; no conditions. -/
import Derived.ArgAppend
import Derived.Below
import Derived.BigQuiet
import Derived.Deep.AppendLies
import Derived.Deep.CutBlock
import Derived.Deep.DeepCutAuto
import Derived.Deep.Draws
import Derived.Deep.LoopGhost
import Derived.Deep.OwnRows
import Derived.Deep.QuietTactic
import Derived.Deep.RegionHeld3
import Derived.KernelRfl
import Derived.Laws.BitsLemmas
import Derived.Laws.BytesArg
import Derived.Laws.IdiomCopy
import Derived.Laws.MakeOwn
import Derived.Laws.OwnMore
import Derived.Laws.Rows
import Derived.Laws.Slices
import Derived.Lib.AppendStr
import Derived.Lib.ConvBytes
import Derived.Maps.AppendAt
import Derived.OrdersHeld
import Derived.OwnWalk
import Derived.RowKit
import Derived.RowKit3
import Derived.Tactics
import Derived.Test.YtffdiakgjakngaaGreatProg
import Derived.WalkKit
import Derived.WideLaws
import Derived.Test.YtffdiakgjakngaaGreatHolds1
namespace Go.Proofs.YtffdiakgjakngaaGreat.P
open Go.RowKit Go.Proofs.YtffdiakgjakngaaGreatW.PrintWords Go.Proofs.YtffdiakgjakngaaGreatW.PrintLast Go.Proofs.YtffdiakgjakngaaGreatW.PrintMore
set_option linter.unusedVariables false
set_option linter.unusedSimpArgs false
set_option maxHeartbeats 8000000
set_option maxRecDepth 100000
section
section
variable {w W W0 W':World}
theorem zB (h:Below w.heap.size w W:=by repeat(first|(with_reducible first|exact Aside0.out (by assumption)|apply aq|apply bP|apply bL|refine ec ?_ (Aside0.out (by assumption)))|exact Aside0.out (by assumption))):Below w.heap.size w W:=h
theorem zS (a:Aside0 (Below w.heap.size w W0)) (hb:Below W.heap.size W W') (h:Below w.heap.size w W:=by repeat(first|(with_reducible first|exact Aside0.out (by assumption)|apply aq|apply bP|apply bL|refine ec ?_ (Aside0.out (by assumption)))|exact Aside0.out (by assumption))):Aside0 (Below w.heap.size w W'):=⟨aU h hb⟩
theorem zG {g:Nat} (b:Aside0 (Below w.heap.size w W0)) (a:g=W.heap.size) (h:Below w.heap.size w W:=by repeat(first|(with_reducible first|exact Aside0.out (by assumption)|apply aq|apply bP|apply bL|refine ec ?_ (Aside0.out (by assumption)))|exact Aside0.out (by assumption))):Aside0 (w.heap.size<=g):=⟨by rw[a];exact a_ h⟩
theorem zK {g:Nat} {o:Obj} (h:Aside0 (W0.heap[g]? =some o)) (c:W0.heap[g]? =some o->W.heap[g]? =some o:=by intro h;(with_reducible repeat(first|refine gV ?_ _|refine ff ?_|refine aw ?_ _));exact h):W.heap[g]? =some o:=c h.out
theorem zk {g:Nat} {o:Obj} (h:W0.heap[g]? =some o) (c:W0.heap[g]? =some o->W.heap[g]? =some o:=by intro h;(with_reducible repeat(first|refine gV ?_ _|refine ff ?_|refine aw ?_ _));exact h):W.heap[g]? =some o:=c h
theorem zb {g:Nat} {o:Obj} (h:Aside0 (W0.heap[g]? =some o)) (hb:Below W.heap.size W W') (c:W0.heap[g]? =some o->W.heap[g]? =some o:=by intro h;(with_reducible repeat(first|refine gV ?_ _|refine ff ?_|refine aw ?_ _));exact h):Aside0 (W'.heap[g]? =some o):=⟨aG (c h.out) hb⟩
section
variable {α:Type} {d:Kd α} {e base:Nat} {ok:Nat->Prop} {v:Value} {xs:List α} {A:Option Addr} {n:Nat}
theorem zR (h:Aside0 (d.R e W0 base ok v xs)) (c:d.R e W0 base ok v xs->d.R e W base ok v xs:=by intro h;(with_reducible repeat(first|apply Kd.aI|apply Kd.ba|apply Kd.a8));exact h):d.R e W base ok v xs:=c h.out
theorem zN (h:Aside0 (d.N e W0 base ok v xs)) (c:d.N e W0 base ok v xs->d.N e W base ok v xs:=by intro h;(with_reducible repeat(first|apply Kd.eD|apply Kd.fD|apply Kd.fC));exact h):d.N e W base ok v xs:=c h.out
theorem aR (h:Aside0 (d.R e W0 base ok v xs)) (hb:Below W.heap.size W W') (c:d.R e W0 base ok v xs->d.R e W base ok v xs:=by intro h;(with_reducible repeat(first|apply Kd.aI|apply Kd.ba|apply Kd.a8));exact h):Aside0 (d.R e W' base ok v xs):=⟨Kd.cp (c h.out) hb⟩
theorem yH (h:Aside0 (d.N e W0 base ok v xs)) (hb:Below W.heap.size W W') (c:d.N e W0 base ok v xs->d.N e W base ok v xs:=by intro h;(with_reducible repeat(first|apply Kd.eD|apply Kd.fD|apply Kd.fC));exact h):Aside0 (d.N e W' base ok v xs):=⟨Kd.fW (c h.out) hb⟩
section
variable {β:Type} {d2:Kd β} {e2:Nat} {ok2:Nat->Prop} {u:Value} {ys:List β} {w2:World}
theorem bB (h:Aside0 (d.R e W0 base ok v xs)) (hb:d2.R e2 w2 W.heap.size ok2 u ys) (a:Below W.heap.size W W') (c:d.R e W0 base ok v xs->d.R e W base ok v xs:=by intro h;(with_reducible repeat(first|apply Kd.aI|apply Kd.ba|apply Kd.a8));exact h):Aside0 (d.R e W' base (fun k=>ok k∧some k≠u.ownBlock) v xs):=⟨Kd.rC (c h.out) (Kd.dK hb) a⟩
theorem fX (h:Aside0 (d.N e W0 base ok v xs)) (hb:d2.R e2 w2 W.heap.size ok2 u ys) (a:Below W.heap.size W W') (c:d.N e W0 base ok v xs->d.N e W base ok v xs:=by intro h;(with_reducible repeat(first|apply Kd.eD|apply Kd.fD|apply Kd.fC));exact h):Aside0 (d.N e W' base (fun k=>ok k∧some k≠u.ownBlock) v xs):=⟨Kd.yn (c h.out) (Kd.dK hb) a⟩
end
theorem zC (h:d.C W0 A n xs) (c:d.C W0 A n xs->d.C W A n xs:=by intro h;repeat(first|exact h|(with_reducible refine Kd.br ?_ _)|(with_reducible refine Kd.fs ?_ _)|(with_reducible refine Kd.eV ?_))):d.C W A n xs:=c h
end
section
variable {g:Nat} {a b c:Value} {l:List Value} {t:TypeId}
theorem z0 (h:Aside0 (W.heap[g]? =some (.cells (List.toArray (a::l)) t (0,0)))):W.cell? ⟨g,0,none⟩=some a:=(ao h.out 0).trans rfl
theorem z1 (h:Aside0 (W.heap[g]? =some (.cells (List.toArray (a::b::l)) t (0,0)))):W.cell? ⟨g,1,none⟩=some b:=(ao h.out 1).trans rfl
theorem z2 (h:Aside0 (W.heap[g]? =some (.cells (List.toArray (a::b::c::l)) t (0,0)))):W.cell? ⟨g,2,none⟩=some c:=(ao h.out 2).trans rfl
theorem au (h:Aside0 (W.heap[g]? =some (.cells #[a,b] t (0,0)))):W.cell? ⟨g,0,none⟩=some a∧W.cell? ⟨g,1,none⟩=some b∧W.frozen? ⟨g,0,none⟩=false∧W.frozen? ⟨g,1,none⟩=false:=⟨z0 h,z1 h,bq h.out 0,bq h.out 1⟩
theorem bV (h:Aside0 (W.heap[g]? =some (.cells #[a,b,c] t (0,0)))):W.cell? ⟨g,0,none⟩=some a∧W.cell? ⟨g,1,none⟩=some b∧W.cell? ⟨g,2,none⟩=some c∧W.frozen? ⟨g,0,none⟩=false∧W.frozen? ⟨g,1,none⟩=false∧W.frozen? ⟨g,2,none⟩=false:=⟨z0 h,z1 h,z2 h,bq h.out 0,bq h.out 1,bq h.out 2⟩
end
end
theorem zE {p:Prop} (h:p:=by first|rfl|(simp[eW,eX]<;>rfl)|(simp[*,eW,eX]<;>rfl)):p:=h
theorem zT {p:Prop} (h:p:=by first|rfl|(simp;done)|(simp[*];done)):p:=h
section
variable {P:Program} {ops:Array Oper} {Q:Exit->Act->World->Prop}
theorem zL {rest:List Oper} {b:Oper} {a:Act} {w:World} {f:FuncId} {fn:Func} {g:Array Operand} {i:Array TypeId} (N:Option Tmp) (hf:P.funcs[f]? =some fn) (args:Array Value)
  (h:Calls P f args w fun e w'=>∃v,e= .returned v∧wpList P ops Q rest (a.put N v) w') (hd:b.dst=N:=by exact rfl) (j:b.guard=none:=by exact rfl) (k:(fn.name== "runtime.NumGoroutine")=false:=by kernel_rfl) (hb:fn.body.isSome=true:=by exact rfl)
  (l:b.op= .call {callee:=.value (.func f),args:=g,argTypes:=i}:=by exact rfl) (m:g.map a.eval=args:=by(try simp only[List.map_toArray,List.map_cons,List.map_nil]);first|done|rfl|(simp only[List.length_drop,List.length_take];rfl)):wpList P ops Q (b::rest) a w:=
 rN N hd j hf k hb args l m h
theorem zX {rest:List Oper} {o:Oper} {a:Act} {W:World} (N:Tmp) (cs:Array Value) (t:TypeId)
  (h:∀g,g=W.heap.size->∀w1,w1.heap[g]? =some (.cells cs t (0,0))->Below W.heap.size W w1->wpList P ops Q rest (a.put o.dst (.pointer (some ⟨g,0,none⟩))) w1) (b:o.guard=none:=by exact rfl) (hd:o.dst=some N:=by exact rfl)
  (e:(execOp a.eval o).run P W= .ok (.value (.pointer (some ⟨W.heap.size,0,none⟩))) (W.alloc (.cells cs t (0,0))):=by first|(go_simp;done)|(go_simp;rfl)):wpList P ops Q (o::rest) a W:=xn b hd e h
end
theorem zo {α β:Type} {x:Option α} {f:α->Option β} {r:β} (h:x.bind f=some r):∃a,Aside0 (x=some a)∧f a=some r:=(Option.bind_eq_some_iff.1 h).imp fun _ k=>⟨⟨k.1⟩,k.2⟩
theorem zi {α:Type} {a b r:α} (h:(if true=true then a else b)=r):a=r:=h
theorem zj {α:Type} {a b r:α} (h:(if false=true then a else b)=r):b=r:=h
theorem bt {a b:Int} (h:a=b):(a==b)=true∧(a != b)=false:=⟨beq_iff_eq.2 h,bne_eq_false_iff_eq.2 h⟩
theorem bu {a b:Int} (h:¬a=b):(a==b)=false∧(a != b)=true:=⟨beq_eq_false_iff_ne.2 h,bne_iff_ne.2 h⟩
end
def sm:Option Int->Value
 |none=>.nilIface
 |some c=>.iface 0 (.int .i64 c)
theorem eW:sm none= .nilIface:=rfl
theorem eX (c:Int):sm (some c)= .iface 0 (.int .i64 c):=rfl
theorem fY:(Tryz.prog.info? 3).map (fun i=>(i.zero,i.size,i.bytes))=some (some (.int .i64 0),1,8):=by kernel_rfl
theorem l4:(Tryz.prog.info? 4).map (fun i=>(i.zero,i.size,i.bytes))=some (some (.bool false),1,1):=by kernel_rfl
theorem sn:(Tryz.prog.info? 25).map (fun i=>(i.zero,i.size,i.bytes))=some (some (.slice none 0 0),1,24):=by kernel_rfl
theorem ph:(Tryz.prog.info? 26).map (fun i=>(i.zero,i.size,i.bytes))=some (some (.slice none 0 0),1,24):=by kernel_rfl
theorem yI:(Tryz.prog.info? 83).map (fun i=>(i.zero,i.size,i.bytes))=some (some (.agg #[(.int .i64 0),(.int .i64 0),(.int .i64 0)]),3,24):=by kernel_rfl
structure S83 where
 f0:Int
 f1:Int
 f2:Int
def so:S83:=⟨(0:Int),(0:Int),(0:Int)⟩
def aK:Kd S83:=Kd.wQ (Kd.pair (Kd.int .i64) (Kd.pair (Kd.int .i64) (Kd.int .i64))) (fun x:S83=>(x.f0,x.f1,x.f2))
theorem yJ {w:World} {x:S83} {cs:List Value} (h:aK.K w x cs):cs=[.int .i64 x.f0,.int .i64 x.f1,.int .i64 x.f2]:=by
 obtain⟨_,_,rfl,rfl,⟨_,_,rfl,rfl,rfl⟩⟩:=h;exact rfl
theorem yK (w:World) (x:S83):aK.K w x [.int .i64 x.f0,.int .i64 x.f1,.int .i64 x.f2]:=⟨[.int .i64 x.f0],[.int .i64 x.f1,.int .i64 x.f2],rfl,rfl,⟨[.int .i64 x.f1],[.int .i64 x.f2],rfl,rfl,rfl⟩⟩
theorem iG (w:World) (base:Nat) (ok:Nat->Prop) (x:S83):aK.M w base ok x [.int .i64 x.f0,.int .i64 x.f1,.int .i64 x.f2]:=⟨[.int .i64 x.f0],[.int .i64 x.f1,.int .i64 x.f2],rfl,rfl,⟨[.int .i64 x.f1],[.int .i64 x.f2],rfl,rfl,rfl⟩⟩
def ai (xs:List S83) (i:Int):S83:=xs.getD i.toNat so
theorem eo {w:World} {A:Option Addr} {n:Nat} {xs:List S83} (h:Kd.C aK w A n xs) (i:Int) (b:0<=i) (h1:i<n):∃ad,A=some ad∧w.cell? (ad.add (i.toNat*3))=some (.int .i64 (ai xs i).f0)∧w.cell? ⟨(ad.add (i.toNat*3)).block,(ad.add (i.toNat*3)).off+1,none⟩=some (.int .i64 (ai xs i).f1)∧w.cell? ⟨(ad.add (i.toNat*3)).block,(ad.add (i.toNat*3)).off+2,none⟩=some (.int .i64 (ai xs i).f2):=by
 obtain⟨ad,c,e,_,g,k⟩:=Kd.oM h so i b h1;have a:∀j u,c[j]? =some u->w.cell? (ad.add (i.toNat*3+j))=some u:=k;obtain rfl:=yJ g;exact⟨ad,e,a 0 _ rfl,by rw[<-oJ _ _ 1 (by omega)];exact a 1 _ rfl,by rw[<-oJ _ _ 2 (by omega)];exact a 2 _ rfl⟩
def aT (xs:List (List Int)) (i:Int):(List Int):=xs.getD i.toNat ([]:List Int)
theorem fE {w:World} {A:Option Addr} {n:Nat} {xs:List (List Int)} (h:Kd.C (Kd.slice 3 (Kd.int .i64)) w A n xs) (i:Int) (a:0<=i) (h1:i<n):∃ad A0 c0,A=some ad∧w.cell? (ad.add i.toNat)=some (.slice A0 (aT xs i).length c0)∧(aT xs i).length<=c0∧(Kd.int .i64).C w A0 (aT xs i).length (aT xs i):=by
 obtain⟨ad,c,e,_,b,g⟩:=Kd.oM h ([]:List Int) i a h1;have k:∀j u,c[j]? =some u->w.cell? (ad.add (i.toNat*1+j))=some u:=g;obtain⟨A0,c0,rfl,l0,g0⟩:=b;exact⟨ad,A0,c0,e,by have l:=k 0 _ rfl;rwa [Nat.mul_one,Nat.add_zero] at l,l0,g0⟩
def Ev {α:Type} (f:Nat->Option α) (r:α):Prop:=∃B,∀K,B<=K->f K=some r
theorem Ev.const {α:Type} (r:α):Ev (fun _=>some r) r:=⟨0,fun _ _=>rfl⟩
theorem Ev.of_succ {α:Type} {f:Nat->Option α} {r:α} (h:Ev (fun k=>f (k+1)) r):Ev f r:=by
 obtain⟨B,h⟩:=h;refine⟨B+1,fun K a=>?_⟩;obtain⟨k,rfl⟩:∃k,K=k+1:=⟨K-1,by omega⟩;exact h k (by omega)
theorem Ev.bind {α β:Type} {f:Nat->Option α} {g:α->Nat->Option β} {a:α} {r:β} (h1:Ev f a) (b:Ev (g a) r):Ev (fun k=>(f k).bind fun t=>g t k) r:=by
 obtain⟨B,h1⟩:=h1;obtain⟨C,b⟩:=b;refine⟨max B C,fun K e=>?_⟩;show (f K).bind (fun t=>g t K)=some r
 rw[h1 K (by omega),Option.bind_some];exact b K (by omega)
theorem Ev.get {α:Type} {f:Nat->Option α} {r:α} (h:Ev f r):∃k,f k=some r:=by
 obtain⟨B,h⟩:=h;exact⟨B,h B (Nat.le_refl _)⟩
theorem Ev.at_ {α:Type} {f:Nat->Option α} {r:α} (hm:∀k,ae (f k) (f (k+1))) {k:Nat} (h:f k=some r):Ev f r:=
 ⟨k,fun K a=>by
  obtain⟨m,rfl⟩:∃m,K=k+m:=⟨K-k,by omega⟩;clear a;induction m with
  |zero=>exact h
  |succ m b=>exact hm _ _ b⟩
theorem dU {i:Nat} (h:i<=1000000):wrap64 ((i:Int)+1)=((i+1:Nat):Int):=by
 rw[show wrap64 ((i:Int)+1)=(i:Int)+1 from by unfold wrap64;omega];omega
theorem l5 {x:Int} (h: -1000000000<=x∧x<=1000000000):wrap64 x=x:=by unfold wrap64;omega
def fZ.f (b:Int) (e:List (S83)) (a:Int):Option (Bool):=if a>=0 then(some (decide (a<b))) else(some false)
theorem fZ.calls (i:Int) (l:Option Addr) (m:Nat) (b:List (S83)) (j:Int) (r:Bool) (w:World) (n:Kd.C aK w l b.length b) (o:b.length<=m) (h:fZ.f i b j=some r):
  Calls Tryz.prog 149 #[.agg #[.int .i64 i,.slice l b.length m],.int .i64 j] w fun e w'=>e= .returned (.bool r)∧Below w.heap.size w w':=by
 have x:=Tryz.underlying24;have y:=Aside0.mk n;have z:=Aside0.mk o;clear n o;have a:=Aside0.mk (Below.refl w.heap.size w);have H:(if j>=0 then(some (decide (j<i))) else(some false))=some r:=h;clear h;by_cases c3:j>=0
 ·rw[if_pos c3] at H
  have q:=decide_eq_true c3;clear c3;obtain rfl:=Option.some.inj H;go_enter Tryz.func149,Tryz.ntmps149
  go_wp2_with (first|((with_reducible refine aH (N:=2) rfl ?_);refine zX 2 #[.int .i64 i,.slice l b.length m] 24 ?_;intro s g B k hb;have p:=Aside0.mk (k);have u:=zG a g;have v:=zG a g;replace a:=zS a hb;clear hb k g;obtain⟨D,E,F,G⟩:=au p))
  go_ret;exact⟨zE,zB⟩
 ·rw[if_neg c3] at H
  have q:=decide_eq_false c3;clear c3;obtain rfl:=Option.some.inj H;go_enter Tryz.func149,Tryz.ntmps149
  go_wp2_with (first|((with_reducible refine aH (N:=2) rfl ?_);refine zX 2 #[.int .i64 i,.slice l b.length m] 24 ?_;intro s g I k hb;have p:=Aside0.mk (k);have u:=zG a g;have v:=zG a g;replace a:=zS a hb;clear hb k g))
  go_ret;exact⟨zE,zB⟩
def eN.j0:Nat->Int->Bool->Int->List (S83)->Int->Int->Int->Option (Int)
 |0,_,_,_,_,_,_,_=>none
 |k+1,x1,g,h,a,b,e,i=>if g=true then(some 2) else(if b>e then(some 9) else(if x1>0 then(if 0<=(wrap64 (x1-1)) then(if(wrap64 (x1-1))<(a.length:Int) then(if b<((ai a (wrap64 (x1-1))).f0) then(some 9) else(if b=((ai a (wrap64 (x1-1))).f0) then(if e<=((ai a (wrap64 (x1-1))).f1) then(some 9) else(some 0)) else(some 0))) else(none)) else(none)) else(some 0)))
def eN.f (k:Nat) (e:Int) (a:List (S83)) (b:Int):Option (Int):=if 0<=b then(if b<(a.length:Int) then((fZ.f e a ((ai a b).f0)).bind fun t112=>(if t112=true then((fZ.f e a ((ai a b).f1)).bind fun t113=>(if t113=true then(if((ai a b).f2)<1 then(eN.j0 k b true e a ((ai a b).f0) ((ai a b).f1) ((ai a b).f2)) else(eN.j0 k b (decide (((ai a b).f2)>50)) e a ((ai a b).f0) ((ai a b).f1) ((ai a b).f2))) else(eN.j0 k b true e a ((ai a b).f0) ((ai a b).f1) ((ai a b).f2)))) else(eN.j0 k b true e a ((ai a b).f0) ((ai a b).f1) ((ai a b).f2)))) else(none)) else(none)
theorem eN.calls (k:Nat) (n:Int) (aS:Option Addr) (x:Nat) (a:List (S83)) (b:Int) (r:Int) (w:World) (a9:Kd.C aK w aS a.length a) (be:a.length<=x) (h:eN.f k n a b=some r):
  Calls Tryz.prog 153 #[.agg #[.int .i64 n,.slice aS a.length x],.int .i64 b] w fun e w'=>e= .returned (.int .i64 r)∧Below w.heap.size w w':=by
 have gn:=Tryz.underlying24;have go:=Tryz.underlying83;have I:=Aside0.mk a9;have K:=Aside0.mk be;clear a9 be;have j:=Aside0.mk (Below.refl w.heap.size w);unfold eN.f at h;have H:=h;clear h;by_cases c3:0<=b
 ·rw[if_pos c3] at H
  have bf:=decide_eq_true c3;clear c3;by_cases c4:b<(a.length:Int)
  ·rw[if_pos c4] at H
   have bg:=decide_eq_true c4;clear c4;have a0:=Aside0.mk H;clear H;go_enter Tryz.func153,Tryz.ntmps153
   go_upto_region 2 with (first|((with_reducible refine aH (N:=2) rfl ?_);refine zX 2 #[.int .i64 n,.slice aS a.length x] 24 ?_;intro p m w6 z hb;have l:=Aside0.mk (z);have gq:=zG j m;have gr:=zG j m;replace j:=zS j hb;clear hb z m;obtain⟨bi,bk,bn,bo⟩:=au l;have ak:0<=(b:Int):=of_decide_eq_true ‹_›;have am:b<(a.length:Int):=of_decide_eq_true ‹_›;obtain⟨q,bv,an,ap,ar⟩:=eo I.out b ak am;cases bv;replace an:=(j.out.cell (World.block_lt_of_cell? w _ an)).trans an;replace ap:=(j.out.cell (World.block_lt_of_cell? w _ ap)).trans ap;replace ar:=(j.out.cell (World.block_lt_of_cell? w _ ar)).trans ar;replace ak:=eq_true ak;replace am:=eq_true am)|((with_reducible refine aH (N:=5) rfl ?_);refine zX 5 #[.int .i64 0,.int .i64 0,.int .i64 0] 83 ?_;intro s m w8 z hb;have i:=Aside0.mk (z);have gt:=zG j m;have gx:=zG j m;replace j:=zS j hb;have u:=Aside0.mk ((by rw[m];exact Nat.ne_of_lt (ay (g:=p) (o:=.cells #[.int .i64 n,.slice (some q) a.length x] 24 (0,0)) (zK l)):p≠s));have J:=Aside0.mk ((by rw[m];exact Nat.ne_of_gt (ay (g:=p) (o:=.cells #[.int .i64 n,.slice (some q) a.length x] 24 (0,0)) (zK l)):s≠p));replace l:=zb l hb;clear hb z m;have g0:=J.out;have g1:=u.out;obtain⟨bw,bx,b0,b1,b2,b3⟩:=bV i))
   (try simp only[Act.put,List.setIfInBounds_toArray,List.set_cons_zero,List.set_cons_succ])
   go_cut [33] (fun v33 wc=>∃(kq:Nat) (aB:Bool),v33= .bool aB∧Aside0 (eN.j0 kq b aB n a ((ai a b).f0) ((ai a b).f1) ((ai a b).f2)=some r)∧Aside0 (kq<=k)∧Aside0 (wc.heap[p]? =some (.cells #[.int .i64 n,(.slice (some q) a.length x)] 24 (0,0)))∧Aside0 (wc.heap[s]? =some (.cells #[.int .i64 ((ai a b).f0),.int .i64 ((ai a b).f1),.int .i64 ((ai a b).f2)] 83 (0,0)))∧Aside0 (Below w.heap.size w wc))
   case first=>
    have H:=a0.out;clear a0;obtain⟨t112,aF,H⟩:=zo H;by_cases ab:t112=true
    ·subst ab
     replace H:=zi H;obtain⟨t113,a2,H⟩:=zo H;by_cases ad:t113=true
     ·subst ad
      replace H:=zi H;by_cases L:((ai a b).f2)<1
      ·rw[if_pos L] at H
       have W:=decide_eq_true L;clear L
       (first|rw[W]|(simp only[bd,bh];rw[W])|skip)
       have M:=Aside0.mk H;clear H;have g2:=u.out;have g3:=J.out;obtain⟨b4,b5,b6,b_⟩:=au l;obtain⟨b',ca,cb,cc,cd,ce⟩:=bV i;go_wp2_with (first|((with_reducible refine ax (f:=149) rfl ?_);refine zL (some 15) Tryz.func149 #[.agg #[.int .i64 n,.slice (some q) a.length x],.int .i64 ((ai a b).f0)] ?_;(with_reducible refine(fZ.calls n _ _ a ((ai a b).f0) true _ ?af ?ah aF.out).mono ?_);(case af=>exact Kd.al I.out zB);(case ah=>exact K.out);rintro e g4 ⟨rfl,hb⟩;refine⟨_,rfl,?_⟩;replace l:=Aside0.mk (aG (g:=p) (o:=.cells #[.int .i64 n,.slice (some q) a.length x] 24 (0,0)) (by refine zk ?_;refine aC ?_ u.out _;refine zk ?_;refine aC ?_ u.out _;refine zk ?_;refine aC ?_ u.out _;exact zK l) hb);replace i:=Aside0.mk (aG (g:=s) (o:=.cells #[.int .i64 ((ai a b).f0),.int .i64 ((ai a b).f1),.int .i64 ((ai a b).f2)] 83 (0,0)) (by refine zk ?_;refine bb (cs:=#[.int .i64 ((ai a b).f0),.int .i64 ((ai a b).f1),.int .i64 0]) ?_ 2 _ rfl;refine zk ?_;refine bb (cs:=#[.int .i64 ((ai a b).f0),.int .i64 0,.int .i64 0]) ?_ 1 _ rfl;refine zk ?_;refine bb (cs:=#[.int .i64 0,.int .i64 0,.int .i64 0]) ?_ 0 _ rfl;exact zK i) hb);replace j:=zS j hb;(try clear hb);obtain⟨cf,ch,ci,cj⟩:=au l;obtain⟨ck,cl,co,cq,cr,cv⟩:=bV i)|(go_at_call 149;(with_reducible refine(fZ.calls n _ _ a ((ai a b).f1) true _ ?af ?ah a2.out).mono ?_);(case af=>exact Kd.al I.out zB);(case ah=>exact K.out);rintro e g5 ⟨rfl,hb⟩;replace l:=zb l hb;replace i:=zb i hb;replace j:=zS j hb;(try clear hb);obtain⟨cx,c0,c5,c6,c7,c8⟩:=bV i))
       go_meet
       case rel=>exact⟨_,(true),zT,M,⟨by first|omega|exact Nat.le_refl _⟩,⟨zK l⟩,⟨zK i⟩,⟨zB⟩⟩
      ·rw[if_neg L] at H
       have W:=decide_eq_false L;clear L
       (first|rw[W]|(simp only[bd,bh];rw[W])|skip)
       have M:=Aside0.mk H;clear H;have g6:=u.out;have g7:=J.out;obtain⟨c',dd,dk,dl⟩:=au l;obtain⟨ds,dv,d0,d1,d2,d3⟩:=bV i;go_wp2_with (first|((with_reducible refine ax (f:=149) rfl ?_);refine zL (some 15) Tryz.func149 #[.agg #[.int .i64 n,.slice (some q) a.length x],.int .i64 ((ai a b).f0)] ?_;(with_reducible refine(fZ.calls n _ _ a ((ai a b).f0) true _ ?af ?ah aF.out).mono ?_);(case af=>exact Kd.al I.out zB);(case ah=>exact K.out);rintro e g8 ⟨rfl,hb⟩;refine⟨_,rfl,?_⟩;replace l:=Aside0.mk (aG (g:=p) (o:=.cells #[.int .i64 n,.slice (some q) a.length x] 24 (0,0)) (by refine zk ?_;refine aC ?_ u.out _;refine zk ?_;refine aC ?_ u.out _;refine zk ?_;refine aC ?_ u.out _;exact zK l) hb);replace i:=Aside0.mk (aG (g:=s) (o:=.cells #[.int .i64 ((ai a b).f0),.int .i64 ((ai a b).f1),.int .i64 ((ai a b).f2)] 83 (0,0)) (by refine zk ?_;refine bb (cs:=#[.int .i64 ((ai a b).f0),.int .i64 ((ai a b).f1),.int .i64 0]) ?_ 2 _ rfl;refine zk ?_;refine bb (cs:=#[.int .i64 ((ai a b).f0),.int .i64 0,.int .i64 0]) ?_ 1 _ rfl;refine zk ?_;refine bb (cs:=#[.int .i64 0,.int .i64 0,.int .i64 0]) ?_ 0 _ rfl;exact zK i) hb);replace j:=zS j hb;(try clear hb);obtain⟨d4,d5,d6,d7⟩:=au l;obtain⟨d8,d9,ea,eb,ed,eg⟩:=bV i)|(go_at_call 149;(with_reducible refine(fZ.calls n _ _ a ((ai a b).f1) true _ ?af ?ah a2.out).mono ?_);(case af=>exact Kd.al I.out zB);(case ah=>exact K.out);rintro e g9 ⟨rfl,hb⟩;replace l:=zb l hb;replace i:=zb i hb;replace j:=zS j hb;(try clear hb);obtain⟨ek,el,em,er,es,ev⟩:=bV i))
       go_meet
       case rel=>exact⟨_,(decide (((ai a b).f2)>50)),zT,M,⟨by first|omega|exact Nat.le_refl _⟩,⟨zK l⟩,⟨zK i⟩,⟨zB⟩⟩
     ·replace ad:=Bool.eq_false_iff.mpr ad
      subst ad;replace H:=zj H;have M:=Aside0.mk H;clear H;have g':=u.out;have ha:=J.out;obtain⟨ew,ex,ey,e0⟩:=au l;obtain⟨e1,e2,e3,e4,e5,e6⟩:=bV i;go_wp2_with (first|((with_reducible refine ax (f:=149) rfl ?_);refine zL (some 15) Tryz.func149 #[.agg #[.int .i64 n,.slice (some q) a.length x],.int .i64 ((ai a b).f0)] ?_;(with_reducible refine(fZ.calls n _ _ a ((ai a b).f0) true _ ?af ?ah aF.out).mono ?_);(case af=>exact Kd.al I.out zB);(case ah=>exact K.out);rintro e hc ⟨rfl,hb⟩;refine⟨_,rfl,?_⟩;replace l:=Aside0.mk (aG (g:=p) (o:=.cells #[.int .i64 n,.slice (some q) a.length x] 24 (0,0)) (by refine zk ?_;refine aC ?_ u.out _;refine zk ?_;refine aC ?_ u.out _;refine zk ?_;refine aC ?_ u.out _;exact zK l) hb);replace i:=Aside0.mk (aG (g:=s) (o:=.cells #[.int .i64 ((ai a b).f0),.int .i64 ((ai a b).f1),.int .i64 ((ai a b).f2)] 83 (0,0)) (by refine zk ?_;refine bb (cs:=#[.int .i64 ((ai a b).f0),.int .i64 ((ai a b).f1),.int .i64 0]) ?_ 2 _ rfl;refine zk ?_;refine bb (cs:=#[.int .i64 ((ai a b).f0),.int .i64 0,.int .i64 0]) ?_ 1 _ rfl;refine zk ?_;refine bb (cs:=#[.int .i64 0,.int .i64 0,.int .i64 0]) ?_ 0 _ rfl;exact zK i) hb);replace j:=zS j hb;(try clear hb);obtain⟨e_,e',fb,fd⟩:=au l;obtain⟨fn,fo,fq,fr,ft,fv⟩:=bV i)|(go_at_call 149;(with_reducible refine(fZ.calls n _ _ a ((ai a b).f1) false _ ?af ?ah a2.out).mono ?_);(case af=>exact Kd.al I.out zB);(case ah=>exact K.out);rintro e he ⟨rfl,hb⟩;replace l:=zb l hb;replace i:=zb i hb;replace j:=zS j hb;(try clear hb)))
      go_meet
      case rel=>exact⟨_,(true),zT,M,⟨by first|omega|exact Nat.le_refl _⟩,⟨zK l⟩,⟨zK i⟩,⟨zB⟩⟩
    ·replace ab:=Bool.eq_false_iff.mpr ab
     subst ab;replace H:=zj H;have M:=Aside0.mk H;clear H;have hf:=u.out;have hh:=J.out;obtain⟨f3,f4,f5,f6⟩:=au l;obtain⟨f7,f8,f9,f',gb,gc⟩:=bV i;go_wp2_with (first|((with_reducible refine ax (f:=149) rfl ?_);refine zL (some 15) Tryz.func149 #[.agg #[.int .i64 n,.slice (some q) a.length x],.int .i64 ((ai a b).f0)] ?_;(with_reducible refine(fZ.calls n _ _ a ((ai a b).f0) false _ ?af ?ah aF.out).mono ?_);(case af=>exact Kd.al I.out zB);(case ah=>exact K.out);rintro e hj ⟨rfl,hb⟩;refine⟨_,rfl,?_⟩;replace l:=Aside0.mk (aG (g:=p) (o:=.cells #[.int .i64 n,.slice (some q) a.length x] 24 (0,0)) (by refine zk ?_;refine aC ?_ u.out _;refine zk ?_;refine aC ?_ u.out _;refine zk ?_;refine aC ?_ u.out _;exact zK l) hb);replace i:=Aside0.mk (aG (g:=s) (o:=.cells #[.int .i64 ((ai a b).f0),.int .i64 ((ai a b).f1),.int .i64 ((ai a b).f2)] 83 (0,0)) (by refine zk ?_;refine bb (cs:=#[.int .i64 ((ai a b).f0),.int .i64 ((ai a b).f1),.int .i64 0]) ?_ 2 _ rfl;refine zk ?_;refine bb (cs:=#[.int .i64 ((ai a b).f0),.int .i64 0,.int .i64 0]) ?_ 1 _ rfl;refine zk ?_;refine bb (cs:=#[.int .i64 0,.int .i64 0,.int .i64 0]) ?_ 0 _ rfl;exact zK i) hb);replace j:=zS j hb;(try clear hb)))
     go_meet
     case rel=>exact⟨_,(true),zT,M,⟨by first|omega|exact Nat.le_refl _⟩,⟨zK l⟩,⟨zK i⟩,⟨zB⟩⟩
   case rest=>
    clear a0;try clear c1
    try clear p1
    try clear q1
    try clear hm
    try clear c2
    try clear p2
    try clear c3
    try clear bf
    try clear c4
    try clear bg
    try clear c9
    try clear hp
    try clear hq
    try clear hr
    try clear ab
    try clear ad
    try clear L
    try clear W
    try clear hs
    try clear ht
    try clear hv
    try clear hw
    try clear bw
    try clear bx
    try clear b0
    try clear b4
    try clear b5
    try clear b'
    try clear ca
    try clear cb
    try clear cf
    try clear ch
    try clear ck
    try clear cl
    try clear co
    try clear cx
    try clear c0
    try clear c5
    try clear c'
    try clear dd
    try clear ds
    try clear dv
    try clear d0
    try clear d4
    try clear d5
    try clear d8
    try clear d9
    try clear ea
    try clear ek
    try clear el
    try clear em
    try clear ew
    try clear ex
    try clear e1
    try clear e2
    try clear e3
    try clear e_
    try clear e'
    try clear fn
    try clear fo
    try clear fq
    try clear f3
    try clear f4
    try clear f7
    try clear f8
    try clear f9
    try clear bi
    try clear bk
    try clear b1
    try clear b2
    try clear b3
    try clear b6
    try clear b_
    try clear cc
    try clear cd
    try clear ce
    try clear ci
    try clear cj
    try clear cq
    try clear cr
    try clear cv
    try clear c6
    try clear c7
    try clear c8
    try clear dk
    try clear dl
    try clear d1
    try clear d2
    try clear d3
    try clear d6
    try clear d7
    try clear eb
    try clear ed
    try clear eg
    try clear er
    try clear es
    try clear ev
    try clear ey
    try clear e0
    try clear e4
    try clear e5
    try clear e6
    try clear fb
    try clear fd
    try clear fr
    try clear ft
    try clear fv
    try clear f5
    try clear f6
    try clear f'
    try clear gb
    try clear gc
    try clear bn
    try clear bo
    try clear an
    try clear ap
    try clear ar
    try clear ak
    try clear am
    obtain⟨kq,aB,rfl,HA,hx,l,i,j⟩:=hcut;cases kq with
    |zero=>exact absurd HA.out (by simp[eN.j0])
    |succ hy=>
     have H:=HA.out;clear HA;simp only[eN.j0] at H;by_cases aL:aB=true
     ·subst aL
      replace H:=zi H;obtain rfl:=Option.some.inj H;go_wp2;go_ret;exact⟨zE,zB⟩
     ·replace aL:=Bool.eq_false_iff.mpr aL
      subst aL;replace H:=zj H;by_cases X:((ai a b).f0)>((ai a b).f1)
      ·rw[if_pos X] at H
       have gd:=decide_eq_true X;clear X;obtain rfl:=Option.some.inj H;have hz:=J.out;have hA:=u.out;obtain⟨hB,hC,hD,hE,hG,hH⟩:=bV i;go_wp2;go_ret;exact⟨zE,zB⟩
      ·rw[if_neg X] at H
       have gd:=decide_eq_false X;clear X;by_cases Y:b>0
       ·rw[if_pos Y] at H
        have ge:=decide_eq_true Y;clear Y;obtain⟨v,O⟩:∃j_:Int,(wrap64 (b-1))=j_:=⟨_,rfl⟩;replace H:(if 0<=(v) then(if(v)<(a.length:Int) then(if((ai a b).f0)<((ai a (v)).f0) then(some 9) else(if((ai a b).f0)=((ai a (v)).f0) then(if((ai a b).f1)<=((ai a (v)).f1) then(some 9) else(some 0)) else(some 0))) else(none)) else(none))=some r:=by first|(rw[O] at H;exact H)|(simp only[O] at H⊢;exact H)
        have hI:(IntKind.i64.wrap (b-1))=v:=(bd _).trans O;by_cases aO:0<=(v)
        ·rw[if_pos aO] at H
         have hJ:=decide_eq_true aO;clear aO;by_cases aP:(v)<(a.length:Int)
         ·rw[if_pos aP] at H
          have hK:=decide_eq_true aP;clear aP;by_cases Z:((ai a b).f0)<((ai a (v)).f0)
          ·rw[if_pos Z] at H
           have gg:=decide_eq_true Z;clear Z;obtain rfl:=Option.some.inj H;have hL:=J.out;have hM:=u.out;obtain⟨hN,hO,hP,hQ,hR,hT⟩:=bV i;obtain⟨hV,hW,hX,hY⟩:=au l;have B:0<=((v):Int):=of_decide_eq_true ‹_›;have D:(v)<(a.length:Int):=of_decide_eq_true ‹_›;obtain⟨P,Q,E,F,G⟩:=eo I.out (v) B D;obtain rfl:q=P:=(by injection Q);replace E:=(j.out.cell (World.block_lt_of_cell? w _ E)).trans E;replace F:=(j.out.cell (World.block_lt_of_cell? w _ F)).trans F;replace G:=(j.out.cell (World.block_lt_of_cell? w _ G)).trans G;replace B:=eq_true B;replace D:=eq_true D;go_wp2_with (first|((with_reducible refine aH (N:=6) rfl ?_);refine zX 6 #[.int .i64 0,.int .i64 0,.int .i64 0] 83 ?_;intro y m h0 z hb;have R:=Aside0.mk (z);have a4:=zG j m;have a5:=zG j m;replace j:=zS j hb;have S:=Aside0.mk ((by rw[m];exact Nat.ne_of_lt (ay (g:=p) (o:=.cells #[.int .i64 n,.slice (some q) a.length x] 24 (0,0)) (zK l)):p≠y));have T:=Aside0.mk ((by rw[m];exact Nat.ne_of_gt (ay (g:=p) (o:=.cells #[.int .i64 n,.slice (some q) a.length x] 24 (0,0)) (zK l)):y≠p));replace l:=zb l hb;have U:=Aside0.mk ((by rw[m];exact Nat.ne_of_lt (ay (g:=s) (o:=.cells #[.int .i64 ((ai a b).f0),.int .i64 ((ai a b).f1),.int .i64 ((ai a b).f2)] 83 (0,0)) (zK i)):s≠y));have V:=Aside0.mk ((by rw[m];exact Nat.ne_of_gt (ay (g:=s) (o:=.cells #[.int .i64 ((ai a b).f0),.int .i64 ((ai a b).f1),.int .i64 ((ai a b).f2)] 83 (0,0)) (zK i)):y≠s));replace i:=zb i hb;clear hb z m;have h1:=T.out;have h2:=S.out;have h3:=V.out;have h4:=U.out;obtain⟨h5,h6,h7,h8,h9,h_⟩:=bV R;obtain⟨h',ib,id,ih,ii,im⟩:=bV i))
           go_ret;exact⟨by first|rfl|(simp[eW,eX]<;>rfl)|(simp only[<-O];first|rfl|(simp[eW,eX]<;>rfl))|(simp[*,eW,eX]<;>rfl),zB⟩
          ·rw[if_neg Z] at H
           have gg:=decide_eq_false Z;clear Z;by_cases ag:((ai a b).f0)=((ai a (v)).f0)
           ·rw[if_pos ag] at H
            obtain⟨gi,gl⟩:=bt ag;clear ag;by_cases aa:((ai a b).f1)<=((ai a (v)).f1)
            ·rw[if_pos aa] at H
             have gm:=decide_eq_true aa;clear aa;obtain rfl:=Option.some.inj H;have io:=J.out;have ip:=u.out;obtain⟨is,it,iv,i0,i1,i2⟩:=bV i;obtain⟨i3,i4,i5,i6⟩:=au l;have B:0<=((v):Int):=of_decide_eq_true ‹_›;have D:(v)<(a.length:Int):=of_decide_eq_true ‹_›;obtain⟨P,Q,E,F,G⟩:=eo I.out (v) B D;obtain rfl:q=P:=(by injection Q);replace E:=(j.out.cell (World.block_lt_of_cell? w _ E)).trans E;replace F:=(j.out.cell (World.block_lt_of_cell? w _ F)).trans F;replace G:=(j.out.cell (World.block_lt_of_cell? w _ G)).trans G;replace B:=eq_true B;replace D:=eq_true D;go_wp2_with (first|((with_reducible refine aH (N:=6) rfl ?_);refine zX 6 #[.int .i64 0,.int .i64 0,.int .i64 0] 83 ?_;intro y m i7 z hb;have R:=Aside0.mk (z);have a4:=zG j m;have a5:=zG j m;replace j:=zS j hb;have S:=Aside0.mk ((by rw[m];exact Nat.ne_of_lt (ay (g:=p) (o:=.cells #[.int .i64 n,.slice (some q) a.length x] 24 (0,0)) (zK l)):p≠y));have T:=Aside0.mk ((by rw[m];exact Nat.ne_of_gt (ay (g:=p) (o:=.cells #[.int .i64 n,.slice (some q) a.length x] 24 (0,0)) (zK l)):y≠p));replace l:=zb l hb;have U:=Aside0.mk ((by rw[m];exact Nat.ne_of_lt (ay (g:=s) (o:=.cells #[.int .i64 ((ai a b).f0),.int .i64 ((ai a b).f1),.int .i64 ((ai a b).f2)] 83 (0,0)) (zK i)):s≠y));have V:=Aside0.mk ((by rw[m];exact Nat.ne_of_gt (ay (g:=s) (o:=.cells #[.int .i64 ((ai a b).f0),.int .i64 ((ai a b).f1),.int .i64 ((ai a b).f2)] 83 (0,0)) (zK i)):y≠s));replace i:=zb i hb;clear hb z m;have i8:=T.out;have i9:=S.out;have jj:=V.out;have jp:=U.out;obtain⟨j1,j2,j3,j',kd,kk⟩:=bV R;obtain⟨km,ks,kt,kv,kw,kW⟩:=bV i))
             go_ret;exact⟨by first|rfl|(simp[eW,eX]<;>rfl)|(simp only[<-O];first|rfl|(simp[eW,eX]<;>rfl))|(simp[*,eW,eX]<;>rfl),zB⟩
            ·rw[if_neg aa] at H
             have gm:=decide_eq_false aa;clear aa;obtain rfl:=Option.some.inj H;have k0:=J.out;have k1:=u.out;obtain⟨k2,k3,k4,k5,k6,k7⟩:=bV i;obtain⟨k8,k9,k_,la⟩:=au l;have B:0<=((v):Int):=of_decide_eq_true ‹_›;have D:(v)<(a.length:Int):=of_decide_eq_true ‹_›;obtain⟨P,Q,E,F,G⟩:=eo I.out (v) B D;obtain rfl:q=P:=(by injection Q);replace E:=(j.out.cell (World.block_lt_of_cell? w _ E)).trans E;replace F:=(j.out.cell (World.block_lt_of_cell? w _ F)).trans F;replace G:=(j.out.cell (World.block_lt_of_cell? w _ G)).trans G;replace B:=eq_true B;replace D:=eq_true D;go_wp2_with (first|((with_reducible refine aH (N:=6) rfl ?_);refine zX 6 #[.int .i64 0,.int .i64 0,.int .i64 0] 83 ?_;intro y m lb z hb;have R:=Aside0.mk (z);have a4:=zG j m;have a5:=zG j m;replace j:=zS j hb;have S:=Aside0.mk ((by rw[m];exact Nat.ne_of_lt (ay (g:=p) (o:=.cells #[.int .i64 n,.slice (some q) a.length x] 24 (0,0)) (zK l)):p≠y));have T:=Aside0.mk ((by rw[m];exact Nat.ne_of_gt (ay (g:=p) (o:=.cells #[.int .i64 n,.slice (some q) a.length x] 24 (0,0)) (zK l)):y≠p));replace l:=zb l hb;have U:=Aside0.mk ((by rw[m];exact Nat.ne_of_lt (ay (g:=s) (o:=.cells #[.int .i64 ((ai a b).f0),.int .i64 ((ai a b).f1),.int .i64 ((ai a b).f2)] 83 (0,0)) (zK i)):s≠y));have V:=Aside0.mk ((by rw[m];exact Nat.ne_of_gt (ay (g:=s) (o:=.cells #[.int .i64 ((ai a b).f0),.int .i64 ((ai a b).f1),.int .i64 ((ai a b).f2)] 83 (0,0)) (zK i)):y≠s));replace i:=zb i hb;clear hb z m;have lc:=T.out;have ld:=S.out;have le:=V.out;have lg:=U.out;obtain⟨li,lj,lk,lm,lo,lp⟩:=bV R;obtain⟨ls,lt,lv,lw,l0,l1⟩:=bV i))
             go_ret;exact⟨by first|rfl|(simp[eW,eX]<;>rfl)|(simp only[<-O];first|rfl|(simp[eW,eX]<;>rfl))|(simp[*,eW,eX]<;>rfl),zB⟩
           ·rw[if_neg ag] at H
            obtain⟨gi,gl⟩:=bu ag;obtain rfl:=Option.some.inj H;have l2:=J.out;have l3:=u.out;obtain⟨l',mb,md,ml,mm,mn⟩:=bV i;obtain⟨mp,ms,mt,mv⟩:=au l;have B:0<=((v):Int):=of_decide_eq_true ‹_›;have D:(v)<(a.length:Int):=of_decide_eq_true ‹_›;obtain⟨P,Q,E,F,G⟩:=eo I.out (v) B D;obtain rfl:q=P:=(by injection Q);replace E:=(j.out.cell (World.block_lt_of_cell? w _ E)).trans E;replace F:=(j.out.cell (World.block_lt_of_cell? w _ F)).trans F;replace G:=(j.out.cell (World.block_lt_of_cell? w _ G)).trans G;replace B:=eq_true B;replace D:=eq_true D;go_wp2_with (first|((with_reducible refine aH (N:=6) rfl ?_);refine zX 6 #[.int .i64 0,.int .i64 0,.int .i64 0] 83 ?_;intro y m mx z hb;have R:=Aside0.mk (z);have a4:=zG j m;have a5:=zG j m;replace j:=zS j hb;have S:=Aside0.mk ((by rw[m];exact Nat.ne_of_lt (ay (g:=p) (o:=.cells #[.int .i64 n,.slice (some q) a.length x] 24 (0,0)) (zK l)):p≠y));have T:=Aside0.mk ((by rw[m];exact Nat.ne_of_gt (ay (g:=p) (o:=.cells #[.int .i64 n,.slice (some q) a.length x] 24 (0,0)) (zK l)):y≠p));replace l:=zb l hb;have U:=Aside0.mk ((by rw[m];exact Nat.ne_of_lt (ay (g:=s) (o:=.cells #[.int .i64 ((ai a b).f0),.int .i64 ((ai a b).f1),.int .i64 ((ai a b).f2)] 83 (0,0)) (zK i)):s≠y));have V:=Aside0.mk ((by rw[m];exact Nat.ne_of_gt (ay (g:=s) (o:=.cells #[.int .i64 ((ai a b).f0),.int .i64 ((ai a b).f1),.int .i64 ((ai a b).f2)] 83 (0,0)) (zK i)):y≠s));replace i:=zb i hb;clear hb z m;have m0:=T.out;have m1:=S.out;have m2:=V.out;have m3:=U.out;obtain⟨m4,m5,m6,m7,m8,m9⟩:=bV R;obtain⟨m',nb,nd,ne,nl,nr⟩:=bV i))
            go_ret;exact⟨by first|rfl|(simp[eW,eX]<;>rfl)|(simp only[<-O];first|rfl|(simp[eW,eX]<;>rfl))|(simp[*,eW,eX]<;>rfl),zB⟩
         ·rw[if_neg aP] at H
          exact absurd H (by simp)
        ·rw[if_neg aO] at H
         exact absurd H (by simp)
       ·rw[if_neg Y] at H
        have ge:=decide_eq_false Y;clear Y;obtain rfl:=Option.some.inj H;have nu:=J.out;have nv:=u.out;obtain⟨nw,nx,n0,n1,n2,n3⟩:=bV i;go_wp2;go_ret;exact⟨zE,zB⟩
  ·rw[if_neg c4] at H
   exact absurd H (by simp)
 ·rw[if_neg c3] at H
  exact absurd H (by simp)
mutual
def cR.j0:Nat->Bool->Int->List (S83)->Option (Int)
 |0,_,_,_=>none
 |k+1,a,b,e=>if a=true then(some 2) else(cR.l0 k 0 b e)
def cR.l0:Nat->Int->Int->List (S83)->Option (Int)
 |0,_,_,_=>none
 |k+1,x3,b,a=>if x3<(a.length:Int) then((eN.f k b a x3).bind fun t117=>(if t117=0 then(cR.l0 k (wrap64 (x3+1)) b a) else(some t117))) else(some 0)
end
def cR.f (k:Nat) (a:Int) (b:List (S83)):Option (Int):=if a<1 then(cR.j0 k true a b) else(cR.j0 k (decide (a>12)) a b)
theorem cR.calls (k:Nat) (g:Int) (m:Option Addr) (n:Nat) (a:List (S83)) (r:Int) (w:World) (D:Kd.C aK w m a.length a) (E:a.length<=n) (h:cR.f k g a=some r):
  Calls Tryz.prog 103 #[.agg #[.int .i64 g,.slice m a.length n]] w fun e w'=>e= .returned (.int .i64 r)∧Below w.heap.size w w':=by
 have ab:=Tryz.underlying24;have F:=Aside0.mk D;have G:=Aside0.mk E;clear D E;have i:=Aside0.mk (Below.refl w.heap.size w);unfold cR.f at h;have H:=h;clear h;have y:=Aside0.mk H;clear H;go_enter Tryz.func103,Tryz.ntmps103
 go_upto_region 1 with (first|((with_reducible refine aH (N:=1) rfl ?_);refine zX 1 #[.int .i64 g,.slice m a.length n] 24 ?_;intro I z w3 J hb;have b:=Aside0.mk (J);have ad:=zG i z;have ag:=zG i z;replace i:=zS i hb;clear hb J z))
 (try simp only[Act.put,List.setIfInBounds_toArray,List.set_cons_zero,List.set_cons_succ])
 go_cut [12] (fun v12 wc=>∃(o:Nat) (x:Bool),v12= .bool x∧Aside0 (cR.j0 o x g a=some r)∧Aside0 (o<=k)∧Aside0 (wc.heap[I]? =some (.cells #[.int .i64 g,(.slice m a.length n)] 24 (0,0)))∧Aside0 (Below w.heap.size w wc))
 case first=>
  have H:=y.out;clear y;by_cases c4:g<1
  ·rw[if_pos c4] at H
   have p:=decide_eq_true c4;clear c4
   (first|rw[p]|(simp only[bd,bh];rw[p])|skip)
   have l:=Aside0.mk H;clear H;obtain⟨K,L,M,O⟩:=au b;go_wp2;go_meet
   case rel=>exact⟨_,(true),zT,l,⟨by first|omega|exact Nat.le_refl _⟩,⟨zK b⟩,⟨zB⟩⟩
  ·rw[if_neg c4] at H
   have p:=decide_eq_false c4;clear c4
   (first|rw[p]|(simp only[bd,bh];rw[p])|skip)
   have l:=Aside0.mk H;clear H;obtain⟨P,Q,R,S⟩:=au b;go_wp2;go_meet
   case rel=>exact⟨_,(decide (g>12)),zT,l,⟨by first|omega|exact Nat.le_refl _⟩,⟨zK b⟩,⟨zB⟩⟩
 case rest=>
  clear y;try clear c1
  try clear T
  try clear c4
  try clear p
  try clear K
  try clear L
  try clear P
  try clear Q
  try clear M
  try clear O
  try clear R
  try clear S
  obtain⟨o,x,rfl,q,U,b,i⟩:=hcut;cases o with
  |zero=>exact absurd q.out (by simp[cR.j0])
  |succ V=>
   have H:=q.out;clear q;simp only[cR.j0] at H;by_cases u:x=true
   ·subst u
    replace H:=zi H;obtain rfl:=Option.some.inj H;go_wp2;go_ret;exact⟨zE,zB⟩
   ·replace u:=Bool.eq_false_iff.mpr u
    subst u;replace H:=zj H;have l:=Aside0.mk H;clear H;go_wp2;go_loopg [3] V (fun o v3 w'=>∃(j:Int),v3= .int .i64 j∧Aside0 (cR.l0 o j g a=some r)∧Aside0 (o<=V)∧Aside0 (w'.heap[I]? =some (.cells #[.int .i64 g,(.slice m a.length n)] 24 (0,0)))∧Aside0 (Below w.heap.size w w'))
    case atStart=>exact⟨(0),zT,l,⟨Nat.le_refl _⟩,⟨zK b⟩,⟨zB⟩⟩
    case round=>
     clear l;try clear c1
     try clear T
     try clear c4
     try clear p
     try clear u
     try clear K
     try clear L
     try clear P
     try clear Q
     try clear M
     try clear O
     try clear R
     try clear S
     try clear T
     obtain⟨j,rfl,q,W,b,i⟩:=hrel;cases gk with
     |zero=>exact absurd q.out (by simp[cR.l0])
     |succ B=>
      have H:=q.out;clear q;simp only[cR.l0] at H;by_cases s:j<(a.length:Int)
      ·rw[if_pos s] at H
       have Y:=decide_eq_true s;clear s;obtain⟨t117,X,H⟩:=zo H;by_cases v:t117=0
       ·rw[if_pos v] at H
        obtain⟨Z,aa⟩:=bt v;clear v;have l:=Aside0.mk H;clear H;obtain⟨ak,am,an,ap⟩:=au b;go_wp2_with (first|((with_reducible refine ax (f:=153) rfl ?_);refine zL (some 22) Tryz.func153 #[.agg #[.int .i64 g,.slice m a.length n],.int .i64 j] ?_;(with_reducible refine(eN.calls B g _ _ a j t117 _ ?af ?ah X.out).mono ?_);(case af=>exact Kd.al F.out zB);(case ah=>exact G.out);rintro e ar ⟨rfl,hb⟩;refine⟨_,rfl,?_⟩;replace b:=zb b hb;replace i:=zS i hb;(try clear hb)))
        go_roundg B
        case measure=>have:=U.out;have:=W.out;omega
        case rel=>exact⟨(wrap64 (j+1)),zT,l,⟨by have:=U.out;have:=W.out;omega⟩,⟨zK b⟩,⟨zB⟩⟩
       ·rw[if_neg v] at H
        obtain⟨Z,aa⟩:=bu v;obtain rfl:=Option.some.inj H;obtain⟨av,aB,aF,aL⟩:=au b;go_wp2_with (first|((with_reducible refine ax (f:=153) rfl ?_);refine zL (some 22) Tryz.func153 #[.agg #[.int .i64 g,.slice m a.length n],.int .i64 j] ?_;(with_reducible refine(eN.calls B g _ _ a j t117 _ ?af ?ah X.out).mono ?_);(case af=>exact Kd.al F.out zB);(case ah=>exact G.out);rintro e aO ⟨rfl,hb⟩;refine⟨_,rfl,?_⟩;replace b:=zb b hb;replace i:=zS i hb;(try clear hb)))
        go_ret;exact⟨zE,zB⟩
      ·rw[if_neg s] at H
       have Y:=decide_eq_false s;clear s;obtain rfl:=Option.some.inj H;obtain⟨aP,aS,a0,a1⟩:=au b;go_wp2;go_ret;exact⟨zE,zB⟩
def fh.f (a0:Int) (a:Int):Option (Bool):=if a>=0 then(some (decide (a<a0))) else(some false)
theorem fh.calls (a0:Int) (a:Int) (r:Bool) (w:World) (h:fh.f a0 a=some r):
  Calls Tryz.prog 121 #[.int .i64 a0,.int .i64 a] w fun e w'=>e= .returned (.bool r)∧az w w':=by
 have H:(if a>=0 then(some (decide (a<a0))) else(some false))=some r:=h;clear h;by_cases c3:a>=0
 ·rw[if_pos c3] at H
  have b:=decide_eq_true c3;clear c3;obtain rfl:=Option.some.inj H;go_enter Tryz.func121,Tryz.ntmps121
  go_wp2;go_ret;exact⟨zT,by repeat(first|exact az.refl _|apply az.step)⟩
 ·rw[if_neg c3] at H
  have b:=decide_eq_false c3;clear c3;obtain rfl:=Option.some.inj H;go_enter Tryz.func121,Tryz.ntmps121
  go_wp2;go_ret;exact⟨zT,by repeat(first|exact az.refl _|apply az.step)⟩
def cmp_isNaN_int.f (a0:Int):Option (Bool):=some (a0 != a0)
theorem cmp_isNaN_int.calls (a0:Int) (r:Bool) (w:World) (h:cmp_isNaN_int.f a0=some r):
  Calls Tryz.prog 164 #[.int .i64 a0] w fun e w'=>e= .returned (.bool r)∧az w w':=by
 have H:(some (a0 != a0))=some r:=h;clear h;obtain rfl:=Option.some.inj H;go_enter Tryz.func164,Tryz.ntmps164
 go_wp2;go_ret;exact⟨zT,by repeat(first|exact az.refl _|apply az.step)⟩
def gH.f (a0:Int) (a:Int):Option (Int):=(cmp_isNaN_int.f a0).bind fun t200=>((cmp_isNaN_int.f a).bind fun t201=>(if t200=true then(if t201=true then(some 0) else(some (-1))) else(if t201=true then(some 1) else(if a0<a then(some (-1)) else(if a0>a then(some 1) else(some 0))))))
theorem gH.calls (a0:Int) (a:Int) (r:Int) (w:World) (h:gH.f a0 a=some r):
  Calls Tryz.prog 107 #[.int .i64 a0,.int .i64 a] w fun e w'=>e= .returned (.int .i64 r)∧az w w':=by
 unfold gH.f at h;have H:=h;clear h;obtain⟨t200,g,H⟩:=zo H;obtain⟨t201,i,H⟩:=zo H;by_cases l:t200=true
 ·subst l
  replace H:=zi H;by_cases m:t201=true
  ·subst m
   replace H:=zi H;obtain rfl:=Option.some.inj H;go_enter Tryz.func107,Tryz.ntmps107
   go_wp2_with (first|((with_reducible refine ax (f:=164) rfl ?_);refine zL (some 8) Tryz.func164 #[.int .i64 a0] ?_;(with_reducible refine(cmp_isNaN_int.calls a0 true _ g.out).mono ?_);rintro e w' ⟨rfl,⟨b,rfl⟩⟩;refine⟨_,rfl,?_⟩)|((with_reducible refine ax (f:=164) rfl ?_);refine zL (some 10) Tryz.func164 #[.int .i64 a] ?_;(with_reducible refine(cmp_isNaN_int.calls a true _ i.out).mono ?_);rintro e w' ⟨rfl,⟨b,rfl⟩⟩;refine⟨_,rfl,?_⟩))
   go_ret;exact⟨zT,by repeat(first|exact az.refl _|apply az.step)⟩
  ·replace m:=Bool.eq_false_iff.mpr m
   subst m;replace H:=zj H;obtain rfl:=Option.some.inj H;go_enter Tryz.func107,Tryz.ntmps107
   go_wp2_with (first|((with_reducible refine ax (f:=164) rfl ?_);refine zL (some 8) Tryz.func164 #[.int .i64 a0] ?_;(with_reducible refine(cmp_isNaN_int.calls a0 true _ g.out).mono ?_);rintro e w' ⟨rfl,⟨b,rfl⟩⟩;refine⟨_,rfl,?_⟩)|((with_reducible refine ax (f:=164) rfl ?_);refine zL (some 10) Tryz.func164 #[.int .i64 a] ?_;(with_reducible refine(cmp_isNaN_int.calls a false _ i.out).mono ?_);rintro e w' ⟨rfl,⟨b,rfl⟩⟩;refine⟨_,rfl,?_⟩))
   go_ret;exact⟨zT,by repeat(first|exact az.refl _|apply az.step)⟩
 ·replace l:=Bool.eq_false_iff.mpr l
  subst l;replace H:=zj H;by_cases n:t201=true
  ·subst n
   replace H:=zi H;obtain rfl:=Option.some.inj H;go_enter Tryz.func107,Tryz.ntmps107
   go_wp2_with (first|((with_reducible refine ax (f:=164) rfl ?_);refine zL (some 8) Tryz.func164 #[.int .i64 a0] ?_;(with_reducible refine(cmp_isNaN_int.calls a0 false _ g.out).mono ?_);rintro e w' ⟨rfl,⟨b,rfl⟩⟩;refine⟨_,rfl,?_⟩)|((with_reducible refine ax (f:=164) rfl ?_);refine zL (some 10) Tryz.func164 #[.int .i64 a] ?_;(with_reducible refine(cmp_isNaN_int.calls a true _ i.out).mono ?_);rintro e w' ⟨rfl,⟨b,rfl⟩⟩;refine⟨_,rfl,?_⟩))
   go_ret;exact⟨zT,by repeat(first|exact az.refl _|apply az.step)⟩
  ·replace n:=Bool.eq_false_iff.mpr n
   subst n;replace H:=zj H;by_cases j:a0<a
   ·rw[if_pos j] at H
    have o:=decide_eq_true j;clear j;obtain rfl:=Option.some.inj H;go_enter Tryz.func107,Tryz.ntmps107
    go_wp2_with (first|((with_reducible refine ax (f:=164) rfl ?_);refine zL (some 8) Tryz.func164 #[.int .i64 a0] ?_;(with_reducible refine(cmp_isNaN_int.calls a0 false _ g.out).mono ?_);rintro e w' ⟨rfl,⟨b,rfl⟩⟩;refine⟨_,rfl,?_⟩)|((with_reducible refine ax (f:=164) rfl ?_);refine zL (some 10) Tryz.func164 #[.int .i64 a] ?_;(with_reducible refine(cmp_isNaN_int.calls a false _ i.out).mono ?_);rintro e w' ⟨rfl,⟨b,rfl⟩⟩;refine⟨_,rfl,?_⟩))
    go_ret;exact⟨zT,by repeat(first|exact az.refl _|apply az.step)⟩
   ·rw[if_neg j] at H
    have o:=decide_eq_false j;clear j;by_cases k:a0>a
    ·rw[if_pos k] at H
     have p:=decide_eq_true k;clear k;obtain rfl:=Option.some.inj H;go_enter Tryz.func107,Tryz.ntmps107
     go_wp2_with (first|((with_reducible refine ax (f:=164) rfl ?_);refine zL (some 8) Tryz.func164 #[.int .i64 a0] ?_;(with_reducible refine(cmp_isNaN_int.calls a0 false _ g.out).mono ?_);rintro e w' ⟨rfl,⟨b,rfl⟩⟩;refine⟨_,rfl,?_⟩)|((with_reducible refine ax (f:=164) rfl ?_);refine zL (some 10) Tryz.func164 #[.int .i64 a] ?_;(with_reducible refine(cmp_isNaN_int.calls a false _ i.out).mono ?_);rintro e w' ⟨rfl,⟨b,rfl⟩⟩;refine⟨_,rfl,?_⟩))
     go_ret;exact⟨zT,by repeat(first|exact az.refl _|apply az.step)⟩
    ·rw[if_neg k] at H
     have p:=decide_eq_false k;clear k;obtain rfl:=Option.some.inj H;go_enter Tryz.func107,Tryz.ntmps107
     go_wp2_with (first|((with_reducible refine ax (f:=164) rfl ?_);refine zL (some 8) Tryz.func164 #[.int .i64 a0] ?_;(with_reducible refine(cmp_isNaN_int.calls a0 false _ g.out).mono ?_);rintro e w' ⟨rfl,⟨b,rfl⟩⟩;refine⟨_,rfl,?_⟩)|((with_reducible refine ax (f:=164) rfl ?_);refine zL (some 10) Tryz.func164 #[.int .i64 a] ?_;(with_reducible refine(cmp_isNaN_int.calls a false _ i.out).mono ?_);rintro e w' ⟨rfl,⟨b,rfl⟩⟩;refine⟨_,rfl,?_⟩))
     go_ret;exact⟨zT,by repeat(first|exact az.refl _|apply az.step)⟩
def cS.l0:Nat->Int->List Int->Int->Int->Option (Int)
 |0,_,_,_,_=>none
 |k+1,x3,b,e,a=>if a<e then(if 0<=a then(if a<(b.length:Int) then(if(rd b a)=x3 then(cS.l0 k x3 b e (wrap64 (a+1))) else(some (rd b a))) else(none)) else(none)) else(some x3)
def cS.f (k:Nat) (l0:List Int):Option (Int):=cS.l0 k 0 l0 (l0.length:Int) 0
theorem cS.bW:∀k,(∀a b e g,ae (cS.l0 k a b e g) (cS.l0 (k+1) a b e g))
 |0=>fun _ _ _ _ r h=>by simp[cS.l0] at h
 |k+1=>by
  have i:=cS.bW k
  ·intro a b e g
   unfold cS.l0;repeat' first
   |(with_reducible exact i _ _ _ _)
   |(with_reducible exact ae.refl _)
   |(with_reducible exact ae.none _)
   |(with_reducible refine ae.ite ?_ ?_)
   |(with_reducible refine ae.bind ?_ (fun _=>?_))
   |exact i _ _ _ _
   |exact ae.none _
   |refine ae.ite ?_ ?_
   |refine ae.bind ?_ (fun _=>?_)
theorem cS.mono:∀a0 k,ae (cS.f k a0) (cS.f (k+1) a0):=by
 intro a0 k;have a:=cS.bW k;unfold cS.f;repeat' first
   |(with_reducible exact a _ _ _ _)
   |(with_reducible exact ae.refl _)
   |(with_reducible exact ae.none _)
   |(with_reducible refine ae.ite ?_ ?_)
   |(with_reducible refine ae.bind ?_ (fun _=>?_))
   |exact a _ _ _ _
   |exact ae.none _
   |refine ae.ite ?_ ?_
   |refine ae.bind ?_ (fun _=>?_)
theorem cS.calls (k:Nat) (A0:Option Addr) (c0:Nat) (l0:List Int) (r:Int) (w:World) (n:Kd.C (Kd.int .i64) w A0 l0.length l0) (o:l0.length<=c0) (h:cS.f k l0=some r):
  Calls Tryz.prog 177 #[.slice A0 l0.length c0] w fun e w'=>e= .returned (.int .i64 r)∧az w w':=by
 have p:=Aside0.mk n;have E:=Aside0.mk o;clear n o;have H:(cS.l0 k 0 l0 (l0.length:Int) 0)=some r:=h;clear h;have j:=Aside0.mk H;clear H;go_enter Tryz.func177,Tryz.ntmps177
 go_wp2;go_loopg [8] k (fun q u w'=>∃(a:Int),u= .int .i64 a∧Aside0 (cS.l0 q 0 l0 (l0.length:Int) a=some r)∧Aside0 (q<=k)∧az w w')
 case atStart=>exact⟨(0),zT,j,⟨Nat.le_refl _⟩,by repeat(first|exact az.refl _|apply az.step)⟩
 case round=>
  clear j;try clear c1
  obtain⟨a,rfl,l,s,⟨m1,rfl⟩⟩:=hrel;cases gk with
  |zero=>exact absurd l.out (by simp[cS.l0])
  |succ v=>
   have H:=l.out;clear l;simp only[cS.l0] at H;by_cases c2:a<(l0.length:Int)
   ·rw[if_pos c2] at H
    have x:=decide_eq_true c2;clear c2;by_cases c3:0<=a
    ·rw[if_pos c3] at H
     have F:=decide_eq_true c3;clear c3;by_cases c4:a<(l0.length:Int)
     ·rw[if_pos c4] at H
      have G:=decide_eq_true c4;clear c4;by_cases i:(rd l0 a)=0
      ·rw[if_pos i] at H
       obtain⟨y,z⟩:=bt i;clear i;have j:=Aside0.mk H;clear H;have b:0<=(a:Int):=of_decide_eq_true ‹_›;have g:a<(l0.length:Int):=of_decide_eq_true ‹_›;obtain⟨B,m,D⟩:=Kd.bG p.out a b g;cases m;replace b:=eq_true b;replace g:=eq_true g;go_wp2;go_roundg v
       case measure=>have:=s.out;omega
       case rel=>exact⟨(wrap64 (a+1)),zT,j,⟨by have:=s.out;omega⟩,by repeat(first|exact az.refl _|apply az.step)⟩
      ·rw[if_neg i] at H
       obtain⟨y,z⟩:=bu i;obtain rfl:=Option.some.inj H;have b:0<=(a:Int):=of_decide_eq_true ‹_›;have g:a<(l0.length:Int):=of_decide_eq_true ‹_›;obtain⟨B,m,D⟩:=Kd.bG p.out a b g;cases m;replace b:=eq_true b;replace g:=eq_true g;go_wp2;go_ret;exact⟨zT,by repeat(first|exact az.refl _|apply az.step)⟩
     ·rw[if_neg c4] at H
      exact absurd H (by simp)
    ·rw[if_neg c3] at H
     exact absurd H (by simp)
   ·rw[if_neg c2] at H
    have x:=decide_eq_false c2;clear c2;obtain rfl:=Option.some.inj H;go_wp2;go_ret;exact⟨zT,by repeat(first|exact az.refl _|apply az.step)⟩
def cW.f (k:Nat) (a:Int) (b:Int) (e:Int) (g:Int):Option (Int):=(gH.f a e).bind fun t205=>((gH.f b g).bind fun t206=>((cS.f k (([t205,t206]:List Int))).bind fun t210=>(some t210)))
theorem cW.mono:∀a0 a a2 a3 k,ae (cW.f k a0 a a2 a3) (cW.f (k+1) a0 a a2 a3):=by
 intro a0 a a2 a3 k;unfold cW.f;repeat' first
   |(with_reducible exact cS.mono _ _)
   |(with_reducible exact ae.refl _)
   |(with_reducible exact ae.none _)
   |(with_reducible refine ae.ite ?_ ?_)
   |(with_reducible refine ae.bind ?_ (fun _=>?_))
   |exact cS.mono _ _
   |exact ae.none _
   |refine ae.ite ?_ ?_
   |refine ae.bind ?_ (fun _=>?_)
def cW.T1:Bool×List (List Nat×List Nat):=(true,[([],[]),([0],[0]),([],[]),([2],[2]),([1,3],[1,3]),([],[]),([5],[5]),([],[]),([7],[7]),([6,8,4],[6,8]),([4,9],[4,9]),([10,9],[10]),([11,11,0,1,2,3,4,5,6,7,8,9,10,11],[11])])
def cW.B1:List Nat:=[0,1,0,4,15,0,32,0,128,511,1023,2047,4095]
theorem cW.yL:dM .any (opsOf Tryz.f122 1)=cW.T1:=by kernel_rfl
theorem cW.yM:j8 cW.T1.2 cW.B1=true:=by kernel_rfl
theorem cW.calls (k:Nat) (q:Int) (s:Int) (u:Int) (x:Int) (r:Int) (w:World) (h:cW.f k q s u x=some r):
  Calls Tryz.prog 122 #[.agg #[.int .i64 q,.int .i64 s],.agg #[.int .i64 u,.int .i64 x]] w fun e w'=>e= .returned (.int .i64 r)∧Below w.heap.size w w':=by
 have aB:=Tryz.underlying116;have j:=Aside0.mk (Below.refl w.heap.size w);unfold cW.f at h;have H:=h;clear h;obtain⟨t205,X,H⟩:=zo H;obtain⟨t206,Y,H⟩:=zo H;obtain⟨J,z⟩:∃Z:List Int,Z=(([t205,t206]:List Int)):=⟨_,rfl⟩;replace H:((cS.f k J).bind fun t210=>(some t210))=some r:=by first|(rw[z];with_reducible exact H)|(have L:=(Option.bind_some _ _).symm.trans H;rw[z];with_reducible exact L)|(have L:=(Option.bind_some _ _).symm.trans H;with_reducible exact L)|with_reducible exact H|(rw[z];exact H)|exact H
 have Q:=Aside0.mk z;clear z;obtain⟨t210,A5,H⟩:=zo H;obtain rfl:=Option.some.inj H;go_enter Tryz.func122,Tryz.ntmps122
 try go_wp2_with (first|((with_reducible refine aH (N:=2) rfl ?_);refine zX 2 #[.int .i64 q,.int .i64 s] 116 ?_;intro y m w6 B hb;have a:=Aside0.mk (B);have aL:=zG j m;have aO:=zG j m;replace j:=zS j hb;clear hb B m)|((with_reducible refine aH (N:=3) rfl ?_);refine zX 3 #[.int .i64 u,.int .i64 x] 116 ?_;intro G m w7 B hb;have b:=Aside0.mk (B);have aP:=zG j m;have aS:=zG j m;replace j:=zS j hb;have a0:=Aside0.mk ((by rw[m];exact Nat.ne_of_lt (ay (g:=y) (o:=.cells #[.int .i64 q,.int .i64 s] 116 (0,0)) (zK a)):y≠G));have a1:=Aside0.mk ((by rw[m];exact Nat.ne_of_gt (ay (g:=y) (o:=.cells #[.int .i64 q,.int .i64 s] 116 (0,0)) (zK a)):G≠y));replace a:=zb a hb;clear hb B m))
 have C:=Aside0.mk (ff a.out);have D:=Aside0.mk (ff b.out);have E:=Aside0.mk (bL j.out);clear a;clear b;clear j;have a:=C;have b:=D;have j:=E;clear C D E;refine mU (n:=13) (S:=fun w'=>w'.cell? ⟨y,0,none⟩=some (.int .i64 q)∧w'.cell? ⟨y,1,none⟩=some (.int .i64 s)∧w'.cell? ⟨G,0,none⟩=some (.int .i64 u)∧w'.cell? ⟨G,1,none⟩=some (.int .i64 x)) (ds:=[]) #[false,false,false,false,false,false,false,false,false,false,false,false,false] (by kernel_rfl) rfl rfl ⟨(ao a.out 0).trans rfl,(ao a.out 1).trans rfl,(ao b.out 0).trans rfl,(ao b.out 1).trans rfl⟩ (fun hHeld=>?_);refine nt cW.yL cW.yM (fun l I=>?_);generalize w7.drew=w8 at a b j hHeld⊢;refine cy (i:=0) (N:=some 5) (v:=?_) (a':=?_) #[true,false,false,false,false,false,false,false,false,false,false,false,false] rfl rfl (cz l.out (by kernel_rfl)) (fun _ _ _ h=>h) (Or.inl ⟨by rfl,?_⟩) ?_ ?_;rotate_left
 ·intro w'
  go_simp
  with_reducible rfl
 rotate_left
 ·simp only[Act.put,List.setIfInBounds_toArray,List.set_cons_zero,List.set_cons_succ,bd,bh]
  rfl
 refine cy (i:=2) (N:=some 7) (v:=?_) (a':=?_) #[true,false,true,false,false,false,false,false,false,false,false,false,false] rfl rfl (cz l.out (by kernel_rfl)) (fun _ _ _ h=>h) (Or.inl ⟨by rfl,?_⟩) ?_ ?_;rotate_left
 ·intro w'
  go_simp
  with_reducible rfl
 rotate_left
 ·simp only[Act.put,List.setIfInBounds_toArray,List.set_cons_zero,List.set_cons_succ,bd,bh]
  rfl
 refine cy (i:=5) (N:=some 10) (v:=?_) (a':=?_) #[true,false,true,false,false,true,false,false,false,false,false,false,false] rfl rfl (cz l.out (by kernel_rfl)) (fun _ _ _ h=>h) (Or.inl ⟨by rfl,?_⟩) ?_ ?_;rotate_left
 ·intro w'
  go_simp
  with_reducible rfl
 rotate_left
 ·simp only[Act.put,List.setIfInBounds_toArray,List.set_cons_zero,List.set_cons_succ,bd,bh]
  rfl
 refine cy (i:=7) (N:=some 12) (v:=?_) (a':=?_) #[true,false,true,false,false,true,false,true,false,false,false,false,false] rfl rfl (cz l.out (by kernel_rfl)) (fun _ _ _ h=>h) (Or.inl ⟨by rfl,?_⟩) ?_ ?_;rotate_left
 ·intro w'
  go_simp
  with_reducible rfl
 rotate_left
 ·simp only[Act.put,List.setIfInBounds_toArray,List.set_cons_zero,List.set_cons_succ,bd,bh]
  rfl
 refine iC (i:=1) (N:=some 6) (v:=?_) (a':=?_) #[true,true,true,false,false,true,false,true,false,false,false,false,false] rfl rfl (iE l.out I.out (by kernel_rfl)) (fun _ _ _ h=>h) (Or.inl ⟨by rfl,?_⟩) hHeld ?_ ?_;rotate_left
 ·rintro w' ⟨s0,s1,s2,O⟩
  go_simp
  with_reducible rfl
 rotate_left
 ·simp only[Act.put,List.setIfInBounds_toArray,List.set_cons_zero,List.set_cons_succ,bd,bh]
  rfl
 refine iC (i:=3) (N:=some 8) (v:=?_) (a':=?_) #[true,true,true,true,false,true,false,true,false,false,false,false,false] rfl rfl (iE l.out I.out (by kernel_rfl)) (fun _ _ _ h=>h) (Or.inl ⟨by rfl,?_⟩) hHeld ?_ ?_;rotate_left
 ·rintro w' ⟨s0,s1,s2,O⟩
  go_simp
  with_reducible rfl
 rotate_left
 ·simp only[Act.put,List.setIfInBounds_toArray,List.set_cons_zero,List.set_cons_succ,bd,bh]
  rfl
 refine iC (i:=6) (N:=some 11) (v:=?_) (a':=?_) #[true,true,true,true,false,true,true,true,false,false,false,false,false] rfl rfl (iE l.out I.out (by kernel_rfl)) (fun _ _ _ h=>h) (Or.inl ⟨by rfl,?_⟩) hHeld ?_ ?_;rotate_left
 ·rintro w' ⟨s0,s1,s2,O⟩
  go_simp
  with_reducible rfl
 rotate_left
 ·simp only[Act.put,List.setIfInBounds_toArray,List.set_cons_zero,List.set_cons_succ,bd,bh]
  rfl
 refine iC (i:=8) (N:=some 13) (v:=?_) (a':=?_) #[true,true,true,true,false,true,true,true,true,false,false,false,false] rfl rfl (iE l.out I.out (by kernel_rfl)) (fun _ _ _ h=>h) (Or.inl ⟨by rfl,?_⟩) hHeld ?_ ?_;rotate_left
 ·rintro w' ⟨s0,s1,s2,O⟩
  go_simp
  with_reducible rfl
 rotate_left
 ·simp only[Act.put,List.setIfInBounds_toArray,List.set_cons_zero,List.set_cons_succ,bd,bh]
  rfl
 refine jA (i:=4) (N:=some 9) #[true,true,true,true,true,true,true,true,true,false,false,false,false] rfl rfl (iY l.out (by kernel_rfl)) (by decide) (fun K p=>?_);refine jY Tryz.func107 (by kernel_rfl) rfl #[.int .i64 q,.int .i64 u] (by rfl) rfl rfl (by(try simp only[List.map_toArray,List.map_cons,List.map_nil]);first|done|rfl|(simp only[List.length_drop,List.length_take];rfl)) ?_;with_reducible refine(gH.calls q u t205 _ X.out).mono ?_
 rintro e w' ⟨rfl,⟨R,rfl⟩⟩;refine⟨_,rfl,?_⟩;refine p.out _ _ ⟨(ao a.out 0).trans rfl,(ao a.out 1).trans rfl,(ao b.out 0).trans rfl,(ao b.out 1).trans rfl⟩ (fun hHeld=>?_);clear p K;refine jB (a':=?_) ?_ ?_;rotate_left
 ·show Act.put _ (some 9) _=_
  simp only[Act.put,List.setIfInBounds_toArray,List.set_cons_zero,List.set_cons_succ,bd,bh];rfl
 refine jA (i:=9) (N:=some 14) #[true,true,true,true,true,true,true,true,true,true,false,false,false] rfl rfl (iY l.out (by kernel_rfl)) (by decide) (fun K p=>?_);refine jY Tryz.func107 (by kernel_rfl) rfl #[.int .i64 s,.int .i64 x] (by rfl) rfl rfl (by(try simp only[List.map_toArray,List.map_cons,List.map_nil]);first|done|rfl|(simp only[List.length_drop,List.length_take];rfl)) ?_;with_reducible refine(gH.calls s x t206 _ Y.out).mono ?_
 rintro e w' ⟨rfl,⟨R,rfl⟩⟩;refine⟨_,rfl,?_⟩;refine p.out _ _ ⟨(ao a.out 0).trans rfl,(ao a.out 1).trans rfl,(ao b.out 0).trans rfl,(ao b.out 1).trans rfl⟩ (fun hHeld=>?_);clear p K;refine jB (a':=?_) ?_ ?_;rotate_left
 ·show Act.put _ (some 14) _=_
  simp only[Act.put,List.setIfInBounds_toArray,List.set_cons_zero,List.set_cons_succ,bd,bh];rfl
 refine jA (i:=10) (N:=some 15) #[true,true,true,true,true,true,true,true,true,true,true,false,false] rfl rfl (iY l.out (by kernel_rfl)) (by decide) (fun K p=>?_);refine Kd.xr (Kd.int .i64) _ 3 ?m (N:=15) ?hd (xs:=([t205,t206]:List Int)) (inner:=[.int .i64 t205,.int .i64 t206]) (ok:=fun _=>True) (okp:=fun _=>True) ?hr ?hp (fun _ hk=>hk) trivial (Below.refl _ _) (Nat.le_refl _) (by simp) ?_;(case hd=>rfl);(case m=>rfl);(case hr=>first|(go_simp;done)|(go_simp;rfl));(case hp=>exact(aM.one (show Kd.M (Kd.int .i64) _ _ _ t205 [.int .i64 t205] from rfl) (aM.one (show Kd.M (Kd.int .i64) _ _ _ t206 [.int .i64 t206] from rfl) (aM.none _ _))));intro v208 w9 F hb ag ak;clear ag ak
 (first|rw[<-Q.out] at F|(simp only[Int.reduceToNat] at F;rw[<-Q.out] at F))
 have C:=Aside0.mk (Kd.aW F (a_ zB));have D:=zb a hb;have E:=zb b hb;have T:=zS j hb;clear a;clear b;clear j;have P:=C;have a:=D;have b:=E;have j:=T;clear C D E T;clear hb F;obtain⟨am,an,U⟩:=Kd.aZ P.out
 (first|subst U|(injection U with V ap W;have ar:=V.symm;have av:=W.symm;clear V ap W;subst ar;subst av))
 refine p.out _ _ ⟨(ao a.out 0).trans rfl,(ao a.out 1).trans rfl,(ao b.out 0).trans rfl,(ao b.out 1).trans rfl⟩ (fun hHeld=>?_);clear p K;refine jB (a':=?_) ?_ ?_;rotate_left
 ·show Act.put _ (some 15) _=_
  simp only[Act.put,List.setIfInBounds_toArray,List.set_cons_zero,List.set_cons_succ,bd,bh];rfl
 refine jA (i:=11) (N:=some 16) #[true,true,true,true,true,true,true,true,true,true,true,true,false] rfl rfl (iY l.out (by kernel_rfl)) (by decide) (fun K p=>?_);refine jY Tryz.func177 (by kernel_rfl) rfl #[.slice am J.length an] (by rfl) rfl rfl (by(try simp only[List.map_toArray,List.map_cons,List.map_nil]);first|done|rfl|(simp only[List.length_drop,List.length_take];rfl)) ?_;with_reducible refine(cS.calls k _ _ J t210 _ ?af ?ah A5.out).mono ?_
 (case af=>exact zC (Kd.aA P.out).2.2)
 (case ah=>exact(Kd.aA P.out).2.1)
 rintro e w' ⟨rfl,⟨R,rfl⟩⟩;refine⟨_,rfl,?_⟩;refine p.out _ _ ⟨(ao a.out 0).trans rfl,(ao a.out 1).trans rfl,(ao b.out 0).trans rfl,(ao b.out 1).trans rfl⟩ (fun hHeld=>?_);clear p K;refine jB (a':=?_) ?_ ?_;rotate_left
 ·show Act.put _ (some 16) _=_
  simp only[Act.put,List.setIfInBounds_toArray,List.set_cons_zero,List.set_cons_succ,bd,bh];rfl
 refine cy (i:=12) (N:=some 4) (v:=?_) (a':=?_) #[true,true,true,true,true,true,true,true,true,true,true,true,true] rfl rfl (cz l.out (by kernel_rfl)) (fun _ _ _ h=>h) (Or.inl ⟨by rfl,?_⟩) ?_ ?_;rotate_left
 ·intro w'
  go_simp
  with_reducible rfl
 rotate_left
 ·simp only[Act.put,List.setIfInBounds_toArray,List.set_cons_zero,List.set_cons_succ,bd,bh]
  rfl
 refine mW (np l.out (by kernel_rfl)) ?_;try go_wp2
 go_ret;exact⟨zE,zB⟩
end Go.Proofs.YtffdiakgjakngaaGreat.P

