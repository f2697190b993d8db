/- TopRochUnwinnable answers true whatever the input (text 2 of 19): own walks and plain laws; no conditions. -/
import Derived.ArgAppend
import Derived.Below
import Derived.BigQuiet
import Derived.Deep.AppendLies
import Derived.Deep.CutBlock
import Derived.Deep.DeepCutAuto
import Derived.Deep.Draws
import Derived.Deep.LoopGhost
import Derived.Deep.OwnRows
import Derived.Deep.QuietTactic
import Derived.Deep.RegionHeld3
import Derived.KernelRfl
import Derived.Laws.BitsLemmas
import Derived.Laws.BytesArg
import Derived.Laws.IdiomCopy
import Derived.Laws.MakeOwn
import Derived.Laws.OwnMore
import Derived.Laws.Rows
import Derived.Laws.Slices
import Derived.Lib.AppendStr
import Derived.Lib.ConvBytes
import Derived.Maps.AppendAt
import Derived.OrdersHeld
import Derived.OwnWalk
import Derived.RowKit
import Derived.RowKit3
import Derived.Tactics
import Derived.Test.YtffdiakgjakngaaGreatProg
import Derived.WalkKit
import Derived.WideLaws
import Derived.Test.YtffdiakgjakngaaGreatRoch1
namespace Go.Proofs.YtffdiakgjakngaaGreat.P
open Go.RowKit Go.Proofs.YtffdiakgjakngaaGreatW.PrintWords Go.Proofs.YtffdiakgjakngaaGreatW.PrintLast Go.Proofs.YtffdiakgjakngaaGreatW.PrintMore
set_option linter.unusedVariables false
set_option linter.unusedSimpArgs false
set_option maxHeartbeats 8000000
set_option maxRecDepth 100000
section
section
variable {w W W0 W':World}
theorem zB (h:Below w.heap.size w W:=by repeat(first|(with_reducible first|exact Aside0.out (by assumption)|apply al|apply bC|apply bu|refine dJ ?_ (Aside0.out (by assumption)))|exact Aside0.out (by assumption))):Below w.heap.size w W:=h
theorem zS (j:Aside0 (Below w.heap.size w W0)) (hb:Below W.heap.size W W') (h:Below w.heap.size w W:=by repeat(first|(with_reducible first|exact Aside0.out (by assumption)|apply al|apply bC|apply bu|refine dJ ?_ (Aside0.out (by assumption)))|exact Aside0.out (by assumption))):Aside0 (Below w.heap.size w W'):=⟨aN h hb⟩
theorem zG {g:Nat} (o:Aside0 (Below w.heap.size w W0)) (j:g=W.heap.size) (h:Below w.heap.size w W:=by repeat(first|(with_reducible first|exact Aside0.out (by assumption)|apply al|apply bC|apply bu|refine dJ ?_ (Aside0.out (by assumption)))|exact Aside0.out (by assumption))):Aside0 (w.heap.size<=g):=⟨by rw[j];exact aU h⟩
theorem zK {g:Nat} {o:Obj} (h:Aside0 (W0.heap[g]? =some o)) (c:W0.heap[g]? =some o->W.heap[g]? =some o:=by intro h;(with_reducible repeat(first|refine hZ ?_ _|refine eG ?_|refine aq ?_ _));exact h):W.heap[g]? =some o:=c h.out
theorem zk {g:Nat} {o:Obj} (h:W0.heap[g]? =some o) (c:W0.heap[g]? =some o->W.heap[g]? =some o:=by intro h;(with_reducible repeat(first|refine hZ ?_ _|refine eG ?_|refine aq ?_ _));exact h):W.heap[g]? =some o:=c h
theorem zb {g:Nat} {o:Obj} (h:Aside0 (W0.heap[g]? =some o)) (hb:Below W.heap.size W W') (c:W0.heap[g]? =some o->W.heap[g]? =some o:=by intro h;(with_reducible repeat(first|refine hZ ?_ _|refine eG ?_|refine aq ?_ _));exact h):Aside0 (W'.heap[g]? =some o):=⟨aE (c h.out) hb⟩
section
variable {α:Type} {d:Kd α} {e base:Nat} {ok:Nat->Prop} {v:Value} {xs:List α} {A:Option Addr} {n:Nat}
theorem zR (h:Aside0 (d.R e W0 base ok v xs)) (c:d.R e W0 base ok v xs->d.R e W base ok v xs:=by intro h;(with_reducible repeat(first|apply Kd.aD|apply Kd.bd|apply Kd.a8));exact h):d.R e W base ok v xs:=c h.out
theorem zN (h:Aside0 (d.N e W0 base ok v xs)) (c:d.N e W0 base ok v xs->d.N e W base ok v xs:=by intro h;(with_reducible repeat(first|apply Kd.fK|apply Kd.fM|apply Kd.fL));exact h):d.N e W base ok v xs:=c h.out
theorem bm (h:Aside0 (d.R e W0 base ok v xs)) (hb:Below W.heap.size W W') (c:d.R e W0 base ok v xs->d.R e W base ok v xs:=by intro h;(with_reducible repeat(first|apply Kd.aD|apply Kd.bd|apply Kd.a8));exact h):Aside0 (d.R e W' base ok v xs):=⟨Kd.bY (c h.out) hb⟩
theorem x_ (h:Aside0 (d.N e W0 base ok v xs)) (hb:Below W.heap.size W W') (c:d.N e W0 base ok v xs->d.N e W base ok v xs:=by intro h;(with_reducible repeat(first|apply Kd.fK|apply Kd.fM|apply Kd.fL));exact h):Aside0 (d.N e W' base ok v xs):=⟨Kd.f_ (c h.out) hb⟩
section
variable {β:Type} {d2:Kd β} {e2:Nat} {ok2:Nat->Prop} {u:Value} {ys:List β} {w2:World}
theorem fu (h:Aside0 (d.R e W0 base ok v xs)) (hb:d2.R e2 w2 W.heap.size ok2 u ys) (j:Below W.heap.size W W') (c:d.R e W0 base ok v xs->d.R e W base ok v xs:=by intro h;(with_reducible repeat(first|apply Kd.aD|apply Kd.bd|apply Kd.a8));exact h):Aside0 (d.R e W' base (fun k=>ok k∧some k≠u.ownBlock) v xs):=⟨Kd.wG (c h.out) (Kd.br hb) j⟩
theorem kz (h:Aside0 (d.N e W0 base ok v xs)) (hb:d2.R e2 w2 W.heap.size ok2 u ys) (j:Below W.heap.size W W') (c:d.N e W0 base ok v xs->d.N e W base ok v xs:=by intro h;(with_reducible repeat(first|apply Kd.fK|apply Kd.fM|apply Kd.fL));exact h):Aside0 (d.N e W' base (fun k=>ok k∧some k≠u.ownBlock) v xs):=⟨Kd.xJ (c h.out) (Kd.br hb) j⟩
end
theorem zC (h:d.C W0 A n xs) (c:d.C W0 A n xs->d.C W A n xs:=by intro h;repeat(first|exact h|(with_reducible refine Kd.aY ?_ _)|(with_reducible refine Kd.cX ?_ _)|(with_reducible refine Kd.cK ?_))):d.C W A n xs:=c h
end
section
variable {g:Nat} {a b c:Value} {l:List Value} {t:TypeId}
theorem z0 (h:Aside0 (W.heap[g]? =some (.cells (List.toArray (a::l)) t (0,0)))):W.cell? ⟨g,0,none⟩=some a:=(ai h.out 0).trans rfl
theorem z1 (h:Aside0 (W.heap[g]? =some (.cells (List.toArray (a::b::l)) t (0,0)))):W.cell? ⟨g,1,none⟩=some b:=(ai h.out 1).trans rfl
theorem z2 (h:Aside0 (W.heap[g]? =some (.cells (List.toArray (a::b::c::l)) t (0,0)))):W.cell? ⟨g,2,none⟩=some c:=(ai h.out 2).trans rfl
theorem ao (h:Aside0 (W.heap[g]? =some (.cells #[a,b] t (0,0)))):W.cell? ⟨g,0,none⟩=some a∧W.cell? ⟨g,1,none⟩=some b∧W.frozen? ⟨g,0,none⟩=false∧W.frozen? ⟨g,1,none⟩=false:=⟨z0 h,z1 h,a9 h.out 0,a9 h.out 1⟩
theorem bE (h:Aside0 (W.heap[g]? =some (.cells #[a,b,c] t (0,0)))):W.cell? ⟨g,0,none⟩=some a∧W.cell? ⟨g,1,none⟩=some b∧W.cell? ⟨g,2,none⟩=some c∧W.frozen? ⟨g,0,none⟩=false∧W.frozen? ⟨g,1,none⟩=false∧W.frozen? ⟨g,2,none⟩=false:=⟨z0 h,z1 h,z2 h,a9 h.out 0,a9 h.out 1,a9 h.out 2⟩
end
end
theorem zE {p:Prop} (h:p:=by first|rfl|(simp[ep,et]<;>rfl)|(simp[*,ep,et]<;>rfl)):p:=h
theorem zT {p:Prop} (h:p:=by first|rfl|(simp;done)|(simp[*];done)):p:=h
section
variable {P:Program} {ops:Array Oper} {Q:Exit->Act->World->Prop}
theorem zL {rest:List Oper} {j:Oper} {a:Act} {w:World} {f:FuncId} {fn:Func} {o:Array Operand} {I:Array TypeId} (N:Option Tmp) (hf:P.funcs[f]? =some fn) (args:Array Value)
  (h:Calls P f args w fun e w'=>∃v,e= .returned v∧wpList P ops Q rest (a.put N v) w') (hd:j.dst=N:=by exact rfl) (J:j.guard=none:=by exact rfl) (R:(fn.name== "runtime.NumGoroutine")=false:=by kernel_rfl) (hb:fn.body.isSome=true:=by exact rfl)
  (U:j.op= .call {callee:=.value (.func f),args:=o,argTypes:=I}:=by exact rfl) (ab:o.map a.eval=args:=by(try simp only[List.map_toArray,List.map_cons,List.map_nil]);first|done|rfl|(simp only[List.length_drop,List.length_take];rfl)):wpList P ops Q (j::rest) a w:=
 rz N hd J hf R hb args U ab h
theorem zX {rest:List Oper} {o:Oper} {a:Act} {W:World} (N:Tmp) (cs:Array Value) (t:TypeId)
  (h:∀g,g=W.heap.size->∀w1,w1.heap[g]? =some (.cells cs t (0,0))->Below W.heap.size W w1->wpList P ops Q rest (a.put o.dst (.pointer (some ⟨g,0,none⟩))) w1) (j:o.guard=none:=by exact rfl) (hd:o.dst=some N:=by exact rfl)
  (hr:(execOp a.eval o).run P W= .ok (.value (.pointer (some ⟨W.heap.size,0,none⟩))) (W.alloc (.cells cs t (0,0))):=by first|(go_simp;done)|(go_simp;rfl)):wpList P ops Q (o::rest) a W:=wH j hd hr h
end
end
def rX:Option Int->Value
 |none=>.nilIface
 |some c=>.iface 0 (.int .i64 c)
theorem ep:rX none= .nilIface:=rfl
theorem et (c:Int):rX (some c)= .iface 0 (.int .i64 c):=rfl
theorem fw:(Tryz.prog.info? 3).map (fun i=>(i.zero,i.size,i.bytes))=some (some (.int .i64 0),1,8):=by kernel_rfl
theorem lE:(Tryz.prog.info? 4).map (fun i=>(i.zero,i.size,i.bytes))=some (some (.bool false),1,1):=by kernel_rfl
theorem rY:(Tryz.prog.info? 25).map (fun i=>(i.zero,i.size,i.bytes))=some (some (.slice none 0 0),1,24):=by kernel_rfl
theorem rZ:(Tryz.prog.info? 26).map (fun i=>(i.zero,i.size,i.bytes))=some (some (.slice none 0 0),1,24):=by kernel_rfl
theorem ya:(Tryz.prog.info? 83).map (fun i=>(i.zero,i.size,i.bytes))=some (some (.agg #[(.int .i64 0),(.int .i64 0),(.int .i64 0)]),3,24):=by kernel_rfl
structure S83 where
 f0:Int
 f1:Int
 f2:Int
def r6:S83:=⟨(0:Int),(0:Int),(0:Int)⟩
def aG:Kd S83:=Kd.vY (Kd.pair (Kd.int .i64) (Kd.pair (Kd.int .i64) (Kd.int .i64))) (fun x:S83=>(x.f0,x.f1,x.f2))
theorem yb {w:World} {x:S83} {cs:List Value} (h:aG.K w x cs):cs=[.int .i64 x.f0,.int .i64 x.f1,.int .i64 x.f2]:=by
 obtain⟨_,_,rfl,rfl,⟨_,_,rfl,rfl,rfl⟩⟩:=h
 exact rfl
theorem yc (w:World) (x:S83):aG.K w x [.int .i64 x.f0,.int .i64 x.f1,.int .i64 x.f2]:=⟨[.int .i64 x.f0],[.int .i64 x.f1,.int .i64 x.f2],rfl,rfl,⟨[.int .i64 x.f1],[.int .i64 x.f2],rfl,rfl,rfl⟩⟩
theorem lF (w:World) (base:Nat) (ok:Nat->Prop) (x:S83):aG.M w base ok x [.int .i64 x.f0,.int .i64 x.f1,.int .i64 x.f2]:=⟨[.int .i64 x.f0],[.int .i64 x.f1,.int .i64 x.f2],rfl,rfl,⟨[.int .i64 x.f1],[.int .i64 x.f2],rfl,rfl,rfl⟩⟩
def ae (xs:List S83) (i:Int):S83:=xs.getD i.toNat r6
theorem dK {w:World} {A:Option Addr} {n:Nat} {xs:List S83} (h:Kd.C aG w A n xs) (i:Int) (h0:0<=i) (h1:i<n):∃ad,A=some ad∧w.cell? (ad.add (i.toNat*3))=some (.int .i64 (ae xs i).f0)∧w.cell? ⟨(ad.add (i.toNat*3)).block,(ad.add (i.toNat*3)).off+1,none⟩=some (.int .i64 (ae xs i).f1)∧w.cell? ⟨(ad.add (i.toNat*3)).block,(ad.add (i.toNat*3)).off+2,none⟩=some (.int .i64 (ae xs i).f2):=by
 obtain⟨ad,c,e,_,o,I⟩:=Kd.nV h r6 i h0 h1
 have hc:∀j u,c[j]? =some u->w.cell? (ad.add (i.toNat*3+j))=some u:=I
 obtain rfl:=yb o
 exact⟨ad,e,hc 0 _ rfl,by rw[<-nS _ _ 1 (by omega)];exact hc 1 _ rfl,by rw[<-nS _ _ 2 (by omega)];exact hc 2 _ rfl⟩
def aH (xs:List (List Int)) (i:Int):(List Int):=xs.getD i.toNat ([]:List Int)
theorem e7 {w:World} {A:Option Addr} {n:Nat} {xs:List (List Int)} (h:Kd.C (Kd.slice 3 (Kd.int .i64)) w A n xs) (i:Int) (h0:0<=i) (h1:i<n):∃ad A0 c0,A=some ad∧w.cell? (ad.add i.toNat)=some (.slice A0 (aH xs i).length c0)∧(aH xs i).length<=c0∧(Kd.int .i64).C w A0 (aH xs i).length (aH xs i):=by
 obtain⟨ad,c,e,_,o,I⟩:=Kd.nV h ([]:List Int) i h0 h1
 have hc:∀j u,c[j]? =some u->w.cell? (ad.add (i.toNat*1+j))=some u:=I
 obtain⟨A0,c0,rfl,l0,g0⟩:=o
 exact⟨ad,A0,c0,e,by have hq:=hc 0 _ rfl;rwa [Nat.mul_one,Nat.add_zero] at hq,l0,g0⟩
def Ev {α:Type} (f:Nat->Option α) (r:α):Prop:=∃B,∀K,B<=K->f K=some r
theorem Ev.const {α:Type} (r:α):Ev (fun _=>some r) r:=⟨0,fun _ _=>rfl⟩
theorem Ev.of_succ {α:Type} {f:Nat->Option α} {r:α} (h:Ev (fun k=>f (k+1)) r):Ev f r:=by
 obtain⟨B,h⟩:=h
 refine⟨B+1,fun K j=>?_⟩
 obtain⟨k,rfl⟩:∃k,K=k+1:=⟨K-1,by omega⟩
 exact h k (by omega)
theorem Ev.bind {α β:Type} {f:Nat->Option α} {g:α->Nat->Option β} {a:α} {r:β} (h1:Ev f a) (h2:Ev (g a) r):Ev (fun k=>(f k).bind fun t=>g t k) r:=by
 obtain⟨B,h1⟩:=h1
 obtain⟨C,h2⟩:=h2
 refine⟨max B C,fun K j=>?_⟩
 show (f K).bind (fun t=>g t K)=some r
 rw[h1 K (by omega),Option.bind_some]
 exact h2 K (by omega)
theorem Ev.get {α:Type} {f:Nat->Option α} {r:α} (h:Ev f r):∃k,f k=some r:=by
 obtain⟨B,h⟩:=h
 exact⟨B,h B (Nat.le_refl _)⟩
theorem Ev.at_ {α:Type} {f:Nat->Option α} {r:α} (hm:∀k,ah (f k) (f (k+1))) {k:Nat} (h:f k=some r):Ev f r:=
 ⟨k,fun K j=>by
  obtain⟨m,rfl⟩:∃m,K=k+m:=⟨K-k,by omega⟩
  clear j
  induction m with
  |zero=>exact h
  |succ m o=>exact hm _ _ o⟩
theorem dA {i:Nat} (h:i<=1000000):wrap64 ((i:Int)+1)=((i+1:Nat):Int):=by
 rw[show wrap64 ((i:Int)+1)=(i:Int)+1 from by unfold wrap64;omega];omega
theorem lG {x:Int} (h: -1000000000<=x∧x<=1000000000):wrap64 x=x:=by unfold wrap64;omega
def eu.f (o:Int) (I:List (S83)) (j:Int):Option (Bool):=if j>=0 then(some (decide (j<o))) else(some false)
theorem eu.calls (R:Int) (aa:Option Addr) (ab:Nat) (o:List (S83)) (I:Int) (r:Bool) (w:World) (ad:Kd.C aG w aa o.length o) (ag:o.length<=ab) (h:eu.f R o I=some r):
  Calls Tryz.prog 149 #[.agg #[.int .i64 R,.slice aa o.length ab],.int .i64 I] w fun e w'=>e= .returned (.bool r)∧Below w.heap.size w w':=by
 have aF:=Tryz.underlying24
 have aL:=Aside0.mk ad
 have aO:=Aside0.mk ag
 clear ad ag
 have j:=Aside0.mk (Below.refl w.heap.size w)
 have H:(if I>=0 then(some (decide (I<R))) else(some false))=some r:=h
 clear h
 by_cases c3:I>=0
 ·rw[if_pos c3] at H
  have an:decide (0<=I)=true:=decide_eq_true c3
  clear c3
  obtain rfl:=Option.some.inj H
  go_enter Tryz.func149,Tryz.ntmps149
  go_wp2_with (first|((with_reducible refine aA (N:=2) rfl ?_);refine zX 2 #[.int .i64 R,.slice aa o.length ab] 24 ?_;intro ar J w4 U hb;have ak:=Aside0.mk (U);have av:=zG j J;have aB:=zG j J;replace j:=zS j hb;clear hb U J;obtain⟨aS,a0,a2,a3⟩:=ao ak))
  go_ret
  exact⟨zE,zB⟩
 ·rw[if_neg c3] at H
  have an:decide (0<=I)=false:=decide_eq_false c3
  clear c3
  obtain rfl:=Option.some.inj H
  go_enter Tryz.func149,Tryz.ntmps149
  go_wp2_with (first|((with_reducible refine aA (N:=2) rfl ?_);refine zX 2 #[.int .i64 R,.slice aa o.length ab] 24 ?_;intro ar J w6 U hb;have ak:=Aside0.mk (U);have av:=zG j J;have aB:=zG j J;replace j:=zS j hb;clear hb U J))
  go_ret
  exact⟨zE,zB⟩
def bT.j0:Nat->Int->Bool->Int->List (S83)->Int->Int->Int->Option (Int)
 |0,_,_,_,_,_,_,_=>none
 |k+1,x1,J,R,j,o,I,U=>if J=true then(some 2) else(if o>I then(some 9) else(if x1>0 then(if 0<=(wrap64 (x1-1)) then(if(wrap64 (x1-1))<(j.length:Int) then(if o<((ae j (wrap64 (x1-1))).f0) then(some 9) else(if o=((ae j (wrap64 (x1-1))).f0) then(if I<=((ae j (wrap64 (x1-1))).f1) then(some 9) else(some 0)) else(some 0))) else(none)) else(none)) else(some 0)))
def bT.f (k:Nat) (I:Int) (j:List (S83)) (o:Int):Option (Int):=if 0<=o then(if o<(j.length:Int) then((eu.f I j ((ae j o).f0)).bind fun t112=>(if t112=true then((eu.f I j ((ae j o).f1)).bind fun t113=>(if t113=true then(if((ae j o).f2)<1 then(bT.j0 k o true I j ((ae j o).f0) ((ae j o).f1) ((ae j o).f2)) else(bT.j0 k o (decide (((ae j o).f2)>50)) I j ((ae j o).f0) ((ae j o).f1) ((ae j o).f2))) else(bT.j0 k o true I j ((ae j o).f0) ((ae j o).f1) ((ae j o).f2)))) else(bT.j0 k o true I j ((ae j o).f0) ((ae j o).f1) ((ae j o).f2)))) else(none)) else(none)
theorem bT.calls (k:Nat) (U:Int) (c6:Option Addr) (av:Nat) (j:List (S83)) (I:Int) (r:Int) (w:World) (dd:Kd.C aG w c6 j.length j) (ds:j.length<=av) (h:bT.f k U j I=some r):
  Calls Tryz.prog 153 #[.agg #[.int .i64 U,.slice c6 j.length av],.int .i64 I] w fun e w'=>e= .returned (.int .i64 r)∧Below w.heap.size w w':=by
 have hP:=Tryz.underlying24
 have hQ:=Tryz.underlying83
 have bf:=Aside0.mk dd
 have bk:=Aside0.mk ds
 have R:=Aside0.mk (Below.refl w.heap.size w)
 have H:(if 0<=I then(if I<(j.length:Int) then((eu.f U j ((ae j I).f0)).bind fun t112=>(if t112=true then((eu.f U j ((ae j I).f1)).bind fun t113=>(if t113=true then(if((ae j I).f2)<1 then(bT.j0 k I true U j ((ae j I).f0) ((ae j I).f1) ((ae j I).f2)) else(bT.j0 k I (decide (((ae j I).f2)>50)) U j ((ae j I).f0) ((ae j I).f1) ((ae j I).f2))) else(bT.j0 k I true U j ((ae j I).f0) ((ae j I).f1) ((ae j I).f2)))) else(bT.j0 k I true U j ((ae j I).f0) ((ae j I).f1) ((ae j I).f2)))) else(none)) else(none))=some r:=h
 by_cases c3:0<=I
 ·rw[if_pos c3] at H
  have hR:decide (0<=I)=true:=decide_eq_true c3
  by_cases c4:I<(j.length:Int)
  ·rw[if_pos c4] at H
   have hT:decide (I<(j.length:Int))=true:=decide_eq_true c4
   have dv:=Aside0.mk H
   go_enter Tryz.func153,Tryz.ntmps153
   go_upto_region 2 with (first|((with_reducible refine aA (N:=2) rfl ?_);refine zX 2 #[.int .i64 U,.slice c6 j.length av] 24 ?_;intro ag hg w6 aF hb;have aa:=Aside0.mk (aF);have hW:=zG R hg;have hX:=zG R hg;replace R:=zS R hb;clear hb aF hg;obtain⟨ea,eb,ed,eg⟩:=ao aa;have cd:0<=(I:Int):=of_decide_eq_true ‹_›;have cf:I<(j.length:Int):=of_decide_eq_true ‹_›;obtain⟨ak,ek,ch,cj,ck⟩:=dK bf.out I cd cf;cases ek;replace ch:=(R.out.cell (World.block_lt_of_cell? w _ ch)).trans ch;replace cj:=(R.out.cell (World.block_lt_of_cell? w _ cj)).trans cj;replace ck:=(R.out.cell (World.block_lt_of_cell? w _ ck)).trans ck;replace cd:=eq_true cd;replace cf:=eq_true cf)|((with_reducible refine aA (N:=5) rfl ?_);refine zX 5 #[.int .i64 0,.int .i64 0,.int .i64 0] 83 ?_;intro an hg w8 aF hb;have J:=Aside0.mk (aF);have h0:=zG R hg;have h1:=zG R hg;replace R:=zS R hb;have ar:=Aside0.mk ((by rw[hg];exact Nat.ne_of_lt (aw (g:=ag) (o:=.cells #[.int .i64 U,.slice (some ak) j.length av] 24 (0,0)) (zK aa)):ag≠an));have bg:=Aside0.mk ((by rw[hg];exact Nat.ne_of_gt (aw (g:=ag) (o:=.cells #[.int .i64 U,.slice (some ak) j.length av] 24 (0,0)) (zK aa)):an≠ag));replace aa:=zb aa hb;clear hb aF hg;have h2:=bg.out;have h3:=ar.out;obtain⟨h4,h5,h6,er,ev,ew⟩:=bE J))
   (try simp only[Act.put,List.setIfInBounds_toArray,List.set_cons_zero,List.set_cons_succ])
   go_cut [33] (fun ey wc=>∃(kq:Nat) (cq:Bool),ey= .bool cq∧Aside0 (bT.j0 kq I cq U j ((ae j I).f0) ((ae j I).f1) ((ae j I).f2)=some r)∧Aside0 (kq<=k)∧Aside0 (wc.heap[ag]? =some (.cells #[.int .i64 U,(.slice (some ak) j.length av)] 24 (0,0)))∧Aside0 (wc.heap[an]? =some (.cells #[.int .i64 ((ae j I).f0),.int .i64 ((ae j I).f1),.int .i64 ((ae j I).f2)] 83 (0,0)))∧Aside0 (Below w.heap.size w wc))
   case first=>
    have H:=dv.out
    replace H:=Option.bind_eq_some_iff.mp H
    obtain⟨t112,e0,H⟩:=H
    replace H:(if t112=true then((eu.f U j ((ae j I).f1)).bind fun t113=>(if t113=true then(if((ae j I).f2)<1 then(bT.j0 k I true U j ((ae j I).f0) ((ae j I).f1) ((ae j I).f2)) else(bT.j0 k I (decide (((ae j I).f2)>50)) U j ((ae j I).f0) ((ae j I).f1) ((ae j I).f2))) else(bT.j0 k I true U j ((ae j I).f0) ((ae j I).f1) ((ae j I).f2)))) else(bT.j0 k I true U j ((ae j I).f0) ((ae j I).f1) ((ae j I).f2)))=some r:=H
    have cr:=Aside0.mk e0
    by_cases cv:t112=true
    ·subst cv
     have H1:((eu.f U j ((ae j I).f1)).bind fun t113=>(if t113=true then(if((ae j I).f2)<1 then(bT.j0 k I true U j ((ae j I).f0) ((ae j I).f1) ((ae j I).f2)) else(bT.j0 k I (decide (((ae j I).f2)>50)) U j ((ae j I).f0) ((ae j I).f1) ((ae j I).f2))) else(bT.j0 k I true U j ((ae j I).f0) ((ae j I).f1) ((ae j I).f2))))=some r:=by rw[if_pos rfl] at H;exact H
     have H:=H1
     replace H:=Option.bind_eq_some_iff.mp H
     obtain⟨t113,e1,H⟩:=H
     replace H:(if t113=true then(if((ae j I).f2)<1 then(bT.j0 k I true U j ((ae j I).f0) ((ae j I).f1) ((ae j I).f2)) else(bT.j0 k I (decide (((ae j I).f2)>50)) U j ((ae j I).f0) ((ae j I).f1) ((ae j I).f2))) else(bT.j0 k I true U j ((ae j I).f0) ((ae j I).f1) ((ae j I).f2)))=some r:=H
     have c7:=Aside0.mk e1
     by_cases cx:t113=true
     ·subst cx
      have H1:(if((ae j I).f2)<1 then(bT.j0 k I true U j ((ae j I).f0) ((ae j I).f1) ((ae j I).f2)) else(bT.j0 k I (decide (((ae j I).f2)>50)) U j ((ae j I).f0) ((ae j I).f1) ((ae j I).f2)))=some r:=by rw[if_pos rfl] at H;exact H
      have H:=H1
      by_cases c0:((ae j I).f2)<1
      ·rw[if_pos c0] at H
       have cc:decide (((ae j I).f2)<1)=true:=decide_eq_true c0
       (first|rw[cc]|(simp only[aV,aX];rw[cc])|skip)
       have H':=Aside0.mk H
       have h7:=ar.out
       have h8:=bg.out
       obtain⟨h9,h_,e2,e3⟩:=ao aa
       obtain⟨h',ib,ih,e4,e5,e6⟩:=bE J
       go_wp2_with (first|((with_reducible refine au (f:=149) rfl ?_);refine zL (some 15) Tryz.func149 #[.agg #[.int .i64 U,.slice (some ak) j.length av],.int .i64 ((ae j I).f0)] ?_;(with_reducible refine(eu.calls U _ _ j ((ae j I).f0) true _ ?a2 ?a3 cr.out).mono ?_);(case a2=>exact Kd.aj bf.out zB);(case a3=>exact bk.out);rintro e im ⟨rfl,hb⟩;refine⟨_,rfl,?_⟩;replace aa:=Aside0.mk (aE (g:=ag) (o:=.cells #[.int .i64 U,.slice (some ak) j.length av] 24 (0,0)) (by refine zk ?_;refine ay ?_ ar.out _;refine zk ?_;refine ay ?_ ar.out _;refine zk ?_;refine ay ?_ ar.out _;exact zK aa) hb);replace J:=Aside0.mk (aE (g:=an) (o:=.cells #[.int .i64 ((ae j I).f0),.int .i64 ((ae j I).f1),.int .i64 ((ae j I).f2)] 83 (0,0)) (by refine zk ?_;refine aZ (cs:=#[.int .i64 ((ae j I).f0),.int .i64 ((ae j I).f1),.int .i64 0]) ?_ 2 _ rfl;refine zk ?_;refine aZ (cs:=#[.int .i64 ((ae j I).f0),.int .i64 0,.int .i64 0]) ?_ 1 _ rfl;refine zk ?_;refine aZ (cs:=#[.int .i64 0,.int .i64 0,.int .i64 0]) ?_ 0 _ rfl;exact zK J) hb);replace R:=zS R hb;obtain⟨iv,jj,e_,e'⟩:=ao aa;obtain⟨j1,j2,j3,fb,fo,fq⟩:=bE J)|(go_at_call 149;(with_reducible refine(eu.calls U _ _ j ((ae j I).f1) true _ ?a2 ?a3 c7.out).mono ?_);(case a2=>exact Kd.aj bf.out zB);(case a3=>exact bk.out);rintro e j' ⟨rfl,hb⟩;replace aa:=zb aa hb;replace J:=zb J hb;replace R:=zS R hb;obtain⟨kd,kk,km,fr,ft,fv⟩:=bE J))
       go_meet
       case rel=>exact⟨_,(true),zT,H',⟨by first|omega|exact Nat.le_refl _⟩,⟨zK aa⟩,⟨zK J⟩,⟨zB⟩⟩
      ·rw[if_neg c0] at H
       have cc:decide (((ae j I).f2)<1)=false:=decide_eq_false c0
       (first|rw[cc]|(simp only[aV,aX];rw[cc])|skip)
       have H':=Aside0.mk H
       have ks:=ar.out
       have kt:=bg.out
       obtain⟨kv,kW,f',gb⟩:=ao aa
       obtain⟨k0,k1,k2,gd,gf,gg⟩:=bE J
       go_wp2_with (first|((with_reducible refine au (f:=149) rfl ?_);refine zL (some 15) Tryz.func149 #[.agg #[.int .i64 U,.slice (some ak) j.length av],.int .i64 ((ae j I).f0)] ?_;(with_reducible refine(eu.calls U _ _ j ((ae j I).f0) true _ ?a2 ?a3 cr.out).mono ?_);(case a2=>exact Kd.aj bf.out zB);(case a3=>exact bk.out);rintro e k3 ⟨rfl,hb⟩;refine⟨_,rfl,?_⟩;replace aa:=Aside0.mk (aE (g:=ag) (o:=.cells #[.int .i64 U,.slice (some ak) j.length av] 24 (0,0)) (by refine zk ?_;refine ay ?_ ar.out _;refine zk ?_;refine ay ?_ ar.out _;refine zk ?_;refine ay ?_ ar.out _;exact zK aa) hb);replace J:=Aside0.mk (aE (g:=an) (o:=.cells #[.int .i64 ((ae j I).f0),.int .i64 ((ae j I).f1),.int .i64 ((ae j I).f2)] 83 (0,0)) (by refine zk ?_;refine aZ (cs:=#[.int .i64 ((ae j I).f0),.int .i64 ((ae j I).f1),.int .i64 0]) ?_ 2 _ rfl;refine zk ?_;refine aZ (cs:=#[.int .i64 ((ae j I).f0),.int .i64 0,.int .i64 0]) ?_ 1 _ rfl;refine zk ?_;refine aZ (cs:=#[.int .i64 0,.int .i64 0,.int .i64 0]) ?_ 0 _ rfl;exact zK J) hb);replace R:=zS R hb;obtain⟨k4,k5,gi,gl⟩:=ao aa;obtain⟨k6,k7,k8,gm,gp,gq⟩:=bE J)|(go_at_call 149;(with_reducible refine(eu.calls U _ _ j ((ae j I).f1) true _ ?a2 ?a3 c7.out).mono ?_);(case a2=>exact Kd.aj bf.out zB);(case a3=>exact bk.out);rintro e k9 ⟨rfl,hb⟩;replace aa:=zb aa hb;replace J:=zb J hb;replace R:=zS R hb;obtain⟨k_,la,lb,gr,gx,g0⟩:=bE J))
       go_meet
       case rel=>exact⟨_,(decide (((ae j I).f2)>50)),zT,H',⟨by first|omega|exact Nat.le_refl _⟩,⟨zK aa⟩,⟨zK J⟩,⟨zB⟩⟩
     ·replace cx:=Bool.eq_false_iff.mpr cx
      subst cx
      have H1:(bT.j0 k I true U j ((ae j I).f0) ((ae j I).f1) ((ae j I).f2))=some r:=by rw[if_neg (show ¬(false=true) by decide)] at H;exact H
      have H:=H1
      have H':=Aside0.mk H
      have ld:=ar.out
      have lg:=bg.out
      obtain⟨lj,lk,g1,g2⟩:=ao aa
      obtain⟨g3,g4,g',ha,hc,hf⟩:=bE J
      go_wp2_with (first|((with_reducible refine au (f:=149) rfl ?_);refine zL (some 15) Tryz.func149 #[.agg #[.int .i64 U,.slice (some ak) j.length av],.int .i64 ((ae j I).f0)] ?_;(with_reducible refine(eu.calls U _ _ j ((ae j I).f0) true _ ?a2 ?a3 cr.out).mono ?_);(case a2=>exact Kd.aj bf.out zB);(case a3=>exact bk.out);rintro e lo ⟨rfl,hb⟩;refine⟨_,rfl,?_⟩;replace aa:=Aside0.mk (aE (g:=ag) (o:=.cells #[.int .i64 U,.slice (some ak) j.length av] 24 (0,0)) (by refine zk ?_;refine ay ?_ ar.out _;refine zk ?_;refine ay ?_ ar.out _;refine zk ?_;refine ay ?_ ar.out _;exact zK aa) hb);replace J:=Aside0.mk (aE (g:=an) (o:=.cells #[.int .i64 ((ae j I).f0),.int .i64 ((ae j I).f1),.int .i64 ((ae j I).f2)] 83 (0,0)) (by refine zk ?_;refine aZ (cs:=#[.int .i64 ((ae j I).f0),.int .i64 ((ae j I).f1),.int .i64 0]) ?_ 2 _ rfl;refine zk ?_;refine aZ (cs:=#[.int .i64 ((ae j I).f0),.int .i64 0,.int .i64 0]) ?_ 1 _ rfl;refine zk ?_;refine aZ (cs:=#[.int .i64 0,.int .i64 0,.int .i64 0]) ?_ 0 _ rfl;exact zK J) hb);replace R:=zS R hb;obtain⟨hh,hj,hk,hl⟩:=ao aa;obtain⟨hn,ho,hq,hr,hs,ht⟩:=bE J)|(go_at_call 149;(with_reducible refine(eu.calls U _ _ j ((ae j I).f1) false _ ?a2 ?a3 c7.out).mono ?_);(case a2=>exact Kd.aj bf.out zB);(case a3=>exact bk.out);rintro e lp ⟨rfl,hb⟩;replace aa:=zb aa hb;replace J:=zb J hb;replace R:=zS R hb))
      go_meet
      case rel=>exact⟨_,(true),zT,H',⟨by first|omega|exact Nat.le_refl _⟩,⟨zK aa⟩,⟨zK J⟩,⟨zB⟩⟩
    ·replace cv:=Bool.eq_false_iff.mpr cv
     subst cv
     have H1:(bT.j0 k I true U j ((ae j I).f0) ((ae j I).f1) ((ae j I).f2))=some r:=by rw[if_neg (show ¬(false=true) by decide)] at H;exact H
     have H:=H1
     have H':=Aside0.mk H
     have lv:=ar.out
     have l0:=bg.out
     obtain⟨hv,hx,hy,hz⟩:=ao aa
     obtain⟨hA,hB,hD,hE,hG,hH⟩:=bE J
     go_wp2_with (first|((with_reducible refine au (f:=149) rfl ?_);refine zL (some 15) Tryz.func149 #[.agg #[.int .i64 U,.slice (some ak) j.length av],.int .i64 ((ae j I).f0)] ?_;(with_reducible refine(eu.calls U _ _ j ((ae j I).f0) false _ ?a2 ?a3 cr.out).mono ?_);(case a2=>exact Kd.aj bf.out zB);(case a3=>exact bk.out);rintro e l1 ⟨rfl,hb⟩;refine⟨_,rfl,?_⟩;replace aa:=Aside0.mk (aE (g:=ag) (o:=.cells #[.int .i64 U,.slice (some ak) j.length av] 24 (0,0)) (by refine zk ?_;refine ay ?_ ar.out _;refine zk ?_;refine ay ?_ ar.out _;refine zk ?_;refine ay ?_ ar.out _;exact zK aa) hb);replace J:=Aside0.mk (aE (g:=an) (o:=.cells #[.int .i64 ((ae j I).f0),.int .i64 ((ae j I).f1),.int .i64 ((ae j I).f2)] 83 (0,0)) (by refine zk ?_;refine aZ (cs:=#[.int .i64 ((ae j I).f0),.int .i64 ((ae j I).f1),.int .i64 0]) ?_ 2 _ rfl;refine zk ?_;refine aZ (cs:=#[.int .i64 ((ae j I).f0),.int .i64 0,.int .i64 0]) ?_ 1 _ rfl;refine zk ?_;refine aZ (cs:=#[.int .i64 0,.int .i64 0,.int .i64 0]) ?_ 0 _ rfl;exact zK J) hb);replace R:=zS R hb))
     go_meet
     case rel=>exact⟨_,(true),zT,H',⟨by first|omega|exact Nat.le_refl _⟩,⟨zK aa⟩,⟨zK J⟩,⟨zB⟩⟩
   case rest=>
    try clear g3
    try clear g4
    try clear g'
    try clear hh
    try clear hj
    try clear hn
    try clear ho
    try clear hq
    try clear hv
    try clear hx
    try clear hA
    try clear hB
    try clear hD
    try clear ea
    try clear eb
    try clear er
    try clear ev
    try clear ew
    try clear e2
    try clear e3
    try clear e4
    try clear e5
    try clear e6
    try clear e_
    try clear e'
    try clear fb
    try clear fo
    try clear fq
    try clear fr
    try clear ft
    try clear fv
    try clear f'
    try clear gb
    try clear gd
    try clear gf
    try clear gg
    try clear gi
    try clear gl
    try clear gm
    try clear gp
    try clear gq
    try clear gr
    try clear gx
    try clear g0
    try clear g1
    try clear g2
    try clear ha
    try clear hc
    try clear hf
    try clear hk
    try clear hl
    try clear hr
    try clear hs
    try clear ht
    try clear hy
    try clear hz
    try clear hE
    try clear hG
    try clear hH
    try clear ed
    try clear eg
    try clear ch
    try clear cj
    try clear ck
    try clear cd
    try clear cf
    obtain⟨kq,cq,rfl,HA,l2,aa,J,R⟩:=hcut
    cases kq with
    |zero=>exact absurd HA.out (by simp[bT.j0])
    |succ l3=>
     have H:=HA.out
     clear HA
     simp only[bT.j0] at H
     by_cases c1:cq=true
     ·subst c1
      have H1:(some 2)=some r:=by rw[if_pos rfl] at H;exact H
      clear H
      have H:=H1
      clear H1
      obtain rfl:=Option.some.inj H
      go_wp2
      go_ret
      exact⟨zE,zB⟩
     ·replace c1:=Bool.eq_false_iff.mpr c1
      subst c1
      have H1:(if((ae j I).f0)>((ae j I).f1) then(some 9) else(if I>0 then(if 0<=(wrap64 (I-1)) then(if(wrap64 (I-1))<(j.length:Int) then(if((ae j I).f0)<((ae j (wrap64 (I-1))).f0) then(some 9) else(if((ae j I).f0)=((ae j (wrap64 (I-1))).f0) then(if((ae j I).f1)<=((ae j (wrap64 (I-1))).f1) then(some 9) else(some 0)) else(some 0))) else(none)) else(none)) else(some 0)))=some r:=by rw[if_neg (show ¬(false=true) by decide)] at H;exact H
      clear H
      have H:=H1
      clear H1
      by_cases b_:((ae j I).f0)>((ae j I).f1)
      ·rw[if_pos b_] at H
       have hI:decide (((ae j I).f1)<((ae j I).f0))=true:=decide_eq_true b_
       clear b_
       obtain rfl:=Option.some.inj H
       have l':=bg.out
       have mb:=ar.out
       obtain⟨ml,mn,mv,mx,m0,m1⟩:=bE J
       go_wp2
       go_ret
       exact⟨zE,zB⟩
      ·rw[if_neg b_] at H
       have hI:decide (((ae j I).f1)<((ae j I).f0))=false:=decide_eq_false b_
       clear b_
       by_cases b':I>0
       ·rw[if_pos b'] at H
        have hJ:decide (0<I)=true:=decide_eq_true b'
        clear b'
        obtain⟨ad,bo⟩:∃j_:Int,(wrap64 (I-1))=j_:=⟨_,rfl⟩
        replace H:(if 0<=(ad) then(if(ad)<(j.length:Int) then(if((ae j I).f0)<((ae j (ad)).f0) then(some 9) else(if((ae j I).f0)=((ae j (ad)).f0) then(if((ae j I).f1)<=((ae j (ad)).f1) then(some 9) else(some 0)) else(some 0))) else(none)) else(none))=some r:=by first|(rw[bo] at H;exact H)|(simp only[bo] at H⊢;exact H)
        have m2:(IntKind.i64.wrap (I-1))=ad:=(aV _).trans bo
        by_cases c2:0<=(ad)
        ·rw[if_pos c2] at H
         have m3:decide (0<=(ad))=true:=decide_eq_true c2
         clear c2
         by_cases c5:(ad)<(j.length:Int)
         ·rw[if_pos c5] at H
          have m4:decide ((ad)<(j.length:Int))=true:=decide_eq_true c5
          clear c5
          by_cases ca:((ae j I).f0)<((ae j (ad)).f0)
          ·rw[if_pos ca] at H
           have hL:decide (((ae j I).f0)<((ae j (ad)).f0))=true:=decide_eq_true ca
           clear ca
           obtain rfl:=Option.some.inj H
           have m8:=bg.out
           have m':=ar.out
           obtain⟨nb,nd,nr,nu,nv,nw⟩:=bE J
           obtain⟨nx,n0,n1,n2⟩:=ao aa
           have aL:0<=((ad):Int):=of_decide_eq_true ‹_›
           have aO:(ad)<(j.length:Int):=of_decide_eq_true ‹_›
           obtain⟨bw,bx,aP,aS,a0⟩:=dK bf.out (ad) aL aO
           obtain rfl:ak=bw:=(by injection bx)
           replace aP:=(R.out.cell (World.block_lt_of_cell? w _ aP)).trans aP
           replace aS:=(R.out.cell (World.block_lt_of_cell? w _ aS)).trans aS
           replace a0:=(R.out.cell (World.block_lt_of_cell? w _ a0)).trans a0
           replace aL:=eq_true aL
           replace aO:=eq_true aO
           go_wp2_with (first|((with_reducible refine aA (N:=6) rfl ?_);refine zX 6 #[.int .i64 0,.int .i64 0,.int .i64 0] 83 ?_;intro aB hg n3 aF hb;have b0:=Aside0.mk (aF);have c9:=zG R hg;have c':=zG R hg;replace R:=zS R hb;have b1:=Aside0.mk ((by rw[hg];exact Nat.ne_of_lt (aw (g:=ag) (o:=.cells #[.int .i64 U,.slice (some ak) j.length av] 24 (0,0)) (zK aa)):ag≠aB));have b2:=Aside0.mk ((by rw[hg];exact Nat.ne_of_gt (aw (g:=ag) (o:=.cells #[.int .i64 U,.slice (some ak) j.length av] 24 (0,0)) (zK aa)):aB≠ag));replace aa:=zb aa hb;have b3:=Aside0.mk ((by rw[hg];exact Nat.ne_of_lt (aw (g:=an) (o:=.cells #[.int .i64 ((ae j I).f0),.int .i64 ((ae j I).f1),.int .i64 ((ae j I).f2)] 83 (0,0)) (zK J)):an≠aB));have b4:=Aside0.mk ((by rw[hg];exact Nat.ne_of_gt (aw (g:=an) (o:=.cells #[.int .i64 ((ae j I).f0),.int .i64 ((ae j I).f1),.int .i64 ((ae j I).f2)] 83 (0,0)) (zK J)):aB≠an));replace J:=zb J hb;clear hb aF hg;have n4:=b2.out;have n5:=b1.out;have n_:=b4.out;have n':=b3.out;obtain⟨ob,oc,og,oi,oj,oo⟩:=bE b0;obtain⟨oq,ov,ox,oy,oz,o0⟩:=bE J))
           go_ret
           exact⟨by first|rfl|(simp[ep,et]<;>rfl)|(simp only[<-bo];first|rfl|(simp[ep,et]<;>rfl))|(simp[*,ep,et]<;>rfl),zB⟩
          ·rw[if_neg ca] at H
           have hL:decide (((ae j I).f0)<((ae j (ad)).f0))=false:=decide_eq_false ca
           clear ca
           by_cases b5:((ae j I).f0)=((ae j (ad)).f0)
           ·rw[if_pos b5] at H
            have hM:(((ae j I).f0)==((ae j (ad)).f0))=true:=beq_iff_eq.mpr b5
            have hN:(((ae j I).f0) != ((ae j (ad)).f0))=false:=bne_eq_false_iff_eq.mpr b5
            clear b5
            by_cases cb:((ae j I).f1)<=((ae j (ad)).f1)
            ·rw[if_pos cb] at H
             have hO:decide (((ae j I).f1)<=((ae j (ad)).f1))=true:=decide_eq_true cb
             clear cb
             obtain rfl:=Option.some.inj H
             have o1:=bg.out
             have o2:=ar.out
             obtain⟨o3,o4,o',pb,pe,pj⟩:=bE J
             obtain⟨ps,p0,p1,p2⟩:=ao aa
             have aL:0<=((ad):Int):=of_decide_eq_true ‹_›
             have aO:(ad)<(j.length:Int):=of_decide_eq_true ‹_›
             obtain⟨bw,bx,aP,aS,a0⟩:=dK bf.out (ad) aL aO
             obtain rfl:ak=bw:=(by injection bx)
             replace aP:=(R.out.cell (World.block_lt_of_cell? w _ aP)).trans aP
             replace aS:=(R.out.cell (World.block_lt_of_cell? w _ aS)).trans aS
             replace a0:=(R.out.cell (World.block_lt_of_cell? w _ a0)).trans a0
             replace aL:=eq_true aL
             replace aO:=eq_true aO
             go_wp2_with (first|((with_reducible refine aA (N:=6) rfl ?_);refine zX 6 #[.int .i64 0,.int .i64 0,.int .i64 0] 83 ?_;intro aB hg p3 aF hb;have b0:=Aside0.mk (aF);have c9:=zG R hg;have c':=zG R hg;replace R:=zS R hb;have b1:=Aside0.mk ((by rw[hg];exact Nat.ne_of_lt (aw (g:=ag) (o:=.cells #[.int .i64 U,.slice (some ak) j.length av] 24 (0,0)) (zK aa)):ag≠aB));have b2:=Aside0.mk ((by rw[hg];exact Nat.ne_of_gt (aw (g:=ag) (o:=.cells #[.int .i64 U,.slice (some ak) j.length av] 24 (0,0)) (zK aa)):aB≠ag));replace aa:=zb aa hb;have b3:=Aside0.mk ((by rw[hg];exact Nat.ne_of_lt (aw (g:=an) (o:=.cells #[.int .i64 ((ae j I).f0),.int .i64 ((ae j I).f1),.int .i64 ((ae j I).f2)] 83 (0,0)) (zK J)):an≠aB));have b4:=Aside0.mk ((by rw[hg];exact Nat.ne_of_gt (aw (g:=an) (o:=.cells #[.int .i64 ((ae j I).f0),.int .i64 ((ae j I).f1),.int .i64 ((ae j I).f2)] 83 (0,0)) (zK J)):aB≠an));replace J:=zb J hb;clear hb aF hg;have p6:=b2.out;have p7:=b1.out;have p8:=b4.out;have qn:=b3.out;obtain⟨qs,qv,qx,q0,q1,q2⟩:=bE b0;obtain⟨q3,q4,q5,q7,q8,q'⟩:=bE J))
             go_ret
             exact⟨by first|rfl|(simp[ep,et]<;>rfl)|(simp only[<-bo];first|rfl|(simp[ep,et]<;>rfl))|(simp[*,ep,et]<;>rfl),zB⟩
            ·rw[if_neg cb] at H
             have hO:decide (((ae j I).f1)<=((ae j (ad)).f1))=false:=decide_eq_false cb
             clear cb
             obtain rfl:=Option.some.inj H
             have ra:=bg.out
             have rb:=ar.out
             obtain⟨rm,rq,rv,r0,r1,r2⟩:=bE J
             obtain⟨r3,r4,r5,r'⟩:=ao aa
             have aL:0<=((ad):Int):=of_decide_eq_true ‹_›
             have aO:(ad)<(j.length:Int):=of_decide_eq_true ‹_›
             obtain⟨bw,bx,aP,aS,a0⟩:=dK bf.out (ad) aL aO
             obtain rfl:ak=bw:=(by injection bx)
             replace aP:=(R.out.cell (World.block_lt_of_cell? w _ aP)).trans aP
             replace aS:=(R.out.cell (World.block_lt_of_cell? w _ aS)).trans aS
             replace a0:=(R.out.cell (World.block_lt_of_cell? w _ a0)).trans a0
             replace aL:=eq_true aL
             replace aO:=eq_true aO
             go_wp2_with (first|((with_reducible refine aA (N:=6) rfl ?_);refine zX 6 #[.int .i64 0,.int .i64 0,.int .i64 0] 83 ?_;intro aB hg sc aF hb;have b0:=Aside0.mk (aF);have c9:=zG R hg;have c':=zG R hg;replace R:=zS R hb;have b1:=Aside0.mk ((by rw[hg];exact Nat.ne_of_lt (aw (g:=ag) (o:=.cells #[.int .i64 U,.slice (some ak) j.length av] 24 (0,0)) (zK aa)):ag≠aB));have b2:=Aside0.mk ((by rw[hg];exact Nat.ne_of_gt (aw (g:=ag) (o:=.cells #[.int .i64 U,.slice (some ak) j.length av] 24 (0,0)) (zK aa)):aB≠ag));replace aa:=zb aa hb;have b3:=Aside0.mk ((by rw[hg];exact Nat.ne_of_lt (aw (g:=an) (o:=.cells #[.int .i64 ((ae j I).f0),.int .i64 ((ae j I).f1),.int .i64 ((ae j I).f2)] 83 (0,0)) (zK J)):an≠aB));have b4:=Aside0.mk ((by rw[hg];exact Nat.ne_of_gt (aw (g:=an) (o:=.cells #[.int .i64 ((ae j I).f0),.int .i64 ((ae j I).f1),.int .i64 ((ae j I).f2)] 83 (0,0)) (zK J)):aB≠an));replace J:=zb J hb;clear hb aF hg;have sf:=b2.out;have si:=b1.out;have sq:=b4.out;have sv:=b3.out;obtain⟨sz,sN,s0,s3,s4,s5⟩:=bE b0;obtain⟨s',tm,ts,tv,uv,va⟩:=bE J))
             go_ret
             exact⟨by first|rfl|(simp[ep,et]<;>rfl)|(simp only[<-bo];first|rfl|(simp[ep,et]<;>rfl))|(simp[*,ep,et]<;>rfl),zB⟩
           ·rw[if_neg b5] at H
            have hM:(((ae j I).f0)==((ae j (ad)).f0))=false:=beq_eq_false_iff_ne.mpr b5
            have hN:(((ae j I).f0) != ((ae j (ad)).f0))=true:=bne_iff_ne.mpr b5
            obtain rfl:=Option.some.inj H
            have vb:=bg.out
            have vc:=ar.out
            obtain⟨vl,vs,vv,v3,v5,v7⟩:=bE J
            obtain⟨v8,v9,v',wb⟩:=ao aa
            have aL:0<=((ad):Int):=of_decide_eq_true ‹_›
            have aO:(ad)<(j.length:Int):=of_decide_eq_true ‹_›
            obtain⟨bw,bx,aP,aS,a0⟩:=dK bf.out (ad) aL aO
            obtain rfl:ak=bw:=(by injection bx)
            replace aP:=(R.out.cell (World.block_lt_of_cell? w _ aP)).trans aP
            replace aS:=(R.out.cell (World.block_lt_of_cell? w _ aS)).trans aS
            replace a0:=(R.out.cell (World.block_lt_of_cell? w _ a0)).trans a0
            replace aL:=eq_true aL
            replace aO:=eq_true aO
            go_wp2_with (first|((with_reducible refine aA (N:=6) rfl ?_);refine zX 6 #[.int .i64 0,.int .i64 0,.int .i64 0] 83 ?_;intro aB hg wo aF hb;have b0:=Aside0.mk (aF);have c9:=zG R hg;have c':=zG R hg;replace R:=zS R hb;have b1:=Aside0.mk ((by rw[hg];exact Nat.ne_of_lt (aw (g:=ag) (o:=.cells #[.int .i64 U,.slice (some ak) j.length av] 24 (0,0)) (zK aa)):ag≠aB));have b2:=Aside0.mk ((by rw[hg];exact Nat.ne_of_gt (aw (g:=ag) (o:=.cells #[.int .i64 U,.slice (some ak) j.length av] 24 (0,0)) (zK aa)):aB≠ag));replace aa:=zb aa hb;have b3:=Aside0.mk ((by rw[hg];exact Nat.ne_of_lt (aw (g:=an) (o:=.cells #[.int .i64 ((ae j I).f0),.int .i64 ((ae j I).f1),.int .i64 ((ae j I).f2)] 83 (0,0)) (zK J)):an≠aB));have b4:=Aside0.mk ((by rw[hg];exact Nat.ne_of_gt (aw (g:=an) (o:=.cells #[.int .i64 ((ae j I).f0),.int .i64 ((ae j I).f1),.int .i64 ((ae j I).f2)] 83 (0,0)) (zK J)):aB≠an));replace J:=zb J hb;clear hb aF hg;have wq:=b2.out;have w0:=b1.out;have w1:=b4.out;have w2:=b3.out;obtain⟨w4,w5,w7,w9,xa,xb⟩:=bE b0;obtain⟨xl,xq,xv,xy,x0,x1⟩:=bE J))
            go_ret
            exact⟨by first|rfl|(simp[ep,et]<;>rfl)|(simp only[<-bo];first|rfl|(simp[ep,et]<;>rfl))|(simp[*,ep,et]<;>rfl),zB⟩
         ·rw[if_neg c5] at H
          exact absurd H (by simp)
        ·rw[if_neg c2] at H
         exact absurd H (by simp)
       ·rw[if_neg b'] at H
        have hJ:decide (0<I)=false:=decide_eq_false b'
        clear b'
        obtain rfl:=Option.some.inj H
        have x2:=bg.out
        have x3:=ar.out
        obtain⟨x4,x5,x6,x7,x8,x9⟩:=bE J
        go_wp2
        go_ret
        exact⟨zE,zB⟩
  ·rw[if_neg c4] at H
   exact absurd H (by simp)
 ·rw[if_neg c3] at H
  exact absurd H (by simp)
mutual
def bU.j0:Nat->Bool->Int->List (S83)->Option (Int)
 |0,_,_,_=>none
 |k+1,j,o,I=>if j=true then(some 2) else(bU.l0 k 0 o I)
def bU.l0:Nat->Int->Int->List (S83)->Option (Int)
 |0,_,_,_=>none
 |k+1,x3,o,j=>if x3<(j.length:Int) then((bT.f k o j x3).bind fun t117=>(if t117=0 then(bU.l0 k (wrap64 (x3+1)) o j) else(some t117))) else(some 0)
end
def bU.f (k:Nat) (j:Int) (o:List (S83)):Option (Int):=if j<1 then(bU.j0 k true j o) else(bU.j0 k (decide (j>12)) j o)
theorem bU.calls (k:Nat) (j:Int) (aa:Option Addr) (ab:Nat) (o:List (S83)) (r:Int) (w:World) (a1:Kd.C aG w aa o.length o) (a2:o.length<=ab) (h:bU.f k j o=some r):
  Calls Tryz.prog 103 #[.agg #[.int .i64 j,.slice aa o.length ab]] w fun e w'=>e= .returned (.int .i64 r)∧Below w.heap.size w w':=by
 have cj:=Tryz.underlying24
 have a3:=Aside0.mk a1
 have bf:=Aside0.mk a2
 clear a1 a2
 have R:=Aside0.mk (Below.refl w.heap.size w)
 have H:(if j<1 then(bU.j0 k true j o) else(bU.j0 k (decide (j>12)) j o))=some r:=h
 clear h
 have aL:=Aside0.mk H
 clear H
 go_enter Tryz.func103,Tryz.ntmps103
 go_upto_region 1 with (first|((with_reducible refine aA (N:=1) rfl ?_);refine zX 1 #[.int .i64 j,.slice aa o.length ab] 24 ?_;intro bg hg w3 bk hb;have I:=Aside0.mk (bk);have ck:=zG R hg;have cl:=zG R hg;replace R:=zS R hb;clear hb bk hg))
 (try simp only[Act.put,List.setIfInBounds_toArray,List.set_cons_zero,List.set_cons_succ])
 go_cut [12] (fun cb wc=>∃(kq:Nat) (aB:Bool),cb= .bool aB∧Aside0 (bU.j0 kq aB j o=some r)∧Aside0 (kq<=k)∧Aside0 (wc.heap[bg]? =some (.cells #[.int .i64 j,(.slice aa o.length ab)] 24 (0,0)))∧Aside0 (Below w.heap.size w wc))
 case first=>
  have H:=aL.out
  clear aL
  by_cases c4:j<1
  ·rw[if_pos c4] at H
   have ag:decide (j<1)=true:=decide_eq_true c4
   clear c4
   (first|rw[ag]|(simp only[aV,aX];rw[ag])|skip)
   have U:=Aside0.mk H
   clear H
   obtain⟨bn,bo,bw,bx⟩:=ao I
   go_wp2
   go_meet
   case rel=>exact⟨_,(true),zT,U,⟨by first|omega|exact Nat.le_refl _⟩,⟨zK I⟩,⟨zB⟩⟩
  ·rw[if_neg c4] at H
   have ag:decide (j<1)=false:=decide_eq_false c4
   clear c4
   (first|rw[ag]|(simp only[aV,aX];rw[ag])|skip)
   have U:=Aside0.mk H
   clear H
   obtain⟨b0,b1,b2,b3⟩:=ao I
   go_wp2
   go_meet
   case rel=>exact⟨_,(decide (j>12)),zT,U,⟨by first|omega|exact Nat.le_refl _⟩,⟨zK I⟩,⟨zB⟩⟩
 case rest=>
  clear aL
  try clear c1
  try clear p2
  try clear c4
  try clear ag
  try clear bn
  try clear bo
  try clear b0
  try clear b1
  try clear bw
  try clear bx
  try clear b2
  try clear b3
  obtain⟨kq,aB,rfl,HA,b5,I,R⟩:=hcut
  cases kq with
  |zero=>exact absurd HA.out (by simp[bU.j0])
  |succ aP=>
   have H:=HA.out
   clear HA
   simp only[bU.j0] at H
   by_cases c7:aB=true
   ·subst c7
    have H1:(some 2)=some r:=by rw[if_pos rfl] at H;exact H
    clear H
    have H:=H1
    clear H1
    obtain rfl:=Option.some.inj H
    go_wp2
    go_ret
    exact⟨zE,zB⟩
   ·replace c7:=Bool.eq_false_iff.mpr c7
    subst c7
    have H1:(bU.l0 aP 0 j o)=some r:=by rw[if_neg (show ¬(false=true) by decide)] at H;exact H
    clear H
    have H:=H1
    clear H1
    have U:=Aside0.mk H
    clear H
    go_wp2
    go_loopg [3] aP (fun kq v3 w'=>∃(J:Int),v3= .int .i64 J∧Aside0 (bU.l0 kq J j o=some r)∧Aside0 (kq<=aP)∧Aside0 (w'.heap[bg]? =some (.cells #[.int .i64 j,(.slice aa o.length ab)] 24 (0,0)))∧Aside0 (Below w.heap.size w w'))
    case atStart=>exact⟨(0),zT,U,⟨Nat.le_refl _⟩,⟨zK I⟩,⟨zB⟩⟩
    case round=>
     clear U
     try clear c1
     try clear p2
     try clear c4
     try clear ag
     try clear c7
     try clear bn
     try clear bo
     try clear b0
     try clear b1
     try clear bw
     try clear bx
     try clear b2
     try clear b3
     try clear p2
     obtain⟨J,rfl,HA,b_,I,R⟩:=hrel
     cases gk with
     |zero=>exact absurd HA.out (by simp[bU.l0])
     |succ k2=>
      have H:=HA.out
      clear HA
      simp only[bU.l0] at H
      by_cases c8:J<(o.length:Int)
      ·rw[if_pos c8] at H
       have cd:decide (J<(o.length:Int))=true:=decide_eq_true c8
       clear c8
       replace H:=Option.bind_eq_some_iff.mp H
       obtain⟨t117,b',H⟩:=H
       replace H:(if t117=0 then(bU.l0 k2 (wrap64 (J+1)) j o) else(some t117))=some r:=H
       have A9:=Aside0.mk b'
       clear b'
       by_cases an:t117=0
       ·rw[if_pos an] at H
        have cf:(t117==0)=true:=beq_iff_eq.mpr an
        have ch:(t117 != 0)=false:=bne_eq_false_iff_eq.mpr an
        clear an
        have U:=Aside0.mk H
        clear H
        obtain⟨cq,cr,cv,cx⟩:=ao I
        go_wp2_with (first|((with_reducible refine au (f:=153) rfl ?_);refine zL (some 22) Tryz.func153 #[.agg #[.int .i64 j,.slice aa o.length ab],.int .i64 J] ?_;(with_reducible refine(bT.calls k2 j _ _ o J t117 _ ?aS ?a0 A9.out).mono ?_);(case aS=>exact Kd.aj a3.out zB);(case a0=>exact bf.out);rintro e c0 ⟨rfl,hb⟩;refine⟨_,rfl,?_⟩;replace I:=zb I hb;replace R:=zS R hb;(try clear hb)))
        go_roundg k2
        case measure=>have:=b5.out;have:=b_.out;omega
        case rel=>exact⟨(wrap64 (J+1)),zT,U,⟨by have:=b5.out;have:=b_.out;omega⟩,⟨zK I⟩,⟨zB⟩⟩
       ·rw[if_neg an] at H
        have cf:(t117==0)=false:=beq_eq_false_iff_ne.mpr an
        have ch:(t117 != 0)=true:=bne_iff_ne.mpr an
        obtain rfl:=Option.some.inj H
        obtain⟨c2,c3,c5,c6⟩:=ao I
        go_wp2_with (first|((with_reducible refine au (f:=153) rfl ?_);refine zL (some 22) Tryz.func153 #[.agg #[.int .i64 j,.slice aa o.length ab],.int .i64 J] ?_;(with_reducible refine(bT.calls k2 j _ _ o J t117 _ ?aS ?a0 A9.out).mono ?_);(case aS=>exact Kd.aj a3.out zB);(case a0=>exact bf.out);rintro e c9 ⟨rfl,hb⟩;refine⟨_,rfl,?_⟩;replace I:=zb I hb;replace R:=zS R hb;(try clear hb)))
        go_ret
        exact⟨zE,zB⟩
      ·rw[if_neg c8] at H
       have cd:decide (J<(o.length:Int))=false:=decide_eq_false c8
       clear c8
       obtain rfl:=Option.some.inj H
       obtain⟨c',dd,ds,dv⟩:=ao I
       go_wp2
       go_ret
       exact⟨zE,zB⟩
def dW.f (o:Int) (j:Int):Option (Bool):=if j>=0 then(some (decide (j<o))) else(some false)
theorem dW.calls (o:Int) (j:Int) (r:Bool) (w:World) (h:dW.f o j=some r):
  Calls Tryz.prog 121 #[.int .i64 o,.int .i64 j] w fun e w'=>e= .returned (.bool r)∧ax w w':=by
 have H:(if j>=0 then(some (decide (j<o))) else(some false))=some r:=h
 clear h
 by_cases c3:j>=0
 ·rw[if_pos c3] at H
  have I:decide (0<=j)=true:=decide_eq_true c3
  clear c3
  obtain rfl:=Option.some.inj H
  go_enter Tryz.func121,Tryz.ntmps121
  go_wp2
  go_ret
  exact⟨zT,by repeat(first|exact ax.refl _|apply ax.step)⟩
 ·rw[if_neg c3] at H
  have I:decide (0<=j)=false:=decide_eq_false c3
  clear c3
  obtain rfl:=Option.some.inj H
  go_enter Tryz.func121,Tryz.ntmps121
  go_wp2
  go_ret
  exact⟨zT,by repeat(first|exact ax.refl _|apply ax.step)⟩
def dL.f (j:Int):Option (Bool):=some (j != j)
theorem dL.calls (j:Int) (r:Bool) (w:World) (h:dL.f j=some r):
  Calls Tryz.prog 164 #[.int .i64 j] w fun e w'=>e= .returned (.bool r)∧ax w w':=by
 have H:(some (j != j))=some r:=h
 clear h
 obtain rfl:=Option.some.inj H
 go_enter Tryz.func164,Tryz.ntmps164
 go_wp2
 go_ret
 exact⟨zT,by repeat(first|exact ax.refl _|apply ax.step)⟩
def gh.f (j:Int) (o:Int):Option (Int):=(dL.f j).bind fun t200=>((dL.f o).bind fun t201=>(if t200=true then(if t201=true then(some 0) else(some (-1))) else(if t201=true then(some 1) else(if j<o then(some (-1)) else(if j>o then(some 1) else(some 0))))))
theorem gh.calls (o:Int) (j:Int) (r:Int) (w:World) (h:gh.f o j=some r):
  Calls Tryz.prog 107 #[.int .i64 o,.int .i64 j] w fun e w'=>e= .returned (.int .i64 r)∧ax w w':=by
 have H:((dL.f o).bind fun t200=>((dL.f j).bind fun t201=>(if t200=true then(if t201=true then(some 0) else(some (-1))) else(if t201=true then(some 1) else(if o<j then(some (-1)) else(if o>j then(some 1) else(some 0)))))))=some r:=h
 clear h
 replace H:=Option.bind_eq_some_iff.mp H
 obtain⟨t200,ak,H⟩:=H
 replace H:((dL.f j).bind fun t201=>(if t200=true then(if t201=true then(some 0) else(some (-1))) else(if t201=true then(some 1) else(if o<j then(some (-1)) else(if o>j then(some 1) else(some 0))))))=some r:=H
 have J:=Aside0.mk ak
 clear ak
 replace H:=Option.bind_eq_some_iff.mp H
 obtain⟨t201,an,H⟩:=H
 replace H:(if t200=true then(if t201=true then(some 0) else(some (-1))) else(if t201=true then(some 1) else(if o<j then(some (-1)) else(if o>j then(some 1) else(some 0)))))=some r:=H
 have R:=Aside0.mk an
 clear an
 by_cases c5:t200=true
 ·subst c5
  have H1:(if t201=true then(some 0) else(some (-1)))=some r:=by rw[if_pos rfl] at H;exact H
  clear H
  have H:=H1
  clear H1
  by_cases c6:t201=true
  ·subst c6
   have H1:(some 0)=some r:=by rw[if_pos rfl] at H;exact H
   clear H
   have H:=H1
   clear H1
   obtain rfl:=Option.some.inj H
   go_enter Tryz.func107,Tryz.ntmps107
   go_wp2_with (first|((with_reducible refine au (f:=164) rfl ?_);refine zL (some 8) Tryz.func164 #[.int .i64 o] ?_;(with_reducible refine(dL.calls o true _ J.out).mono ?_);rintro e w' ⟨rfl,⟨I,rfl⟩⟩;refine⟨_,rfl,?_⟩)|((with_reducible refine au (f:=164) rfl ?_);refine zL (some 10) Tryz.func164 #[.int .i64 j] ?_;(with_reducible refine(dL.calls j true _ R.out).mono ?_);rintro e w' ⟨rfl,⟨I,rfl⟩⟩;refine⟨_,rfl,?_⟩))
   go_ret
   exact⟨zT,by repeat(first|exact ax.refl _|apply ax.step)⟩
  ·replace c6:=Bool.eq_false_iff.mpr c6
   subst c6
   have H1:(some (-1))=some r:=by rw[if_neg (show ¬(false=true) by decide)] at H;exact H
   clear H
   have H:=H1
   clear H1
   obtain rfl:=Option.some.inj H
   go_enter Tryz.func107,Tryz.ntmps107
   go_wp2_with (first|((with_reducible refine au (f:=164) rfl ?_);refine zL (some 8) Tryz.func164 #[.int .i64 o] ?_;(with_reducible refine(dL.calls o true _ J.out).mono ?_);rintro e w' ⟨rfl,⟨I,rfl⟩⟩;refine⟨_,rfl,?_⟩)|((with_reducible refine au (f:=164) rfl ?_);refine zL (some 10) Tryz.func164 #[.int .i64 j] ?_;(with_reducible refine(dL.calls j false _ R.out).mono ?_);rintro e w' ⟨rfl,⟨I,rfl⟩⟩;refine⟨_,rfl,?_⟩))
   go_ret
   exact⟨zT,by repeat(first|exact ax.refl _|apply ax.step)⟩
 ·replace c5:=Bool.eq_false_iff.mpr c5
  subst c5
  have H1:(if t201=true then(some 1) else(if o<j then(some (-1)) else(if o>j then(some 1) else(some 0))))=some r:=by rw[if_neg (show ¬(false=true) by decide)] at H;exact H
  clear H
  have H:=H1
  clear H1
  by_cases c7:t201=true
  ·subst c7
   have H1:(some 1)=some r:=by rw[if_pos rfl] at H;exact H
   clear H
   have H:=H1
   clear H1
   obtain rfl:=Option.some.inj H
   go_enter Tryz.func107,Tryz.ntmps107
   go_wp2_with (first|((with_reducible refine au (f:=164) rfl ?_);refine zL (some 8) Tryz.func164 #[.int .i64 o] ?_;(with_reducible refine(dL.calls o false _ J.out).mono ?_);rintro e w' ⟨rfl,⟨I,rfl⟩⟩;refine⟨_,rfl,?_⟩)|((with_reducible refine au (f:=164) rfl ?_);refine zL (some 10) Tryz.func164 #[.int .i64 j] ?_;(with_reducible refine(dL.calls j true _ R.out).mono ?_);rintro e w' ⟨rfl,⟨I,rfl⟩⟩;refine⟨_,rfl,?_⟩))
   go_ret
   exact⟨zT,by repeat(first|exact ax.refl _|apply ax.step)⟩
  ·replace c7:=Bool.eq_false_iff.mpr c7
   subst c7
   have H1:(if o<j then(some (-1)) else(if o>j then(some 1) else(some 0)))=some r:=by rw[if_neg (show ¬(false=true) by decide)] at H;exact H
   clear H
   have H:=H1
   clear H1
   by_cases U:o<j
   ·rw[if_pos U] at H
    have ar:decide (o<j)=true:=decide_eq_true U
    clear U
    obtain rfl:=Option.some.inj H
    go_enter Tryz.func107,Tryz.ntmps107
    go_wp2_with (first|((with_reducible refine au (f:=164) rfl ?_);refine zL (some 8) Tryz.func164 #[.int .i64 o] ?_;(with_reducible refine(dL.calls o false _ J.out).mono ?_);rintro e w' ⟨rfl,⟨I,rfl⟩⟩;refine⟨_,rfl,?_⟩)|((with_reducible refine au (f:=164) rfl ?_);refine zL (some 10) Tryz.func164 #[.int .i64 j] ?_;(with_reducible refine(dL.calls j false _ R.out).mono ?_);rintro e w' ⟨rfl,⟨I,rfl⟩⟩;refine⟨_,rfl,?_⟩))
    go_ret
    exact⟨zT,by repeat(first|exact ax.refl _|apply ax.step)⟩
   ·rw[if_neg U] at H
    have ar:decide (o<j)=false:=decide_eq_false U
    clear U
    by_cases c9:o>j
    ·rw[if_pos c9] at H
     have av:decide (j<o)=true:=decide_eq_true c9
     clear c9
     obtain rfl:=Option.some.inj H
     go_enter Tryz.func107,Tryz.ntmps107
     go_wp2_with (first|((with_reducible refine au (f:=164) rfl ?_);refine zL (some 8) Tryz.func164 #[.int .i64 o] ?_;(with_reducible refine(dL.calls o false _ J.out).mono ?_);rintro e w' ⟨rfl,⟨I,rfl⟩⟩;refine⟨_,rfl,?_⟩)|((with_reducible refine au (f:=164) rfl ?_);refine zL (some 10) Tryz.func164 #[.int .i64 j] ?_;(with_reducible refine(dL.calls j false _ R.out).mono ?_);rintro e w' ⟨rfl,⟨I,rfl⟩⟩;refine⟨_,rfl,?_⟩))
     go_ret
     exact⟨zT,by repeat(first|exact ax.refl _|apply ax.step)⟩
    ·rw[if_neg c9] at H
     have av:decide (j<o)=false:=decide_eq_false c9
     clear c9
     obtain rfl:=Option.some.inj H
     go_enter Tryz.func107,Tryz.ntmps107
     go_wp2_with (first|((with_reducible refine au (f:=164) rfl ?_);refine zL (some 8) Tryz.func164 #[.int .i64 o] ?_;(with_reducible refine(dL.calls o false _ J.out).mono ?_);rintro e w' ⟨rfl,⟨I,rfl⟩⟩;refine⟨_,rfl,?_⟩)|((with_reducible refine au (f:=164) rfl ?_);refine zL (some 10) Tryz.func164 #[.int .i64 j] ?_;(with_reducible refine(dL.calls j false _ R.out).mono ?_);rintro e w' ⟨rfl,⟨I,rfl⟩⟩;refine⟨_,rfl,?_⟩))
     go_ret
     exact⟨zT,by repeat(first|exact ax.refl _|apply ax.step)⟩
def bZ.l0:Nat->Int->List Int->Int->Int->Option (Int)
 |0,_,_,_,_=>none
 |k+1,x3,o,I,j=>if j<I then(if 0<=j then(if j<(o.length:Int) then(if(rd o j)=x3 then(bZ.l0 k x3 o I (wrap64 (j+1))) else(some (rd o j))) else(none)) else(none)) else(some x3)
def bZ.f (k:Nat) (l0:List Int):Option (Int):=bZ.l0 k 0 l0 (l0.length:Int) 0
theorem bZ.db:∀k,(∀j o I J,ah (bZ.l0 k j o I J) (bZ.l0 (k+1) j o I J))
 |0=>fun _ _ _ _ r h=>by simp[bZ.l0] at h
 |k+1=>by
  have R:=bZ.db k
  ·intro j o I J
   unfold bZ.l0
   repeat' first
   |(with_reducible exact R _ _ _ _)
   |(with_reducible exact ah.refl _)
   |(with_reducible exact ah.none _)
   |(with_reducible refine ah.ite ?_ ?_)
   |(with_reducible refine ah.bind ?_ (fun _=>?_))
   |exact R _ _ _ _
   |exact ah.none _
   |refine ah.ite ?_ ?_
   |refine ah.bind ?_ (fun _=>?_)
theorem bZ.mono:∀j k,ah (bZ.f k j) (bZ.f (k+1) j):=by
 intro j k
 have o:=bZ.db k
 unfold bZ.f
 repeat' first
   |(with_reducible exact o _ _ _ _)
   |(with_reducible exact ah.refl _)
   |(with_reducible exact ah.none _)
   |(with_reducible refine ah.ite ?_ ?_)
   |(with_reducible refine ah.bind ?_ (fun _=>?_))
   |exact o _ _ _ _
   |exact ah.none _
   |refine ah.ite ?_ ?_
   |refine ah.bind ?_ (fun _=>?_)
theorem bZ.calls (k:Nat) (A0:Option Addr) (c0:Nat) (l0:List Int) (r:Int) (w:World) (ab:Kd.C (Kd.int .i64) w A0 l0.length l0) (ad:l0.length<=c0) (h:bZ.f k l0=some r):
  Calls Tryz.prog 177 #[.slice A0 l0.length c0] w fun e w'=>e= .returned (.int .i64 r)∧ax w w':=by
 have ag:=Aside0.mk ab
 have aS:=Aside0.mk ad
 clear ab ad
 have H:(bZ.l0 k 0 l0 (l0.length:Int) 0)=some r:=h
 clear h
 have R:=Aside0.mk H
 clear H
 go_enter Tryz.func177,Tryz.ntmps177
 go_wp2
 go_loopg [8] k (fun kq v8 w'=>∃(j:Int),v8= .int .i64 j∧Aside0 (bZ.l0 kq 0 l0 (l0.length:Int) j=some r)∧Aside0 (kq<=k)∧ax w w')
 case atStart=>exact⟨(0),zT,R,⟨Nat.le_refl _⟩,by repeat(first|exact ax.refl _|apply ax.step)⟩
 case round=>
  clear R
  try clear c1
  obtain⟨j,rfl,U,an,⟨m1,rfl⟩⟩:=hrel
  cases gk with
  |zero=>exact absurd U.out (by simp[bZ.l0])
  |succ k1=>
   have H:=U.out
   clear U
   simp only[bZ.l0] at H
   by_cases c2:j<(l0.length:Int)
   ·rw[if_pos c2] at H
    have aB:decide (j<(l0.length:Int))=true:=decide_eq_true c2
    clear c2
    by_cases c3:0<=j
    ·rw[if_pos c3] at H
     have a1:decide (0<=j)=true:=decide_eq_true c3
     clear c3
     by_cases c4:j<(l0.length:Int)
     ·rw[if_pos c4] at H
      have a2:decide (j<(l0.length:Int))=true:=decide_eq_true c4
      clear c4
      by_cases o:(rd l0 j)=0
      ·rw[if_pos o] at H
       have aF:((rd l0 j)==0)=true:=beq_iff_eq.mpr o
       have aL:((rd l0 j) != 0)=false:=bne_eq_false_iff_eq.mpr o
       clear o
       have R:=Aside0.mk H
       clear H
       have I:0<=(j:Int):=of_decide_eq_true ‹_›
       have J:j<(l0.length:Int):=of_decide_eq_true ‹_›
       obtain⟨aO,aa,aP⟩:=Kd.bD ag.out j I J
       cases aa
       replace I:=eq_true I
       replace J:=eq_true J
       go_wp2
       go_roundg k1
       case measure=>have:=an.out;omega
       case rel=>exact⟨(wrap64 (j+1)),zT,R,⟨by have:=an.out;omega⟩,by repeat(first|exact ax.refl _|apply ax.step)⟩
      ·rw[if_neg o] at H
       have aF:((rd l0 j)==0)=false:=beq_eq_false_iff_ne.mpr o
       have aL:((rd l0 j) != 0)=true:=bne_iff_ne.mpr o
       obtain rfl:=Option.some.inj H
       have I:0<=(j:Int):=of_decide_eq_true ‹_›
       have J:j<(l0.length:Int):=of_decide_eq_true ‹_›
       obtain⟨aO,aa,aP⟩:=Kd.bD ag.out j I J
       cases aa
       replace I:=eq_true I
       replace J:=eq_true J
       go_wp2
       go_ret
       exact⟨zT,by repeat(first|exact ax.refl _|apply ax.step)⟩
     ·rw[if_neg c4] at H
      exact absurd H (by simp)
    ·rw[if_neg c3] at H
     exact absurd H (by simp)
   ·rw[if_neg c2] at H
    have aB:decide (j<(l0.length:Int))=false:=decide_eq_false c2
    clear c2
    obtain rfl:=Option.some.inj H
    go_wp2
    go_ret
    exact⟨zT,by repeat(first|exact ax.refl _|apply ax.step)⟩
def cA.f (k:Nat) (j:Int) (o:Int) (I:Int) (J:Int):Option (Int):=(gh.f j I).bind fun t205=>((gh.f o J).bind fun t206=>((bZ.f k (([t205,t206]:List Int))).bind fun t210=>(some t210)))
theorem cA.mono:∀j o I J k,ah (cA.f k j o I J) (cA.f (k+1) j o I J):=by
 intro j o I J k
 unfold cA.f
 repeat' first
   |(with_reducible exact bZ.mono _ _)
   |(with_reducible exact ah.refl _)
   |(with_reducible exact ah.none _)
   |(with_reducible refine ah.ite ?_ ?_)
   |(with_reducible refine ah.bind ?_ (fun _=>?_))
   |exact bZ.mono _ _
   |exact ah.none _
   |refine ah.ite ?_ ?_
   |refine ah.bind ?_ (fun _=>?_)
def cA.T1:Bool×List (List Nat×List Nat):=(true,[([],[]),([0],[0]),([],[]),([2],[2]),([1,3],[1,3]),([],[]),([5],[5]),([],[]),([7],[7]),([6,8,4],[6,8]),([4,9],[4,9]),([10,9],[10]),([11,11,0,1,2,3,4,5,6,7,8,9,10,11],[11])])
def cA.B1:List Nat:=[0,1,0,4,15,0,32,0,128,511,1023,2047,4095]
theorem cA.yd:da .any (opsOf Tryz.f122 1)=cA.T1:=by kernel_rfl
theorem cA.ye:jL cA.T1.2 cA.B1=true:=by kernel_rfl
theorem cA.calls (k:Nat) (ad:Int) (ab:Int) (ak:Int) (ag:Int) (r:Int) (w:World) (h:cA.f k ad ab ak ag=some r):
  Calls Tryz.prog 122 #[.agg #[.int .i64 ad,.int .i64 ab],.agg #[.int .i64 ak,.int .i64 ag]] w fun e w'=>e= .returned (.int .i64 r)∧Below w.heap.size w w':=by
 have cl:=Tryz.underlying116
 have J:=Aside0.mk (Below.refl w.heap.size w)
 have H:((gh.f ad ak).bind fun t205=>((gh.f ab ag).bind fun t206=>((bZ.f k (([t205,t206]:List Int))).bind fun t210=>(some t210))))=some r:=h
 clear h
 replace H:=Option.bind_eq_some_iff.mp H
 obtain⟨t205,bf,H⟩:=H
 replace H:((gh.f ab ag).bind fun t206=>((bZ.f k (([t205,t206]:List Int))).bind fun t210=>(some t210)))=some r:=H
 have A3:=Aside0.mk bf
 clear bf
 replace H:=Option.bind_eq_some_iff.mp H
 obtain⟨t206,bg,H⟩:=H
 replace H:((bZ.f k (([t205,t206]:List Int))).bind fun t210=>(some t210))=some r:=H
 have A4:=Aside0.mk bg
 clear bg
 obtain⟨a0,ar⟩:∃y_:List Int,y_=(([t205,t206]:List Int)):=⟨_,rfl⟩
 replace H:((bZ.f k a0).bind fun t210=>(some t210))=some r:=by first|(rw[ar];with_reducible exact H)|(have a1:=(Option.bind_some _ _).symm.trans H;rw[ar];with_reducible exact a1)|(have a1:=(Option.bind_some _ _).symm.trans H;with_reducible exact a1)|with_reducible exact H|(rw[ar];exact H)|exact H
 have bk:=Aside0.mk ar
 clear ar
 replace H:=Option.bind_eq_some_iff.mp H
 obtain⟨t210,bn,H⟩:=H
 replace H:(some t210)=some r:=H
 have A5:=Aside0.mk bn
 clear bn
 obtain rfl:=Option.some.inj H
 go_enter Tryz.func122,Tryz.ntmps122
 try go_wp2_with (first|((with_reducible refine aA (N:=2) rfl ?_);refine zX 2 #[.int .i64 ad,.int .i64 ab] 116 ?_;intro an U w6 av hb;have j:=Aside0.mk (av);have cr:=zG J U;have cv:=zG J U;replace J:=zS J hb;clear hb av U)|((with_reducible refine aA (N:=3) rfl ?_);refine zX 3 #[.int .i64 ak,.int .i64 ag] 116 ?_;intro aP U w7 av hb;have I:=Aside0.mk (av);have cx:=zG J U;have c0:=zG J U;replace J:=zS J hb;have c1:=Aside0.mk ((by rw[U];exact Nat.ne_of_lt (aw (g:=an) (o:=.cells #[.int .i64 ad,.int .i64 ab] 116 (0,0)) (zK j)):an≠aP));have c2:=Aside0.mk ((by rw[U];exact Nat.ne_of_gt (aw (g:=an) (o:=.cells #[.int .i64 ad,.int .i64 ab] 116 (0,0)) (zK j)):aP≠an));replace j:=zb j hb;clear hb av U))
 have aB:=Aside0.mk (eG j.out)
 have aF:=Aside0.mk (eG I.out)
 have aL:=Aside0.mk (bu J.out)
 clear j
 clear I
 clear J
 have j:=aB
 have I:=aF
 have J:=aL
 clear aB aF aL
 refine mr (n:=13) (S:=fun w'=>w'.cell? ⟨an,0,none⟩=some (.int .i64 ad)∧w'.cell? ⟨an,1,none⟩=some (.int .i64 ab)∧w'.cell? ⟨aP,0,none⟩=some (.int .i64 ak)∧w'.cell? ⟨aP,1,none⟩=some (.int .i64 ag)) (ds:=[]) #[false,false,false,false,false,false,false,false,false,false,false,false,false] (by kernel_rfl) rfl rfl ⟨(ai j.out 0).trans rfl,(ai j.out 1).trans rfl,(ai I.out 0).trans rfl,(ai I.out 1).trans rfl⟩ (fun hHeld=>?_);refine mQ cA.yd cA.ye (fun R aS=>?_)
 generalize w7.drew=w8 at j I J hHeld⊢
 refine bR (i:=0) (N:=some 5) (v:=?_) (a':=?_) #[true,false,false,false,false,false,false,false,false,false,false,false,false] rfl rfl (bS R.out (by kernel_rfl)) (fun _ _ _ h=>h) (Or.inl ⟨by rfl,?_⟩) ?_ ?_
 rotate_left
 ·intro w'
  go_simp
  with_reducible rfl
 rotate_left
 ·simp only[Act.put,List.setIfInBounds_toArray,List.set_cons_zero,List.set_cons_succ,aV,aX]
  rfl
 refine bR (i:=2) (N:=some 7) (v:=?_) (a':=?_) #[true,false,true,false,false,false,false,false,false,false,false,false,false] rfl rfl (bS R.out (by kernel_rfl)) (fun _ _ _ h=>h) (Or.inl ⟨by rfl,?_⟩) ?_ ?_
 rotate_left
 ·intro w'
  go_simp
  with_reducible rfl
 rotate_left
 ·simp only[Act.put,List.setIfInBounds_toArray,List.set_cons_zero,List.set_cons_succ,aV,aX]
  rfl
 refine bR (i:=5) (N:=some 10) (v:=?_) (a':=?_) #[true,false,true,false,false,true,false,false,false,false,false,false,false] rfl rfl (bS R.out (by kernel_rfl)) (fun _ _ _ h=>h) (Or.inl ⟨by rfl,?_⟩) ?_ ?_
 rotate_left
 ·intro w'
  go_simp
  with_reducible rfl
 rotate_left
 ·simp only[Act.put,List.setIfInBounds_toArray,List.set_cons_zero,List.set_cons_succ,aV,aX]
  rfl
 refine bR (i:=7) (N:=some 12) (v:=?_) (a':=?_) #[true,false,true,false,false,true,false,true,false,false,false,false,false] rfl rfl (bS R.out (by kernel_rfl)) (fun _ _ _ h=>h) (Or.inl ⟨by rfl,?_⟩) ?_ ?_
 rotate_left
 ·intro w'
  go_simp
  with_reducible rfl
 rotate_left
 ·simp only[Act.put,List.setIfInBounds_toArray,List.set_cons_zero,List.set_cons_succ,aV,aX]
  rfl
 refine gR (i:=1) (N:=some 6) (v:=?_) (a':=?_) #[true,true,true,false,false,true,false,true,false,false,false,false,false] rfl rfl (gS R.out aS.out (by kernel_rfl)) (fun _ _ _ h=>h) (Or.inl ⟨by rfl,?_⟩) hHeld ?_ ?_
 rotate_left
 ·rintro w' ⟨s0,s1,s2,s3⟩
  go_simp
  with_reducible rfl
 rotate_left
 ·simp only[Act.put,List.setIfInBounds_toArray,List.set_cons_zero,List.set_cons_succ,aV,aX]
  rfl
 refine gR (i:=3) (N:=some 8) (v:=?_) (a':=?_) #[true,true,true,true,false,true,false,true,false,false,false,false,false] rfl rfl (gS R.out aS.out (by kernel_rfl)) (fun _ _ _ h=>h) (Or.inl ⟨by rfl,?_⟩) hHeld ?_ ?_
 rotate_left
 ·rintro w' ⟨s0,s1,s2,s3⟩
  go_simp
  with_reducible rfl
 rotate_left
 ·simp only[Act.put,List.setIfInBounds_toArray,List.set_cons_zero,List.set_cons_succ,aV,aX]
  rfl
 refine gR (i:=6) (N:=some 11) (v:=?_) (a':=?_) #[true,true,true,true,false,true,true,true,false,false,false,false,false] rfl rfl (gS R.out aS.out (by kernel_rfl)) (fun _ _ _ h=>h) (Or.inl ⟨by rfl,?_⟩) hHeld ?_ ?_
 rotate_left
 ·rintro w' ⟨s0,s1,s2,s3⟩
  go_simp
  with_reducible rfl
 rotate_left
 ·simp only[Act.put,List.setIfInBounds_toArray,List.set_cons_zero,List.set_cons_succ,aV,aX]
  rfl
 refine gR (i:=8) (N:=some 13) (v:=?_) (a':=?_) #[true,true,true,true,false,true,true,true,true,false,false,false,false] rfl rfl (gS R.out aS.out (by kernel_rfl)) (fun _ _ _ h=>h) (Or.inl ⟨by rfl,?_⟩) hHeld ?_ ?_
 rotate_left
 ·rintro w' ⟨s0,s1,s2,s3⟩
  go_simp
  with_reducible rfl
 rotate_left
 ·simp only[Act.put,List.setIfInBounds_toArray,List.set_cons_zero,List.set_cons_succ,aV,aX]
  rfl
 refine iX (i:=4) (N:=some 9) #[true,true,true,true,true,true,true,true,true,false,false,false,false] rfl rfl (ie R.out (by kernel_rfl)) (by decide) (fun K hK=>?_)
 refine jD Tryz.func107 (by kernel_rfl) rfl #[.int .i64 ad,.int .i64 ak] (by rfl) rfl rfl (by(try simp only[List.map_toArray,List.map_cons,List.map_nil]);first|done|rfl|(simp only[List.length_drop,List.length_take];rfl)) ?_
 with_reducible refine(gh.calls ad ak t205 _ A3.out).mono ?_
 rintro e w' ⟨rfl,⟨nd,rfl⟩⟩
 refine⟨_,rfl,?_⟩
 refine hK.out _ _ ⟨(ai j.out 0).trans rfl,(ai j.out 1).trans rfl,(ai I.out 0).trans rfl,(ai I.out 1).trans rfl⟩ (fun hHeld=>?_)
 clear hK K
 refine iY (a':=?_) ?_ ?_
 rotate_left
 ·show Act.put _ (some 9) _=_
  simp only[Act.put,List.setIfInBounds_toArray,List.set_cons_zero,List.set_cons_succ,aV,aX]
  rfl
 refine iX (i:=9) (N:=some 14) #[true,true,true,true,true,true,true,true,true,true,false,false,false] rfl rfl (ie R.out (by kernel_rfl)) (by decide) (fun K hK=>?_)
 refine jD Tryz.func107 (by kernel_rfl) rfl #[.int .i64 ab,.int .i64 ag] (by rfl) rfl rfl (by(try simp only[List.map_toArray,List.map_cons,List.map_nil]);first|done|rfl|(simp only[List.length_drop,List.length_take];rfl)) ?_
 with_reducible refine(gh.calls ab ag t206 _ A4.out).mono ?_
 rintro e w' ⟨rfl,⟨nd,rfl⟩⟩
 refine⟨_,rfl,?_⟩
 refine hK.out _ _ ⟨(ai j.out 0).trans rfl,(ai j.out 1).trans rfl,(ai I.out 0).trans rfl,(ai I.out 1).trans rfl⟩ (fun hHeld=>?_)
 clear hK K
 refine iY (a':=?_) ?_ ?_
 rotate_left
 ·show Act.put _ (some 14) _=_
  simp only[Act.put,List.setIfInBounds_toArray,List.set_cons_zero,List.set_cons_succ,aV,aX]
  rfl
 refine iX (i:=10) (N:=some 15) #[true,true,true,true,true,true,true,true,true,true,true,false,false] rfl rfl (ie R.out (by kernel_rfl)) (by decide) (fun K hK=>?_)
 refine Kd.wK (Kd.int .i64) _ 3 ?U (N:=15) ?hd (xs:=([t205,t206]:List Int)) (inner:=[.int .i64 t205,.int .i64 t206]) (ok:=fun _=>True) (okp:=fun _=>True) ?hr ?hp (fun _ hk=>hk) trivial (Below.refl _ _) (Nat.le_refl _) (by simp) ?_;(case hd=>rfl);(case U=>rfl);(case hr=>first|(go_simp;done)|(go_simp;rfl));(case hp=>exact(aT.one (show Kd.M (Kd.int .i64) _ _ _ t205 [.int .i64 t205] from rfl) (aT.one (show Kd.M (Kd.int .i64) _ _ _ t206 [.int .i64 t206] from rfl) (aT.none _ _))))
 intro c4 w9 aO hb b' ca
 clear b' ca
 (first|rw[<-bk.out] at aO|(simp only[Int.reduceToNat] at aO;rw[<-bk.out] at aO))
 have aB:=Aside0.mk (Kd.aM aO (aU zB))
 have aF:=zb j hb
 have aL:=zb I hb
 have bw:=zS J hb
 clear j
 clear I
 clear J
 have a3:=aB
 have j:=aF
 have I:=aL
 have J:=bw
 clear aB aF aL bw
 clear hb aO
 obtain⟨cb,cc,bx⟩:=Kd.a7 a3.out
 (first|subst bx|(injection bx with b0 cd b1;have cf:=b0.symm;have ch:=b1.symm;clear b0 cd b1;subst cf;subst ch))
 refine hK.out _ _ ⟨(ai j.out 0).trans rfl,(ai j.out 1).trans rfl,(ai I.out 0).trans rfl,(ai I.out 1).trans rfl⟩ (fun hHeld=>?_)
 clear hK K
 refine iY (a':=?_) ?_ ?_
 rotate_left
 ·show Act.put _ (some 15) _=_
  simp only[Act.put,List.setIfInBounds_toArray,List.set_cons_zero,List.set_cons_succ,aV,aX]
  rfl
 refine iX (i:=11) (N:=some 16) #[true,true,true,true,true,true,true,true,true,true,true,true,false] rfl rfl (ie R.out (by kernel_rfl)) (by decide) (fun K hK=>?_)
 refine jD Tryz.func177 (by kernel_rfl) rfl #[.slice cb a0.length cc] (by rfl) rfl rfl (by(try simp only[List.map_toArray,List.map_cons,List.map_nil]);first|done|rfl|(simp only[List.length_drop,List.length_take];rfl)) ?_
 with_reducible refine(bZ.calls k _ _ a0 t210 _ ?cj ?ck A5.out).mono ?_
 (case cj=>exact zC (Kd.aC a3.out).2.2)
 (case ck=>exact(Kd.aC a3.out).2.1)
 rintro e w' ⟨rfl,⟨nd,rfl⟩⟩
 refine⟨_,rfl,?_⟩
 refine hK.out _ _ ⟨(ai j.out 0).trans rfl,(ai j.out 1).trans rfl,(ai I.out 0).trans rfl,(ai I.out 1).trans rfl⟩ (fun hHeld=>?_)
 clear hK K
 refine iY (a':=?_) ?_ ?_
 rotate_left
 ·show Act.put _ (some 16) _=_
  simp only[Act.put,List.setIfInBounds_toArray,List.set_cons_zero,List.set_cons_succ,aV,aX]
  rfl
 refine bR (i:=12) (N:=some 4) (v:=?_) (a':=?_) #[true,true,true,true,true,true,true,true,true,true,true,true,true] rfl rfl (bS R.out (by kernel_rfl)) (fun _ _ _ h=>h) (Or.inl ⟨by rfl,?_⟩) ?_ ?_
 rotate_left
 ·intro w'
  go_simp
  with_reducible rfl
 rotate_left
 ·simp only[Act.put,List.setIfInBounds_toArray,List.set_cons_zero,List.set_cons_succ,aV,aX]
  rfl
 refine mw (mP R.out (by kernel_rfl)) ?_
 try go_wp2
 go_ret
 exact⟨zE,zB⟩
end Go.Proofs.YtffdiakgjakngaaGreat.P

