/- RiemannrochHolds answers true whatever the input (text 11 of 20): own walks and plain laws; no conditions. -/
import Derived.Test.YtffdiakgjakngaaGreatHolds10
namespace Go.Proofs.YtffdiakgjakngaaGreat.P
open Go.RowKit Go.Proofs.YtffdiakgjakngaaGreatW.PrintWords Go.Proofs.YtffdiakgjakngaaGreatW.PrintLast Go.Proofs.YtffdiakgjakngaaGreatW.PrintMore
set_option linter.unusedVariables false
set_option linter.unusedSimpArgs false
set_option maxHeartbeats 8000000
set_option maxRecDepth 100000
def fc.l0:Nat->List Int->Int->Option (Bool)
 |0,_,_=>none
 |k+1,x1,a=>if a<(x1.length:Int) then(if 0<=a then(if(rd x1 a)<(-100) then(some false) else(if(rd x1 a)>100 then(some false) else(fc.l0 k x1 (wrap64 (a+1))))) else(none)) else(some true)
def fc.f (k:Nat) (a:Int) (b:List (S83)) (l1:List Int):Option (Bool):=if(l1.length:Int)>100 then(some false) else((cU.f k l1 a).bind fun t105=>(if t105=0 then(fc.l0 k l1 0) else(some true)))
theorem fc.calls (k:Nat) (m:Int) (x:Option Addr) (y:Nat) (n:List (S83)) (G:Option Addr) (c1:Nat) (l1:List Int) (r:Bool) (w:World) (Q:Kd.C aK w x n.length n) (R:n.length<=y) (S:Kd.C (Kd.int .i64) w G l1.length l1) (T:l1.length<=c1) (h:fc.f k m n l1=some r):
  Calls Tryz.prog 38 #[.agg #[.int .i64 m,.slice x n.length y],.slice G l1.length c1] w fun e w'=>e= .returned (.bool r)∧Below w.heap.size w w':=by
 have aO:=Tryz.underlying24;have aP:=Aside0.mk Q;have aS:=Aside0.mk R;clear Q R;have p:=Aside0.mk S;have U:=Aside0.mk T;clear S T;have b:=Aside0.mk (Below.refl w.heap.size w);unfold fc.f at h;have H:=h;clear h;by_cases c3:(l1.length:Int)>100
 ·rw[if_pos c3] at H
  have V:=decide_eq_true c3;have W:decide (100<l1.length)=true:=decide_eq_true (by omega);clear c3;obtain rfl:=Option.some.inj H;go_enter Tryz.func38,Tryz.ntmps38
  go_wp2_with (first|((with_reducible refine aH (N:=2) rfl ?_);refine zX 2 #[.int .i64 m,.slice x n.length y] 24 ?_;intro L g w4 o hb;have q:=Aside0.mk (o);have X:=zG b g;have Y:=zG b g;replace b:=zS b hb;clear hb o g))
  go_ret;exact⟨zE,zB⟩
 ·rw[if_neg c3] at H
  have V:=decide_eq_false c3;have W:decide (100<l1.length)=false:=decide_eq_false (by omega);clear c3;obtain⟨t105,Z,H⟩:=zo H;by_cases z:t105=0
  ·rw[if_pos z] at H
   obtain⟨aa,ab⟩:=bt z;clear z;have I:=Aside0.mk H;clear H;go_enter Tryz.func38,Tryz.ntmps38
   go_wp2_with (first|((with_reducible refine aH (N:=2) rfl ?_);refine zX 2 #[.int .i64 m,.slice x n.length y] 24 ?_;intro L g w7 o hb;have q:=Aside0.mk (o);have X:=zG b g;have Y:=zG b g;replace b:=zS b hb;clear hb o g;obtain⟨ak,am,an,ap⟩:=au q)|((with_reducible refine ax (f:=42) rfl ?_);refine zL (some 12) Tryz.func42 #[.slice G l1.length c1,.int .i64 m] ?_;(with_reducible refine(cU.calls k _ _ l1 m t105 _ ?af ?ah Z.out).mono ?_);(case af=>exact Kd.al p.out zB);(case ah=>exact U.out);rintro e w' ⟨rfl,⟨nd,rfl⟩⟩;refine⟨_,rfl,?_⟩))
   go_loopg [5] k (fun kq v5 w'=>∃(a:Int),v5= .int .i64 a∧Aside0 (fc.l0 kq l1 a=some r)∧Aside0 (kq<=k)∧Aside0 (w'.heap[L]? =some (.cells #[.int .i64 m,(.slice x n.length y)] 24 (0,0)))∧Aside0 (Below w.heap.size w w'))
   case atStart=>exact⟨(0),zT,I,⟨Nat.le_refl _⟩,⟨zK q⟩,⟨zB⟩⟩
   case round=>
    clear I;try clear c1
    try clear p2
    try clear c3
    try clear V
    try clear W
    try clear c4
    try clear z
    try clear aa
    try clear ab
    try clear ak
    try clear am
    try clear an
    try clear ap
    obtain⟨a,rfl,M,ag,q,b⟩:=hrel;cases gk with
    |zero=>exact absurd M.out (by simp[fc.l0])
    |succ k1=>
     have H:=M.out;clear M;simp only[fc.l0] at H;by_cases B:a<(l1.length:Int)
     ·rw[if_pos B] at H
      have aB:=decide_eq_true B;clear B;by_cases J:0<=a
      ·rw[if_pos J] at H
       have a3:=decide_eq_true J;clear J;by_cases D:(rd l1 a)<(-100)
       ·rw[if_pos D] at H
        have aF:=decide_eq_true D;clear D;obtain rfl:=Option.some.inj H;have i:0<=(a:Int):=of_decide_eq_true ‹_›;have j:a<(l1.length:Int):=of_decide_eq_true ‹_›;obtain⟨K,F,l⟩:=Kd.bG p.out a i j;cases F;replace l:=(b.out.cell (World.block_lt_of_cell? w _ l)).trans l;replace i:=eq_true i;replace j:=eq_true j;go_wp2;go_ret;exact⟨zE,zB⟩
       ·rw[if_neg D] at H
        have aF:=decide_eq_false D;clear D;by_cases E:(rd l1 a)>100
        ·rw[if_pos E] at H
         have aL:=decide_eq_true E;clear E;obtain rfl:=Option.some.inj H;have i:0<=(a:Int):=of_decide_eq_true ‹_›;have j:a<(l1.length:Int):=of_decide_eq_true ‹_›;obtain⟨K,F,l⟩:=Kd.bG p.out a i j;cases F;replace l:=(b.out.cell (World.block_lt_of_cell? w _ l)).trans l;replace i:=eq_true i;replace j:=eq_true j;have s:0<=(a:Int):=of_decide_eq_true ‹_›;have u:a<(l1.length:Int):=of_decide_eq_true ‹_›;obtain⟨O,P,v⟩:=Kd.bG p.out a s u;obtain rfl:K=O:=(by injection P);replace v:=(b.out.cell (World.block_lt_of_cell? w _ v)).trans v;replace s:=eq_true s;replace u:=eq_true u;go_wp2;go_ret;exact⟨zE,zB⟩
        ·rw[if_neg E] at H
         have aL:=decide_eq_false E;clear E;have I:=Aside0.mk H;clear H;have i:0<=(a:Int):=of_decide_eq_true ‹_›;have j:a<(l1.length:Int):=of_decide_eq_true ‹_›;obtain⟨K,F,l⟩:=Kd.bG p.out a i j;cases F;replace l:=(b.out.cell (World.block_lt_of_cell? w _ l)).trans l;replace i:=eq_true i;replace j:=eq_true j;have s:0<=(a:Int):=of_decide_eq_true ‹_›;have u:a<(l1.length:Int):=of_decide_eq_true ‹_›;obtain⟨O,P,v⟩:=Kd.bG p.out a s u;obtain rfl:K=O:=(by injection P);replace v:=(b.out.cell (World.block_lt_of_cell? w _ v)).trans v;replace s:=eq_true s;replace u:=eq_true u;go_wp2;go_roundg k1
         case measure=>have:=ag.out;omega
         case rel=>exact⟨(wrap64 (a+1)),zT,I,⟨by have:=ag.out;omega⟩,⟨zK q⟩,⟨zB⟩⟩
      ·rw[if_neg J] at H
       exact absurd H (by simp)
     ·rw[if_neg B] at H
      have aB:=decide_eq_false B;clear B;obtain rfl:=Option.some.inj H;go_wp2;go_ret;exact⟨zE,zB⟩
  ·rw[if_neg z] at H
   obtain⟨aa,ab⟩:=bu z;obtain rfl:=Option.some.inj H;go_enter Tryz.func38,Tryz.ntmps38
   go_wp2_with (first|((with_reducible refine aH (N:=2) rfl ?_);refine zX 2 #[.int .i64 m,.slice x n.length y] 24 ?_;intro L g a4 o hb;have q:=Aside0.mk (o);have X:=zG b g;have Y:=zG b g;replace b:=zS b hb;clear hb o g;obtain⟨a5,a9,be,bf⟩:=au q)|((with_reducible refine ax (f:=42) rfl ?_);refine zL (some 12) Tryz.func42 #[.slice G l1.length c1,.int .i64 m] ?_;(with_reducible refine(cU.calls k _ _ l1 m t105 _ ?af ?ah Z.out).mono ?_);(case af=>exact Kd.al p.out zB);(case ah=>exact U.out);rintro e w' ⟨rfl,⟨nd,rfl⟩⟩;refine⟨_,rfl,?_⟩))
   go_ret;exact⟨zE,zB⟩
def ko.f (k:Nat) (a:Int) (b:List (S83)) (e:Int) (a2:Int):Option (Bool):=if(b.length:Int)>40 then(some false) else((cR.f k a b).bind fun t119=>(if t119=0 then(if a<=e then((ln.f a b).bind fun t120=>(some (decide (t120<=a2)))) else(some false)) else(some true)))
theorem ko.calls (k:Nat) (j:Int) (m:Option Addr) (n:Nat) (b:List (S83)) (u:Int) (a2:Int) (r:Bool) (w:World) (B:Kd.C aK w m b.length b) (D:b.length<=n) (h:ko.f k j b u a2=some r):
  Calls Tryz.prog 97 #[.agg #[.int .i64 j,.slice m b.length n],.int .i64 u,.int .i64 a2] w fun e w'=>e= .returned (.bool r)∧Below w.heap.size w w':=by
 have L:=Tryz.underlying24;have q:=Aside0.mk B;have s:=Aside0.mk D;clear B D;have a:=Aside0.mk (Below.refl w.heap.size w);unfold ko.f at h;have H:=h;clear h;by_cases c4:(b.length:Int)>40
 ·rw[if_pos c4] at H
  have E:=decide_eq_true c4;have F:decide (40<b.length)=true:=decide_eq_true (by omega);clear c4;obtain rfl:=Option.some.inj H;go_enter Tryz.func97,Tryz.ntmps97
  go_wp2_with (first|((with_reducible refine aH (N:=3) rfl ?_);refine zX 3 #[.int .i64 j,.slice m b.length n] 24 ?_;intro v i M l hb;have g:=Aside0.mk (l);have x:=zG a i;have y:=zG a i;replace a:=zS a hb;clear hb l i;obtain⟨O,P,Q,R⟩:=au g))
  go_ret;exact⟨zE,zB⟩
 ·rw[if_neg c4] at H
  have E:=decide_eq_false c4;have F:decide (40<b.length)=false:=decide_eq_false (by omega);clear c4;obtain⟨t119,z,H⟩:=zo H;by_cases p:t119=0
  ·rw[if_pos p] at H
   obtain⟨G,I⟩:=bt p;clear p;by_cases o:j<=u
   ·rw[if_pos o] at H
    have J:=decide_eq_true o;clear o;obtain⟨t120,K,H⟩:=zo H;obtain rfl:=Option.some.inj H;go_enter Tryz.func97,Tryz.ntmps97
    go_wp2_with (first|((with_reducible refine aH (N:=3) rfl ?_);refine zX 3 #[.int .i64 j,.slice m b.length n] 24 ?_;intro v i iy l hb;have g:=Aside0.mk (l);have x:=zG a i;have y:=zG a i;replace a:=zS a hb;clear hb l i;obtain⟨S,T,U,V⟩:=au g)|((with_reducible refine ax (f:=103) rfl ?_);refine zL (some 12) Tryz.func103 #[.agg #[.int .i64 j,.slice m b.length n]] ?_;(with_reducible refine(cR.calls k j _ _ b t119 _ ?af ?ah z.out).mono ?_);(case af=>exact Kd.al q.out zB);(case ah=>exact s.out);rintro e W ⟨rfl,hb⟩;refine⟨_,rfl,?_⟩;replace g:=zb g hb;replace a:=zS a hb;(try clear hb);obtain⟨X,Y,Z,aa⟩:=au g)|(go_at_call 73;(with_reducible refine(ln.calls j _ _ b t120 _ ?af ?ah K.out).mono ?_);(case af=>exact Kd.al q.out zB);(case ah=>exact s.out);rintro e ab ⟨rfl,hb⟩;replace g:=zb g hb;replace a:=zS a hb;(try clear hb)))
    go_ret;exact⟨zE,zB⟩
   ·rw[if_neg o] at H
    have J:=decide_eq_false o;clear o;obtain rfl:=Option.some.inj H;go_enter Tryz.func97,Tryz.ntmps97
    go_wp2_with (first|((with_reducible refine aH (N:=3) rfl ?_);refine zX 3 #[.int .i64 j,.slice m b.length n] 24 ?_;intro v i ad l hb;have g:=Aside0.mk (l);have x:=zG a i;have y:=zG a i;replace a:=zS a hb;clear hb l i;obtain⟨ag,ak,am,an⟩:=au g)|((with_reducible refine ax (f:=103) rfl ?_);refine zL (some 12) Tryz.func103 #[.agg #[.int .i64 j,.slice m b.length n]] ?_;(with_reducible refine(cR.calls k j _ _ b t119 _ ?af ?ah z.out).mono ?_);(case af=>exact Kd.al q.out zB);(case ah=>exact s.out);rintro e ap ⟨rfl,hb⟩;refine⟨_,rfl,?_⟩;replace g:=zb g hb;replace a:=zS a hb;(try clear hb);obtain⟨ar,av,aB,aF⟩:=au g))
    go_ret;exact⟨zE,zB⟩
  ·rw[if_neg p] at H
   obtain⟨G,I⟩:=bu p;obtain rfl:=Option.some.inj H;go_enter Tryz.func97,Tryz.ntmps97
   go_wp2_with (first|((with_reducible refine aH (N:=3) rfl ?_);refine zX 3 #[.int .i64 j,.slice m b.length n] 24 ?_;intro v i aL l hb;have g:=Aside0.mk (l);have x:=zG a i;have y:=zG a i;replace a:=zS a hb;clear hb l i;obtain⟨aO,aP,aS,a0⟩:=au g)|((with_reducible refine ax (f:=103) rfl ?_);refine zL (some 12) Tryz.func103 #[.agg #[.int .i64 j,.slice m b.length n]] ?_;(with_reducible refine(cR.calls k j _ _ b t119 _ ?af ?ah z.out).mono ?_);(case af=>exact Kd.al q.out zB);(case ah=>exact s.out);rintro e a3 ⟨rfl,hb⟩;refine⟨_,rfl,?_⟩;replace g:=zb g hb;replace a:=zS a hb;(try clear hb)))
   go_ret;exact⟨zE,zB⟩
def kp.f (k:Nat) (a:Int) (b:List (S83)):Option (Bool):=(ko.f k a b 5 7).bind fun t122=>(some t122)
theorem kp.calls (k:Nat) (b:Int) (i:Option Addr) (j:Nat) (a:List (S83)) (r:Bool) (w:World) (n:Kd.C aK w i a.length a) (o:a.length<=j) (h:kp.f k b a=some r):
  Calls Tryz.prog 44 #[.agg #[.int .i64 b,.slice i a.length j]] w fun e w'=>e= .returned (.bool r)∧Below w.heap.size w w':=by
 have v:=Tryz.underlying24;have q:=Aside0.mk n;have s:=Aside0.mk o;clear n o;have g:=Aside0.mk (Below.refl w.heap.size w);have H:((ko.f k b a 5 7).bind fun t122=>(some t122))=some r:=h;clear h;obtain⟨t122,u,H⟩:=zo H;obtain rfl:=Option.some.inj H;go_enter Tryz.func44,Tryz.ntmps44
 go_wp2_with (first|((with_reducible refine aH (N:=1) rfl ?_);refine zX 1 #[.int .i64 b,.slice i a.length j] 24 ?_;intro x l w3 p hb;have m:=Aside0.mk (p);have y:=zG g l;have z:=zG g l;replace g:=zS g hb;clear hb p l;obtain⟨B,D,E,F⟩:=au m)|((with_reducible refine ax (f:=97) rfl ?_);refine zL (some 4) Tryz.func97 #[.agg #[.int .i64 b,.slice i a.length j],.int .i64 5,.int .i64 7] ?_;(with_reducible refine(ko.calls k b _ _ a 5 7 t122 _ ?af ?ah u.out).mono ?_);(case af=>exact Kd.al q.out zB);(case ah=>exact s.out);rintro e G ⟨rfl,hb⟩;refine⟨_,rfl,?_⟩;replace m:=zb m hb;replace g:=zS g hb;(try clear hb)))
 go_ret;exact⟨zE,zB⟩
def dX.j0:Nat->List Int->Int->Bool->Int->List (S83)->Option (Bool)
 |0,_,_,_,_,_=>none
 |k+1,x1,x2,e,a,b=>if e=true then(some false) else((gP.f k a b x1).bind fun t156=>(if t156=0 then((fc.f k a b x1).bind fun t157=>(if t157=true then((dG.f k x1).bind fun t158=>(some (decide (t158<=x2)))) else(some false))) else(some true)))
def dX.f (k:Nat) (a:Int) (b:List (S83)) (l1:List Int) (a2:Int):Option (Bool):=(kp.f k a b).bind fun t155=>(if t155=true then(dX.j0 k l1 a2 (decide ((l1.length:Int)>100)) a b) else(dX.j0 k l1 a2 true a b))
theorem dX.calls (k:Nat) (i:Int) (j:Option Addr) (l:Nat) (b:List (S83)) (s:Option Addr) (c1:Nat) (l1:List Int) (a2:Int) (r:Bool) (w:World) (J:Kd.C aK w j b.length b) (K:b.length<=l) (L:Kd.C (Kd.int .i64) w s l1.length l1) (M:l1.length<=c1) (h:dX.f k i b l1 a2=some r):
  Calls Tryz.prog 79 #[.agg #[.int .i64 i,.slice j b.length l],.slice s l1.length c1,.int .i64 a2] w fun e w'=>e= .returned (.bool r)∧Below w.heap.size w w':=by
 have ak:=Tryz.underlying24;have m:=Aside0.mk J;have n:=Aside0.mk K;clear J K;have o:=Aside0.mk L;have p:=Aside0.mk M;clear L M;have g:=Aside0.mk (Below.refl w.heap.size w);unfold dX.f at h;have H:=h;clear h;have D:=Aside0.mk H;clear H;go_enter Tryz.func79,Tryz.ntmps79
 go_upto_region 1 with (first|((with_reducible refine aH (N:=3) rfl ?_);(try(refine dA (by rfl) ?_;dsimp only));refine zX 3 #[.int .i64 i,.slice j b.length l] 24 ?_;intro R E w5 O hb;have a:=Aside0.mk (O);have an:=zG g E;have ap:=zG g E;replace g:=zS g hb;clear hb O E))
 (try simp only[Act.put,List.setIfInBounds_toArray,List.set_cons_zero,List.set_cons_succ])
 go_cut [14] (fun S wc=>∃(x:Nat) (y:Bool),S= .bool y∧Aside0 (dX.j0 x l1 a2 y i b=some r)∧Aside0 (x<=k)∧Aside0 (wc.heap[R]? =some (.cells #[.int .i64 i,(.slice j b.length l)] 24 (0,0)))∧Aside0 (Below w.heap.size w wc))
 case first=>
  have H:=D.out;clear D;obtain⟨t155,P,H⟩:=zo H;by_cases u:t155=true
  ·subst u
   replace H:=zi H;have F:=Aside0.mk H;clear H;obtain⟨T,U,V,W⟩:=au a;go_wp2_with (first|((with_reducible refine ax (f:=44) rfl ?_);refine zL (some 8) Tryz.func44 #[.agg #[.int .i64 i,.slice j b.length l]] ?_;(with_reducible refine(kp.calls k i _ _ b true _ ?af ?ah P.out).mono ?_);(case af=>exact Kd.al m.out zB);(case ah=>exact n.out);rintro e w9 ⟨rfl,hb⟩;refine⟨_,rfl,?_⟩;replace a:=zb a hb;replace g:=zS g hb;(try clear hb)))
   go_meet
   case rel=>exact⟨_,(decide ((l1.length:Int)>100)),zT,F,⟨by first|omega|exact Nat.le_refl _⟩,⟨zK a⟩,⟨zB⟩⟩
  ·replace u:=Bool.eq_false_iff.mpr u
   subst u;replace H:=zj H;have F:=Aside0.mk H;clear H;obtain⟨X,Y,Z,aa⟩:=au a;go_wp2_with (first|((with_reducible refine ax (f:=44) rfl ?_);refine zL (some 8) Tryz.func44 #[.agg #[.int .i64 i,.slice j b.length l]] ?_;(with_reducible refine(kp.calls k i _ _ b false _ ?af ?ah P.out).mono ?_);(case af=>exact Kd.al m.out zB);(case ah=>exact n.out);rintro e iy ⟨rfl,hb⟩;refine⟨_,rfl,?_⟩;replace a:=zb a hb;replace g:=zS g hb;(try clear hb)))
   go_meet
   case rel=>exact⟨_,(true),zT,F,⟨by first|omega|exact Nat.le_refl _⟩,⟨zK a⟩,⟨zB⟩⟩
 case rest=>
  clear D;try clear c1
  try clear p2
  try clear c4
  try clear u
  try clear X
  try clear Y
  try clear T
  try clear U
  try clear Z
  try clear aa
  try clear V
  try clear W
  obtain⟨x,y,rfl,G,aB,a,g⟩:=hcut;cases x with
  |zero=>exact absurd G.out (by simp[dX.j0])
  |succ q=>
   have H:=G.out;clear G;simp only[dX.j0] at H;by_cases z:y=true
   ·subst z
    replace H:=zi H;obtain rfl:=Option.some.inj H;go_wp2;go_ret;exact⟨zE,zB⟩
   ·replace z:=Bool.eq_false_iff.mpr z
    subst z;replace H:=zj H;obtain⟨t156,I,H⟩:=zo H;by_cases v:t156=0
    ·rw[if_pos v] at H
     obtain⟨ab,ad⟩:=bt v;clear v;obtain⟨t157,Q,H⟩:=zo H;by_cases B:t157=true
     ·subst B
      replace H:=zi H;obtain⟨t158,ag,H⟩:=zo H;obtain rfl:=Option.some.inj H;obtain⟨aF,aL,aO,aP⟩:=au a;go_wp2_with (first|((with_reducible refine ax (f:=80) rfl ?_);refine zL (some 17) Tryz.func80 #[.agg #[.int .i64 i,.slice j b.length l],.slice s l1.length c1] ?_;(with_reducible refine(gP.calls q i _ _ b _ _ l1 t156 _ ?af ?ah ?aD ?aE I.out).mono ?_);(case af=>exact Kd.al m.out zB);(case ah=>exact n.out);(case aD=>exact Kd.al o.out zB);(case aE=>exact p.out);rintro e aS ⟨rfl,hb⟩;refine⟨_,rfl,?_⟩;replace a:=zb a hb;replace g:=zS g hb;(try clear hb);obtain⟨a0,a1,a3,a4⟩:=au a)|(go_at_call 38;(with_reducible refine(fc.calls q i _ _ b _ _ l1 true _ ?af ?ah ?aD ?aE Q.out).mono ?_);(case af=>exact Kd.al m.out zB);(case ah=>exact n.out);(case aD=>exact Kd.al o.out zB);(case aE=>exact p.out);rintro e a5 ⟨rfl,hb⟩;replace a:=zb a hb;replace g:=zS g hb;(try clear hb))|(go_at_call 22;(with_reducible refine(dG.calls q _ _ l1 t158 _ ?af ?ah ag.out).mono ?_);(case af=>exact Kd.al o.out zB);(case ah=>exact p.out);rintro e w' ⟨rfl,⟨nd,rfl⟩⟩))
      go_ret;exact⟨zE,zB⟩
     ·replace B:=Bool.eq_false_iff.mpr B
      subst B;replace H:=zj H;obtain rfl:=Option.some.inj H;obtain⟨be,bf,bg,bi⟩:=au a;go_wp2_with (first|((with_reducible refine ax (f:=80) rfl ?_);refine zL (some 17) Tryz.func80 #[.agg #[.int .i64 i,.slice j b.length l],.slice s l1.length c1] ?_;(with_reducible refine(gP.calls q i _ _ b _ _ l1 t156 _ ?af ?ah ?aD ?aE I.out).mono ?_);(case af=>exact Kd.al m.out zB);(case ah=>exact n.out);(case aD=>exact Kd.al o.out zB);(case aE=>exact p.out);rintro e bk ⟨rfl,hb⟩;refine⟨_,rfl,?_⟩;replace a:=zb a hb;replace g:=zS g hb;(try clear hb);obtain⟨bn,bo,bv,bw⟩:=au a)|(go_at_call 38;(with_reducible refine(fc.calls q i _ _ b _ _ l1 false _ ?af ?ah ?aD ?aE Q.out).mono ?_);(case af=>exact Kd.al m.out zB);(case ah=>exact n.out);(case aD=>exact Kd.al o.out zB);(case aE=>exact p.out);rintro e bx ⟨rfl,hb⟩;replace a:=zb a hb;replace g:=zS g hb;(try clear hb)))
      go_ret;exact⟨zE,zB⟩
    ·rw[if_neg v] at H
     obtain⟨ab,ad⟩:=bu v;obtain rfl:=Option.some.inj H;obtain⟨b0,b1,b2,b3⟩:=au a;go_wp2_with (first|((with_reducible refine ax (f:=80) rfl ?_);refine zL (some 17) Tryz.func80 #[.agg #[.int .i64 i,.slice j b.length l],.slice s l1.length c1] ?_;(with_reducible refine(gP.calls q i _ _ b _ _ l1 t156 _ ?af ?ah ?aD ?aE I.out).mono ?_);(case af=>exact Kd.al m.out zB);(case ah=>exact n.out);(case aD=>exact Kd.al o.out zB);(case aE=>exact p.out);rintro e b4 ⟨rfl,hb⟩;refine⟨_,rfl,?_⟩;replace a:=zb a hb;replace g:=zS g hb;(try clear hb)))
     go_ret;exact⟨zE,zB⟩
def fm.l0:Nat->Int->Int->Int->Int->List (S83)->Option (Int)
 |0,_,_,_,_,_=>none
 |k+1,x1,e,a,b,g=>if a<b then(if a=x1 then(fm.l0 k x1 e (wrap64 (a+1)) b g) else((dC.f k b g a x1).bind fun t160=>(fm.l0 k x1 (wrap64 (e+t160)) (wrap64 (a+1)) b g))) else(some e)
def fm.f (k:Nat) (a:Int) (b:List (S83)) (e:Int):Option (Int):=fm.l0 k e 0 0 a b
theorem fm.calls (k:Nat) (b:Int) (n:Option Addr) (o:Nat) (a:List (S83)) (j:Int) (r:Int) (w:World) (y:Kd.C aK w n a.length a) (z:a.length<=o) (h:fm.f k b a j=some r):
  Calls Tryz.prog 144 #[.agg #[.int .i64 b,.slice n a.length o],.int .i64 j] w fun e w'=>e= .returned (.int .i64 r)∧Below w.heap.size w w':=by
 have M:=Tryz.underlying24;have E:=Aside0.mk y;have F:=Aside0.mk z;clear y z;have l:=Aside0.mk (Below.refl w.heap.size w);have H:(fm.l0 k j 0 0 b a)=some r:=h;clear h;have m:=Aside0.mk H;clear H;go_enter Tryz.func144,Tryz.ntmps144
 go_wp2_with (first|((with_reducible refine aH (N:=2) rfl ?_);refine zX 2 #[.int .i64 b,.slice n a.length o] 24 ?_;intro G u w3 B hb;have g:=Aside0.mk (B);have O:=zG l u;have P:=zG l u;replace l:=zS l hb;clear hb B u))
 go_loopg [5,6] k (fun D v5 v6 w'=>∃(p:Int) (i:Int),v5= .int .i64 p∧v6= .int .i64 i∧Aside0 (fm.l0 D j p i b a=some r)∧Aside0 (D<=k)∧Aside0 (w'.heap[G]? =some (.cells #[.int .i64 b,(.slice n a.length o)] 24 (0,0)))∧Aside0 (Below w.heap.size w w'))
 case atStart=>exact⟨(0),(0),zT,zT,m,⟨Nat.le_refl _⟩,⟨zK g⟩,⟨zB⟩⟩
 case round=>
  clear m;try clear c1
  try clear Q
  obtain⟨p,i,rfl,rfl,v,s,g,l⟩:=hrel;cases gk with
  |zero=>exact absurd v.out (by simp[fm.l0])
  |succ x=>
   have H:=v.out;clear v;simp only[fm.l0] at H;by_cases c4:i<b
   ·rw[if_pos c4] at H
    have I:=decide_eq_true c4;clear c4;by_cases q:i=j
    ·rw[if_pos q] at H
     obtain⟨J,K⟩:=bt q;clear q;have m:=Aside0.mk H;clear H;obtain⟨R,S,T,U⟩:=au g;go_wp2;go_roundg x
     case measure=>have:=s.out;omega
     case rel=>exact⟨(p),(wrap64 (i+1)),zT,zT,m,⟨by have:=s.out;omega⟩,⟨zK g⟩,⟨zB⟩⟩
    ·rw[if_neg q] at H
     obtain⟨J,K⟩:=bu q;obtain⟨t160,L,H⟩:=zo H;have m:=Aside0.mk H;clear H;obtain⟨V,W,X,Y⟩:=au g;go_wp2_with (first|((with_reducible refine ax (f:=147) rfl ?_);refine zL (some 20) Tryz.func147 #[.agg #[.int .i64 b,.slice n a.length o],.int .i64 i,.int .i64 j] ?_;(with_reducible refine(dC.calls x b _ _ a i j t160 _ ?af ?ah L.out).mono ?_);(case af=>exact Kd.al E.out zB);(case ah=>exact F.out);rintro e Z ⟨rfl,hb⟩;refine⟨_,rfl,?_⟩;replace g:=zb g hb;replace l:=zS l hb;(try clear hb)))
     go_roundg x
     case measure=>have:=s.out;omega
     case rel=>exact⟨(wrap64 (p+t160)),(wrap64 (i+1)),zT,zT,m,⟨by have:=s.out;omega⟩,⟨zK g⟩,⟨zB⟩⟩
   ·rw[if_neg c4] at H
    have I:=decide_eq_false c4;clear c4;obtain rfl:=Option.some.inj H;obtain⟨aa,ab,ad,ag⟩:=au g;go_wp2;go_ret;exact⟨zE,zB⟩
def fp.l0:Nat->List Int->Int->Int->List (S83)->Option (List Int)
 |0,_,_,_,_=>none
 |k+1,x3,x4,a,b=>if x4<a then((fm.f k a b x4).bind fun t162=>(if x3.length<17592186044416 then(fp.l0 k (x3++[wrap64 (t162-2)]) (wrap64 (x4+1)) a b) else(none))) else(some x3)
def fp.f (k:Nat) (a:Int) (b:List (S83)):Option (List Int):=fp.l0 k ([]:List Int) 0 a b
theorem fp.calls (k:Nat) (g:Int) (p:Option Addr) (q:Nat) (a:List (S83)) (r:List Int) (w:World) (D:Kd.C aK w p a.length a) (E:a.length<=q) (h:fp.f k g a=some r):
  Calls Tryz.prog 90 #[.agg #[.int .i64 g,.slice p a.length q]] w fun e w'=>∃F:Value,e= .returned (F)∧Kd.R (Kd.int .i64) 3 w' w.heap.size (fun _=>True) F r∧Below w.heap.size w w':=by
 have ag:=Tryz.underlying24;have L:=Aside0.mk D;have M:=Aside0.mk E;clear D E;have j:=Aside0.mk (Below.refl w.heap.size w);have H:(fp.l0 k ([]:List Int) 0 g a)=some r:=h;clear h;have u:=Aside0.mk H;clear H;go_enter Tryz.func90,Tryz.ntmps90
 go_wp2_with (first|((with_reducible refine aH (N:=1) rfl ?_);refine zX 1 #[.int .i64 g,.slice p a.length q] 24 ?_;intro O m w2 G hb;have i:=Aside0.mk (G);have ak:=zG j m;have am:=zG j m;replace j:=zS j hb;clear hb G m))
 go_loopg [3,4] k (fun I v3 v4 w'=>∃(n:List Int) (l:Int),v4= .int .i64 l∧Aside0 (fp.l0 I n l g a=some r)∧Aside0 (I<=k)∧Aside0 (Kd.R (Kd.int .i64) 3 w' w.heap.size (fun _=>True) v3 n)∧Aside0 (w'.heap[O]? =some (.cells #[.int .i64 g,(.slice p a.length q)] 24 (0,0)))∧Aside0 (Below w.heap.size w w'))
 case atStart=>exact⟨(([]:List Int)),(0),zT,u,⟨Nat.le_refl _⟩,⟨by first|exact Kd.cV _ _ _ _ _|exact Kd.fV _ _ _ _ _|exact Kd.V_nil _ _ _ _ _|exact Kd.Q_nil _ _ _ _ _|exact Kd.fB _ _ _ _ _⟩,⟨zK i⟩,⟨zB⟩⟩
 case round=>
  clear u;try clear p2
  obtain⟨n,l,rfl,x,J,o,i,j⟩:=hrel;cases gk with
  |zero=>exact absurd x.out (by simp[fp.l0])
  |succ y=>
   have H:=x.out;clear x;simp only[fp.l0] at H;by_cases c3:l<g
   ·rw[if_pos c3] at H
    have P:=decide_eq_true c3;clear c3;obtain⟨t162,Q,H⟩:=zo H;by_cases v:n.length<17592186044416
    ·rw[if_pos v] at H
     have S:=Aside0.mk v;clear v;obtain⟨K,s⟩:∃T:List Int,T=(n++[wrap64 (t162-2)]):=⟨_,rfl⟩;replace H:(fp.l0 y K (wrap64 (l+1)) g a)=some r:=by first|(rw[s];with_reducible exact H)|(have z:=(Option.bind_some _ _).symm.trans H;rw[s];with_reducible exact z)|(have z:=(Option.bind_some _ _).symm.trans H;with_reducible exact z)|with_reducible exact H|(rw[s];exact H)|exact H
     have U:=Aside0.mk s;clear s;have u:=Aside0.mk H;clear H;obtain⟨ap,ar,av,a0⟩:=au i;go_wp2_with (first|((with_reducible refine ax (f:=144) rfl ?_);refine zL (some 14) Tryz.func144 #[.agg #[.int .i64 g,.slice p a.length q],.int .i64 l] ?_;(with_reducible refine(fm.calls y g _ _ a l t162 _ ?af ?ah Q.out).mono ?_);(case af=>exact Kd.al L.out zB);(case ah=>exact M.out);rintro e w7 ⟨rfl,hb⟩;refine⟨_,rfl,?_⟩;replace o:=aR o hb;replace i:=zb i hb;replace j:=zS j hb;(try clear hb))|((with_reducible refine o9 (b:=.append) (xs:=#[.tmp 11,.tmp 16]) rfl ?_);at_builtin;refine Kd.lI (Kd.int .i64) (w0:=w) w.heap.size rfl (.tmp 11) (.tmp 16) 25 3 (.int .i64 0) 8 rfl Tryz.underlying25 fY rfl (by decide) (by omega) u3 n (wrap64 (t162-2)) [.int .i64 (wrap64 (t162-2))] (fun _=>True) (fun _=>False) rfl rfl ?V (fun _ hk=>hk.elim) ?W ?X ?Y ?Z ?aL ?_;(case V=>exact rfl);(case Y=>exact zB);(case W=>exact(fun _ _=>trivial));(case X=>exact(zR o));(case Z=>exact(a_ zB));(case aL=>have:=S.out;omega);intro v164 w8 B hb m ab;rw[<-U.out] at B;replace i:=Aside0.mk (cI (zK i) m (Kd.dh o.out i.out (by decide)));replace j:=Aside0.mk (hb);have ad:=Aside0.mk (B);clear o;clear B hb m ab))
     go_roundg y
     case measure=>have:=J.out;omega
     case rel=>exact⟨(K),(wrap64 (l+1)),zT,u,⟨by have:=J.out;omega⟩,⟨zR ad⟩,⟨zK i⟩,⟨zB⟩⟩
    ·rw[if_neg v] at H
     exact absurd H (by simp)
   ·rw[if_neg c3] at H
    have P:=decide_eq_false c3;clear c3;obtain rfl:=Option.some.inj H;obtain⟨a3,a4,a5,a9⟩:=au i;go_wp2;go_ret;exact⟨_,zE,by(with_reducible repeat(first|apply Kd.aI|apply Kd.ba|apply Kd.a8));exact o.out,zB⟩
def dm.l0:Nat->List Int->List Int->Int->List Int->Int->Option (List Int)
 |0,_,_,_,_,_=>none
 |k+1,b,x1,x2,e,a=>if a<(b.length:Int) then(if 0<=a then(if a<(x1.length:Int) then(if a<(e.length:Int) then(dm.l0 k b x1 x2 (e.set (a:Int).toNat (wrap64 ((rd b a)+(wrap64 (x2*(rd x1 a)))))) (wrap64 (a+1))) else(none)) else(none)) else(none)) else(some e)
def dm.f (k:Nat) (l0:List Int) (l1:List Int) (a2:Int):Option (List Int):=if 0<=(l0.length:Int) then(if((l0.length:Int):Int).toNat<=35184372088832 then(dm.l0 k l0 l1 a2 (List.replicate ((l0.length:Int):Int).toNat 0) 0) else(none)) else(none)
def dm.T5:Bool×List (List Nat×List Nat):=(true,[([],[]),([],[]),([],[]),([],[]),([2,3],[2,3]),([4],[4]),([],[]),([],[]),([],[]),([7,8],[7,8]),([9],[9]),([6,10],[6,10]),([5,11],[5,11]),([0,1,0,1,2,3,4,5,6,7,8,9,10,11,12],[0,1]),([13,12,0,1,2,3,4,5,6,7,8,9,10,11,12],[12,13])])
def dm.B5:List Nat:=[0,0,0,0,12,28,0,0,0,384,896,1984,4092,8191,16383]
theorem dm.C2:dM .any (opsOf Tryz.f134 5)=dm.T5:=by kernel_rfl
theorem dm.C3:j8 dm.T5.2 dm.B5=true:=by kernel_rfl
theorem dm.calls (k:Nat) (A0:Option Addr) (c0:Nat) (l0:List Int) (U:Option Addr) (c1:Nat) (l1:List Int) (a2:Int) (r:List Int) (w:World) (V:Kd.C (Kd.int .i64) w A0 l0.length l0) (W:l0.length<=c0) (X:Kd.C (Kd.int .i64) w U l1.length l1) (Y:l1.length<=c1) (h:dm.f k l0 l1 a2=some r):
  Calls Tryz.prog 134 #[.slice A0 l0.length c0,.slice U l1.length c1,.int .i64 a2] w fun e w'=>∃Z:Value,e= .returned (Z)∧Kd.R (Kd.int .i64) 3 w' w.heap.size (fun _=>True) Z r∧Below w.heap.size w w':=by
 have a0:=Aside0.mk V;have b_:=Aside0.mk W;clear V W;have a1:=Aside0.mk X;have b':=Aside0.mk Y;clear X Y;have g:=Aside0.mk (Below.refl w.heap.size w);unfold dm.f at h;have H:=h;clear h;by_cases c4:0<=(l0.length:Int)
 ·rw[if_pos c4] at H
  have a3:=eq_true c4;have a4:=decide_eq_true c4;clear c4;by_cases m:((l0.length:Int):Int).toNat<=35184372088832
  ·rw[if_pos m] at H
   have a5:=eq_true m;have a9:=decide_eq_true m;clear m;obtain⟨aa,q⟩:∃G:List Int,G=(List.replicate ((l0.length:Int):Int).toNat 0):=⟨_,rfl⟩;replace H:(dm.l0 k l0 l1 a2 aa 0)=some r:=by first|(rw[q];with_reducible exact H)|(have l:=(Option.bind_some _ _).symm.trans H;rw[q];with_reducible exact l)|(have l:=(Option.bind_some _ _).symm.trans H;with_reducible exact l)|with_reducible exact H|(rw[q];exact H)|exact H
   have ab:=Aside0.mk q;clear q;have z:=Aside0.mk H;clear H;go_enter Tryz.func134,Tryz.ntmps134
   go_wp2_with (first|((with_reducible refine aH (N:=11) rfl ?_);refine Kd.jx (Kd.int .i64) _ 3 rfl (N:=11) rfl 25 _ _ rfl (l0.length:Int) rfl rfl Tryz.underlying25 (.int .i64 0) 8 fY rfl (by decide) (by omega) 0 (ok:=fun _=>True) (okp:=fun _=>True) rfl (fun _ hk=>hk) trivial (of_decide_eq_true ‹_›) (Nat.le_trans (Nat.mul_le_mul_right _ (of_decide_eq_true ‹_› :(l0.length:Int).toNat<=35184372088832)) (by omega)) (Below.refl _ _) (Nat.le_refl _) ?_;intro v167 w6 s hb be bf;clear be bf;(first|rw[<-ab.out] at s|(simp only[Int.reduceToNat] at s;rw[<-ab.out] at s));have bg:=Aside0.mk (Kd.aW s (a_ zB));replace g:=zS g hb;clear hb s))
   go_loopg [8] k (fun kq v8 w'=>∃(o:List Int) (a:Int),v8= .int .i64 a∧Aside0 (dm.l0 kq l0 l1 a2 o a=some r)∧Aside0 (kq<=k)∧Aside0 (Kd.R (Kd.int .i64) 3 w' w.heap.size (fun _=>True) v167 o)∧Aside0 (Below w.heap.size w w'))
   case atStart=>exact⟨(aa),(0),zT,z,⟨Nat.le_refl _⟩,⟨zR bg⟩,⟨zB⟩⟩
   case round=>
    clear z;try clear c1
    try clear p2
    try clear c4
    try clear a3
    try clear a4
    try clear m
    try clear a5
    try clear a9
    obtain⟨o,a,rfl,I,ag,j,g⟩:=hrel;cases gk with
    |zero=>exact absurd I.out (by simp[dm.l0])
    |succ k1=>
     have H:=I.out;clear I;simp only[dm.l0] at H;by_cases p:a<(l0.length:Int)
     ·rw[if_pos p] at H
      have bk:=decide_eq_true p;clear p;by_cases B:0<=a
      ·rw[if_pos B] at H
       have cc:=decide_eq_true B;clear B;by_cases D:a<(l1.length:Int)
       ·rw[if_pos D] at H
        have cd:=decide_eq_true D;clear D;by_cases E:a<(o.length:Int)
        ·rw[if_pos E] at H
         have ce:=decide_eq_true E;clear E;obtain⟨am,u⟩:∃G:List Int,G=(o.set (a:Int).toNat (wrap64 ((rd l0 a)+(wrap64 (a2*(rd l1 a)))))):=⟨_,rfl⟩;replace H:(dm.l0 k1 l0 l1 a2 am (wrap64 (a+1)))=some r:=by first|(rw[u];with_reducible exact H)|(have l:=(Option.bind_some _ _).symm.trans H;rw[u];with_reducible exact l)|(have l:=(Option.bind_some _ _).symm.trans H;with_reducible exact l)|with_reducible exact H|(rw[u];exact H)|exact H
         have bn:=Aside0.mk u;clear u;have z:=Aside0.mk H;clear H;try go_wp2
         have an:=Aside0.mk (Kd.a8 j.out);have ap:=Aside0.mk (bL g.out);clear j;clear g;have j:=an;have g:=ap;clear an ap;have J:0<=(a:Int):=of_decide_eq_true ‹_›;have L:a<(l0.length:Int):=of_decide_eq_true ‹_›;obtain⟨bo,bv,x⟩:=Kd.bG a0.out a J L;have ar:=x;cases bv;replace x:=(g.out.cell (World.block_lt_of_cell? w _ x)).trans x;replace J:=eq_true J;replace L:=eq_true L;have M:0<=(a:Int):=of_decide_eq_true ‹_›;have O:a<(l1.length:Int):=of_decide_eq_true ‹_›;obtain⟨bw,bx,y⟩:=Kd.bG a1.out a M O;have av:=y;cases bx;replace y:=(g.out.cell (World.block_lt_of_cell? w _ y)).trans y;replace M:=eq_true M;replace O:=eq_true O;have P:0<=(a:Int):=of_decide_eq_true ‹_›;have Q:(a:Int)<((o.length:Int):Int):=of_decide_eq_true ‹_›;obtain⟨cf,ch,aB,aF,b0,ci,aL⟩:=Kd.fg j.out (by omega)
         (first|cases aB|(injection aB with F b1 b2;(first|subst F|(injection F with F;subst F));subst b2;clear b1))
         have b3:=Aside0.mk aF;have b4:=Aside0.mk aL;clear aF b0 aL;obtain⟨b5,b6⟩:=Kd.bJ 0 j.out (a:Int) P Q;replace P:=eq_true P;replace Q:=eq_true Q;have T:=Kd.xo j.out (a:Int) (wrap64 ((rd l0 a)+(wrap64 (a2*(rd l1 a)))));rw[<-bn.out] at T;have aO:=Aside0.mk T;clear T;refine mU (n:=15) (S:=fun w'=>w'.cell? (bo.add (a).toNat)=some (.int .i64 (rd l0 a))∧w'.cell? (bw.add (a).toNat)=some (.int .i64 (rd l1 a))) (ds:=[14]) #[false,false,false,false,false,false,false,false,false,false,false,false,false,false,false] (by kernel_rfl) rfl rfl ⟨((g.out.cell (World.block_lt_of_cell? w _ ar)).trans ar),((g.out.cell (World.block_lt_of_cell? w _ av)).trans av)⟩ (fun hHeld=>?_);refine nt dm.C2 dm.C3 (fun b aP=>?_);generalize wr.drew=cj at j g b4 aO b6 b5 x y hHeld⊢;refine cy (i:=0) (N:=some 18) (v:=?_) (a':=?_) #[true,false,false,false,false,false,false,false,false,false,false,false,false,false,false] rfl rfl (cz b.out (by kernel_rfl)) (fun _ _ _ h=>h) (Or.inl ⟨by rfl,?_⟩) ?_ ?_;rotate_left
         ·intro w'
          go_simp
          with_reducible rfl
         rotate_left
         ·simp only[Act.put,List.setIfInBounds_toArray,List.set_cons_zero,List.set_cons_succ,bd,bh]
          rfl
         refine cy (i:=1) (N:=some 19) (v:=?_) (a':=?_) #[true,true,false,false,false,false,false,false,false,false,false,false,false,false,false] rfl rfl (cz b.out (by kernel_rfl)) (fun _ _ _ h=>h) (Or.inl ⟨by rfl,?_⟩) ?_ ?_;rotate_left
         ·intro w'
          go_simp
          with_reducible rfl
         rotate_left
         ·simp only[Act.put,List.setIfInBounds_toArray,List.set_cons_zero,List.set_cons_succ,bd,bh]
          rfl
         refine cy (i:=2) (N:=some 20) (v:=?_) (a':=?_) #[true,true,true,false,false,false,false,false,false,false,false,false,false,false,false] rfl rfl (cz b.out (by kernel_rfl)) (fun _ _ _ h=>h) (Or.inl ⟨by rfl,?_⟩) ?_ ?_;rotate_left
         ·intro w'
          go_simp
          with_reducible rfl
         rotate_left
         ·simp only[Act.put,List.setIfInBounds_toArray,List.set_cons_zero,List.set_cons_succ,bd,bh]
          rfl
         refine cy (i:=3) (N:=some 21) (v:=?_) (a':=?_) #[true,true,true,true,false,false,false,false,false,false,false,false,false,false,false] rfl rfl (cz b.out (by kernel_rfl)) (fun _ _ _ h=>h) (Or.inl ⟨by rfl,?_⟩) ?_ ?_;rotate_left
         ·intro w'
          go_simp
          with_reducible rfl
         rotate_left
         ·simp only[Act.put,List.setIfInBounds_toArray,List.set_cons_zero,List.set_cons_succ,bd,bh]
          rfl
         refine cy (i:=4) (N:=some 22) (v:=?_) (a':=?_) #[true,true,true,true,true,false,false,false,false,false,false,false,false,false,false] rfl rfl (cz b.out (by kernel_rfl)) (fun _ _ _ h=>h) (Or.inl ⟨by rfl,?_⟩) ?_ ?_;rotate_left
         ·intro w'
          go_simp
          with_reducible rfl
         rotate_left
         ·simp only[Act.put,List.setIfInBounds_toArray,List.set_cons_zero,List.set_cons_succ,bd,bh]
          rfl
         refine cy (i:=6) (N:=some 24) (v:=?_) (a':=?_) #[true,true,true,true,true,false,true,false,false,false,false,false,false,false,false] rfl rfl (cz b.out (by kernel_rfl)) (fun _ _ _ h=>h) (Or.inl ⟨by rfl,?_⟩) ?_ ?_;rotate_left
         ·intro w'
          go_simp
          with_reducible rfl
         rotate_left
         ·simp only[Act.put,List.setIfInBounds_toArray,List.set_cons_zero,List.set_cons_succ,bd,bh]
          rfl
         refine cy (i:=7) (N:=some 25) (v:=?_) (a':=?_) #[true,true,true,true,true,false,true,true,false,false,false,false,false,false,false] rfl rfl (cz b.out (by kernel_rfl)) (fun _ _ _ h=>h) (Or.inl ⟨by rfl,?_⟩) ?_ ?_;rotate_left
         ·intro w'
          go_simp
          with_reducible rfl
         rotate_left
         ·simp only[Act.put,List.setIfInBounds_toArray,List.set_cons_zero,List.set_cons_succ,bd,bh]
          rfl
         refine cy (i:=8) (N:=some 26) (v:=?_) (a':=?_) #[true,true,true,true,true,false,true,true,true,false,false,false,false,false,false] rfl rfl (cz b.out (by kernel_rfl)) (fun _ _ _ h=>h) (Or.inl ⟨by rfl,?_⟩) ?_ ?_;rotate_left
         ·intro w'
          go_simp
          with_reducible rfl
         rotate_left
         ·simp only[Act.put,List.setIfInBounds_toArray,List.set_cons_zero,List.set_cons_succ,bd,bh]
          rfl
         refine cy (i:=9) (N:=some 27) (v:=?_) (a':=?_) #[true,true,true,true,true,false,true,true,true,true,false,false,false,false,false] rfl rfl (cz b.out (by kernel_rfl)) (fun _ _ _ h=>h) (Or.inl ⟨by rfl,?_⟩) ?_ ?_;rotate_left
         ·intro w'
          go_simp
          with_reducible rfl
         rotate_left
         ·simp only[Act.put,List.setIfInBounds_toArray,List.set_cons_zero,List.set_cons_succ,bd,bh]
          rfl
         refine iC (i:=5) (N:=some 23) (v:=?_) (a':=?_) #[true,true,true,true,true,true,true,true,true,true,false,false,false,false,false] rfl rfl (iE b.out aP.out (by kernel_rfl)) (fun _ _ _ h=>h) (Or.inl ⟨by rfl,?_⟩) hHeld ?_ ?_;rotate_left
         ·rintro w' ⟨s0,s1⟩
          go_simp
          with_reducible rfl
         rotate_left
         ·simp only[Act.put,List.setIfInBounds_toArray,List.set_cons_zero,List.set_cons_succ,bd,bh]
          rfl
         refine iC (i:=10) (N:=some 28) (v:=?_) (a':=?_) #[true,true,true,true,true,true,true,true,true,true,true,false,false,false,false] rfl rfl (iE b.out aP.out (by kernel_rfl)) (fun _ _ _ h=>h) (Or.inl ⟨by rfl,?_⟩) hHeld ?_ ?_;rotate_left
         ·rintro w' ⟨s0,s1⟩
          go_simp
          with_reducible rfl
         rotate_left
         ·simp only[Act.put,List.setIfInBounds_toArray,List.set_cons_zero,List.set_cons_succ,bd,bh]
          rfl
         refine cy (i:=11) (N:=some 29) (v:=?_) (a':=?_) #[true,true,true,true,true,true,true,true,true,true,true,true,false,false,false] rfl rfl (cz b.out (by kernel_rfl)) (fun _ _ _ h=>h) (Or.inl ⟨by rfl,?_⟩) ?_ ?_;rotate_left
         ·intro w'
          go_simp
          with_reducible rfl
         rotate_left
         ·simp only[Act.put,List.setIfInBounds_toArray,List.set_cons_zero,List.set_cons_succ,bd,bh]
          rfl
         refine cy (i:=12) (N:=some 30) (v:=?_) (a':=?_) #[true,true,true,true,true,true,true,true,true,true,true,true,true,false,false] rfl rfl (cz b.out (by kernel_rfl)) (fun _ _ _ h=>h) (Or.inl ⟨by rfl,?_⟩) ?_ ?_;rotate_left
         ·intro w'
          go_simp
          with_reducible rfl
         rotate_left
         ·simp only[Act.put,List.setIfInBounds_toArray,List.set_cons_zero,List.set_cons_succ,bd,bh]
          rfl
         refine cy (i:=13) (N:=some 31) (v:=?_) (a':=?_) #[true,true,true,true,true,true,true,true,true,true,true,true,true,true,false] rfl rfl (cz b.out (by kernel_rfl)) (fun _ _ _ h=>h) (Or.inl ⟨by rfl,?_⟩) ?_ ?_;rotate_left
         ·intro w'
          go_simp
          with_reducible rfl
         rotate_left
         ·simp only[Act.put,List.setIfInBounds_toArray,List.set_cons_zero,List.set_cons_succ,bd,bh]
          rfl
         refine xF (i:=14) (N:=none) #[true,true,true,true,true,true,true,true,true,true,true,true,true,true,true] rfl rfl (iY b.out (by kernel_rfl)) (by decide) (fun K hK=>?_);refine xH (w1:=?_) (by rfl) rfl ?_ ?_;rotate_left
         ·go_simp
          rfl
         refine hK.out _ _ ?_;clear hK K;refine mW (np b.out (by kernel_rfl)) ?_;try go_wp2
         go_roundg k1
         case measure=>have:=ag.out;omega
         case rel=>exact⟨(am),(wrap64 (a+1)),zT,z,⟨by have:=ag.out;omega⟩,⟨zR aO⟩,⟨by repeat(first|(with_reducible first|exact g.out|apply aq|apply bP|apply bL|refine ec ?_ b3.out)|exact g.out)⟩⟩
        ·rw[if_neg E] at H
         exact absurd H (by simp)
       ·rw[if_neg D] at H
        exact absurd H (by simp)
      ·rw[if_neg B] at H
       exact absurd H (by simp)
     ·rw[if_neg p] at H
      have bk:=decide_eq_false p;clear p;obtain rfl:=Option.some.inj H;go_wp2;go_ret;exact⟨_,zE,by(with_reducible repeat(first|apply Kd.aI|apply Kd.ba|apply Kd.a8));exact j.out,zB⟩
  ·rw[if_neg m] at H
   exact absurd H (by simp)
 ·rw[if_neg c4] at H
  exact absurd H (by simp)
def kr.f (k:Nat) (a:Int) (b:List (S83)) (l1:List Int):Option (List Int):=(fp.f k a b).bind fun t173=>((dm.f k t173 l1 (-1)).bind fun t176=>(some t176))
theorem kr.calls (k:Nat) (j:Int) (m:Option Addr) (n:Nat) (a:List (S83)) (o:Option Addr) (c1:Nat) (l1:List Int) (r:List Int) (w:World) (q:Kd.C aK w m a.length a) (s:a.length<=n) (u:Kd.C (Kd.int .i64) w o l1.length l1) (v:l1.length<=c1) (h:kr.f k j a l1=some r):
  Calls Tryz.prog 81 #[.agg #[.int .i64 j,.slice m a.length n],.slice o l1.length c1] w fun e w'=>∃x:Value,e= .returned (x)∧Kd.R (Kd.int .i64) 3 w' w.heap.size (fun _=>True) x r∧Below w.heap.size w w':=by
 have M:=Tryz.underlying24;have z:=Aside0.mk q;have B:=Aside0.mk s;clear q s;have D:=Aside0.mk u;have E:=Aside0.mk v;clear u v;have b:=Aside0.mk (Below.refl w.heap.size w);unfold kr.f at h;have H:=h;clear h;obtain⟨t173,F,H⟩:=zo H;obtain⟨t176,G,H⟩:=zo H;obtain rfl:=Option.some.inj H;go_enter Tryz.func81,Tryz.ntmps81
 go_wp2_with (first|((with_reducible refine aH (N:=2) rfl ?_);refine zX 2 #[.int .i64 j,.slice m a.length n] 24 ?_;intro O p P y hb;have l:=Aside0.mk (y);have Q:=zG b p;have S:=zG b p;replace b:=zS b hb;clear hb y p;obtain⟨T,U,V,W⟩:=au l)|((with_reducible refine ax (f:=90) rfl ?_);refine zL (some 6) Tryz.func90 #[.agg #[.int .i64 j,.slice m a.length n]] ?_;(with_reducible refine(fp.calls k j _ _ a t173 _ ?af ?ah F.out).mono ?_);(case af=>exact Kd.al z.out zB);(case ah=>exact B.out);rintro e X ⟨Y,rfl,g,hb⟩;refine⟨_,rfl,?_⟩;have i:=Aside0.mk (Kd.aW g (a_ zB));replace l:=zb l hb;replace b:=zS b hb;(try clear hb);(try clear g);obtain⟨I,J,K⟩:=Kd.aZ i.out;subst K)|((with_reducible refine ax (f:=134) rfl ?_);refine zL (some 8) Tryz.func134 #[.slice I t173.length J,.slice o l1.length c1,.int .i64 (-1)] ?_;(with_reducible refine(dm.calls k _ _ t173 _ _ l1 (-1) t176 _ ?af ?ah ?aD ?aE G.out).mono ?_);(case af=>exact zC (Kd.aA i.out).2.2);(case ah=>exact(Kd.aA i.out).2.1);(case aD=>exact Kd.al D.out zB);(case aE=>exact E.out);rintro e Z ⟨aa,rfl,g,hb⟩;refine⟨_,rfl,?_⟩;have L:=Aside0.mk (Kd.aW (Kd.bz g (Kd.aX (zR i))) (a_ zB));replace i:=bB i g hb;replace l:=zb l hb;replace b:=zS b hb;(try clear hb);(try clear g)))
 go_ret;exact⟨_,zE,by(with_reducible repeat(first|apply Kd.aI|apply Kd.ba|apply Kd.a8));exact Kd.aV L.out (fun _ hk=>trivial),zB⟩
def eH.f (k:Nat) (a:Int) (b:List (S83)) (l1:List Int) (a2:Int):Option (Bool):=(dX.f k a b l1 a2).bind fun t180=>(if t180=true then((gP.f k a b l1).bind fun t181=>(if t181=0 then((kr.f k a b l1).bind fun t182=>((dX.f k a b t182 a2).bind fun t185=>(some t185))) else(some true))) else(some false))
def eH.T3:Bool×List (List Nat×List Nat):=(true,[([],[]),([],[]),([0,1],[0,1]),([2],[2]),([3,2],[3]),([4],[4]),([4],[4]),([4],[4]),([6,7,4,4],[4,6,7]),([4],[4]),([5,8,9,8,4],[4,5,8,9]),([4,10],[4,10]),([11,10,0,1,2,3,4,5,6,7,8,9,10,11],[11])])
def eH.B3:List Nat:=[0,0,3,7,15,31,31,31,223,31,1023,2047,4095]
theorem eH.uT:dM .any (opsOf Tryz.f25 3)=eH.T3:=by kernel_rfl
theorem eH.uU:j8 eH.T3.2 eH.B3=true:=by kernel_rfl
theorem eH.calls (k:Nat) (l:Int) (p:Option Addr) (q:Nat) (j:List (S83)) (x:Option Addr) (c1:Nat) (l1:List Int) (a2:Int) (r:Bool) (w:World) (P:Kd.C aK w p j.length j) (Q:j.length<=q) (R:Kd.C (Kd.int .i64) w x l1.length l1) (T:l1.length<=c1) (h:eH.f k l j l1 a2=some r):
  Calls Tryz.prog 25 #[.agg #[.int .i64 l,.slice p j.length q],.slice x l1.length c1,.int .i64 a2] w fun e w'=>e= .returned (.bool r)∧Below w.heap.size w w':=by
 have aL:=Tryz.underlying24;have z:=Aside0.mk P;have B:=Aside0.mk Q;clear P Q;have D:=Aside0.mk R;have E:=Aside0.mk T;clear R T;have b:=Aside0.mk (Below.refl w.heap.size w);unfold eH.f at h;have H:=h;clear h;obtain⟨t180,O,H⟩:=zo H;by_cases M:t180=true
 ·subst M
  replace H:=zi H;obtain⟨t181,U,H⟩:=zo H;by_cases I:t181=0
  ·rw[if_pos I] at H
   obtain⟨ab,ad⟩:=bt I;clear I;obtain⟨t182,A8,H⟩:=zo H;obtain⟨t185,A9,H⟩:=zo H;obtain rfl:=Option.some.inj H;go_enter Tryz.func25,Tryz.ntmps25
   try go_wp2_with (first|((with_reducible refine aH (N:=3) rfl ?_);refine zX 3 #[.int .i64 l,.slice p j.length q] 24 ?_;intro F s aO y hb;have a:=Aside0.mk (y);have V:=zG b s;have W:=zG b s;replace b:=zS b hb;clear hb y s;obtain⟨aP,aS,a0,a1⟩:=au a)|((with_reducible refine ax (f:=79) rfl ?_);refine zL (some 10) Tryz.func79 #[.agg #[.int .i64 l,.slice p j.length q],.slice x l1.length c1,.int .i64 a2] ?_;(with_reducible refine(dX.calls k l _ _ j _ _ l1 a2 true _ ?af ?ah ?aD ?aE O.out).mono ?_);(case af=>exact Kd.al z.out zB);(case ah=>exact B.out);(case aD=>exact Kd.al D.out zB);(case aE=>exact E.out);rintro e am ⟨rfl,hb⟩;refine⟨_,rfl,?_⟩;replace a:=zb a hb;replace b:=zS b hb;(try clear hb)))
   have m:=Aside0.mk (ff a.out);have o:=Aside0.mk (bL b.out);clear a;clear b;have a:=m;have b:=o;clear m o;refine mU (n:=13) (S:=fun w'=>w'.cell? ⟨F,0,none⟩=some (.int .i64 l)∧w'.cell? ⟨F,1,none⟩=some (.slice p j.length q)) (ds:=[]) #[false,false,false,false,false,false,false,false,false,false,false,false,false] (by kernel_rfl) rfl rfl ⟨(ao a.out 0).trans rfl,(ao a.out 1).trans rfl⟩ (fun hHeld=>?_);refine nt eH.uT eH.uU (fun g J=>?_);generalize am.drew=a3 at a b hHeld⊢;refine cy (i:=1) (N:=some 13) (v:=?_) (a':=?_) #[false,true,false,false,false,false,false,false,false,false,false,false,false] rfl rfl (cz g.out (by kernel_rfl)) (fun _ _ _ h=>h) (Or.inl ⟨by rfl,?_⟩) ?_ ?_;rotate_left
   ·intro w'
    go_simp
    with_reducible rfl
   rotate_left
   ·simp only[Act.put,List.setIfInBounds_toArray,List.set_cons_zero,List.set_cons_succ,bd,bh]
    rfl
   refine iC (i:=0) (N:=some 12) (v:=?_) (a':=?_) #[true,true,false,false,false,false,false,false,false,false,false,false,false] rfl rfl (iE g.out J.out (by kernel_rfl)) (fun _ _ _ h=>h) (Or.inl ⟨by rfl,?_⟩) hHeld ?_ ?_;rotate_left
   ·rintro w' ⟨s0,s1⟩
    go_simp
    with_reducible rfl
   rotate_left
   ·simp only[Act.put,List.setIfInBounds_toArray,List.set_cons_zero,List.set_cons_succ,bd,bh]
    rfl
   refine jA (i:=2) (N:=some 14) #[true,true,true,false,false,false,false,false,false,false,false,false,false] rfl rfl (iY g.out (by kernel_rfl)) (by decide) (fun K u=>?_);refine jY Tryz.func80 (by kernel_rfl) rfl #[.agg #[.int .i64 l,.slice p j.length q],.slice x l1.length c1] (by rfl) rfl rfl (by(try simp only[List.map_toArray,List.map_cons,List.map_nil]);first|done|rfl|(simp only[List.length_drop,List.length_take];rfl)) ?_;with_reducible refine(gP.calls k l _ _ j _ _ l1 t181 _ ?af ?ah ?aD ?aE U.out).mono ?_
   (case af=>exact Kd.al z.out zB)
   (case ah=>exact B.out)
   (case aD=>exact Kd.al D.out zB)
   (case aE=>exact E.out)
   rintro e a4 ⟨rfl,hb⟩;refine⟨_,rfl,?_⟩;have m:=zb a hb;have o:=zS b hb;clear a;clear b;have a:=m;have b:=o;clear m o
   (try clear hb)
   skip;skip;skip;refine u.out _ _ ⟨(ao a.out 0).trans rfl,(ao a.out 1).trans rfl⟩ (fun hHeld=>?_);clear u K;refine jB (a':=?_) ?_ ?_;rotate_left
   ·show Act.put _ (some 14) _=_
    simp only[Act.put,List.setIfInBounds_toArray,List.set_cons_zero,List.set_cons_succ,bd,bh];rfl
   refine cy (i:=3) (N:=some 15) (v:=?_) (a':=?_) #[true,true,true,true,false,false,false,false,false,false,false,false,false] rfl rfl (cz g.out (by kernel_rfl)) (fun _ _ _ h=>h) (Or.inl ⟨by rfl,?_⟩) ?_ ?_;rotate_left
   ·intro w'
    go_simp
    with_reducible rfl
   rotate_left
   ·simp only[Act.put,List.setIfInBounds_toArray,List.set_cons_zero,List.set_cons_succ,bd,bh]
    rfl
   refine cy (i:=4) (N:=some 16) (v:=?_) (a':=?_) #[true,true,true,true,true,false,false,false,false,false,false,false,false] rfl rfl (cz g.out (by kernel_rfl)) (fun _ _ _ h=>h) (Or.inl ⟨by rfl,?_⟩) ?_ ?_;rotate_left
   ·intro w'
    go_simp
    with_reducible rfl
   rotate_left
   ·simp only[Act.put,List.setIfInBounds_toArray,List.set_cons_zero,List.set_cons_succ,bd,bh]
    rfl
   refine cy (i:=7) (N:=some 19) (v:=?_) (a':=?_) #[true,true,true,true,true,false,false,true,false,false,false,false,false] rfl rfl (cz g.out (by kernel_rfl)) (fun _ _ _ h=>h) (Or.inl ⟨by rfl,?_⟩) ?_ ?_;rotate_left
   ·intro w'
    go_simp
    with_reducible rfl
   rotate_left
   ·simp only[Act.put,List.setIfInBounds_toArray,List.set_cons_zero,List.set_cons_succ,bd,bh]
    rfl
   refine cy (i:=9) (N:=some 21) (v:=?_) (a':=?_) #[true,true,true,true,true,false,false,true,false,true,false,false,false] rfl rfl (cz g.out (by kernel_rfl)) (fun _ _ _ h=>h) (Or.inl ⟨by rfl,?_⟩) ?_ ?_;rotate_left
   ·intro w'
    go_simp
    with_reducible rfl
   rotate_left
   ·simp only[Act.put,List.setIfInBounds_toArray,List.set_cons_zero,List.set_cons_succ,bd,bh]
    rfl
   refine iC (i:=5) (N:=some 17) (v:=?_) (a':=?_) #[true,true,true,true,true,true,false,true,false,true,false,false,false] rfl rfl (iE g.out J.out (by kernel_rfl)) (fun _ _ _ h=>h) (Or.inl ⟨by rfl,?_⟩) hHeld ?_ ?_;rotate_left
   ·rintro w' ⟨s0,s1⟩
    go_simp
    with_reducible rfl
   rotate_left
   ·simp only[Act.put,List.setIfInBounds_toArray,List.set_cons_zero,List.set_cons_succ,bd,bh]
    rfl
   refine iC (i:=6) (N:=some 18) (v:=?_) (a':=?_) #[true,true,true,true,true,true,true,true,false,true,false,false,false] rfl rfl (iE g.out J.out (by kernel_rfl)) (fun _ _ _ h=>h) (Or.inl ⟨by rfl,?_⟩) hHeld ?_ ?_;rotate_left
   ·rintro w' ⟨s0,s1⟩
    go_simp
    with_reducible rfl
   rotate_left
   ·simp only[Act.put,List.setIfInBounds_toArray,List.set_cons_zero,List.set_cons_succ,bd,bh]
    rfl
   refine jA (i:=8) (N:=some 20) #[true,true,true,true,true,true,true,true,true,true,false,false,false] rfl rfl (iY g.out (by kernel_rfl)) (by decide) (fun K u=>?_);refine jY Tryz.func81 (by kernel_rfl) rfl #[.agg #[.int .i64 l,.slice p j.length q],.slice x l1.length c1] (by rfl) rfl rfl (by(try simp only[List.map_toArray,List.map_cons,List.map_nil]);first|done|rfl|(simp only[List.length_drop,List.length_take];rfl)) ?_;with_reducible refine(kr.calls k l _ _ j _ _ l1 t182 _ ?af ?ah ?aD ?aE A8.out).mono ?_
   (case af=>exact Kd.al z.out zB)
   (case ah=>exact B.out)
   (case aD=>exact Kd.al D.out zB)
   (case aE=>exact E.out)
   rintro e a5 ⟨v183,rfl,X,hb⟩;refine⟨_,rfl,?_⟩;have m:=Aside0.mk (Kd.aW X (a_ zB));have o:=zb a hb;have L:=zS b hb;clear a;clear b;have G:=m;have a:=o;have b:=L;clear m o L
   (try clear hb)
   skip;skip;skip
   (try clear X)
   obtain⟨an,ap,Y⟩:=Kd.aZ G.out
   (first|subst Y|(injection Y with Z ar aa;have av:=Z.symm;have aB:=aa.symm;clear Z ar aa;subst av;subst aB))
   refine u.out _ _ ⟨(ao a.out 0).trans rfl,(ao a.out 1).trans rfl⟩ (fun hHeld=>?_);clear u K;refine jB (a':=?_) ?_ ?_;rotate_left
   ·show Act.put _ (some 20) _=_
    simp only[Act.put,List.setIfInBounds_toArray,List.set_cons_zero,List.set_cons_succ,bd,bh];rfl
   refine jA (i:=10) (N:=some 22) #[true,true,true,true,true,true,true,true,true,true,true,false,false] rfl rfl (iY g.out (by kernel_rfl)) (by decide) (fun K u=>?_);refine jY Tryz.func79 (by kernel_rfl) rfl #[.agg #[.int .i64 l,.slice p j.length q],.slice an t182.length ap,.int .i64 a2] (by rfl) rfl rfl (by(try simp only[List.map_toArray,List.map_cons,List.map_nil]);first|done|rfl|(simp only[List.length_drop,List.length_take];rfl)) ?_;with_reducible refine(dX.calls k l _ _ j _ _ t182 a2 t185 _ ?af ?ah ?aD ?aE A9.out).mono ?_
   (case af=>exact Kd.al z.out zB)
   (case ah=>exact B.out)
   (case aD=>exact zC (Kd.aA G.out).2.2)
   (case aE=>exact(Kd.aA G.out).2.1)
   rintro e a9 ⟨rfl,hb⟩;refine⟨_,rfl,?_⟩;have m:=aR G hb;have o:=zb a hb;have L:=zS b hb;clear G;clear a;clear b;have G:=m;have a:=o;have b:=L;clear m o L
   (try clear hb)
   skip;skip;skip;refine u.out _ _ ⟨(ao a.out 0).trans rfl,(ao a.out 1).trans rfl⟩ (fun hHeld=>?_);clear u K;refine jB (a':=?_) ?_ ?_;rotate_left
   ·show Act.put _ (some 22) _=_
    simp only[Act.put,List.setIfInBounds_toArray,List.set_cons_zero,List.set_cons_succ,bd,bh];rfl
   refine cy (i:=11) (N:=some 23) (v:=?_) (a':=?_) #[true,true,true,true,true,true,true,true,true,true,true,true,false] rfl rfl (cz g.out (by kernel_rfl)) (fun _ _ _ h=>h) (Or.inl ⟨by rfl,?_⟩) ?_ ?_;rotate_left
   ·intro w'
    go_simp
    with_reducible rfl
   rotate_left
   ·simp only[Act.put,List.setIfInBounds_toArray,List.set_cons_zero,List.set_cons_succ,bd,bh]
    rfl
   refine cy (i:=12) (N:=some 6) (v:=?_) (a':=?_) #[true,true,true,true,true,true,true,true,true,true,true,true,true] rfl rfl (cz g.out (by kernel_rfl)) (fun _ _ _ h=>h) (Or.inl ⟨by rfl,?_⟩) ?_ ?_;rotate_left
   ·intro w'
    go_simp
    with_reducible rfl
   rotate_left
   ·simp only[Act.put,List.setIfInBounds_toArray,List.set_cons_zero,List.set_cons_succ,bd,bh]
    rfl
   refine mW (np g.out (by kernel_rfl)) ?_;try go_wp2
   go_ret;exact⟨zE,zB⟩
  ·rw[if_neg I] at H
   obtain⟨ab,ad⟩:=bu I;obtain rfl:=Option.some.inj H;go_enter Tryz.func25,Tryz.ntmps25
   try go_wp2_with (first|((with_reducible refine aH (N:=3) rfl ?_);refine zX 3 #[.int .i64 l,.slice p j.length q] 24 ?_;intro F s be y hb;have a:=Aside0.mk (y);have V:=zG b s;have W:=zG b s;replace b:=zS b hb;clear hb y s;obtain⟨bf,bg,bi,bk⟩:=au a)|((with_reducible refine ax (f:=79) rfl ?_);refine zL (some 10) Tryz.func79 #[.agg #[.int .i64 l,.slice p j.length q],.slice x l1.length c1,.int .i64 a2] ?_;(with_reducible refine(dX.calls k l _ _ j _ _ l1 a2 true _ ?af ?ah ?aD ?aE O.out).mono ?_);(case af=>exact Kd.al z.out zB);(case ah=>exact B.out);(case aD=>exact Kd.al D.out zB);(case aE=>exact E.out);rintro e aF ⟨rfl,hb⟩;refine⟨_,rfl,?_⟩;replace a:=zb a hb;replace b:=zS b hb;(try clear hb)))
   have m:=Aside0.mk (ff a.out);have o:=Aside0.mk (bL b.out);clear a;clear b;have a:=m;have b:=o;clear m o;refine mU (n:=13) (S:=fun w'=>w'.cell? ⟨F,0,none⟩=some (.int .i64 l)∧w'.cell? ⟨F,1,none⟩=some (.slice p j.length q)) (ds:=[]) #[false,false,false,false,false,false,false,false,false,false,false,false,false] (by kernel_rfl) rfl rfl ⟨(ao a.out 0).trans rfl,(ao a.out 1).trans rfl⟩ (fun hHeld=>?_);refine nt eH.uT eH.uU (fun g J=>?_);generalize aF.drew=bn at a b hHeld⊢;refine cy (i:=1) (N:=some 13) (v:=?_) (a':=?_) #[false,true,false,false,false,false,false,false,false,false,false,false,false] rfl rfl (cz g.out (by kernel_rfl)) (fun _ _ _ h=>h) (Or.inl ⟨by rfl,?_⟩) ?_ ?_;rotate_left
   ·intro w'
    go_simp
    with_reducible rfl
   rotate_left
   ·simp only[Act.put,List.setIfInBounds_toArray,List.set_cons_zero,List.set_cons_succ,bd,bh]
    rfl
   refine iC (i:=0) (N:=some 12) (v:=?_) (a':=?_) #[true,true,false,false,false,false,false,false,false,false,false,false,false] rfl rfl (iE g.out J.out (by kernel_rfl)) (fun _ _ _ h=>h) (Or.inl ⟨by rfl,?_⟩) hHeld ?_ ?_;rotate_left
   ·rintro w' ⟨s0,s1⟩
    go_simp
    with_reducible rfl
   rotate_left
   ·simp only[Act.put,List.setIfInBounds_toArray,List.set_cons_zero,List.set_cons_succ,bd,bh]
    rfl
   refine jA (i:=2) (N:=some 14) #[true,true,true,false,false,false,false,false,false,false,false,false,false] rfl rfl (iY g.out (by kernel_rfl)) (by decide) (fun K u=>?_);refine jY Tryz.func80 (by kernel_rfl) rfl #[.agg #[.int .i64 l,.slice p j.length q],.slice x l1.length c1] (by rfl) rfl rfl (by(try simp only[List.map_toArray,List.map_cons,List.map_nil]);first|done|rfl|(simp only[List.length_drop,List.length_take];rfl)) ?_;with_reducible refine(gP.calls k l _ _ j _ _ l1 t181 _ ?af ?ah ?aD ?aE U.out).mono ?_
   (case af=>exact Kd.al z.out zB)
   (case ah=>exact B.out)
   (case aD=>exact Kd.al D.out zB)
   (case aE=>exact E.out)
   rintro e bo ⟨rfl,hb⟩;refine⟨_,rfl,?_⟩;have m:=zb a hb;have o:=zS b hb;clear a;clear b;have a:=m;have b:=o;clear m o
   (try clear hb)
   skip;skip;skip;refine u.out _ _ ⟨(ao a.out 0).trans rfl,(ao a.out 1).trans rfl⟩ (fun hHeld=>?_);clear u K;refine jB (a':=?_) ?_ ?_;rotate_left
   ·show Act.put _ (some 14) _=_
    simp only[Act.put,List.setIfInBounds_toArray,List.set_cons_zero,List.set_cons_succ,bd,bh];rfl
   refine cy (i:=3) (N:=some 15) (v:=?_) (a':=?_) #[true,true,true,true,false,false,false,false,false,false,false,false,false] rfl rfl (cz g.out (by kernel_rfl)) (fun _ _ _ h=>h) (Or.inl ⟨by rfl,?_⟩) ?_ ?_;rotate_left
   ·intro w'
    go_simp
    with_reducible rfl
   rotate_left
   ·simp only[Act.put,List.setIfInBounds_toArray,List.set_cons_zero,List.set_cons_succ,bd,bh]
    rfl
   refine cy (i:=4) (N:=some 16) (v:=?_) (a':=?_) #[true,true,true,true,true,false,false,false,false,false,false,false,false] rfl rfl (cz g.out (by kernel_rfl)) (fun _ _ _ h=>h) (Or.inl ⟨by rfl,?_⟩) ?_ ?_;rotate_left
   ·intro w'
    go_simp
    with_reducible rfl
   rotate_left
   ·simp only[Act.put,List.setIfInBounds_toArray,List.set_cons_zero,List.set_cons_succ,bd,bh]
    rfl
   refine cy (i:=5) (N:=some 17) (v:=undef) (a':=?_) #[true,true,true,true,true,true,false,false,false,false,false,false,false] rfl rfl (cz g.out (by kernel_rfl)) (fun _ _ _ h=>h) (Or.inr ⟨by rfl,rfl⟩) ?_ ?_;rotate_left
   ·simp only[Act.put,List.setIfInBounds_toArray,List.set_cons_zero,List.set_cons_succ,bd,bh]
    rfl
   refine cy (i:=6) (N:=some 18) (v:=undef) (a':=?_) #[true,true,true,true,true,true,true,false,false,false,false,false,false] rfl rfl (cz g.out (by kernel_rfl)) (fun _ _ _ h=>h) (Or.inr ⟨by rfl,rfl⟩) ?_ ?_;rotate_left
   ·simp only[Act.put,List.setIfInBounds_toArray,List.set_cons_zero,List.set_cons_succ,bd,bh]
    rfl
   refine cy (i:=7) (N:=some 19) (v:=undef) (a':=?_) #[true,true,true,true,true,true,true,true,false,false,false,false,false] rfl rfl (cz g.out (by kernel_rfl)) (fun _ _ _ h=>h) (Or.inr ⟨by rfl,rfl⟩) ?_ ?_;rotate_left
   ·simp only[Act.put,List.setIfInBounds_toArray,List.set_cons_zero,List.set_cons_succ,bd,bh]
    rfl
   refine cy (i:=8) (N:=some 20) (v:=undef) (a':=?_) #[true,true,true,true,true,true,true,true,true,false,false,false,false] rfl rfl (cz g.out (by kernel_rfl)) (fun _ _ _ h=>h) (Or.inr ⟨by rfl,rfl⟩) ?_ ?_;rotate_left
   ·simp only[Act.put,List.setIfInBounds_toArray,List.set_cons_zero,List.set_cons_succ,bd,bh]
    rfl
   refine cy (i:=9) (N:=some 21) (v:=undef) (a':=?_) #[true,true,true,true,true,true,true,true,true,true,false,false,false] rfl rfl (cz g.out (by kernel_rfl)) (fun _ _ _ h=>h) (Or.inr ⟨by rfl,rfl⟩) ?_ ?_;rotate_left
   ·simp only[Act.put,List.setIfInBounds_toArray,List.set_cons_zero,List.set_cons_succ,bd,bh]
    rfl
   refine cy (i:=10) (N:=some 22) (v:=undef) (a':=?_) #[true,true,true,true,true,true,true,true,true,true,true,false,false] rfl rfl (cz g.out (by kernel_rfl)) (fun _ _ _ h=>h) (Or.inr ⟨by rfl,rfl⟩) ?_ ?_;rotate_left
   ·simp only[Act.put,List.setIfInBounds_toArray,List.set_cons_zero,List.set_cons_succ,bd,bh]
    rfl
   refine cy (i:=11) (N:=some 23) (v:=?_) (a':=?_) #[true,true,true,true,true,true,true,true,true,true,true,true,false] rfl rfl (cz g.out (by kernel_rfl)) (fun _ _ _ h=>h) (Or.inl ⟨by rfl,?_⟩) ?_ ?_;rotate_left
   ·intro w'
    go_simp
    with_reducible rfl
   rotate_left
   ·simp only[Act.put,List.setIfInBounds_toArray,List.set_cons_zero,List.set_cons_succ,bd,bh]
    rfl
   refine cy (i:=12) (N:=some 6) (v:=?_) (a':=?_) #[true,true,true,true,true,true,true,true,true,true,true,true,true] rfl rfl (cz g.out (by kernel_rfl)) (fun _ _ _ h=>h) (Or.inl ⟨by rfl,?_⟩) ?_ ?_;rotate_left
   ·intro w'
    go_simp
    with_reducible rfl
   rotate_left
   ·simp only[Act.put,List.setIfInBounds_toArray,List.set_cons_zero,List.set_cons_succ,bd,bh]
    rfl
   refine mW (np g.out (by kernel_rfl)) ?_;try go_wp2
   go_ret;exact⟨zE,zB⟩
 ·replace M:=Bool.eq_false_iff.mpr M
  subst M;replace H:=zj H;obtain rfl:=Option.some.inj H;go_enter Tryz.func25,Tryz.ntmps25
  go_wp2_with (first|((with_reducible refine aH (N:=3) rfl ?_);refine zX 3 #[.int .i64 l,.slice p j.length q] 24 ?_;intro F s bv y hb;have a:=Aside0.mk (y);have V:=zG b s;have W:=zG b s;replace b:=zS b hb;clear hb y s;obtain⟨bw,bx,b0,b1⟩:=au a)|((with_reducible refine ax (f:=79) rfl ?_);refine zL (some 10) Tryz.func79 #[.agg #[.int .i64 l,.slice p j.length q],.slice x l1.length c1,.int .i64 a2] ?_;(with_reducible refine(dX.calls k l _ _ j _ _ l1 a2 false _ ?af ?ah ?aD ?aE O.out).mono ?_);(case af=>exact Kd.al z.out zB);(case ah=>exact B.out);(case aD=>exact Kd.al D.out zB);(case aE=>exact E.out);rintro e b2 ⟨rfl,hb⟩;refine⟨_,rfl,?_⟩;replace a:=zb a hb;replace b:=zS b hb;(try clear hb)))
  go_ret;exact⟨zE,zB⟩
def uV.f (k:Nat) (a:Int) (b:List (S83)) (l1:List Int) (a2:Int):Option (Bool):=(gD.f k a b).bind fun t187=>(if t187=0 then((cU.f k l1 a).bind fun t188=>(if t188=0 then((eH.f k a b l1 a2).bind fun t189=>(some t189)) else(some false))) else(some false))
def C4:List (Int×Int):=(List.range 12).flatMap fun a=>(List.range 12).map fun b:Nat=>(((a:Nat):Int),(b:Int))
theorem uW {N:Int} {E:List S83} (g:N<=12) (h:bm N E):E.length<=144:=by
 have h1:(E.map fun x=>(x.f0,x.f1)).length<=C4.length:=by
  refine qk ?_ (fun p hp=>?_)
  ·rw[List.pairwise_map]
   refine h.order.imp fun {x y} a e=>?_
   injection e with i e2
   unfold gI at a;omega
  ·obtain⟨x,b,rfl⟩:=List.mem_map.1 hp
   have:=h.ok x b;simp[bQ] at this;refine List.mem_flatMap.2 ⟨x.f0.toNat,List.mem_range.2 (by omega),List.mem_map.2 ⟨x.f1.toNat,List.mem_range.2 (by omega),?_⟩⟩;rw[Int.toNat_of_nonneg (by omega),Int.toNat_of_nonneg (by omega)]
 rw[List.length_map] at h1;exact h1
theorem C5 {n:Nat} {f:Nat->Nat->Int} (hf:∀u v,0<=f u v) {x:S83} (o:0<=x.f0∧x.f0<n) (h1:0<=x.f1∧x.f1<n) (p:1<=x.f2):
  (∀u v,0<=cH f x u v)∧T.sN (T.val n (cH f x)) n<=T.sN (T.val n f) n+2*x.f2:=by
 unfold cH;by_cases e:x.f0=x.f1
 ·simp only[if_pos e]
  exact⟨hf,by omega⟩
 ·simp only[if_neg e]
  refine⟨fun u v=>?_,?_⟩
  ·split
   ·omega
   ·split
    ·omega
    ·exact hf u v
  ·have i:x.f0.toNat<n:=by omega
   have hb:x.f1.toNat<n:=by omega
   have h:∀a u,0<=T.one a u:=fun a u=>by unfold T.one;split<;>omega
   have hle:∀u,u<n->T.val n (fun a b=>if a=x.f1.toNat∧b=x.f0.toNat then x.f2 else if a=x.f0.toNat∧b=x.f1.toNat then x.f2 else f a b) u<=T.val n f u+(T.one x.f1.toNat u*x.f2+T.one x.f0.toNat u*x.f2):=fun u hu=>by
    unfold T.val;have k:T.one x.f1.toNat u*x.f2=T.sN (fun v=>(T.one x.f1.toNat u*x.f2)*T.one x.f0.toNat v) n:=by rw[T.eE,T.eY i,Int.mul_one]
    have e2:T.one x.f0.toNat u*x.f2=T.sN (fun v=>(T.one x.f0.toNat u*x.f2)*T.one x.f1.toNat v) n:=by rw[T.eE,T.eY hb,Int.mul_one]
    rw[k,e2,<-T.dn,<-T.dn];refine T.cM fun v q=>?_
    have r:=hf u v;have s:0<=T.one x.f1.toNat u*x.f2*T.one x.f0.toNat v:=Int.mul_nonneg (Int.mul_nonneg (h _ _) (by omega)) (h _ _);have w:0<=T.one x.f0.toNat u*x.f2*T.one x.f1.toNat v:=Int.mul_nonneg (Int.mul_nonneg (h _ _) (by omega)) (h _ _);show (if u=x.f1.toNat∧v=x.f0.toNat then x.f2 else if u=x.f0.toNat∧v=x.f1.toNat then x.f2 else f u v)<=_
    split
    ·rename_i c
     have:T.one x.f1.toNat u*x.f2*T.one x.f0.toNat v=x.f2:=by unfold T.one;rw[if_pos c.1,if_pos c.2];omega
     omega
    ·split
     ·rename_i c
      have:T.one x.f0.toNat u*x.f2*T.one x.f1.toNat v=x.f2:=by unfold T.one;rw[if_pos c.1,if_pos c.2];omega
      omega
     ·omega
   have j:=T.cM hle;rw[T.dn,T.dn] at j;have l:T.sN (fun u=>T.one x.f1.toNat u*x.f2) n=x.f2:=by
    rw[T.bC (g:=fun u=>x.f2*T.one x.f1.toNat u) (fun u _=>Int.mul_comm _ _),T.eE,T.eY hb,Int.mul_one]
   have m:T.sN (fun u=>T.one x.f0.toNat u*x.f2) n=x.f2:=by
    rw[T.bC (g:=fun u=>x.f2*T.one x.f0.toNat u) (fun u _=>Int.mul_comm _ _),T.eE,T.eY i,Int.mul_one]
   rw[l,m] at j;omega
theorem uX {n:Nat}:∀(E:List S83) (f:Nat->Nat->Int),(∀u v,0<=f u v)->(∀x∈E,bQ n x=true)->T.sN (T.val n (E.foldl cH f)) n<=T.sN (T.val n f) n+2*fz E
 |[],f,_,_=>by simp[fz]
 |x::E,f,hf,h=>by
  have e:=h x (List.mem_cons_self ..);simp[bQ] at e;obtain⟨a,b⟩:=C5 (n:=n) hf (x:=x) (by omega) (by omega) (by omega);have i:=uX E (cH f x) a (fun y g=>h y (List.mem_cons_of_mem _ g));rw[List.foldl_cons,fz];omega
theorem C6 {n:Nat} {E:List S83} (h:bm n E):T.sN (T.val n (aj E)) n<=2*(cA E E.length:Nat):=by
 have h1:=uX (n:=n) E (fun _ _=>0) (fun _ _=>Int.le_refl _) h.ok;have b:T.sN (T.val n fun _ _=>0) n=0:=T.ga fun u _=>T.iZ n
 have a:=qw h E.length (Nat.le_refl _);rw[List.take_length] at a;unfold aj;omega
def jn (N:Int) (E:List S83):Int:=if cG N E=0 then(if partsOf E N.toNat=1 then 0 else 13) else cG N E
theorem qy (N:Int) (E:List S83) (e:E.length<=9223372036854775807):Ev (fun k=>gD.f k N E) (jn N E):=by
 unfold gD.f jn;refine Ev.bind (sw N E e) ?_;by_cases b:cG N E=0
 ·obtain⟨h1,g,h⟩:=gJ b
  obtain⟨n,rfl⟩:=Int.eq_ofNat_of_zero_le (show 0<=N by omega);have i:=uW g h;simp only[if_pos b,Int.toNat_natCast];refine Ev.bind (a:=decide (partsOf E n=1)) ?_ ?_
  ·unfold kY.f
   refine Ev.bind (zQ E (by omega) n (by omega)) ?_;rw[show (((partsOf E n:Nat):Int)==1)=decide (partsOf E n=1) by rw[Bool.eq_iff_iff];simp;omega];exact Ev.const _
  ·by_cases hp:partsOf E n=1
   ·simp only[decide_eq_true hp,if_true,if_pos hp];exact Ev.const _
   ·simp only[decide_eq_false hp,Bool.false_eq_true,if_false,if_neg hp];exact Ev.const _
 ·simp only[if_neg b];exact Ev.const _
theorem ku {N:Int} {E:List S83} (h:jn N E=0):cG N E=0∧partsOf E N.toNat=1:=by
 unfold jn at h;by_cases a:cG N E=0
 ·rw[if_pos a] at h
  by_cases hp:partsOf E N.toNat=1
  ·exact⟨a,hp⟩
  ·rw[if_neg hp] at h;cases h
 ·rw[if_neg a] at h;exact absurd h a
def jo (N:Int) (E:List S83):Bool:=decide (E.length<=40∧N<=5∧cA E E.length<=7)
theorem uY {N:Int} {E:List S83} (b:cG N E=0):Ev (fun k=>kp.f k N E) (jo N E):=by
 unfold kp.f ko.f jo;refine Ev.bind (a:=decide (E.length<=40∧N<=5∧cA E E.length<=7)) ?_ (Ev.const _);by_cases g:E.length>40
 ·simp only[if_pos (show (E.length:Int)>40 by omega)]
  rw[decide_eq_false (fun h=>by omega)];exact Ev.const _
 ·simp only[if_neg (show ¬(E.length:Int)>40 by omega)]
  refine Ev.bind (sw N E (by omega)) ?_;simp only[if_pos b];by_cases e:N<=5
  ·simp only[if_pos e,ln.f,(gJ b).2.2.C0 (by omega),Option.bind_some,if_true]
   rw[show decide (((cA E E.length:Nat):Int)<=7)=decide (E.length<=40∧N<=5∧cA E E.length<=7) by congr 1;exact propext (by omega)];exact Ev.const _
  ·simp only[if_neg e]
   rw[decide_eq_false (fun h=>by omega)];exact Ev.const _
def iO (N:Int) (c:List Int):Int:=if(c.length:Int)=N then iN c else 8
theorem mC {N:Int} {E:List S83} (h:jn N E=0) (b:E.length<=9223372036854775807) (c:List Int):Ev (fun k=>gP.f k N E c) (iO N c):=by
 unfold gP.f;have a:=gJ (ku h).1;have h1:=qy N E b;rw[h] at h1;refine Ev.bind h1 ?_;simp only[if_true];exact Ev.bind (mB c N ⟨a.1,a.2.1⟩) (Ev.const _)
def kx (c:List Int):Bool:=c.all fun x=>decide (-100<=x∧x<=100)
theorem qz (c:List Int) (e:c.length<=1000):∀(m i:Nat),i+m=c.length->Ev (fun k=>fc.l0 k c i) (kx (c.drop i))
 |0,i,hi=>by
  refine Ev.of_succ ?_;simp only[fc.l0,if_neg (show ¬((i:Int)<(c.length:Int)) by omega)];rw[List.drop_eq_nil_of_le (by omega)];exact Ev.const _
 |m+1,i,hi=>by
  have a:=qz c e m (i+1) (by omega);refine Ev.of_succ ?_;simp only[fc.l0,if_pos (show (i:Int)<(c.length:Int) by omega),if_pos (show (0:Int)<=(i:Int) by omega),dU (show i<=1000000 by omega)];rw[uQ (by omega)];unfold kx at a⊢;rw[List.all_cons];by_cases h1:rd c i< -100
  ·simp only[if_pos h1]
   rw[decide_eq_false (fun h=>by omega),Bool.false_and];exact Ev.const _
  ·simp only[if_neg h1]
   by_cases b:rd c i>100
   ·simp only[if_pos b]
    rw[decide_eq_false (fun h=>by omega),Bool.false_and];exact Ev.const _
   ·simp only[if_neg b]
    rw[decide_eq_true (⟨by omega,by omega⟩: -100<=rd c i∧rd c i<=100),Bool.true_and];exact a
theorem uZ (c:List Int) (a:c.length<=1000):∀(m i:Nat) (s:Int),i+m=c.length->∃r,Ev (fun k=>dG.l0 k c s i) r
 |0,i,s,hi=>⟨s,by
  refine Ev.of_succ ?_;simp only[dG.l0,if_neg (show ¬((i:Int)<(c.length:Int)) by omega)];exact Ev.const _⟩
 |m+1,i,s,hi=>by
  obtain⟨r,b⟩:=uZ c a m (i+1) (wrap64 (s+rd c i)) (by omega);refine⟨r,Ev.of_succ ?_⟩;simp only[dG.l0,if_pos (show (i:Int)<(c.length:Int) by omega),if_pos (show (0:Int)<=(i:Int) by omega),dU (show i<=1000000 by omega)];exact b
theorem u_ {N:Int} {E:List S83} (h:jn N E=0) (m:E.length<=9223372036854775807) (c:List Int) (n:Int):
  ∃b,Ev (fun k=>dX.f k N E c n) b∧(b=true->jo N E=true∧(iO N c=0->kx c=true)):=by
 have l:=gJ (ku h).1;have key:∀x:Bool,x=true∨x=false∧c.length<=100∧jo N E=true->∃b,Ev (fun k=>dX.j0 k c n x N E) b∧(b=true->jo N E=true∧(iO N c=0->kx c=true)):=by
  rintro x (rfl|⟨rfl,u,g⟩)
  ·refine⟨false,Ev.of_succ ?_,fun e=>by cases e⟩
   simp only[dX.j0,if_true];exact Ev.const _
  ·by_cases i:iO N c=0
   ·cases p:kx c with
    |true=>
     obtain⟨r,s⟩:=uZ c (by omega) c.length 0 0 (by omega);refine⟨decide (r<=n),Ev.of_succ ?_,fun _=>⟨g,fun _=>rfl⟩⟩;simp only[dX.j0,Bool.false_eq_true,if_false];refine Ev.bind (mC h m c) ?_;simp only[if_pos i];refine Ev.bind (a:=true) ?_ ?_
     ·unfold fc.f
      simp only[if_neg (show ¬(c.length:Int)>100 by omega)];refine Ev.bind (mB c N ⟨l.1,l.2.1⟩) ?_;have:=qz c (by omega) c.length 0 (by omega);rw[List.drop_zero,p] at this;have o:(if(c.length:Int)=N then iN c else 8)=0:=i;simp only[if_pos o];exact this
     ·simp only[if_true]
      refine Ev.bind (a:=r) ?_ (Ev.const _);exact s
    |false=>
     refine⟨false,Ev.of_succ ?_,fun e=>by cases e⟩;simp only[dX.j0,Bool.false_eq_true,if_false];refine Ev.bind (mC h m c) ?_;simp only[if_pos i];refine Ev.bind (a:=false) ?_ (by simp only[Bool.false_eq_true,if_false];exact Ev.const _);unfold fc.f;simp only[if_neg (show ¬(c.length:Int)>100 by omega)];refine Ev.bind (mB c N ⟨l.1,l.2.1⟩) ?_;have:=qz c (by omega) c.length 0 (by omega);rw[List.drop_zero,p] at this;have o:(if(c.length:Int)=N then iN c else 8)=0:=i;simp only[if_pos o];exact this
   ·refine⟨true,Ev.of_succ ?_,fun _=>⟨g,fun e=>absurd e i⟩⟩
    simp only[dX.j0,Bool.false_eq_true,if_false];refine Ev.bind (mC h m c) ?_;simp only[if_neg i];exact Ev.const _
 unfold dX.f;cases g:jo N E with
 |true=>
  have h1:=uY (ku h).1;rw[g] at h1;obtain⟨b,hb,j⟩:=key (decide ((c.length:Int)>100)) (by by_cases q:(c.length:Int)>100;exact .inl (decide_eq_true q);exact .inr ⟨decide_eq_false q,by omega,g⟩);refine⟨b,Ev.bind h1 ?_,by rw[g] at j;exact j⟩;simp only[if_true];exact hb
 |false=>
  have h1:=uY (ku h).1;rw[g] at h1;obtain⟨b,hb,j⟩:=key true (.inl rfl);refine⟨b,Ev.bind h1 ?_,by rw[g] at j;exact j⟩;simp only[Bool.false_eq_true,if_false];exact hb
theorem qA {n:Nat} (hn:n<=12) {E:List S83} (a:E.length<=1000) (v:Int):∀(m i:Nat) (s:Int),i+m=n->∃r,Ev (fun k=>fm.l0 k v s i n E) r
 |0,i,s,hi=>⟨s,by
  refine Ev.of_succ ?_;simp only[fm.l0,if_neg (show ¬((i:Int)<(n:Int)) by omega)];exact Ev.const _⟩
 |m+1,i,s,hi=>by
  obtain⟨b,g⟩:=qA hn a v m (i+1) s (by omega);obtain⟨h,j⟩:=qA hn a v m (i+1) (wrap64 (s+dj E i v)) (by omega);by_cases e:(i:Int)=v
  ·refine⟨b,Ev.of_succ ?_⟩
   simp only[fm.l0,if_pos (show (i:Int)<(n:Int) by omega),if_pos e,dU (show i<=1000000 by omega)];exact g
  ·refine⟨h,Ev.of_succ ?_⟩
   simp only[fm.l0,if_pos (show (i:Int)<(n:Int) by omega),if_neg e,dU (show i<=1000000 by omega)];exact Ev.bind (sQ n E i v a) j
theorem u' {n:Nat} (hn:n<=12) {E:List S83} (a:E.length<=1000):∀(m i:Nat) (o:List Int),i+m=n->o.length=i->∃r:List Int,r.length=n∧Ev (fun k=>fp.l0 k o i n E) r
 |0,i,o,hi,b=>⟨o,by omega,by
  refine Ev.of_succ ?_;simp only[fp.l0,if_neg (show ¬((i:Int)<(n:Int)) by omega)];exact Ev.const _⟩
 |m+1,i,o,hi,b=>by
  obtain⟨t,e⟩:=qA hn a (i:Int) n 0 0 (by omega);obtain⟨r,g,h⟩:=u' hn a m (i+1) (o++[wrap64 (t-2)]) (by omega) (by simp[b]);refine⟨r,g,Ev.of_succ ?_⟩;simp only[fp.l0,if_pos (show (i:Int)<(n:Int) by omega),if_pos (show o.length<17592186044416 by omega),dU (show i<=1000000 by omega)];exact Ev.bind e h
theorem ve {a b:List Int} (g:a.length<=1000) (hb:a.length<=b.length) (s:Int):∀(m i:Nat) (o:List Int),i+m=a.length->o.length=a.length->∃r:List Int,Ev (fun k=>dm.l0 k a b s o i) r
 |0,i,o,hi,e=>⟨o,by
  refine Ev.of_succ ?_;simp only[dm.l0,if_neg (show ¬((i:Int)<(a.length:Int)) by omega)];exact Ev.const _⟩
 |m+1,i,o,hi,e=>by
  obtain⟨r,h⟩:=ve g hb s m (i+1) (o.set (i:Int).toNat (wrap64 (rd a i+wrap64 (s*rd b i)))) (by omega) (by rw[List.length_set];exact e);refine⟨r,Ev.of_succ ?_⟩;simp only[dm.l0,if_pos (show (i:Int)<(a.length:Int) by omega),if_pos (show (0:Int)<=(i:Int) by omega),if_pos (show (i:Int)<(b.length:Int) by omega),if_pos (show (i:Int)<(o.length:Int) by omega),dU (show i<=1000000 by omega)];exact h
theorem C7 {n:Nat} (hn:n<=12) {E:List S83} (e:E.length<=1000) {d:List Int} (hd:d.length=n):∃r,Ev (fun k=>kr.f k n E d) r:=by
 obtain⟨r,i,g⟩:=u' hn e n 0 [] (by omega) rfl;obtain⟨o,h⟩:=ve (a:=r) (b:=d) (by omega) (by omega) (-1) r.length 0 (List.replicate r.length 0) (by omega) (by simp);refine⟨o,?_⟩;unfold kr.f fp.f;refine Ev.bind g ?_;refine Ev.bind (a:=o) ?_ (Ev.const _);unfold dm.f;simp only[if_pos (show (0:Int)<=(r.length:Int) by omega),Int.toNat_natCast,if_pos (show r.length<=35184372088832 by omega)];exact h
theorem C8 {N:Int} {E:List S83} (h:jn N E=0) (g:E.length<=9223372036854775807) (d:List Int) (i:Int):
  ∃b,Ev (fun k=>eH.f k N E d i) b∧(b=true->jo N E=true∧(iO N d=0->kx d=true)):=by
 obtain⟨b,hb,j⟩:=u_ h g d i;unfold eH.f;cases l:b with
 |false=>
  subst l;refine⟨false,Ev.bind hb ?_,fun e=>by cases e⟩;simp only[Bool.false_eq_true,if_false];exact Ev.const _
 |true=>
  subst l;by_cases a:iO N d=0
  ·have m:=gJ (ku h).1
   obtain⟨n,rfl⟩:=Int.eq_ofNat_of_zero_le (show 0<=N by omega);have s:=uW m.2.1 m.2.2;have hd:d.length=n:=by
    unfold iO at a;by_cases e:(d.length:Int)=(n:Int)
    ·omega
    ·rw[if_neg e] at a;cases a
   obtain⟨r,o⟩:=C7 (n:=n) (by omega) (E:=E) (by omega) hd;obtain⟨p,q, -⟩:=u_ h g r i;refine⟨p,Ev.bind hb ?_,fun _=>j rfl⟩;simp only[if_true];refine Ev.bind (mC h g d) ?_;simp only[if_pos a];exact Ev.bind o (Ev.bind q (Ev.const _))
  ·refine⟨true,Ev.bind hb ?_,fun _=>j rfl⟩
   simp only[if_true];refine Ev.bind (mC h g d) ?_;simp only[if_neg a];exact Ev.const _
structure Curve (n:Nat) (E:List S83) (d:List Int):Prop where
 check:cG n E=0
 small:∀q,q<n->Small n q E
 val:T.sN (T.val n (aj E)) n<=14
 dl:d.length=n
 low:∀v:Nat,v<n-> -100<=rd d v∧rd d v<=100
theorem C9 {N:Int} {E:List S83} {d:List Int} (h:jn N E=0) (a:iO N d=0) (b:jo N E=true) (j:kx d=true):∃n:Nat,N=n∧1<=n∧Curve n E d:=by
 obtain⟨g,j2⟩:=ku h;obtain⟨g1,g2,g3⟩:=gJ g;obtain⟨n,rfl⟩:=Int.eq_ofNat_of_zero_le (show 0<=N by omega);rw[Int.toNat_natCast] at j2;unfold jo at b;rw[decide_eq_true_iff] at b;have hd:d.length=n:=by
  unfold iO at a;by_cases e:(d.length:Int)=(n:Int)
  ·omega
  ·rw[if_neg e] at a;cases a
 refine⟨n,rfl,by omega,g,fun q k=>⟨g3,(kc (by omega) g3).1 j2,b.1,by omega,by omega,k,by omega⟩,?_,hd,fun v m=>?_⟩
 ·have:=C6 g3
  omega
 ·have l:=List.all_eq_true.1 j
  have i:v<d.length:=by omega
  have:=l d[v] (List.getElem_mem i);rw[decide_eq_true_iff] at this;have e:rd d (v:Int)=d[v]:=by simp[rd,List.getD_eq_getElem?_getD,List.getElem?_eq_getElem i]
  rw[e];exact this
theorem C_ (N:Int) (E:List S83) (i:E.length<=9223372036854775807) (d:List Int) (l:Int):∃b,Ev (fun k=>uV.f k N E d l) b∧(b=true->∃n:Nat,N=n∧1<=n∧Curve n E d):=by
 unfold uV.f;by_cases h:jn N E=0
 ·have h1:=qy N E i
  rw[h] at h1;have a:=gJ (ku h).1;by_cases g:iO N d=0
  ·obtain⟨b,hb,m⟩:=C8 h i d l
   refine⟨b,Ev.bind h1 ?_,fun e=>?_⟩
   ·simp only[if_true]
    refine Ev.bind (mB d N ⟨a.1,a.2.1⟩) ?_;have j:(if(d.length:Int)=N then iN d else 8)=0:=g;simp only[if_pos j];exact Ev.bind hb (Ev.const _)
   ·exact C9 h g (m e).1 ((m e).2 g)
  ·refine⟨false,Ev.bind h1 ?_,fun e=>by cases e⟩
   simp only[if_true];refine Ev.bind (mB d N ⟨a.1,a.2.1⟩) ?_;have j:¬(if(d.length:Int)=N then iN d else 8)=0:=g;simp only[if_neg j];exact Ev.const _
 ·refine⟨false,Ev.bind (qy N E i) ?_,fun e=>by cases e⟩
  simp only[if_neg h];exact Ev.const _
section
def dY (w:World) (g:Nat) (p:Nat->Nat):Prop:=∃cs:Array Value,w.heap[g]? =some (.cells cs 111 (0,0))∧cs.size=12∧∀i,i<12->cs[i]? =some (.int .i64 (p i:Nat))
namespace dY
variable {w w':World} {g:Nat} {p:Nat->Nat}
theorem lt (h:dY w g p):g<w.heap.size:=by
 obtain⟨cs,hb,_⟩:=h;exact ay hb
theorem cell (h:dY w g p) (i:Nat) (hi:i<12):w.cell? ⟨g,i,none⟩=some (.int .i64 (p i:Nat)):=by
 obtain⟨cs,hb,_,a⟩:=h;exact(ao hb i).trans (a i hi)
theorem frozen (h:dY w g p) (k:Nat):w.frozen? ⟨g,k,none⟩=false:=by
 obtain⟨cs,hb,_⟩:=h;exact bq hb k
theorem grown {row:Option Nat} (h:dY w g p) (a:w.grownBy w' row) (b:some g≠row):dY w' g p:=by
 obtain⟨cs,e,i⟩:=h;exact⟨cs,cI e a b,i⟩
theorem below (h:dY w g p) (hb:Below w.heap.size w w'):dY w' g p:=by
 obtain⟨cs,a,b⟩:=h;exact⟨cs,aG a hb,b⟩
theorem alloc (h:dY w g p) (o:Obj):dY (w.alloc o) g p:=h.below (aq (Below.refl _ _) o)
theorem set (h:dY w g p) (i:Nat) (hi:i<12) (x:Nat):dY (w.setCell ⟨g,i,none⟩ (.int .i64 x)) g (fun j=>if j=i then x else p j):=by
 obtain⟨cs,a,b,l⟩:=h;refine⟨cs.setIfInBounds i (.int .i64 x),by simpa using bE a i (.int .i64 x),by simp[b],?_⟩;intro k hk;by_cases e:k=i
 ·subst e
  rw[Array.getElem?_setIfInBounds_self_of_lt (by omega)];simp
 ·rw[Array.getElem?_setIfInBounds_ne (by omega),l k hk];simp[e]
theorem congr {q:Nat->Nat} (h:dY w g p) (he:∀i,i<12->q i=p i):dY w g q:=by
 obtain⟨cs,a,b,e⟩:=h;exact⟨cs,a,b,fun i hi=>by rw[he i hi];exact e i hi⟩
end dY
theorem vf (g v:Nat) (p:Nat->Nat) (w:World) (hf:gK p) (m:v<12) (hw:dY w g p):
  Calls Tryz.prog 86 #[.pointer (some ⟨g,0,none⟩),.int .i64 v] w fun e w'=>e= .returned (.int .i64 (rootOf p v:Nat))∧w=w':=by
 go_enter Tryz.func86,Tryz.ntmps86
 go_wp2;go_loop [1] (fun u=>∃k:Nat,k<12∧u= .int .i64 k∧rootOf p k=rootOf p v) (fun u=>(intOf u).toNat)
 case atStart=>exact⟨v,m,rfl,rfl⟩
 case round=>
  obtain⟨k,hk,rfl,h⟩:=hrel;have i:=Lib.hid h;clear h;have n:=hw.cell k hk;have o:(0:Int)<=(k:Int):=by omega
  have q:(k:Int)<12:=by omega
  have hle:=hf k;by_cases j:p k<k
  ·have a:rootOf p k=rootOf p (p k):=by rw[rootOf,dif_pos j]
   have b:=Lib.hid a;clear a;have r:((p k:Nat):Int)≠(k:Int):=by omega
   go_wp2;go_round
   case rel=>exact⟨p k,by omega,rfl,by rw[<-i.out,b.out]⟩
   case measure=>simp[intOf];omega
  ·have a:rootOf p k=k:=by rw[rootOf,dif_neg j]
   have b:=Lib.hid a;clear a;have l:p k=k:=by omega
   rw[l] at n;clear l;go_wp2;go_ret;exact⟨sT (by rw[<-i.out,b.out]),rfl⟩
end
end Go.Proofs.YtffdiakgjakngaaGreat.P

