/- RiemannrochHolds answers true whatever the input (text 9 of 20): own walks and plain laws; no conditions. -/
import Derived.Deep.RegionHeld3
import Derived.Laws.EntriesVeiled
import Derived.Test.YtffdiakgjakngaaGreatHolds8
namespace Go.Proofs.YtffdiakgjakngaaGreat.P
open Go.RowKit Go.Proofs.YtffdiakgjakngaaGreatW.PrintWords Go.Proofs.YtffdiakgjakngaaGreatW.PrintLast Go.Proofs.YtffdiakgjakngaaGreatW.PrintMore
set_option linter.unusedVariables false
set_option linter.unusedSimpArgs false
set_option maxHeartbeats 8000000
set_option maxRecDepth 100000
theorem lx (t:TypeId) (i:Tryz.prog.underlying t=some (.slice 3)) (n:Nat) (hn:n<=1000):∃b:Array Value,(∀W:World,(Instr.makeSlice t (.int .i64 n) (.int .i64 n)).run Tryz.prog W= .ok (.slice (some ⟨W.heap.size,0,none⟩) n n) (W.alloc (.cells b 3)))∧
  ∀(W:World) (ok:Nat->Prop),ok W.heap.size->(Kd.int .i64).R 3 (W.alloc (.cells b 3)) W.heap.size ok (.slice (some ⟨W.heap.size,0,none⟩) n n) (List.replicate n 0):=by
 obtain⟨i0,hi,g⟩:=Option.map_eq_some_iff.1 fY;simp only[Prod.mk.injEq] at g;obtain⟨j,l,m⟩:=g;refine⟨madeCells (Value.int .i64 0).cells (n*1),fun W=>?_,fun W ok o=>⟨fun k hk=>?_,(madeCells (Value.int .i64 0).cells (n*1)).toList,?_,?_⟩⟩
 ·have a:=run_make (P:=Tryz.prog) W t 3 i0 (.int .i64 0) i hi j .i64 .i64 (n:Int) (n:Int) (by omega) (by omega) (by rw[m];omega) (by omega)
  simp only[Int.toNat_natCast] at a;rw[l] at a;exact a
 ·have:W.heap.size=k:=by simpa [Value.ownBlock] using hk
  subst this;exact o
 ·have h:=World.ownsRow_lit (base:=W.heap.size) (e:=3) (size:=1) W (madeCells (Value.int .i64 0).cells (n*1)) n (Nat.le_refl _) (by simp only[maxLen];omega) (size_madeCells _ _)
  rw[List.length_replicate];exact h
 ·exact Kd.rh (R:=(Kd.int .i64).M (W.alloc (.cells (madeCells (Value.int .i64 0).cells (n*1)) 3)) W.heap.size (fun k=>ok k∧some k≠(Value.slice (some ⟨W.heap.size,0,none⟩) n n).ownBlock)) (size:=1) (z:=Value.int .i64 0) (z0:=(0:Int)) rfl (by decide) rfl n
theorem Cb {w W:World} {gb:Nat} {v:Value} {cs:Array Value} {t:TypeId} (h1:W.heap[gb]? =some (.cells cs t (0,0))) (a:W.cell? ⟨gb,0,none⟩=some v) (b:Below gb w W):W.drew.heap[gb]? =some (.cells cs t (0,0))∧W.drew.cell? ⟨gb,0,none⟩=some v∧Below gb w W.drew:=⟨h1,a,bL b⟩
theorem Cc {w W:World} {gb:Nat} {v:Value} {cs:Array Value} {t:TypeId} {o:Obj} (h1:W.heap[gb]? =some (.cells cs t (0,0))) (a:W.cell? ⟨gb,0,none⟩=some v) (b:Below gb w W):(W.alloc o).heap[gb]? =some (.cells cs t (0,0))∧(W.alloc o).cell? ⟨gb,0,none⟩=some v∧Below gb w (W.alloc o):=
 ⟨aw h1 _,by rw[ao (aw h1 _) 0,<-ao h1 0];exact a,b.alloc (Nat.le_of_lt (ay h1)) _⟩
theorem Cd {w W W1:World} {gb:Nat} {v:Value} {cs:Array Value} {t:TypeId} (h1:W.heap[gb]? =some (.cells cs t (0,0))) (a:W.cell? ⟨gb,0,none⟩=some v) (b:Below gb w W) (hb:Below W.heap.size W W1):W1.heap[gb]? =some (.cells cs t (0,0))∧W1.cell? ⟨gb,0,none⟩=some v∧Below gb w W1:=
 ⟨aG h1 hb,by rw[ao (aG h1 hb) 0,<-ao h1 0];exact a,b.trans ⟨hb.os,hb.tape,hb.output,hb.size,fun k hk=>hb.block k (by have:=ay h1;omega)⟩⟩
theorem ly {W:World} {o:Obj} {g:Nat} (h:g=W.heap.size):(W.alloc o).heap[g]? =some o:=by rw[h];exact heap_alloc_new W o
theorem lz {a w1 W':World} {gb bv:Nat} {v:Value} {dl:List Int} (b:(Kd.int .i64).R 3 w1 a.heap.size (fun _=>True) v dl) (e:gb<=a.heap.size)
  (g:∀{ok:Nat->Prop},(Kd.int .i64).R 3 w1 gb ok v dl->(Kd.int .i64).R 3 W' gb ok v dl) (h:bv<a.heap.size∨w1.heap.size<=bv):(Kd.int .i64).R 3 W' gb (fun k=>k≠bv) v dl:=
 g (Kd.aW (Kd.aV (Kd.eC b) (fun k hk=>by have i:=hk.2.1;have a2:=hk.2.2.1;omega)) e)
theorem dE {b w1 W' Y:World} {gb bv n:Nat} {v:Value} {dl:List Int} {a:Array Value} (h:(Kd.int .i64).R 3 (Y.alloc (.cells a 3)) Y.heap.size (fun k=>k=Y.heap.size) (.slice (some ⟨Y.heap.size,0,none⟩) n n) (List.replicate n 0)) (i:bv=Y.heap.size)
  (hb:Below (Y.alloc (.cells a 3)).heap.size (Y.alloc (.cells a 3)) W') (g:(Kd.int .i64).R 3 w1 b.heap.size (fun _=>True) v dl) (j:gb<=bv) (l:bv<b.heap.size∨w1.heap.size<=bv):
  (Kd.int .i64).R 3 W' gb (fun k=>some k≠v.ownBlock) (.slice (some ⟨bv,0,none⟩) n n) (List.replicate n 0):=by
 subst i;refine Kd.aW (Kd.aV (Kd.cp h hb) (fun k hk e=>?_)) j;have h1:=Kd.dK g k e.symm;have m:=Kd.aX g k e.symm;omega
theorem Ce (k n:Nat) (A0:Option Addr) (c0:Nat) (E:List S83) (q:Int) (Ad:Option Addr) (cd:Nat) (dl:List Int) (w:World) (er:Kd.C aK w A0 E.length E) (es:E.length<=c0) (hd:Kd.C (Kd.int .i64) w Ad dl.length dl) (ev:dl.length<=cd)
  (hn:n<=12) (b':dl.length=n) (ht:aY.f k n E=some 0) (hE:eF E=true) (cc:dV n E):
  Calls Tryz.prog 212 #[.agg #[.int .i64 n,.slice A0 E.length c0],.int .i64 q,.slice Ad dl.length cd] w fun e w'=>∃(gp:Nat) (r ce:Option Addr) (s cf:Nat) (rv:Value),e= .returned (.tuple #[.pointer (some ⟨gp,0,none⟩),.int .i64 0])∧cw w' gp (.slice r dl.length s) q rv (.slice ce n cf) (fun x=>if x<dl.length then iq q (gA n E) dl x else false)∧(Kd.int .i64).R 3 w' w.heap.size (fun _=>True) (.slice ce n cf) (gA n E)∧Below w.heap.size w w':=by
 have hu:=Tryz.underlying24;have gs:=Tryz.underlying236;have gt:=Tryz.underlying234;have gx:=Tryz.underlying205;have g1:dl.length<=12:=by omega
 have ew:=Aside0.mk b';clear b';have Ht:=Aside0.mk ht;have HE:=Aside0.mk hE;have HI:=Aside0.mk cc.get;clear ht hE cc;have HC:=Aside0.mk (fun W h=>mj.calls Ad cd dl dl W h ev (by unfold mj.f clone.f;rw[if_pos (by omega)]));obtain⟨o,g2,ck⟩:=lx 25 Tryz.underlying25 n (by omega);have u:=Aside0.mk ck;clear ck;go_enter Tryz.func212,Tryz.ntmps212
 go_wp2_with fail
 have aa:=Aside0.mk (show (w.alloc (.cells #[.int .i64 n,.slice A0 E.length c0] 24)).heap[w.heap.size]? =some (.cells #[.int .i64 n,.slice A0 E.length c0] 24 (0,0)) from heap_alloc_new w _);have J:(w.alloc (.cells #[.int .i64 n,.slice A0 E.length c0] 24)).cell? ⟨w.heap.size,0,none⟩=some (.int .i64 n):=(ao aa.out 0).trans rfl;have D:=Aside0.mk (aq (Below.refl w.heap.size w) (.cells #[.int .i64 n,.slice A0 E.length c0] 24));generalize (w.alloc (.cells #[.int .i64 n,.slice A0 E.length c0] 24))=W0 at J aa D⊢;have cl:=ay aa.out;have co:=fun W h=>Kd.al (w:=w) (w1:=W) hd h
 have a3:=Aside0.mk co;clear co;generalize a4:w.heap.size=gb at J aa cl D a3⊢;refine Code.wp_mono (Q:=fun e a W'=>e=Exit.normal∧∃(gp bv bf s:Nat) (r:Option Addr) (u16 u17 u18 u19 u20 u21 u22 u23 u24 u25 u26:Value),a={tmps:=#[.agg #[.int .i64 n,.slice A0 E.length c0],.int .i64 q,.slice Ad dl.length cd,.pointer (some ⟨gb,0,none⟩),undef,undef,.pointer none,.int .i64 0,.pointer (some ⟨gp,0,none⟩),undef,undef,undef,undef,undef,undef,undef,u16,u17,u18,u19,u20,u21,u22,u23,u24,u25,u26,undef,undef,undef,undef,undef,undef,undef,undef,undef,undef,undef,undef,undef,undef,undef,undef,undef,undef,undef,undef,undef,undef,undef,undef,undef,undef,undef,undef,undef,undef,undef,undef,undef,undef,undef,undef,undef,undef,undef,undef,undef,undef,undef,undef,undef,undef,undef,undef,undef,undef,undef,undef,undef,undef,undef,undef,undef,undef,undef,undef,undef,undef,undef,undef,undef,undef,undef,undef,undef,undef,undef,undef,undef,undef,undef,undef,undef,undef,undef,undef,undef,undef,undef,undef,undef,undef,undef,undef,undef,undef,undef,undef,undef,undef],defers:=[]}∧gb<gp∧W'.heap[gp]? =some (.cells #[.slice r dl.length s,.int .i64 q,.slice none 0 0,.slice (some ⟨bv,0,none⟩) n n,.slice (some ⟨bf,0,none⟩) n n,.int .i64 0,.bool false,.bool false,.bool false,.bool false,.bool false,.bool false,.bool false,.bool false,.bool false,.bool false,.bool false,.bool false] 236 (0,0))∧(Kd.int .i64).R 3 W' gb (fun k=>k≠bv) (.slice r dl.length s) dl∧(Kd.int .i64).R 3 W' gb (fun k=>some k≠(Value.slice r dl.length s).ownBlock) (.slice (some ⟨bv,0,none⟩) n n) (List.replicate n 0)∧W'.heap[gb]? =some (.cells #[.int .i64 n,.slice A0 E.length c0] 24 (0,0))∧Below gb w W') ?_ ?_
 ·rintro e a W' ⟨rfl,gp,bv,bf,s,r,u16,u17,u18,u19,u20,u21,u22,u23,u24,u25,u26,rfl,g3,cs,cv,cx,a5,hB⟩
  dsimp only;have B:=Aside0.mk (show cw W' gp (.slice r dl.length s) q (.slice none 0 0) (.slice (some ⟨bv,0,none⟩) n n) (fun _=>false) from⟨_,cs,rfl,rfl,rfl,rfl,rfl,fun i hi=>by match i,hi with|0,_=>rfl|1,_=>rfl|2,_=>rfl|3,_=>rfl|4,_=>rfl|5,_=>rfl|6,_=>rfl|7,_=>rfl|8,_=>rfl|9,_=>rfl|10,_=>rfl|11,_=>rfl⟩);have T:=Aside0.mk cv;have U:=Aside0.mk cx;have G:=Aside0.mk a5;have c2:=Aside0.mk hB;have aF:W'.cell? ⟨gb,0,none⟩=some (.int .i64 n):=(ao a5 0).trans rfl;clear cs cv cx a5 hB J aa D cl HC a3;clear W0;go_wp2;go_loopw [29] (fun i wr=>∃(j:Nat) (rv:Value) (rows:List (List Int)),j<=n∧i= .int .i64 j∧Aside0 (rows.length=j)∧Aside0 (∀y∈rows,y.length=n)∧Aside0 (cw wr gp (.slice r dl.length s) q rv (.slice (some ⟨bv,0,none⟩) n n) (fun _=>false))∧Aside0 ((Kd.int .i64).R 3 wr gb (fun k=>k≠bv) (.slice r dl.length s) dl)∧Aside0 ((Kd.int .i64).R 3 wr gb (fun k=>some k≠(Value.slice r dl.length s).ownBlock) (.slice (some ⟨bv,0,none⟩) n n) (List.replicate n 0))∧Aside0 (Kd.S (Kd.slice 3 (Kd.int .i64)) 25 wr gb (fun k=>some k≠(Value.slice r dl.length s).ownBlock∧k≠bv) rv rows)∧Aside0 (wr.heap[gb]? =some (.cells #[.int .i64 n,.slice A0 E.length c0] 24 (0,0)))∧Aside0 (Below gb w wr)) (fun i _=>n- (intOf i).toNat)
  case atStart=>exact⟨0,_,[],by omega,rfl,⟨rfl⟩,⟨fun y hy=>absurd hy (by simp)⟩,B,T,U,⟨Kd.fB _ _ _ _ _⟩,G,c2⟩
  case round=>
   clear B T U G c2 aF;obtain⟨j,rv,rows,hj,rfl,K,V,B,T,U,H,G,D⟩:=hrel;by_cases g4:j<n
   ·have aQ:=ay G.out
    obtain⟨N,cr,rfl⟩:=Kd.kJ H.out;have e0:=(ao G.out 0).trans (show _=some (.int .i64 n) from rfl);have e1:(wr.alloc (.cells o 3)).drew.cell? ⟨gb,0,none⟩=some (.int .i64 n):=(ao (aw G.out _) 0).trans rfl;have e2:=B.out.lu;have e3:(wr.alloc (.cells o 3)).drew.cell? ⟨gp,2,none⟩=some (.slice N rows.length cr):=(B.out.below (aq (Below.refl _ _) _)).lu;have e4:((wr.alloc (.cells o 3)).alloc (.cells #[.slice (some ⟨wr.heap.size,0,none⟩) n n] 25)).drew.cell? ⟨gp,2,none⟩=some (.slice N rows.length cr):=(B.out.below (aq (aq (Below.refl _ _) _) _)).lu;have g5:rows.length<=12:=by have:=K.out;omega
    have bg:∀k,wr.heap.size<=k->some k≠(Value.slice r dl.length s).ownBlock∧k≠bv:=fun k hk=>⟨fun e=>by have:=Kd.aX T.out k e.symm;omega,fun e=>by have:=Kd.aX U.out bv (by simp[Value.ownBlock]);omega⟩
    have e5:=Aside0.mk (Kd.lK (Kd.a8 (Kd.aW (u.out wr (fun k=>k=wr.heap.size) rfl) (Nat.le_of_lt aQ))));have e6:=Aside0.mk (Kd.rO (Kd.oW (Kd.j4 (ok':=fun k=>(some k≠(Value.slice r dl.length s).ownBlock∧k≠bv)∧¬k=wr.heap.size) (Kd.lP H.out) (fun k hk=>⟨hk.1,by have:=hk.2.2.1;omega⟩)) (.cells o 3)));have e_:=Aside0.mk (bL (D.out.alloc (Nat.le_of_lt aQ) (.cells o 3)));have e':Aside0 (∀k,k=wr.heap.size->(some k≠(Value.slice r dl.length s).ownBlock∧k≠bv)∧some k≠(Value.slice N rows.length cr).ownBlock):=⟨fun k hk=>⟨bg k (by omega),fun e=>by have:=Kd.xP H.out k e.symm;omega⟩⟩;have fb:Aside0 (∀k,(wr.alloc (.cells o 3)).drew.heap.size<=k->some k≠(Value.slice r dl.length s).ownBlock∧k≠bv):=⟨fun k hk=>bg k (by have h1:(wr.alloc (.cells o 3)).drew.heap.size=wr.heap.size+1:=World.size_alloc wr _;omega)⟩;have fd:Aside0 (gb<=(wr.alloc (.cells o 3)).drew.heap.size):=⟨by have h1:(wr.alloc (.cells o 3)).drew.heap.size=wr.heap.size+1:=World.size_alloc wr _;omega⟩;have c3:=Aside0.mk (show cw (wr.alloc (.cells o 3)).drew gp (.slice r dl.length s) q (.slice N rows.length cr) (.slice (some ⟨bv,0,none⟩) n n) (fun _=>false) from(B.out.below (aq (Below.refl wr.heap.size wr) (.cells o 3))).drew);have c5:=Aside0.mk (show (wr.alloc (.cells o 3)).drew.heap[gb]? =some (.cells #[.int .i64 n,.slice A0 E.length c0] 24 (0,0)) from aw G.out _);have aL:=Aside0.mk (Kd.rO (Kd.oW H.out (.cells o 3)));have fn:=Aside0.mk (Kd.a8 (Kd.aI T.out (.cells o 3)));have fo:=Aside0.mk (Kd.a8 (Kd.aI U.out (.cells o 3)));clear bg;have fq:=Aside0.mk (show (wr.alloc (.cells o 3)).drew.heap.size=wr.heap.size+1 from World.size_alloc wr _);go_wp2;go_region_law ((refine Kd.xT (Kd.slice 3 (Kd.int .i64)) (w0:=w) (W:=(wr.alloc (.cells o 3)).drew) gb (by rfl) (.tmp 35) (.tmp 39) 73 25 (.slice none 0 0) 24 (by rfl) Tryz.underlying73 sn rfl (by decide) (by omega) _ rows (List.replicate n 0) [.slice (some ⟨wr.heap.size,0,none⟩) n n] (fun k=>some k≠(Value.slice r dl.length s).ownBlock∧k≠bv) (fun k=>k=wr.heap.size) (by rfl) (by rw[fq.out];rfl) e5.out e'.out fb.out e6.out e_.out fd.out (by omega) ?_;intro v4 w4 bi c6 am ft;obtain⟨X,c4,c7⟩:=Kd.kJ bi;rw[show (rows++[List.replicate n (0:Int)]).length=rows.length+1 by simp] at c7;subst c7;have c8:=Aside0.mk bi;have c':=Aside0.mk c6;have Z:=Aside0.mk (c3.out.grown am (c3.out.ql (Kd.mY aL.out) (by decide)));have dd:=Aside0.mk (cI c5.out am (Kd.xR aL.out c5.out (by decide)));have dk:=Aside0.mk (Kd.rB fn.out (Kd.mY aL.out) (by decide) am);have ds:=Aside0.mk (Kd.rB fo.out (Kd.mY aL.out) (by decide) am);have fv:=Z.out.lu;have f0:=Z.out.frozen 2;clear bi c6 am ft))
    all_goals have n0:=Aside0.mk (Z.out.BR (.slice X (rows.length+1) c4))
    all_goals have n1:=Aside0.mk (Z.out.eK dk.out (by decide) 2 (.slice X (rows.length+1) c4))
    all_goals have n2:=Aside0.mk (Z.out.eK ds.out (by decide) 2 (.slice X (rows.length+1) c4))
    all_goals have n3:=Aside0.mk (Z.out.oX c8.out (by decide) 2 (.slice X (rows.length+1) c4))
    all_goals have n4:=Aside0.mk (aC (p:=⟨gp,2,none⟩) dd.out (show gb≠gp by omega) (.slice X (rows.length+1) c4))
    all_goals have n5:=Aside0.mk (c'.out.setCell (p:=⟨gp,2,none⟩) (by show gb<=gp;omega) (.slice X (rows.length+1) c4))
    all_goals clear fv f0 e0 e1 e2 e3 e4 Z dd dk ds c' c8
    all_goals generalize (w4.setCell ⟨gp,2,none⟩ (.slice X (rows.length+1) c4))=w5 at n0 n1 n2 n3 n4 n5⊢
    all_goals go_wp2
    all_goals exact⟨⟨j+1,_,_,by omega,by go_num,⟨by simp[K.out]⟩,⟨fun y hy=>by rcases List.mem_append.1 hy with h|h;exact V.out y h;(simp at h;subst h;simp)⟩,n0,n1,n2,n3,n4,n5⟩,(show n- ((j:Int)+1).toNat<n- ((j:Int)).toNat by omega)⟩
   ·obtain rfl:n=j:=by omega
    have aF:wr.cell? ⟨gb,0,none⟩=some (.int .i64 n):=(ao G.out 0).trans rfl;have g:wr.cell? ⟨gb,1,none⟩=some (.slice A0 E.length c0):=(ao G.out 1).trans rfl;have aQ:=ay G.out;have d3:=Aside0.mk (BW k n A0 c0 E wr (Kd.al er (by rw[a4];exact D.out)) es Ht.out HE.out);go_wp2_with (first|(go_at_call 178;refine d3.out.mono ?_;rintro e w1 ⟨v9,rfl,bk,ab⟩;obtain⟨A9,c9,d4⟩:=Kd.aZ bk;rw[ur] at d4;subst d4;have an:=Aside0.mk bk;have d5:=Aside0.mk (B.out.below ab);have bn:=Aside0.mk (Kd.mX H.out ab);have d6:=Aside0.mk (Kd.cp T.out ab);have bo:=Aside0.mk (Kd.cp U.out ab);have d7:=Aside0.mk (D.out.trans (ab.mono (Nat.le_of_lt aQ)));clear bk ab))
    all_goals go_wp2
    have bw:=Aside0.mk (BX (n:=n) HI.out);have bx:=Aside0.mk (ux HE.out);obtain⟨N,cr,ag⟩:=Kd.kJ bn.out;rw[K.out] at ag;subst ag;replace an:=Aside0.mk (Kd.aW (Kd.m_ an.out) (Nat.le_of_lt aQ));have aO:=Aside0.mk (show gA n E=dw n (bT E E.length) (bT E E.length).length from rfl);generalize bT E E.length=L at an bw bx aO⊢;have f4:=bx.out;have d8:List.replicate n (0:Int)=dw n L 0:=rfl;rw[d8] at bo;clear d8 d3 B H T U D G aF g aQ;go_loopw [54] (fun i wr=>∃(j:Nat) (rows:List (List Int)),j<=L.length∧i= .int .i64 j∧Aside0 (rows.length=n)∧Aside0 (∀y∈rows,y.length=n)∧Aside0 (cw wr gp (.slice r dl.length s) q (.slice N n cr) (.slice (some ⟨bv,0,none⟩) n n) (fun _=>false))∧Aside0 ((Kd.int .i64).R 3 wr gb (fun k=>k≠bv) (.slice r dl.length s) dl)∧Aside0 ((Kd.int .i64).R 3 wr gb (fun k=>some k≠(Value.slice r dl.length s).ownBlock) (.slice (some ⟨bv,0,none⟩) n n) (dw n L j))∧Aside0 (Kd.S (Kd.slice 3 (Kd.int .i64)) 25 wr gb (fun k=>some k≠(Value.slice r dl.length s).ownBlock∧k≠bv) (.slice N n cr) rows)∧Aside0 ((Kd.raw 2).R 205 wr gb (fun _=>True) (.slice A9 L.length c9) (fk L))∧Aside0 (Below gb w wr)) (fun i _=>L.length- (intOf i).toNat)
    case atStart=>exact⟨0,_,by omega,rfl,K,V,d5,d6,bo,bn,an,d7⟩
    case round=>
     clear d5 d6 bo bn an d7 K V;obtain⟨j,rows,hj,rfl,K,V,B,O,M,H,HR,D⟩:=hrel;by_cases ap:j<L.length
     ·obtain⟨-, -,d9⟩:=Kd.aA HR.out
      obtain⟨ad,rfl,J,ar⟩:=B9 d9 j (by rw[ur];exact ap) ap;have P:=bw.out _ (List.getElem_mem ap);have b0:=Lib.hid (B4 n L j ap);generalize L[j]=x at J ar P b0;obtain⟨i,a,b⟩:=x;simp only at J ar P;obtain⟨a,rfl⟩:=Int.eq_ofNat_of_zero_le P.1;obtain⟨b,rfl⟩:=Int.eq_ofNat_of_zero_le P.2.2.1;have ha:a<n:=by omega
      have hb:b<n:=by omega
      have g6:(0:Int)<=(j:Int):=by omega
      have g7:(j:Int)<(L.length:Int):=by omega
      clear P d9;have HO:=Aside0.mk (show (wr.alloc (.cells #[.int .i64 a,.int .i64 b] 205)).heap[wr.heap.size]? =some (.cells #[.int .i64 a,.int .i64 b] 205 (0,0)) from heap_alloc_new wr _);obtain⟨g0,f5,ag, -, -, -⟩:=Kd.oY H.out (by have:=K.out;omega);injection ag with ag _ f6
      subst ag;have F:=Aside0.mk (PS.mk (L:=L) K.out V.out (B.out.below (aq (Below.refl _ _) (.cells #[.int .i64 a,.int .i64 b] 205))) (Kd.aI O.out (.cells #[.int .i64 a,.int .i64 b] 205)) (Kd.aI M.out (.cells #[.int .i64 a,.int .i64 b] 205)) (Kd.oW H.out (.cells #[.int .i64 a,.int .i64 b] 205)) (Kd.aI HR.out (.cells #[.int .i64 a,.int .i64 b] 205)) (D.out.alloc (by have:=D.out.size;omega) (.cells #[.int .i64 a,.int .i64 b] 205)));go_wp2;clear B O M H HR D J ar K V f6 f5;generalize (wr.alloc (.cells #[.int .i64 a,.int .i64 b] 205))=W1 at HO F⊢;generalize wr.heap.size=ob at HO⊢;have J:W1.cell? ⟨ob,0,none⟩=some (.int .i64 a):=(ao HO.out 0).trans rfl;have ar:W1.cell? ⟨ob,1,none⟩=some (.int .i64 b):=(ao HO.out 1).trans rfl;go_quiet (fail)
      replace F:=Aside0.mk (F.out.drewN nq);clear J ar HO;generalize W1.drewN nq=W2 at F⊢;clear W1;have g8:(0:Int)<=(a:Int):=by omega
      have g9:(a:Int)<(n:Int):=by omega
      have aF:(0:Int)<=(b:Int):=by omega
      have g:(b:Int)<(n:Int):=by omega
      by_cases P:a=b
      ·subst P
       have eb:dw n L j=dw n L (j+1):=by rw[b0.out];unfold gz;rw[if_pos rfl]
       rw[eb] at F;clear eb;go_wp2;exact⟨⟨j+1,rows,by omega,by go_num,⟨F.out.len⟩,⟨F.out.all⟩,⟨F.out.iu⟩,⟨F.out.d⟩,⟨F.out.val⟩,⟨F.out.rows⟩,⟨F.out.ends⟩,⟨F.out.below⟩⟩,(show L.length- ((j:Int)+1).toNat<L.length- ((j:Int)).toNat by omega)⟩
      ·have g':((a:Int) != (b:Int))=true:=by simp;omega
       have hc:=F.out.iu.lu;have b2:=uB n L j;have f7:=b2 a;obtain⟨gi,ci,z,he,hf,hg,ed⟩:=F.out.row a b ha hb;obtain⟨hh,h3⟩:=ed (wrap64 (z+1));have H3:=Aside0.mk h3;have hl:=h3.iu.lu;obtain⟨hm,ho,z3,hp,hq,hr,eg⟩:=h3.row b a hb ha;obtain⟨f9,h4⟩:=eg (wrap64 (z3+1));have H4:=Aside0.mk h4;have hs:=h4.iu.n9;obtain⟨gc,hv,ek⟩:=h4.uC a ha;have h5:=ek (rd (dw n L j) a+1);have H5:=Aside0.mk h5;have ge:=h5.iu.n9;obtain⟨b3,gf,b4⟩:=h5.uC b hb;have el:=qm (v:=a) b2 b;rw[show (dw n L j).set a (rd (dw n L j) a+1)=ir (dw n L j) a from rfl] at b3 b4;have I:=Aside0.mk (b4 (rd (ir (dw n L j) a) b+1));rw[show (ir (dw n L j) a).set b (rd (ir (dw n L j) a) b+1)=dw n L (j+1) from by rw[b0.out];unfold gz;rw[if_neg (show ¬((i,(a:Int),(b:Int)).2.1=(i,(a:Int),(b:Int)).2.2) from fun e=>P (Int.ofNat.inj e))];rfl] at I;clear ed eg ek b4 h3 h4 h5 b2 H3 H4 H5;generalize rd (dw n L j) a=va at f7 gc ge b3 gf el I;generalize rd (ir (dw n L j) a) b=vb at el b3 I;go_wp2;exact⟨⟨j+1,f9,by omega,by go_num,⟨I.out.len⟩,⟨I.out.all⟩,⟨I.out.iu⟩,⟨I.out.d⟩,⟨I.out.val⟩,⟨I.out.rows⟩,⟨I.out.ends⟩,⟨I.out.below⟩⟩,(show L.length- ((j:Int)+1).toNat<L.length- ((j:Int)).toNat by omega)⟩
     ·obtain rfl:j=L.length:=by omega
      have gg:=B.out.uo;go_wp2;have b5:=Aside0.mk (uz n L L.length);generalize dw n L L.length=vl at M b5 aO⊢;clear H HR K V gg f4 bw bx ap hj;go_loopw [113] (fun i wr=>∃(j:Nat),j<=dl.length∧i= .int .i64 j∧Aside0 (cw wr gp (.slice r dl.length s) q (.slice N n cr) (.slice (some ⟨bv,0,none⟩) n n) (fun x=>if x<j then iq q vl dl x else false))∧Aside0 ((Kd.int .i64).R 3 wr gb (fun k=>k≠bv) (.slice r dl.length s) dl)∧Aside0 ((Kd.int .i64).R 3 wr gb (fun k=>some k≠(Value.slice r dl.length s).ownBlock) (.slice (some ⟨bv,0,none⟩) n n) vl)∧Aside0 (Below gb w wr)) (fun i _=>dl.length- (intOf i).toNat)
      case atStart=>exact⟨0,by omega,rfl,⟨by simpa using B.out⟩,O,M,D⟩
      case round=>
       clear B O M D;obtain⟨j,hj,rfl,B,O,M,D⟩:=hrel;by_cases gl:j<dl.length
       ·obtain⟨-, -,em⟩:=Kd.aA O.out
        obtain⟨-, -,b6⟩:=Kd.aA M.out;rw[b5.out] at b6;have HW:=Aside0.mk (B_ gp j n q r (some ⟨bv,0,none⟩) s n dl vl (.slice N n cr) _ wr (by omega) gl b5.out (by have:=ew.out;omega) B.out em b6);clear em b6;go_wp2_with (go_at_call 218;refine HW.out.mono ?_;rintro e w5 ⟨rfl,b_,a2⟩;rw[Ca] at b_;have gn:=Aside0.mk b_;have go:=Aside0.mk (Kd.gX O.out rfl a2 (B.out.ql (Kd.fS O.out) (by decide)));have gq:=Aside0.mk (Kd.gX M.out rfl a2 (B.out.ql (Kd.fS M.out) (by decide)));have gr:=Aside0.mk (ju D.out (some gp) (by have:=D.out.size;omega) a2 (fun k e=>by cases e;omega));clear b_ a2)
        all_goals go_wp2
        all_goals go_roundw
        case rel=>exact⟨j+1,by omega,by go_num,gn,go,gq,gr⟩
        case measure=>exact(show dl.length- ((j:Int)+1).toNat<dl.length- ((j:Int)).toNat by omega)
       ·obtain rfl:j=dl.length:=by omega
        go_wp2;go_ret2;exact⟨gp,r,_,s,n,_,rfl,by rw[aO.out];exact B.out,by rw[aO.out,a4];exact Kd.aV M.out (fun _ _=>trivial),by rw[a4];exact D.out⟩
 ·go_region_held3 (fun w'=>w'.heap[gb]? =some (.cells #[.int .i64 n,.slice A0 E.length c0] 24 (0,0))∧w'.cell? ⟨gb,0,none⟩=some (.int .i64 n)∧Below gb w w')
   (first
    |exact Cb aa.out J D.out
    |((try go_split_ands);refine⟨by assumption,by assumption,by assumption⟩)
    |((try go_split_ands);exact Cc (by assumption) (by assumption) (by assumption))
    |((try go_split_ands);exact Cd (by assumption) (by assumption) (by assumption) (by assumption))
    |fail)
   ((go_at_call 217;refine(HC.out _ (a3.out _ (by go_split_ands;assumption))).mono ?_;rintro e w1 ⟨v1,rfl,m,g⟩;obtain⟨r,s,rfl⟩:=Kd.aZ m))
  ·refine⟨rfl,?Ii,?GK,?H_,?Gx,?Iv,?GR,?Iw,?Hd,?Gt,?Hc,?GN,?Il,?GL,?Hu,?Hz,?Hn,?FW,?F0,?FC,?FO,?FL,by(go_split_ands;assumption),by(go_split_ands;assumption)⟩
   case FW=>rfl
   case FC=>(refine ly ?_;first|rfl|(simp;done))
   case F0=>(have h1:=g.size;first|omega|(simp at h1⊢;done)|(simp at h1⊢;omega)|(have l:W0.drew.heap.size=W0.heap.size:=rfl;simp[World.drew] at h1⊢;omega))
   case FO=>
    refine lz m ?_ ?_ ?_
    ·(have h1:=g.size;first|omega|(simp at h1⊢;done)|(simp at h1⊢;omega)|(have l:W0.drew.heap.size=W0.heap.size:=rfl;simp[World.drew] at h1⊢;omega))
    ·(first|exact fun h=>h|exact fun h=>Kd.aI h _|exact fun h=>Kd.aI (Kd.aI h _) _|exact fun h=>Kd.aI (Kd.aI (Kd.aI h _) _) _)
    ·(have h1:=g.size;first|omega|(simp at h1⊢;done)|(simp at h1⊢;omega)|(have l:W0.drew.heap.size=W0.heap.size:=rfl;simp[World.drew] at h1⊢;omega))
   case FL=>
    first
     |(refine dE (Y:=w1) (u.out _ _ rfl) ?_ ?_ m ?_ ?_;(focus (first|rfl|(simp;done)));(focus ((repeat(first|exact Below.refl _ _|apply aq|apply bL|refine aU ?_ g));done));(focus (have h1:=g.size;first|omega|(simp at h1⊢;done)|(simp at h1⊢;omega)|(have l:W0.drew.heap.size=W0.heap.size:=rfl;simp[World.drew] at h1⊢;omega)));(focus (have h1:=g.size;first|omega|(simp at h1⊢;done)|(simp at h1⊢;omega)|(have l:W0.drew.heap.size=W0.heap.size:=rfl;simp[World.drew] at h1⊢;omega))))
     |(refine dE (Y:=(w1.alloc (.cells o 3))) (u.out _ _ rfl) ?_ ?_ m ?_ ?_;(focus (first|rfl|(simp;done)));(focus ((repeat(first|exact Below.refl _ _|apply aq|apply bL|refine aU ?_ g));done));(focus (have h1:=g.size;first|omega|(simp at h1⊢;done)|(simp at h1⊢;omega)|(have l:W0.drew.heap.size=W0.heap.size:=rfl;simp[World.drew] at h1⊢;omega)));(focus (have h1:=g.size;first|omega|(simp at h1⊢;done)|(simp at h1⊢;omega)|(have l:W0.drew.heap.size=W0.heap.size:=rfl;simp[World.drew] at h1⊢;omega))))
     |(refine dE (Y:=W0) (u.out _ _ rfl) ?_ ?_ m ?_ ?_;(focus (first|rfl|(simp;done)));(focus ((repeat(first|exact Below.refl _ _|apply aq|apply bL|refine aU ?_ g));done));(focus (have h1:=g.size;first|omega|(simp at h1⊢;done)|(simp at h1⊢;omega)|(have l:W0.drew.heap.size=W0.heap.size:=rfl;simp[World.drew] at h1⊢;omega)));(focus (have h1:=g.size;first|omega|(simp at h1⊢;done)|(simp at h1⊢;omega)|(have l:W0.drew.heap.size=W0.heap.size:=rfl;simp[World.drew] at h1⊢;omega))))
     |(refine dE (Y:=(W0.alloc (.cells o 3))) (u.out _ _ rfl) ?_ ?_ m ?_ ?_;(focus (first|rfl|(simp;done)));(focus ((repeat(first|exact Below.refl _ _|apply aq|apply bL|refine aU ?_ g));done));(focus (have h1:=g.size;first|omega|(simp at h1⊢;done)|(simp at h1⊢;omega)|(have l:W0.drew.heap.size=W0.heap.size:=rfl;simp[World.drew] at h1⊢;omega)));(focus (have h1:=g.size;first|omega|(simp at h1⊢;done)|(simp at h1⊢;omega)|(have l:W0.drew.heap.size=W0.heap.size:=rfl;simp[World.drew] at h1⊢;omega))))
     |fail
  ·refine⟨rfl,?G3,?Io,?Iz,?GU,?Ip,?G9,?GY,?Hy,?GQ,?G0,?G1,?II,?Gu,?Hk,?G7,?Gr,?eq_1,?FQ,?FP,?FD,?FX,by(go_split_ands;assumption),by(go_split_ands;assumption)⟩
   case eq_1=>rfl
   case FP=>(refine ly ?_;first|rfl|(simp;done))
   case FQ=>(have h1:=g.size;first|omega|(simp at h1⊢;done)|(simp at h1⊢;omega)|(have l:W0.drew.heap.size=W0.heap.size:=rfl;simp[World.drew] at h1⊢;omega))
   case FD=>
    refine lz m ?_ ?_ ?_
    ·(have h1:=g.size;first|omega|(simp at h1⊢;done)|(simp at h1⊢;omega)|(have l:W0.drew.heap.size=W0.heap.size:=rfl;simp[World.drew] at h1⊢;omega))
    ·(first|exact fun h=>h|exact fun h=>Kd.aI h _|exact fun h=>Kd.aI (Kd.aI h _) _|exact fun h=>Kd.aI (Kd.aI (Kd.aI h _) _) _)
    ·(have h1:=g.size;first|omega|(simp at h1⊢;done)|(simp at h1⊢;omega)|(have l:W0.drew.heap.size=W0.heap.size:=rfl;simp[World.drew] at h1⊢;omega))
   case FX=>
    first
     |(refine dE (Y:=w1) (u.out _ _ rfl) ?_ ?_ m ?_ ?_;(focus (first|rfl|(simp;done)));(focus ((repeat(first|exact Below.refl _ _|apply aq|apply bL|refine aU ?_ g));done));(focus (have h1:=g.size;first|omega|(simp at h1⊢;done)|(simp at h1⊢;omega)|(have l:W0.drew.heap.size=W0.heap.size:=rfl;simp[World.drew] at h1⊢;omega)));(focus (have h1:=g.size;first|omega|(simp at h1⊢;done)|(simp at h1⊢;omega)|(have l:W0.drew.heap.size=W0.heap.size:=rfl;simp[World.drew] at h1⊢;omega))))
     |(refine dE (Y:=(w1.alloc (.cells o 3))) (u.out _ _ rfl) ?_ ?_ m ?_ ?_;(focus (first|rfl|(simp;done)));(focus ((repeat(first|exact Below.refl _ _|apply aq|apply bL|refine aU ?_ g));done));(focus (have h1:=g.size;first|omega|(simp at h1⊢;done)|(simp at h1⊢;omega)|(have l:W0.drew.heap.size=W0.heap.size:=rfl;simp[World.drew] at h1⊢;omega)));(focus (have h1:=g.size;first|omega|(simp at h1⊢;done)|(simp at h1⊢;omega)|(have l:W0.drew.heap.size=W0.heap.size:=rfl;simp[World.drew] at h1⊢;omega))))
     |(refine dE (Y:=W0) (u.out _ _ rfl) ?_ ?_ m ?_ ?_;(focus (first|rfl|(simp;done)));(focus ((repeat(first|exact Below.refl _ _|apply aq|apply bL|refine aU ?_ g));done));(focus (have h1:=g.size;first|omega|(simp at h1⊢;done)|(simp at h1⊢;omega)|(have l:W0.drew.heap.size=W0.heap.size:=rfl;simp[World.drew] at h1⊢;omega)));(focus (have h1:=g.size;first|omega|(simp at h1⊢;done)|(simp at h1⊢;omega)|(have l:W0.drew.heap.size=W0.heap.size:=rfl;simp[World.drew] at h1⊢;omega))))
     |(refine dE (Y:=(W0.alloc (.cells o 3))) (u.out _ _ rfl) ?_ ?_ m ?_ ?_;(focus (first|rfl|(simp;done)));(focus ((repeat(first|exact Below.refl _ _|apply aq|apply bL|refine aU ?_ g));done));(focus (have h1:=g.size;first|omega|(simp at h1⊢;done)|(simp at h1⊢;omega)|(have l:W0.drew.heap.size=W0.heap.size:=rfl;simp[World.drew] at h1⊢;omega)));(focus (have h1:=g.size;first|omega|(simp at h1⊢;done)|(simp at h1⊢;omega)|(have l:W0.drew.heap.size=W0.heap.size:=rfl;simp[World.drew] at h1⊢;omega))))
     |fail
  ·refine⟨rfl,?Ik,?IG,?GC,?IE,?Hl,?Ih,?G8,?Gs,?Ie,?Ij,?Hv,?Ib,?Ic,?Gq,?Hh,?GG,?eq_2,?FZ,?FM,?F3,?FT,by(go_split_ands;assumption),by(go_split_ands;assumption)⟩
   case eq_2=>rfl
   case FM=>(refine ly ?_;first|rfl|(simp;done))
   case FZ=>(have h1:=g.size;first|omega|(simp at h1⊢;done)|(simp at h1⊢;omega)|(have l:W0.drew.heap.size=W0.heap.size:=rfl;simp[World.drew] at h1⊢;omega))
   case F3=>
    refine lz m ?_ ?_ ?_
    ·(have h1:=g.size;first|omega|(simp at h1⊢;done)|(simp at h1⊢;omega)|(have l:W0.drew.heap.size=W0.heap.size:=rfl;simp[World.drew] at h1⊢;omega))
    ·(first|exact fun h=>h|exact fun h=>Kd.aI h _|exact fun h=>Kd.aI (Kd.aI h _) _|exact fun h=>Kd.aI (Kd.aI (Kd.aI h _) _) _)
    ·(have h1:=g.size;first|omega|(simp at h1⊢;done)|(simp at h1⊢;omega)|(have l:W0.drew.heap.size=W0.heap.size:=rfl;simp[World.drew] at h1⊢;omega))
   case FT=>
    first
     |(refine dE (Y:=w1) (u.out _ _ rfl) ?_ ?_ m ?_ ?_;(focus (first|rfl|(simp;done)));(focus ((repeat(first|exact Below.refl _ _|apply aq|apply bL|refine aU ?_ g));done));(focus (have h1:=g.size;first|omega|(simp at h1⊢;done)|(simp at h1⊢;omega)|(have l:W0.drew.heap.size=W0.heap.size:=rfl;simp[World.drew] at h1⊢;omega)));(focus (have h1:=g.size;first|omega|(simp at h1⊢;done)|(simp at h1⊢;omega)|(have l:W0.drew.heap.size=W0.heap.size:=rfl;simp[World.drew] at h1⊢;omega))))
     |(refine dE (Y:=(w1.alloc (.cells o 3))) (u.out _ _ rfl) ?_ ?_ m ?_ ?_;(focus (first|rfl|(simp;done)));(focus ((repeat(first|exact Below.refl _ _|apply aq|apply bL|refine aU ?_ g));done));(focus (have h1:=g.size;first|omega|(simp at h1⊢;done)|(simp at h1⊢;omega)|(have l:W0.drew.heap.size=W0.heap.size:=rfl;simp[World.drew] at h1⊢;omega)));(focus (have h1:=g.size;first|omega|(simp at h1⊢;done)|(simp at h1⊢;omega)|(have l:W0.drew.heap.size=W0.heap.size:=rfl;simp[World.drew] at h1⊢;omega))))
     |(refine dE (Y:=W0) (u.out _ _ rfl) ?_ ?_ m ?_ ?_;(focus (first|rfl|(simp;done)));(focus ((repeat(first|exact Below.refl _ _|apply aq|apply bL|refine aU ?_ g));done));(focus (have h1:=g.size;first|omega|(simp at h1⊢;done)|(simp at h1⊢;omega)|(have l:W0.drew.heap.size=W0.heap.size:=rfl;simp[World.drew] at h1⊢;omega)));(focus (have h1:=g.size;first|omega|(simp at h1⊢;done)|(simp at h1⊢;omega)|(have l:W0.drew.heap.size=W0.heap.size:=rfl;simp[World.drew] at h1⊢;omega))))
     |(refine dE (Y:=(W0.alloc (.cells o 3))) (u.out _ _ rfl) ?_ ?_ m ?_ ?_;(focus (first|rfl|(simp;done)));(focus ((repeat(first|exact Below.refl _ _|apply aq|apply bL|refine aU ?_ g));done));(focus (have h1:=g.size;first|omega|(simp at h1⊢;done)|(simp at h1⊢;omega)|(have l:W0.drew.heap.size=W0.heap.size:=rfl;simp[World.drew] at h1⊢;omega)));(focus (have h1:=g.size;first|omega|(simp at h1⊢;done)|(simp at h1⊢;omega)|(have l:W0.drew.heap.size=W0.heap.size:=rfl;simp[World.drew] at h1⊢;omega))))
     |fail
  ·refine⟨rfl,?Hi,?GV,?GF,?IA,?Im,?Hw,?Gp,?Iu,?GJ,?H8,?H7,?Hx,?G',?Iq,?ID,?Gv,?eq_3,?F1,?FE,?F2,?FV,by(go_split_ands;assumption),by(go_split_ands;assumption)⟩
   case eq_3=>rfl
   case FE=>(refine ly ?_;first|rfl|(simp;done))
   case F1=>(have h1:=g.size;first|omega|(simp at h1⊢;done)|(simp at h1⊢;omega)|(have l:W0.drew.heap.size=W0.heap.size:=rfl;simp[World.drew] at h1⊢;omega))
   case F2=>
    refine lz m ?_ ?_ ?_
    ·(have h1:=g.size;first|omega|(simp at h1⊢;done)|(simp at h1⊢;omega)|(have l:W0.drew.heap.size=W0.heap.size:=rfl;simp[World.drew] at h1⊢;omega))
    ·(first|exact fun h=>h|exact fun h=>Kd.aI h _|exact fun h=>Kd.aI (Kd.aI h _) _|exact fun h=>Kd.aI (Kd.aI (Kd.aI h _) _) _)
    ·(have h1:=g.size;first|omega|(simp at h1⊢;done)|(simp at h1⊢;omega)|(have l:W0.drew.heap.size=W0.heap.size:=rfl;simp[World.drew] at h1⊢;omega))
   case FV=>
    first
     |(refine dE (Y:=w1) (u.out _ _ rfl) ?_ ?_ m ?_ ?_;(focus (first|rfl|(simp;done)));(focus ((repeat(first|exact Below.refl _ _|apply aq|apply bL|refine aU ?_ g));done));(focus (have h1:=g.size;first|omega|(simp at h1⊢;done)|(simp at h1⊢;omega)|(have l:W0.drew.heap.size=W0.heap.size:=rfl;simp[World.drew] at h1⊢;omega)));(focus (have h1:=g.size;first|omega|(simp at h1⊢;done)|(simp at h1⊢;omega)|(have l:W0.drew.heap.size=W0.heap.size:=rfl;simp[World.drew] at h1⊢;omega))))
     |(refine dE (Y:=(w1.alloc (.cells o 3))) (u.out _ _ rfl) ?_ ?_ m ?_ ?_;(focus (first|rfl|(simp;done)));(focus ((repeat(first|exact Below.refl _ _|apply aq|apply bL|refine aU ?_ g));done));(focus (have h1:=g.size;first|omega|(simp at h1⊢;done)|(simp at h1⊢;omega)|(have l:W0.drew.heap.size=W0.heap.size:=rfl;simp[World.drew] at h1⊢;omega)));(focus (have h1:=g.size;first|omega|(simp at h1⊢;done)|(simp at h1⊢;omega)|(have l:W0.drew.heap.size=W0.heap.size:=rfl;simp[World.drew] at h1⊢;omega))))
     |(refine dE (Y:=W0) (u.out _ _ rfl) ?_ ?_ m ?_ ?_;(focus (first|rfl|(simp;done)));(focus ((repeat(first|exact Below.refl _ _|apply aq|apply bL|refine aU ?_ g));done));(focus (have h1:=g.size;first|omega|(simp at h1⊢;done)|(simp at h1⊢;omega)|(have l:W0.drew.heap.size=W0.heap.size:=rfl;simp[World.drew] at h1⊢;omega)));(focus (have h1:=g.size;first|omega|(simp at h1⊢;done)|(simp at h1⊢;omega)|(have l:W0.drew.heap.size=W0.heap.size:=rfl;simp[World.drew] at h1⊢;omega))))
     |(refine dE (Y:=(W0.alloc (.cells o 3))) (u.out _ _ rfl) ?_ ?_ m ?_ ?_;(focus (first|rfl|(simp;done)));(focus ((repeat(first|exact Below.refl _ _|apply aq|apply bL|refine aU ?_ g));done));(focus (have h1:=g.size;first|omega|(simp at h1⊢;done)|(simp at h1⊢;omega)|(have l:W0.drew.heap.size=W0.heap.size:=rfl;simp[World.drew] at h1⊢;omega)));(focus (have h1:=g.size;first|omega|(simp at h1⊢;done)|(simp at h1⊢;omega)|(have l:W0.drew.heap.size=W0.heap.size:=rfl;simp[World.drew] at h1⊢;omega))))
     |fail
  ·refine⟨rfl,?Gz,?G2,?G4,?Hq,?G5,?Ho,?GZ,?Iy,?Ir,?Is,?Gw,?IB,?GD,?IF,?IC,?G6,?eq_4,?FG,?FH,?FY,?FU,by(go_split_ands;assumption),by(go_split_ands;assumption)⟩
   case eq_4=>rfl
   case FH=>(refine ly ?_;first|rfl|(simp;done))
   case FG=>(have h1:=g.size;first|omega|(simp at h1⊢;done)|(simp at h1⊢;omega)|(have l:W0.drew.heap.size=W0.heap.size:=rfl;simp[World.drew] at h1⊢;omega))
   case FY=>
    refine lz m ?_ ?_ ?_
    ·(have h1:=g.size;first|omega|(simp at h1⊢;done)|(simp at h1⊢;omega)|(have l:W0.drew.heap.size=W0.heap.size:=rfl;simp[World.drew] at h1⊢;omega))
    ·(first|exact fun h=>h|exact fun h=>Kd.aI h _|exact fun h=>Kd.aI (Kd.aI h _) _|exact fun h=>Kd.aI (Kd.aI (Kd.aI h _) _) _)
    ·(have h1:=g.size;first|omega|(simp at h1⊢;done)|(simp at h1⊢;omega)|(have l:W0.drew.heap.size=W0.heap.size:=rfl;simp[World.drew] at h1⊢;omega))
   case FU=>
    first
     |(refine dE (Y:=w1) (u.out _ _ rfl) ?_ ?_ m ?_ ?_;(focus (first|rfl|(simp;done)));(focus ((repeat(first|exact Below.refl _ _|apply aq|apply bL|refine aU ?_ g));done));(focus (have h1:=g.size;first|omega|(simp at h1⊢;done)|(simp at h1⊢;omega)|(have l:W0.drew.heap.size=W0.heap.size:=rfl;simp[World.drew] at h1⊢;omega)));(focus (have h1:=g.size;first|omega|(simp at h1⊢;done)|(simp at h1⊢;omega)|(have l:W0.drew.heap.size=W0.heap.size:=rfl;simp[World.drew] at h1⊢;omega))))
     |(refine dE (Y:=(w1.alloc (.cells o 3))) (u.out _ _ rfl) ?_ ?_ m ?_ ?_;(focus (first|rfl|(simp;done)));(focus ((repeat(first|exact Below.refl _ _|apply aq|apply bL|refine aU ?_ g));done));(focus (have h1:=g.size;first|omega|(simp at h1⊢;done)|(simp at h1⊢;omega)|(have l:W0.drew.heap.size=W0.heap.size:=rfl;simp[World.drew] at h1⊢;omega)));(focus (have h1:=g.size;first|omega|(simp at h1⊢;done)|(simp at h1⊢;omega)|(have l:W0.drew.heap.size=W0.heap.size:=rfl;simp[World.drew] at h1⊢;omega))))
     |(refine dE (Y:=W0) (u.out _ _ rfl) ?_ ?_ m ?_ ?_;(focus (first|rfl|(simp;done)));(focus ((repeat(first|exact Below.refl _ _|apply aq|apply bL|refine aU ?_ g));done));(focus (have h1:=g.size;first|omega|(simp at h1⊢;done)|(simp at h1⊢;omega)|(have l:W0.drew.heap.size=W0.heap.size:=rfl;simp[World.drew] at h1⊢;omega)));(focus (have h1:=g.size;first|omega|(simp at h1⊢;done)|(simp at h1⊢;omega)|(have l:W0.drew.heap.size=W0.heap.size:=rfl;simp[World.drew] at h1⊢;omega))))
     |(refine dE (Y:=(W0.alloc (.cells o 3))) (u.out _ _ rfl) ?_ ?_ m ?_ ?_;(focus (first|rfl|(simp;done)));(focus ((repeat(first|exact Below.refl _ _|apply aq|apply bL|refine aU ?_ g));done));(focus (have h1:=g.size;first|omega|(simp at h1⊢;done)|(simp at h1⊢;omega)|(have l:W0.drew.heap.size=W0.heap.size:=rfl;simp[World.drew] at h1⊢;omega)));(focus (have h1:=g.size;first|omega|(simp at h1⊢;done)|(simp at h1⊢;omega)|(have l:W0.drew.heap.size=W0.heap.size:=rfl;simp[World.drew] at h1⊢;omega))))
     |fail
  ·refine⟨rfl,?GB,?GX,?H9,?Hm,?G_,?GH,?Gy,?It,?Ia,?GA,?GO,?GI,?GM,?He,?Hp,?Ig,?eq_5,?FB,?FN,?FJ,?FF,by(go_split_ands;assumption),by(go_split_ands;assumption)⟩
   case eq_5=>rfl
   case FN=>(refine ly ?_;first|rfl|(simp;done))
   case FB=>(have h1:=g.size;first|omega|(simp at h1⊢;done)|(simp at h1⊢;omega)|(have l:W0.drew.heap.size=W0.heap.size:=rfl;simp[World.drew] at h1⊢;omega))
   case FJ=>
    refine lz m ?_ ?_ ?_
    ·(have h1:=g.size;first|omega|(simp at h1⊢;done)|(simp at h1⊢;omega)|(have l:W0.drew.heap.size=W0.heap.size:=rfl;simp[World.drew] at h1⊢;omega))
    ·(first|exact fun h=>h|exact fun h=>Kd.aI h _|exact fun h=>Kd.aI (Kd.aI h _) _|exact fun h=>Kd.aI (Kd.aI (Kd.aI h _) _) _)
    ·(have h1:=g.size;first|omega|(simp at h1⊢;done)|(simp at h1⊢;omega)|(have l:W0.drew.heap.size=W0.heap.size:=rfl;simp[World.drew] at h1⊢;omega))
   case FF=>
    first
     |(refine dE (Y:=w1) (u.out _ _ rfl) ?_ ?_ m ?_ ?_;(focus (first|rfl|(simp;done)));(focus ((repeat(first|exact Below.refl _ _|apply aq|apply bL|refine aU ?_ g));done));(focus (have h1:=g.size;first|omega|(simp at h1⊢;done)|(simp at h1⊢;omega)|(have l:W0.drew.heap.size=W0.heap.size:=rfl;simp[World.drew] at h1⊢;omega)));(focus (have h1:=g.size;first|omega|(simp at h1⊢;done)|(simp at h1⊢;omega)|(have l:W0.drew.heap.size=W0.heap.size:=rfl;simp[World.drew] at h1⊢;omega))))
     |(refine dE (Y:=(w1.alloc (.cells o 3))) (u.out _ _ rfl) ?_ ?_ m ?_ ?_;(focus (first|rfl|(simp;done)));(focus ((repeat(first|exact Below.refl _ _|apply aq|apply bL|refine aU ?_ g));done));(focus (have h1:=g.size;first|omega|(simp at h1⊢;done)|(simp at h1⊢;omega)|(have l:W0.drew.heap.size=W0.heap.size:=rfl;simp[World.drew] at h1⊢;omega)));(focus (have h1:=g.size;first|omega|(simp at h1⊢;done)|(simp at h1⊢;omega)|(have l:W0.drew.heap.size=W0.heap.size:=rfl;simp[World.drew] at h1⊢;omega))))
     |(refine dE (Y:=W0) (u.out _ _ rfl) ?_ ?_ m ?_ ?_;(focus (first|rfl|(simp;done)));(focus ((repeat(first|exact Below.refl _ _|apply aq|apply bL|refine aU ?_ g));done));(focus (have h1:=g.size;first|omega|(simp at h1⊢;done)|(simp at h1⊢;omega)|(have l:W0.drew.heap.size=W0.heap.size:=rfl;simp[World.drew] at h1⊢;omega)));(focus (have h1:=g.size;first|omega|(simp at h1⊢;done)|(simp at h1⊢;omega)|(have l:W0.drew.heap.size=W0.heap.size:=rfl;simp[World.drew] at h1⊢;omega))))
     |(refine dE (Y:=(W0.alloc (.cells o 3))) (u.out _ _ rfl) ?_ ?_ m ?_ ?_;(focus (first|rfl|(simp;done)));(focus ((repeat(first|exact Below.refl _ _|apply aq|apply bL|refine aU ?_ g));done));(focus (have h1:=g.size;first|omega|(simp at h1⊢;done)|(simp at h1⊢;omega)|(have l:W0.drew.heap.size=W0.heap.size:=rfl;simp[World.drew] at h1⊢;omega)));(focus (have h1:=g.size;first|omega|(simp at h1⊢;done)|(simp at h1⊢;omega)|(have l:W0.drew.heap.size=W0.heap.size:=rfl;simp[World.drew] at h1⊢;omega))))
     |fail
theorem kl {k:Nat} {N:Int} {E:List S83} {q:Int} (h:cX.f k N E q=some 0):aY.f k N E=some 0∧(0<=N∧N<=12)∧bN (aJ E) N.toNat=1∧0<=q∧q<N:=by
 unfold cX.f bS.f at h;simp only[Option.bind_assoc] at h;obtain⟨t,e,h⟩:=Option.bind_eq_some_iff.1 h;by_cases a:t=0
 ·subst a
  rw[if_pos rfl] at h;by_cases hk:lh N E=true
  ·rw[if_pos hk] at h
   simp only[Option.bind_some,if_pos] at h;simp only[lh,Bool.and_eq_true,decide_eq_true_eq] at hk;refine⟨e,hk.1,?_⟩;by_cases b:bN (aJ E) N.toNat=1
   ·simp only[b,decide_true,if_true] at h
    by_cases h1:q<0
    ·rw[if_pos h1] at h;exact absurd (Option.some.inj h) (by decide)
    ·rw[if_neg h1] at h
     by_cases g:q>=N
     ·rw[if_pos g] at h;exact absurd (Option.some.inj h) (by decide)
     ·exact⟨b,by omega,by omega⟩
   ·simp[b] at h
  ·rw[if_neg hk] at h;cases h
 ·rw[if_neg a] at h
  simp[a] at h
def my (N:Int) (E:List S83):Bool:=eF E&&iI N E
def dF (q B:Nat) (calm:List Int->Bool):Nat->List Int->List (List Int)
 |0,p=>[p]
 |k+1,p=>if p.length=q then dF q B calm k (p++[0]) else((List.range B).takeWhile fun (x:Nat)=>calm (p++(x:Int)::List.replicate k 0)).flatMap fun (x:Nat)=>dF q B calm k (p++[(x:Int)])
def fL.f (k:Nat) (b:Int) (e:List (S83)) (g:Int) (l2:List Int):Option (Bool×Int):=(gL.f k b e g l2).bind fun a=>(if a.2.2=0 then(some (((a.2.1.length:Int)==0),a.2.2)) else(some (false,a.2.2)))
theorem fL.mono:∀a0 a a2 a3 k,ae (fL.f k a0 a a2 a3) (fL.f (k+1) a0 a a2 a3):=by
 intro a0 a a2 a3 k;unfold fL.f;repeat' first
   |(with_reducible exact gL.mono _ _ _ _ _)
   |(with_reducible exact ae.refl _)
   |(with_reducible exact ae.none _)
   |(with_reducible refine ae.ite ?_ ?_)
   |(with_reducible refine ae.bind ?_ (fun _=>?_))
   |exact gL.mono _ _ _ _ _
   |exact ae.none _
   |refine ae.ite ?_ ?_
   |refine ae.bind ?_ (fun _=>?_)
theorem fL.calls (k:Nat) (g:Int) (l:Option Addr) (m:Nat) (b:List (S83)) (n:Int) (s:Option Addr) (c2:Nat) (l2:List Int) (v:Bool) (x:Int) (w:World) (y:Kd.C aK w l b.length b) (z:b.length<=m) (B:Kd.C (Kd.int .i64) w s l2.length l2) (D:l2.length<=c2) (h:fL.f k g b n l2=some (v,x)):
  Calls Tryz.prog 201 #[.agg #[.int .i64 g,.slice l b.length m],.int .i64 n,.slice s l2.length c2] w fun e w'=>e= .returned (.tuple #[.bool v,.int .i64 x])∧Below w.heap.size w w':=by
 have X:=Tryz.underlying24;have E:=Aside0.mk y;have F:=Aside0.mk z;clear y z;have G:=Aside0.mk B;have I:=Aside0.mk D;clear B D;have a:=Aside0.mk (Below.refl w.heap.size w);unfold fL.f at h;have H:=h;clear h;obtain⟨⟨J,K,u⟩,L,H⟩:=zo H;dsimp only at H;by_cases o:u=0
 ·rw[if_pos o] at H
  obtain⟨O,P⟩:=bt o;clear o;simp only[Option.some.injEq,Prod.mk.injEq] at H;obtain⟨rfl,rfl⟩:=H;go_enter Tryz.func201,Tryz.ntmps201
  go_wp2_with (first|((with_reducible refine aH (N:=3) rfl ?_);(try(refine dA (by rfl) ?_;dsimp only));refine zX 3 #[.int .i64 g,.slice l b.length m] 24 ?_;intro Q i Y p hb;have j:=Aside0.mk (p);have R:=zG a i;have S:=zG a i;replace a:=zS a hb;clear hb p i;obtain⟨Z,aa,ab,ad⟩:=au j)|((with_reducible refine ax (f:=213) rfl ?_);refine zL (some 15) Tryz.func213 #[.agg #[.int .i64 g,.slice l b.length m],.int .i64 n,.slice s l2.length c2] ?_;(with_reducible refine(gL.calls k g _ _ b n _ _ l2 J K u _ ?af ?ah ?aD ?aE L.out).mono ?_);(case af=>exact Kd.al E.out zB);(case ah=>exact F.out);(case aD=>exact Kd.al G.out zB);(case aE=>exact I.out);rintro e w8 ⟨T,U,rfl,q,r,hb⟩;refine⟨_,rfl,?_⟩;have V:=Aside0.mk (Kd.aW q (a_ zB));have M:=Aside0.mk (Kd.aW r (a_ zB));replace j:=zb j hb;replace a:=zS a hb;(try clear hb);(try clear q);(try clear r);obtain⟨ak,am,W⟩:=Kd.aZ M.out;subst W))
  go_ret2;exact⟨zE,zB⟩
 ·rw[if_neg o] at H
  obtain⟨O,P⟩:=bu o;simp only[Option.some.injEq,Prod.mk.injEq] at H;obtain⟨rfl,rfl⟩:=H;go_enter Tryz.func201,Tryz.ntmps201
  go_wp2_with (first|((with_reducible refine aH (N:=3) rfl ?_);(try(refine dA (by rfl) ?_;dsimp only));refine zX 3 #[.int .i64 g,.slice l b.length m] 24 ?_;intro Q i an p hb;have j:=Aside0.mk (p);have R:=zG a i;have S:=zG a i;replace a:=zS a hb;clear hb p i;obtain⟨ap,ar,av,aB⟩:=au j)|((with_reducible refine ax (f:=213) rfl ?_);refine zL (some 15) Tryz.func213 #[.agg #[.int .i64 g,.slice l b.length m],.int .i64 n,.slice s l2.length c2] ?_;(with_reducible refine(gL.calls k g _ _ b n _ _ l2 J K u _ ?af ?ah ?aD ?aE L.out).mono ?_);(case af=>exact Kd.al E.out zB);(case ah=>exact F.out);(case aD=>exact Kd.al G.out zB);(case aE=>exact I.out);rintro e aF ⟨T,U,rfl,q,r,hb⟩;refine⟨_,rfl,?_⟩;have V:=Aside0.mk (Kd.aW q (a_ zB));have M:=Aside0.mk (Kd.aW r (a_ zB));replace j:=zb j hb;replace a:=zS a hb;(try clear hb);(try clear q);(try clear r)))
  go_ret2;exact⟨zE,zB⟩
def eA.f (k:Nat) (b:Int) (e:List (S83)) (g:Int) (l2:List Int):Option (Bool):=(fL.f k b e g l2).bind fun a=>(if a.1=true then(some (a.2==0)) else(some false))
theorem eA.mono:∀a0 a a2 a3 k,ae (eA.f k a0 a a2 a3) (eA.f (k+1) a0 a a2 a3):=by
 intro a0 a a2 a3 k;unfold eA.f;repeat' first
   |(with_reducible exact fL.mono _ _ _ _ _)
   |(with_reducible exact ae.refl _)
   |(with_reducible exact ae.none _)
   |(with_reducible refine ae.ite ?_ ?_)
   |(with_reducible refine ae.bind ?_ (fun _=>?_))
   |exact fL.mono _ _ _ _ _
   |exact ae.none _
   |refine ae.ite ?_ ?_
   |refine ae.bind ?_ (fun _=>?_)
theorem eA.calls (k:Nat) (g:Int) (l:Option Addr) (m:Nat) (b:List (S83)) (n:Int) (p:Option Addr) (c2:Nat) (l2:List Int) (r:Bool) (w:World) (s:Kd.C aK w l b.length b) (u:b.length<=m) (v:Kd.C (Kd.int .i64) w p l2.length l2) (x:l2.length<=c2) (h:eA.f k g b n l2=some r):
  Calls Tryz.prog 176 #[.agg #[.int .i64 g,.slice l b.length m],.int .i64 n,.slice p l2.length c2] w fun e w'=>e= .returned (.bool r)∧Below w.heap.size w w':=by
 have L:=Tryz.underlying24;have y:=Aside0.mk s;have z:=Aside0.mk u;clear s u;have B:=Aside0.mk v;have D:=Aside0.mk x;clear v x;have a:=Aside0.mk (Below.refl w.heap.size w);unfold eA.f at h;have H:=h;clear h;obtain⟨⟨G,E⟩,F,H⟩:=zo H;dsimp only at H;by_cases q:G=true
 ·subst q
  replace H:=zi H;obtain rfl:=Option.some.inj H;go_enter Tryz.func176,Tryz.ntmps176
  go_wp2_with (first|((with_reducible refine aH (N:=3) rfl ?_);refine zX 3 #[.int .i64 g,.slice l b.length m] 24 ?_;intro I i M o hb;have j:=Aside0.mk (o);have J:=zG a i;have K:=zG a i;replace a:=zS a hb;clear hb o i;obtain⟨O,P,Q,R⟩:=au j)|((with_reducible refine ax (f:=201) rfl ?_);refine zL (some 13) Tryz.func201 #[.agg #[.int .i64 g,.slice l b.length m],.int .i64 n,.slice p l2.length c2] ?_;(with_reducible refine(fL.calls k g _ _ b n _ _ l2 true E _ ?af ?ah ?aD ?aE F.out).mono ?_);(case af=>exact Kd.al y.out zB);(case ah=>exact z.out);(case aD=>exact Kd.al B.out zB);(case aE=>exact D.out);rintro e S ⟨rfl,hb⟩;refine⟨_,rfl,?_⟩;replace j:=zb j hb;replace a:=zS a hb;(try clear hb)))
  go_ret;exact⟨zE,zB⟩
 ·replace q:=Bool.eq_false_iff.mpr q
  subst q;replace H:=zj H;obtain rfl:=Option.some.inj H;go_enter Tryz.func176,Tryz.ntmps176
  go_wp2_with (first|((with_reducible refine aH (N:=3) rfl ?_);refine zX 3 #[.int .i64 g,.slice l b.length m] 24 ?_;intro I i T o hb;have j:=Aside0.mk (o);have J:=zG a i;have K:=zG a i;replace a:=zS a hb;clear hb o i;obtain⟨U,V,W,X⟩:=au j)|((with_reducible refine ax (f:=201) rfl ?_);refine zL (some 13) Tryz.func201 #[.agg #[.int .i64 g,.slice l b.length m],.int .i64 n,.slice p l2.length c2] ?_;(with_reducible refine(fL.calls k g _ _ b n _ _ l2 false E _ ?af ?ah ?aD ?aE F.out).mono ?_);(case af=>exact Kd.al y.out zB);(case ah=>exact z.out);(case aD=>exact Kd.al B.out zB);(case aE=>exact D.out);rintro e iy ⟨rfl,hb⟩;refine⟨_,rfl,?_⟩;replace j:=zb j hb;replace a:=zS a hb;(try clear hb)))
  go_ret;exact⟨zE,zB⟩
section
attribute [local go_sem] Oper.semAt_some
def jl {α:Type} (P:Nat->Bool) (F:Nat->List α):Nat->Nat->List α
 |0,_=>[]
 |f+1,x=>if P x then F x++jl P F f (x+1) else[]
theorem uD {α:Type} (P:Nat->Bool) (F:Nat->List α):∀f x,jl P F f x=((List.range' x f).takeWhile P).flatMap F
 |0,x=>by simp[jl]
 |f+1,x=>by
  rw[jl,List.range'_succ,List.takeWhile_cons];cases P x with
  |true=>simp[uD P F f (x+1)]
  |false=>simp
theorem Cg (q B:Nat) (calm:List Int->Bool) (k:Nat) (p:List Int) (h:p.length≠q):dF q B calm (k+1) p=jl (fun (x:Nat)=>calm (p++(x:Int)::List.replicate k 0)) (fun (x:Nat)=>dF q B calm k (p++[(x:Int)])) B 0:=by
 rw[dF,if_neg h,uD,List.range_eq_range']
def iw (n q:Nat) (c:List Int):Prop:=c.length=n∧(∀i:Nat,0<=rd c i∧rd c i<=1000)∧rd c q=0
structure CS (w0:World) (n:Nat) (A0:Option Addr) (c0:Nat) (E:List S83) (q gx qx s l:Nat) (W:World) (c:List Int):Prop where
 g:W.heap[gx]? =some (.cells #[.int .i64 n,.slice A0 E.length c0] 24 (0,0))
 q:W.heap[qx]? =some (.cells #[.int .i64 q] 3 (0,0))
 y:W.heap[s]? =some (.cells #[.func (.yield l) #[] #[]] 141 (0,0))
 c:(Kd.int .i64).R 3 W w0.heap.size (fun k=>k=s+1) (.slice (some ⟨s+1,0,none⟩) n n) c
 cb:W.heap[s+2]? =some (.cells #[.slice (some ⟨s+1,0,none⟩) n n] 26 (0,0))
 f:W.heap[s+3]? =some (.cells #[.func (.func 200) #[] #[.pointer (some ⟨gx,0,none⟩),.pointer (some ⟨s,0,none⟩),.pointer (some ⟨s+2,0,none⟩),.pointer (some ⟨qx,0,none⟩),.pointer (some ⟨s+3,0,none⟩)]] 121 (0,0))
 below:Below w0.heap.size w0 W
namespace CS
variable {w0:World} {n:Nat} {A0:Option Addr} {c0:Nat} {E:List S83} {q gx qx s l:Nat} {W W':World} {c:List Int}
theorem ik (h:CS w0 n A0 c0 E q gx qx s l W c) (hk:∀k,(k=gx∨k=qx∨s<=k∧k<s+4)->W'.heap[k]? =W.heap[k]?) (hb:Below w0.heap.size w0 W'):CS w0 n A0 c0 E q gx qx s l W' c:=
 ⟨(hk gx (.inl rfl)).trans h.g,(hk qx (.inr (.inl rfl))).trans h.q,(hk s (.inr (.inr ⟨by omega,by omega⟩))).trans h.y,Kd.eU h.c (fun k e=>hk k (.inr (.inr (by subst e;omega)))),(hk (s+2) (.inr (.inr ⟨by omega,by omega⟩))).trans h.cb,(hk (s+3) (.inr (.inr ⟨by omega,by omega⟩))).trans h.f,hb⟩
theorem lt (h:CS w0 n A0 c0 E q gx qx s l W c):s+3<W.heap.size∧gx<W.heap.size∧qx<W.heap.size:=⟨ay h.f,ay h.g,ay h.q⟩
theorem stay (h:CS w0 n A0 c0 E q gx qx s l W c) (hb:Below W.heap.size W W'):CS w0 n A0 c0 E q gx qx s l W' c:=
 h.ik (fun k hk=>hb.block k (by have:=h.lt;rcases hk with rfl|rfl|hk<;>omega)) (h.below.trans (hb.mono h.below.size))
theorem size (h:CS w0 n A0 c0 E q gx qx s l W c):w0.heap.size<=W.heap.size:=h.below.size
end CS
def qo (s:Nat) (x:List Int×Value) (A B:World):Prop:=A.grownBy B (some (s+1))∧(Kd.int .i64).R 3 B A.heap.size (fun _=>True) x.2 x.1∧s+4<=A.heap.size
def qp (w0:World) (gx qx s:Nat) (X Y:World):Prop:=(w0.heap.size<=X.heap.size->Below w0.heap.size X Y)∧∀k,(k=gx∨k=qx∨s<=k∧k<s+4)->k<X.heap.size->Y.heap[k]? =X.heap[k]?
def qq (w0:World) (B n:Nat) (A0:Option Addr) (c0:Nat) (E:List S83) (q gx qx s l:Nat) (calm:List Int->Bool) (J Jx:List (List Int×Value)->World->Prop) (a:Nat) (p:List Int) (pre:List (List Int×Value)) (e:Ending) (W':World):Prop:=
 (∃b,e= .returned (.bool true)∧J (pre++b) W'∧b.map Prod.fst=dF q B calm a p∧CS w0 n A0 c0 E q gx qx s l W' (p++List.replicate a 0))∨(e= .returned (.bool false)∧∃g,Jx g W')
theorem Ch {e:Ending} {A B:Prop} (h:(e= .returned (.bool true)∧A)∨(e= .returned (.bool false)∧B)):∃b:Bool,e= .returned (.bool b)∧Aside0 ((b=true∧A)∨(b=false∧B)):=by
 rcases h with⟨h,a⟩|⟨h,hb⟩
 ·exact⟨true,h,⟨.inl ⟨rfl,a⟩⟩⟩
 ·exact⟨false,h,⟨.inr ⟨rfl,hb⟩⟩⟩
theorem Ci {w0:World} {B n:Nat} {A0:Option Addr} {c0:Nat} {E:List S83} {q gx qx s l:Nat} {calm:List Int->Bool} {J Jx:List (List Int×Value)->World->Prop} {g:Nat} {p:List Int} {pre:List (List Int×Value)} {e:Ending} {W':World} (h:qq w0 B n A0 c0 E q gx qx s l calm J Jx g p pre e W'):
  ∃b:Bool,e= .returned (.bool b)∧Aside0 ((b=true∧∃a,J (pre++a) W'∧a.map Prod.fst=dF q B calm g p∧CS w0 n A0 c0 E q gx qx s l W' (p++List.replicate g 0))∨(b=false∧∃i,Jx i W')):=by
 rcases h with⟨a,h,j⟩|⟨h,hb⟩
 ·exact⟨true,h,⟨.inl ⟨rfl,a,j⟩⟩⟩
 ·exact⟨false,h,⟨.inr ⟨rfl,hb⟩⟩⟩
theorem Cj {w0:World} {B n:Nat} {A0:Option Addr} {c0:Nat} {E:List S83} {q gx qx s l:Nat} {calm:List Int->Bool} {J Jx:List (List Int×Value)->World->Prop} (hn:n<=12)
  (m:∀pre x A C,J pre A->qo s x A C->pre.length<16384->YieldAt Fence.wide 8 Tryz.prog l #[x.2] C fun e W'=>(e= .returned (.bool true)∧J (pre++[x]) W'∧qp w0 gx qx s C W')∨(e= .returned (.bool false)∧Jx (pre++[x]) W'))
  (p:List Int) (pre:List (List Int×Value)) (W:World) (hp:p.length=n) (hC:CS w0 n A0 c0 E q gx qx s l W p) (o:J pre W) (hlen:pre.length<16384):
  CallsIn Fence.wide 9 Tryz.prog 200 #[.int .i64 n,.pointer (some ⟨gx,0,none⟩),.pointer (some ⟨s,0,none⟩),.pointer (some ⟨s+2,0,none⟩),.pointer (some ⟨qx,0,none⟩),.pointer (some ⟨s+3,0,none⟩)] W (qq w0 B n A0 c0 E q gx qx s l calm J Jx 0 p pre):=by
 have G:=Aside0.mk m;have H:=Aside0.mk o;have j:=Aside0.mk hC;have N:W.cell? ⟨gx,0,none⟩=some (.int .i64 n):=(ao hC.g 0).trans rfl;have O:W.cell? ⟨s,0,none⟩=some (.func (.yield l) #[] #[]):=(ao hC.y 0).trans rfl;have P:W.cell? ⟨s+2,0,none⟩=some (.slice (some ⟨s+1,0,none⟩) n n):=(ao hC.cb 0).trans rfl;have Q:=Aside0.mk hp;obtain⟨-, -,r⟩:=Kd.aA hC.c;have S:=hC.below.size;have I:=Aside0.mk (show CallsIn Fence.wide 8 Tryz.prog 57 #[.slice (some ⟨s+1,0,none⟩) n n] W.drew (fun e w'=>∃u:Value,e= .returned (u)∧Kd.R (Kd.int .i64) 3 w' W.heap.size (fun _=>True) u p∧Below W.heap.size W w'∧Below W.heap.size W.drew w') from callsIn_wide.2 (by
  subst hp;refine(fw.calls (some ⟨s+1,0,none⟩) p.length p p W.drew (Kd.eV r) (Nat.le_refl _) (by unfold fw.f clone.f;rw[if_pos (by omega)])).mono ?_;rintro e w' ⟨v,rfl,h1,w⟩;exact⟨v,rfl,h1,(gF (Below.refl _ _)).trans w,w⟩))
 clear m o hC r hp;refine callsIn_of_wp Tryz.func200 rfl trivial ?_ rfl;simp only[Tryz.ntmps200,List.size_toArray,List.length_cons,List.length_nil,Nat.reduceAdd,Nat.reduceSub,Array.replicate_succ,Array.replicate_zero,List.push_toArray,List.append_toArray,List.nil_append,List.cons_append];gi_wp2;gi_region_with (first|(refine⟨trivial,?_⟩;gi_at_call 57;refine I.out.mono ?_;rintro e w1 ⟨v,rfl,z,h,K⟩;have T:w1.cell? ⟨s,0,none⟩=some (.func (.yield l) #[] #[]):=(ao (aG j.out.y h) 0).trans rfl;have i:=Aside0.mk (j.out.stay h);obtain⟨fn,tmps,U,V,X,D⟩:=G.out pre (p,v) W w1 H.out ⟨iR h _,z,j.out.lt.1⟩ hlen;have L:=Aside0.mk D;clear D z h K)|(refine L.out.mono ?_;rintro e w3 a;obtain⟨b,rfl,M⟩:=Ch a;clear a))
 all_goals gi_wp2
 all_goals go_ret
 all_goals
  rcases M.out with⟨rfl,a,F⟩|⟨rfl,a⟩
  ·exact .inl ⟨[(p,v)],rfl,a,rfl,by simpa using i.out.ik (fun k hk=>F.2 k hk (by have:=i.out.lt;rcases hk with rfl|rfl|hk<;>omega)) (i.out.below.trans (F.1 i.out.size))⟩
  ·exact .inr ⟨rfl,_,a⟩
theorem Ck {n q a:Nat} {p:List Int} {x:Nat} (h:iw n q (p++List.replicate (a+1) 0)) (b:p.length≠q) (g:x<=1000):iw n q (p++(x:Int)::List.replicate a 0):=by
 have e:p++(x:Int)::List.replicate a 0=(p++List.replicate (a+1) 0).set p.length x:=by
  rw[List.replicate_succ,List.set_append_right _ _ (Nat.le_refl _),Nat.sub_self];rfl
 rw[e];refine⟨by rw[List.length_set];exact h.1,fun i=>?_,?_⟩
 ·have hi:=h.2.1 i
  simp only[rd,Int.toNat_natCast,List.getD_eq_getElem?_getD,List.getElem?_set] at hi⊢;split
  ·split<;>simp<;>omega
  ·exact hi
 ·have hi:=h.2.2
  simp only[rd,Int.toNat_natCast,List.getD_eq_getElem?_getD,List.getElem?_set] at hi⊢;rw[if_neg b];exact hi
theorem CS.set {w0:World} {n:Nat} {A0:Option Addr} {c0:Nat} {E:List S83} {q gx qx s l:Nat} {W:World} {p:List Int} {a:Nat} {x:Int} (h:CS w0 n A0 c0 E q gx qx s l W (p++x::List.replicate a 0)) (b:gx<s) (i:qx<s) (j:w0.heap.size<=s) (y:Int):
  CS w0 n A0 c0 E q gx qx s l (W.setCell ⟨s+1,p.length,none⟩ (.int .i64 y)) (p++y::List.replicate a 0)∧W.grownBy (W.setCell ⟨s+1,p.length,none⟩ (.int .i64 y)) (some (s+1)):=by
 have hp:=Kd.cZ h.c (p.length:Int) y;rw[Int.toNat_natCast] at hp;have gM:∀k,k≠s+1->(W.setCell ⟨s+1,p.length,none⟩ (.int .i64 y)).heap[k]? =W.heap[k]? :=fun k hk=>Below.heap_setCell _ _ _ _ (by simpa using hk)
 refine⟨⟨(gM gx (by omega)).trans h.g,(gM qx (by omega)).trans h.q,(gM s (by omega)).trans h.y,?_,(gM (s+2) (by omega)).trans h.cb,(gM (s+3) (by omega)).trans h.f,h.below.setCell (by show w0.heap.size<=s+1;omega) _⟩,hp.2⟩;have e:(p++x::List.replicate a 0).set p.length y=p++y::List.replicate a 0:=by
  rw[List.set_append_right _ _ (Nat.le_refl _),Nat.sub_self];rfl
 rw[<-e];exact hp.1
theorem CS.cell {w0:World} {n:Nat} {A0:Option Addr} {c0:Nat} {E:List S83} {q gx qx s l:Nat} {W:World} {p:List Int} {b:Nat} {x:Int} (h:CS w0 n A0 c0 E q gx qx s l W (p++x::List.replicate b 0)) (hn:p.length<n):
  W.cell? ⟨s+1,p.length,none⟩=some (.int .i64 x)∧W.frozen? ⟨s+1,p.length,none⟩=false:=by
 obtain⟨h1,a⟩:=Kd.bJ (0:Int) h.c (p.length:Int) (by omega) (by omega);rw[Int.toNat_natCast] at h1 a;refine⟨?_,a⟩;rw[h1];simp[bH,List.getD_eq_getElem?_getD]
theorem Cl (k m:Nat) (b:Int) (g:Option Addr) (i:Nat) (a:List (S83)) (j:Int) (l:Option Addr) (c2:Nat) (l2:List Int) (r:Bool) (w:World) (n:Kd.C aK w g a.length a) (o:a.length<=i) (p:l2.length=m) (q:Kd.C (Kd.int .i64) w l m l2) (s:m<=c2) (h:eA.f k b a j l2=some r):
  Calls Tryz.prog 176 #[.agg #[.int .i64 b,.slice g a.length i],.int .i64 j,.slice l m c2] w fun e w'=>e= .returned (.bool r)∧Below w.heap.size w w':=by
 subst p;exact eA.calls k b g i a j l c2 l2 r w n o q s h
theorem Cm {w0:World} {B K n:Nat} {A0:Option Addr} {c0:Nat} {E:List S83} {q gx qx s l:Nat} {calm:List Int->Bool} {J Jx:List (List Int×Value)->World->Prop} (hn:n<=12) (aL:Kd.C aK w0 A0 E.length E) (aO:E.length<=c0) (X:gx<s) (Y:qx<s) (Z:w0.heap.size<=s)
  (aa:∀c,iw n q c->eA.f K n E q c=some (calm c)) (ab:∀(p:List Int) (x a:Nat),calm (p++(x:Int)::List.replicate a 0)=true->p.length+1+a=n->p.length≠q->x+1<B) (hB:B<=1000) (aP:0<B)
  (ad:∀pre A C,J pre A->A.grownBy C (some (s+1))->J pre C)
  (hY:∀pre x A C,J pre A->qo s x A C->pre.length<16384->YieldAt Fence.wide 8 Tryz.prog l #[x.2] C fun e W'=>(e= .returned (.bool true)∧J (pre++[x]) W'∧qp w0 gx qx s C W')∨(e= .returned (.bool false)∧Jx (pre++[x]) W')):
  ∀(a v:Nat) (p:List Int) (pre:List (List Int×Value)) (W:World),p.length=v->v+a=n->CS w0 n A0 c0 E q gx qx s l W (p++List.replicate a 0)->iw n q (p++List.replicate a 0)->J pre W->pre.length+(dF q B calm a p).length<=16384->
  CallsIn Fence.wide 9 Tryz.prog 200 #[.int .i64 v,.pointer (some ⟨gx,0,none⟩),.pointer (some ⟨s,0,none⟩),.pointer (some ⟨s+2,0,none⟩),.pointer (some ⟨qx,0,none⟩),.pointer (some ⟨s+3,0,none⟩)] W (qq w0 B n A0 c0 E q gx qx s l calm J Jx a p pre):=by
 intro a;induction a with
 |zero=>
  intro v p pre W hp hv hC hO H hlen;obtain rfl:v=n:=by omega
  exact Cj hn hY p pre W hp (by simpa using hC) H (by simp[dF] at hlen;omega)
 |succ a ih=>
  intro v p pre W hp hv hC hO H hlen;have I:W.cell? ⟨gx,0,none⟩=some (.int .i64 n):=(ao hC.g 0).trans rfl;have L:W.cell? ⟨qx,0,none⟩=some (.int .i64 q):=(ao hC.q 0).trans rfl;have a0:W.cell? ⟨s+3,0,none⟩=some (.func (.func 200) #[] #[.pointer (some ⟨gx,0,none⟩),.pointer (some ⟨s,0,none⟩),.pointer (some ⟨s+2,0,none⟩),.pointer (some ⟨qx,0,none⟩),.pointer (some ⟨s+3,0,none⟩)]):=(ao hC.f 0).trans rfl;have a1:((v:Int)==(n:Int))=false:=by simp;omega
  have hu:=Tryz.underlying24;have am:=Aside0.mk ih;have i:=Aside0.mk hC;have HO:=Aside0.mk hO;have w:=Aside0.mk H;have HL:=Aside0.mk hlen;have k:=Aside0.mk hp;have R:=Aside0.mk ad;have a2:=Aside0.mk aa;have a3:=Aside0.mk ab;have b3:v<12:=by omega
  clear ih hC hO H hlen hY ad aa ab hp;refine callsIn_of_wp Tryz.func200 rfl trivial ?_ rfl;simp only[Tryz.ntmps200,List.size_toArray,List.length_cons,List.length_nil,Nat.reduceAdd,Nat.reduceSub,Array.replicate_succ,Array.replicate_zero,List.push_toArray,List.append_toArray,List.nil_append,List.cons_append];by_cases F:v=q
  ·have r:=am.out (v+1) (p++[0]) pre W (by simp[k.out]) (by omega) (by rw[List.append_assoc];exact i.out) (by rw[List.append_assoc];exact HO.out) w.out (by have h:=HL.out;rw[dF,if_pos (by rw[k.out];exact F)] at h;exact h)
   rw[Int.natCast_add,Int.natCast_one] at r;have S:=Aside0.mk ((callsIn_wide (n:=8)).2 (callsIn_wide.1 r));clear r;have y:=Aside0.mk F;clear F;have b4:((v:Int)==(q:Int))=true:=by simp[y.out]
   gi_wp2_with (refine⟨trivial,?_⟩;gi_at_call 200;refine S.out.mono ?_;rintro e w3 j;obtain⟨b,rfl,T⟩:=Ci j;clear j)
   go_ret;rcases T.out with⟨rfl,m,j,M,z⟩|⟨rfl,j⟩
   ·exact .inl ⟨m,rfl,j,by rw[dF,if_pos (by rw[k.out];exact y.out)];exact M,by rw[List.append_assoc] at z;exact z⟩
   ·exact .inr ⟨rfl,j⟩
  ·have a4:((v:Int)==(q:Int))=false:=by simp;omega
   have y:=Aside0.mk (show p.length≠q by rw[k.out];exact F);have a5:=Aside0.mk (Cg q B calm a p y.out);clear F;gi_wp2;clear I L a0 a1 a4;gi_loopg [] (B) (fun kq wr=>∃(x:Nat) (m:List (List Int×Value)),x<B∧Aside0 (J (pre++m) wr)∧Aside0 (CS w0 n A0 c0 E q gx qx s l wr (p++(x:Int)::List.replicate a 0))∧Aside0 (dF q B calm (a+1) p=m.map Prod.fst++jl (fun (x:Nat)=>calm (p++(x:Int)::List.replicate a 0)) (fun (x:Nat)=>dF q B calm a (p++[(x:Int)])) (B-x) x)∧Aside0 (kq=B-x))
   case atStart=>exact⟨0,[],aP,⟨by simpa using w.out⟩,i,⟨by rw[a5.out];rfl⟩,⟨rfl⟩⟩
   case round=>
    clear w i;obtain⟨x,m,hx,w,i,HT,HK⟩:=hrel;have N:=Aside0.mk (Ck (x:=x) HO.out y.out (by omega));obtain⟨-, -,U⟩:=Kd.aA i.out.c;rw[N.out.1] at U;have O:=Aside0.mk ((callsIn_wide (n:=8)).2 (Cl K n n A0 c0 E q (some ⟨s+1,0,none⟩) n _ _ wr (Kd.al aL i.out.below) aO N.out.1 U (Nat.le_refl _) (a2.out _ N.out)));have av:=Aside0.mk (show jl (fun (x:Nat)=>calm (p++(x:Int)::List.replicate a 0)) (fun (x:Nat)=>dF q B calm a (p++[(x:Int)])) (B-x) x=if calm (p++(x:Int)::List.replicate a 0)=true then dF q B calm a (p++[(x:Int)])++jl (fun (x:Nat)=>calm (p++(x:Int)::List.replicate a 0)) (fun (x:Nat)=>dF q B calm a (p++[(x:Int)])) (B- (x+1)) (x+1) else[] from by rw[show B-x=(B- (x+1))+1 by omega];rfl);have I:wr.cell? ⟨gx,0,none⟩=some (.int .i64 n):=(ao i.out.g 0).trans rfl;have aB:wr.cell? ⟨gx,1,none⟩=some (.slice A0 E.length c0):=(ao i.out.g 1).trans rfl;have L:wr.cell? ⟨qx,0,none⟩=some (.int .i64 q):=(ao i.out.q 0).trans rfl;have aF:wr.cell? ⟨s+2,0,none⟩=some (.slice (some ⟨s+1,0,none⟩) n n):=(ao i.out.cb 0).trans rfl;have b6:(0:Int)<=(v:Int):=by omega
    have b_:(v:Int)<(n:Int):=by omega
    clear U;cases hb:calm (p++(x:Int)::List.replicate a 0) with
    |false=>
     rw[hb] at O;have P:=Aside0.mk (show dF q B calm (a+1) p=m.map Prod.fst from by rw[HT.out,av.out,if_neg (by rw[hb];decide),List.append_nil]);clear hb;gi_wp2_with (refine⟨trivial,?_⟩;gi_at_call 176;refine O.out.mono ?_;rintro e w1 ⟨rfl,u⟩;have D:=Aside0.mk (i.out.stay u);have Q:w1.cell? ⟨s+2,0,none⟩=some (.slice (some ⟨s+1,0,none⟩) n n):=(ao D.out.cb 0).trans rfl;have G:=D.out.cell (by rw[k.out];omega);rw[k.out] at G;obtain⟨q2,q3⟩:=G;have bi:=Aside0.mk u;clear u)
     go_ret;have o:=D.out.set X Y Z 0;rw[k.out] at o;exact .inl ⟨m,rfl,R.out _ _ _ w.out (World.grownBy.trans (iR bi.out _) o.2),P.out.symm,o.1⟩
    |true=>
     rw[hb] at O;have HX:=Aside0.mk (a3.out p x a hb (by rw[k.out];omega) y.out);have P:=Aside0.mk (show dF q B calm (a+1) p=m.map Prod.fst++(dF q B calm a (p++[(x:Int)])++jl (fun (x:Nat)=>calm (p++(x:Int)::List.replicate a 0)) (fun (x:Nat)=>dF q B calm a (p++[(x:Int)])) (B- (x+1)) (x+1)) from by rw[HT.out,av.out,if_pos hb]);have bn:=Aside0.mk (show (pre++m).length+(dF q B calm a (p++[(x:Int)])).length<=16384 from by have h1:=HL.out;rw[P.out] at h1;simp only[List.length_append,List.length_map] at h1⊢;omega);clear hb;gi_wp2_with (refine⟨trivial,?_⟩;gi_at_call 176;refine O.out.mono ?_;rintro e w1 ⟨rfl,u⟩;have D:=Aside0.mk (i.out.stay u);have Q:w1.cell? ⟨s+3,0,none⟩=some (.func (.func 200) #[] #[.pointer (some ⟨gx,0,none⟩),.pointer (some ⟨s,0,none⟩),.pointer (some ⟨s+2,0,none⟩),.pointer (some ⟨qx,0,none⟩),.pointer (some ⟨s+3,0,none⟩)]):=(ao D.out.f 0).trans rfl;have r:=am.out (v+1) (p++[(x:Int)]) (pre++m) w1 (by simp[k.out]) (by omega) (by rw[List.append_assoc];exact D.out) (by rw[List.append_assoc];exact N.out) (R.out _ _ _ w.out (iR u _)) bn.out;rw[Int.natCast_add,Int.natCast_one] at r;have S:=Aside0.mk ((callsIn_wide (n:=8)).2 (callsIn_wide.1 r));clear u r)
     refine⟨trivial,?_⟩;refine S.out.mono ?_;rintro e w3 (⟨bo,rfl,j,M,z⟩|⟨rfl,bv,j⟩)
     ·rw[List.append_assoc] at z
      have V:=Aside0.mk (show CS w0 n A0 c0 E q gx qx s l w3 (p++(x:Int)::List.replicate a 0) from z);have bw:=Aside0.mk j;have H4:=Aside0.mk M;clear j M z Q I aB L aF;have Q:w3.cell? ⟨s+2,0,none⟩=some (.slice (some ⟨s+1,0,none⟩) n n):=(ao V.out.cb 0).trans rfl;have G:=V.out.cell (by rw[k.out];omega);have o:=V.out.set X Y Z ((x:Int)+1);rw[k.out] at G o;obtain⟨q2,q3⟩:=G;have b0:=Aside0.mk o.1;have b1:=Aside0.mk (R.out _ _ _ bw.out o.2);clear o;have b':(x:Int)<=1000:=by omega
      gi_wp2;gi_roundg (B- (x+1))
      case measure=>rw[HK.out];omega
      case rel=>exact⟨x+1,m++bo,HX.out,⟨by rw[<-List.append_assoc];exact b1.out⟩,b0,⟨by rw[P.out,List.map_append,H4.out,List.append_assoc]⟩,⟨rfl⟩⟩
     ·have T:=Aside0.mk j
      clear j Q I aB L aF;gi_wp2;go_ret;exact .inr ⟨rfl,bv,T.out⟩
end
theorem uE {α:Type} {f:Nat->Option α} (h:∀k,ae (f k) (f (k+1))) {k:Nat} {r:α} (hk:f k=some r):∀m,f (k+m)=some r
 |0=>hk
 |m+1=>h _ _ (uE h hk m)
theorem uF {i:Nat} (h:i<=1000):wrap64 ((i:Int)+1)=((i+1:Nat):Int):=by
 rw[show wrap64 ((i:Int)+1)=(i:Int)+1 from by unfold wrap64;omega];omega
theorem Cn {x:Int} (h: -1048576<=x∧x<=1048576):ig.f x=some true:=by
 unfold ig.f;rw[if_pos (show x>= -1048576 from h.1)];simp[h.2]
theorem uG (c:List Int) (b:c.length<=12) (h:∀i:Nat, -1048576<=rd c i∧rd c i<=1048576):∀(m K i:Nat),i+m=c.length->m<K->bc.l0 K c c.length i=some 0
 |0,0,i,_,a=>by omega
 |0,K+1,i,hi,_=>by
  rw[bc.l0,if_neg (by omega)]
 |m+1,0,i,_,a=>by omega
 |m+1,K+1,i,hi,a=>by
  rw[bc.l0,if_pos (by omega),if_pos (by omega),if_pos (by omega),Cn (h i),Option.bind_some,if_pos rfl,uF (by omega)];exact uG c b h m K (i+1) (by omega) (by omega)
theorem uH (q:Int) (c:List Int) (b:c.length<=12) (h:∀i:Nat,0<=rd c i):∀(m K i:Nat),i+m=c.length->m<K->cJ.l0 K q c c.length i=some 0
 |0,0,i,_,a=>by omega
 |0,K+1,i,hi,_=>by
  rw[cJ.l0,if_neg (by omega)]
 |m+1,0,i,_,a=>by omega
 |m+1,K+1,i,hi,a=>by
  have e:=h i;rw[cJ.l0,if_pos (by omega),if_pos (by omega),if_pos (by omega),if_neg (show ¬rd c i<0 by omega),uF (by omega),uH q c b h m K (i+1) (by omega) (by omega)];split<;>rfl
theorem uI (b:Nat->Bool):∀n,(gu b n).length=0↔(List.range n).all b=true
 |0=>by simp[gu]
 |n+1=>by
  have a:=uI b n;rw[List.range_succ,List.all_append];simp only[gu];cases hb:b n with
  |true=>simp[hb] at a⊢;exact a
  |false=>simp[hb]
theorem Co {k n:Nat} {E:List S83} {q:Nat} {c:List Int} (b:cX.f k n E q=some 0) (a:iw n q c):cJ.f (k+20) n E q c=some 0:=by
 obtain⟨_,⟨_,hn⟩,_,g,h⟩:=kl b;have j:=a.1;have h1:=uE (fun k=>cX.mono n E q k) b 20;have e:bc.f (k+20) c n=some 0:=by
  unfold bc.f jf.f;rw[if_neg (by omega),if_neg (by omega),Option.bind_some,if_pos rfl,if_pos (by omega)];exact uG c (by omega) (fun i=>by have:=a.2.1 i;omega) c.length (k+20) 0 (by omega) (by omega)
 unfold cJ.f;rw[h1,Option.bind_some,if_pos rfl,e,Option.bind_some,if_pos rfl];exact uH q c (by omega) (fun i=>(a.2.1 i).1) c.length (k+20) 0 (by omega) (by omega)
theorem Cp {k n:Nat} {E:List S83} {q:Nat} {c:List Int} (b:cX.f k n E q=some 0) (a:iw n q c):gv.f (k+20) n E q c=some 0:=by
 obtain⟨_,⟨_,hn⟩,_,e,g⟩:=kl b;have h:=a.1;unfold gv.f;rw[Co b a,Option.bind_some,if_pos rfl,if_pos e,if_pos (by omega),if_pos a.2.2]
theorem Cq {k n:Nat} {E:List S83} {q:Nat} {c:List Int} (a:cX.f k n E q=some 0) (e:iI n E=true) (b:iw n q c):fL.f (k+20) n E q c=some (fJ n (aj E) q c,0):=by
 obtain⟨_,⟨_,hn⟩,_,g,i⟩:=kl a;have j:=b.1;unfold fL.f gL.f;rw[Cp a b,Option.bind_some,if_pos rfl,if_pos (by simp only[nO,Bool.and_eq_true,decide_eq_true_eq];exact⟨by omega,e⟩),Option.bind_some,if_pos rfl];congr 2
 rw[Int.toNat_natCast,Int.toNat_natCast];have h:=uI (cB (cC q) (nP n E q c)) n;rw[Bool.eq_iff_iff];unfold fJ;rw[show eu n (bY n (aj E) c) (cC q)=nP n E q c from rfl,<-h];simp
theorem Cr {k n:Nat} {E:List S83} {q:Nat} {c:List Int} (a:cX.f k n E q=some 0) (b:iI n E=true) (e:iw n q c):eA.f (k+20) n E q c=some (fJ n (aj E) q c):=by
 unfold eA.f;rw[Cq a b e,Option.bind_some];cases fJ n (aj E) q c<;>simp
theorem Cs {t:Nat->Nat->Int} (a:∀i j,0<=t i j∧t i j<=50) (b:Nat->Bool) (v:Nat) (n:Nat) (hn:n<=12):dr t b v n<=600:=by
 have:=(pR (burnt:=b) a v n).2;omega
theorem Ct {n:Nat} {E:List S83} {q:Nat} (b:iI n E=true) (hn:n<=12) {l:List Int} {v:Nat} (e:v<n) (g:v≠q) (h:fJ n (aj E) q l=true):rd l v<valOf n (aj E) v∧valOf n (aj E) v<=600:=by
 have a:=(kT b).times;exact⟨((p_ (fun i j=>(a i j).1) q l).1 h).lt e g,Cs a _ v n hn⟩
section
attribute [local go_sem] Oper.semAt_some
theorem Cu {w0:World} {B K n:Nat} {A0:Option Addr} {c0:Nat} {E:List S83} {q gx qx:Nat} {calm:List Int->Bool} (W:World) (m:Nat) (hS:W.heap.size=m) (hn:n<=12) (ad:Kd.C aK w0 A0 E.length E) (ag:E.length<=c0)
  (G:∀c,iw n q c->eA.f K n E q c=some (calm c)) (H:∀(p:List Int) (x I:Nat),calm (p++(x:Int)::List.replicate I 0)=true->p.length+1+I=n->p.length≠q->x+1<B) (hB:B<=1000) (am:0<B)
  (L:(dF q B calm n []).length<=16384)
  (r:W.heap[gx]? =some (.cells #[.int .i64 n,.slice A0 E.length c0] 24 (0,0))) (w:W.heap[qx]? =some (.cells #[.int .i64 q] 3 (0,0))) (hw:Below w0.heap.size w0 W):
  iJ (σ:=Unit) Fence.wide 9 Tryz.prog 199 #[.pointer (some ⟨gx,0,none⟩),.pointer (some ⟨qx,0,none⟩)] (fun x:List Int×Value=>#[x.2]) (fun _ W W1=>W1=W) (fun _ A C=>A.grownBy C (some (m+1))) (fun _ x A C=>qo m x A C)
   (fun _ X Y=>qp w0 gx qx m X Y) (fun _ xs W'=>xs.map Prod.fst=dF q B calm n []) (fun _ _ _=>True) (fun pre=>pre.length<16384) W:=by
 intro u J Jx y an M N;subst hS;have O:=M () W rfl;have ap:=Aside0.mk (fun W' h1 z g=>Cm (w0:=w0) (B:=B) (K:=K) (s:=W.heap.size) (l:=u) (J:=J ()) (Jx:=Jx ()) hn ad ag (ay r) (ay w) hw.size G H hB am (fun pre A C h hA=>y _ _ _ _ h hA) (fun pre x A C h1 z g=>N _ _ _ _ _ h1 z g) n 0 [] [] W' rfl (by omega) h1 z g (by simpa using L));have av:=Aside0.mk y;have aB:=Aside0.mk O;obtain⟨zs,P,Q⟩:=lx 26 Tryz.underlying26 n (by omega);have HZ:=Aside0.mk Q;have R:=Aside0.mk r;have S:=Aside0.mk w;have T:=Aside0.mk hw;have bn:(W.alloc (.cells #[.func (.yield u) #[] #[]] 141)).cell? ⟨gx,0,none⟩=some (.int .i64 n):=(ao (aw r _) 0).trans rfl;have aO:=Aside0.mk (show iw n q (List.replicate n 0) from⟨by simp,fun i=>by simp[rd,List.getD_eq_getElem?_getD,List.getElem?_replicate];split<;>simp,by simp[rd,List.getD_eq_getElem?_getD,List.getElem?_replicate];split<;>simp⟩);have aP:=ay R.out;have aS:=ay S.out;have a0:=T.out.size;obtain⟨a,U⟩:∃o:Obj,o= .cells #[.func (.yield u) #[] #[]] 141:=⟨_,rfl⟩;obtain⟨j,V⟩:∃o:Obj,o= .cells zs 3:=⟨_,rfl⟩;obtain⟨b,Z⟩:∃o:Obj,o= .cells #[.slice (some ⟨W.heap.size+1,0,none⟩) n n] 26:=⟨_,rfl⟩;obtain⟨fo,aa⟩:∃o:Obj,o= .cells #[.func (.func 200) #[] #[.pointer (some ⟨gx,0,none⟩),.pointer (some ⟨W.heap.size,0,none⟩),.pointer (some ⟨W.heap.size+1+1,0,none⟩),.pointer (some ⟨qx,0,none⟩),.pointer (some ⟨W.heap.size+1+1+1,0,none⟩)]] 121:=⟨_,rfl⟩;have v:=Aside0.mk (aq (aq (aq (aq (Below.refl W.heap.size W) a) j) b) fo);have E0:=Aside0.mk (show ((((W.alloc a).alloc j).alloc b).alloc fo).heap[W.heap.size]? =some a from by rw[Below.heap_alloc _ _ _ (by simp;omega),Below.heap_alloc _ _ _ (by simp;omega),Below.heap_alloc _ _ _ (by simp)];exact heap_alloc_new W a);have D:=HZ.out (W.alloc a) (fun k=>k=W.heap.size+1) (by simp);rw[World.size_alloc,<-V] at D;have E1:=Aside0.mk (Kd.aI (Kd.aI (Kd.aW D (show w0.heap.size<=W.heap.size+1 by omega)) b) fo);have E2:=Aside0.mk (show ((((W.alloc a).alloc j).alloc b).alloc fo).heap[W.heap.size+2]? =some b from by rw[Below.heap_alloc _ _ _ (by simp)];have h:=heap_alloc_new ((W.alloc a).alloc j) b;simpa using h);have E3:=Aside0.mk (show ((((W.alloc a).alloc j).alloc b).alloc fo).heap[W.heap.size+3]? =some fo from by have h:=heap_alloc_new (((W.alloc a).alloc j).alloc b) fo;simpa using h);have a5:Aside0 (CS w0 n A0 c0 E q gx qx W.heap.size u ((((W.alloc a).alloc j).alloc b).alloc fo) (List.replicate n 0)):=
  ⟨⟨(v.out.block gx aP).trans R.out,(v.out.block qx aS).trans S.out,E0.out.trans (by rw[U]),E1.out,E2.out.trans (by rw[Z]),E3.out.trans (by rw[aa]),T.out.trans (v.out.mono a0)⟩⟩
 have a9:Aside0 (J () [] ((((W.alloc a).alloc j).alloc b).alloc fo)):=⟨av.out _ _ _ _ aB.out (iR v.out _)⟩;have be:=Aside0.mk ((callsIn_wide (n:=8)).2 (callsIn_wide.1 (ap.out _ (by simpa using a5.out) (by simpa using aO.out) a9.out)));subst U V Z aa;clear y an M N O G H L Q r w hw D;refine callsIn_of_wp Tryz.func199 rfl trivial ?_ rfl;simp only[Tryz.ntmps199,List.size_toArray,List.length_cons,List.length_nil,Nat.reduceAdd,Nat.reduceSub,Array.replicate_succ,Array.replicate_zero,List.push_toArray,List.append_toArray,List.nil_append,List.cons_append];gi_wp2;refine⟨trivial,?_⟩;refine be.out.mono ?_;rintro e w3 (⟨vs,rfl,g,h4,h5⟩|⟨rfl,bi,g⟩)
 ·have F:=Aside0.mk g
  have H4:=Aside0.mk h4;clear g h4 h5 P;gi_wp2;go_end0;exact⟨⟨_,rfl⟩,.inl ⟨_,vs,H4.out,F.out⟩⟩
 ·have F:=Aside0.mk g
  clear g P;gi_wp2;go_end0;exact⟨⟨_,rfl⟩,.inr ⟨_,bi,trivial,F.out⟩⟩
end
def gB (val:List Int) (q:Int) (n j:Nat):List Int:=(List.range n).map fun v=>if v<j∧(v:Int)≠q then rd val v-1 else 0
theorem Cv (val:List Int) (q:Int) (n:Nat):gB val q n 0=List.replicate n 0:=by
 unfold gB;refine List.ext_getElem (by simp) fun i h1 a=>?_
 simp
theorem Cw {val:List Int} {q:Int} {n j:Nat} (h:(j:Int)=q):gB val q n (j+1)=gB val q n j:=by
 unfold gB;refine List.map_congr_left fun v _=>?_
 by_cases e:v=j
 ·subst e;simp[h]
 ·have:(v<j+1∧(v:Int)≠q)↔(v<j∧(v:Int)≠q):=by omega
  simp only[this]
theorem Cx {val:List Int} {q:Int} {n j:Nat} (h:(j:Int)≠q) (a:j<n):gB val q n (j+1)=(gB val q n j).set j (rd val j-1):=by
 refine List.ext_getElem (by simp[gB]) fun i h1 b=>?_
 rw[List.getElem_set];simp only[gB,List.getElem_map,List.getElem_range];by_cases e:j=i
 ·subst e;simp[h]
 ·rw[if_neg e]
  have:(i<j+1∧(i:Int)≠q)↔(i<j∧(i:Int)≠q):=by omega
  simp only[this]
theorem Cy (n:Nat) (E:List S83):(gA n E).length=n:=uz n _ _
theorem Cz {n:Nat} {E:List S83} (h:eF E=true) (i:Nat):0<=rd (gA n E) i∧rd (gA n E) i<=4000:=by
 have h1:=uB n (bT E E.length) (bT E E.length).length i;have a:=ux h;unfold gA;omega
theorem CD (k n:Nat) (A0:Option Addr) (c0:Nat) (E:List S83) (q:Int) (a:Option Addr) (cd:Nat) (dl:List Int) (w:World) (h:Kd.C aK w A0 E.length E) (i:E.length<=c0) (hd:Kd.C (Kd.int .i64) w a n dl) (j:n<=cd)
  (hn:n<=12) (l:dl.length=n) (m:aY.f k n E=some 0) (o:eF E=true) (p:dV n E):
  Calls Tryz.prog 212 #[.agg #[.int .i64 n,.slice A0 E.length c0],.int .i64 q,.slice a n cd] w fun e w'=>∃(gp:Nat) (r b:Option Addr) (s g:Nat) (u:Value),e= .returned (.tuple #[.pointer (some ⟨gp,0,none⟩),.int .i64 0])∧cw w' gp (.slice r n s) q u (.slice b n g) (fun x=>if x<n then iq q (gA n E) dl x else false)∧(Kd.int .i64).R 3 w' w.heap.size (fun _=>True) (.slice b n g) (gA n E)∧Below w.heap.size w w':=by
 subst l;exact Ce k dl.length A0 c0 E q a cd dl w h i hd j hn rfl m o p
def gC.f (k:Nat) (N:Int) (E:List S83) (q:Int):Option (List Int×Int):=
 (cX.f k N E q).bind fun t=>if t=0 then(if my N E=true then some (gB (gA N.toNat E) q N.toNat N.toNat,0) else none) else some ([],t)
theorem gC.mono:∀a b e k,ae (gC.f k a b e) (gC.f (k+1) a b e):=by
 intro a b e k;unfold gC.f;exact ae.bind (cX.mono _ _ _ _) (fun _=>ae.refl _)
theorem CE (k:Nat) (N:Int) (A0:Option Addr) (c0:Nat) (E:List S83) (q:Int) (t:Int) (w:World) (g:Kd.C aK w A0 E.length E) (h:E.length<=c0)
  (a:cX.f k N E q=some t) (b:t≠0):
  Calls Tryz.prog 198 #[.agg #[.int .i64 N,.slice A0 E.length c0],.int .i64 q] w fun e w'=>e= .returned (.tuple #[.slice none 0 0,.int .i64 t])∧Below w.heap.size w w':=by
 have hu:=Tryz.underlying24;have i:=Aside0.mk a;have l:(t != 0)=true:=by simpa using b
 clear a b;go_enter Tryz.func198,Tryz.ntmps198
 go_wp2_with (go_at_call 211;refine(cX.calls k N A0 c0 E q t _ (Kd.br g _) h i.out).mono ?_;rintro e w1 ⟨rfl,hb⟩;have j:=Aside0.mk (aU (aq (Below.refl w.heap.size w) _) hb);clear hb)
 go_ret2;exact⟨rfl,j.out⟩
theorem CF (k n:Nat) (A0:Option Addr) (c0:Nat) (E:List S83) (q:Int) (w:World) (M:Kd.C aK w A0 E.length E) (N:E.length<=c0)
  (y:cX.f k n E q=some 0) (O:eF E=true) (P:dV n E):
  Calls Tryz.prog 198 #[.agg #[.int .i64 n,.slice A0 E.length c0],.int .i64 q] w fun e w'=>∃v,e= .returned (.tuple #[v,.int .i64 0])∧(Kd.int .i64).R 3 w' w.heap.size (fun _=>True) v (gB (gA n E) q n n)∧Below w.heap.size w w':=by
 have hu:=Tryz.underlying24;have bw:=Tryz.underlying236;obtain⟨Q,⟨_,hn⟩,_,bx,b0⟩:=kl y;obtain⟨b,aL,S⟩:=lx 25 Tryz.underlying25 n (by omega);obtain⟨ys,aO,T⟩:=lx 26 Tryz.underlying26 n (by omega);have HZ:=Aside0.mk S;have HY:=Aside0.mk T;have a0:=Aside0.mk y;have Hg:=Aside0.mk Q;have U:=Aside0.mk O;have HI:=Aside0.mk P;have a2:n<=12:=by omega
 clear S T y Q O P hn;have z:=Aside0.mk (heap_alloc_new w (.cells #[.int .i64 n,.slice A0 E.length c0] 24));go_enter Tryz.func198,Tryz.ntmps198
 go_wp2_with (go_at_call 211;refine(cX.calls k n A0 c0 E q 0 _ (Kd.br M _) N a0.out).mono ?_;rintro e w1 ⟨rfl,hb⟩;have g:=Aside0.mk (aU (aq (Below.refl w.heap.size w) _) hb);have a:=Aside0.mk (aG z.out hb);clear hb)
 generalize B:w.heap.size=gb at z g a⊢;have a3:=ay a.out;have a4:w1.cell? ⟨gb,0,none⟩=some (.int .i64 n):=(ao a.out 0).trans rfl;have a5:w1.cell? ⟨gb,1,none⟩=some (.slice A0 E.length c0):=(ao a.out 1).trans rfl;have a9:(w1.alloc (.cells b 3)).drew.cell? ⟨gb,0,none⟩=some (.int .i64 n):=(ao (aw a.out _) 0).trans rfl;have be:(w1.alloc (.cells b 3)).drew.cell? ⟨gb,1,none⟩=some (.slice A0 E.length c0):=(ao (aw a.out _) 1).trans rfl;have V:=Aside0.mk (CD k n A0 c0 E q (some ⟨w1.heap.size,0,none⟩) n (List.replicate n 0) (w1.alloc (.cells b 3)).drew (Kd.eV (Kd.br (Kd.al M (by rw[B];exact g.out)) _)) N (by have h:=(Kd.aA (Kd.a8 (HZ.out w1 (fun _=>True) trivial))).2.2;rw[List.length_replicate] at h;exact h) (Nat.le_refl _) a2 (by simp) Hg.out U.out HI.out);have D:Aside0 (gb<=(w1.alloc (.cells b 3)).drew.heap.size):=⟨by have h:(w1.alloc (.cells b 3)).drew.heap.size=w1.heap.size+1:=World.size_alloc w1 _;omega⟩;have W:=Aside0.mk (bL (g.out.alloc (Nat.le_of_lt a3) (.cells b 3)));have X:=Aside0.mk (show (w1.alloc (.cells b 3)).drew.heap[gb]? =some (.cells #[.int .i64 n,.slice A0 E.length c0] 24 (0,0)) from aw a.out _);go_wp2;go_region_with ((go_at_call 212;refine V.out.mono ?_;rintro e w2 ⟨gp,b1,Y,b2,Z,rv,rfl,hP,hR,hb⟩;have ag:=Aside0.mk (W.out.trans (hb.mono D.out));have F:=Aside0.mk (aG X.out hb);have ak:=Aside0.mk hP;have G:=Aside0.mk (Kd.aW hR D.out);clear hP hR hb))
 all_goals have bf:w2.cell? ⟨gb,0,none⟩=some (.int .i64 n):=(ao F.out 0).trans rfl
 all_goals have H:=ay F.out
 all_goals have am:=Aside0.mk (ak.out.below (aq (Below.refl w2.heap.size w2) (.cells ys 3)))
 all_goals have s:=Aside0.mk (Kd.aI G.out (.cells ys 3))
 all_goals have I:=Aside0.mk (ag.out.alloc (Nat.le_of_lt H) (.cells ys 3))
 all_goals have l:=Aside0.mk (Kd.aW (HY.out w2 (fun k=>k=w2.heap.size) rfl) (Nat.le_of_lt H))
 all_goals have bg:=am.out.n9
 all_goals have an:Aside0 (some w2.heap.size≠(Value.slice Y n Z).ownBlock):=⟨fun e=>by have:=Kd.aX G.out _ e.symm;omega⟩
 all_goals clear z g a W X D V ag F ak G a4 a5 a9 be aL
 all_goals go_wp2
 all_goals clear bf aO H bg am
 all_goals generalize w2.alloc (.cells ys 3)=w3 at s I l⊢
 all_goals generalize w2.heap.size=m at l an⊢
 all_goals
  have ap:=Aside0.mk (Cz (n:=n) U.out);have ar:=Aside0.mk (Cy n E);obtain⟨vl,J⟩:∃vl,vl=gA n E:=⟨_,rfl⟩;rw[<-J] at s ap ar;have bi:=Aside0.mk J;clear J;rw[<-Cv vl q n] at l;go_loopw [38] (fun i wr=>∃(j:Nat),j<=n∧i= .int .i64 j∧Aside0 ((Kd.int .i64).R 3 wr gb (fun _=>True) (.slice Y n Z) vl)∧Aside0 ((Kd.int .i64).R 3 wr gb (fun k=>k=m) (.slice (some ⟨m,0,none⟩) n n) (gB vl q n j))∧Aside0 (Below gb w wr)) (fun i _=>n- (intOf i).toNat)
  case atStart=>exact⟨0,by omega,rfl,s,l,I⟩
  case round=>
   clear s l I;obtain⟨j,hj,rfl,K,o,L⟩:=hrel;by_cases bk:j<n
   ·obtain⟨-, -,hC⟩:=Kd.aA K.out
    rw[ar.out] at hC;obtain⟨ad,rfl,hx⟩:=Kd.bG hC j (by omega) (by omega);rw[Int.toNat_natCast] at hx;clear hC;have bn:=ap.out j;have b5:(0:Int)<=(j:Int):=by omega
    have b6:(j:Int)<(n:Int):=by omega
    by_cases r:(j:Int)=q
    ·have u:=Aside0.mk (Cw (val:=vl) (n:=n) r)
     subst r;go_wp2;go_roundw
     case rel=>exact⟨j+1,by omega,by go_num,K,⟨by rw[u.out];exact o.out⟩,L⟩
     case measure=>exact(show n- ((j:Int)+1).toNat<n- ((j:Int)).toNat by omega)
    ·have u:=Aside0.mk (Cx (val:=vl) r bk)
     have b_:((j:Int) != q)=true:=by simpa using r
     obtain⟨bo,bv⟩:=Kd.bJ (0:Int) o.out (j:Int) (by omega) (by omega);have hp:=Kd.cZ o.out (j:Int) (rd vl j-1);rw[Int.toNat_natCast] at bo bv hp;have aB:=Aside0.mk hp.1;have aF:=Aside0.mk (Kd.gX K.out rfl hp.2 an.out);have g:=Aside0.mk (Below.setCell (p:=⟨m,j,none⟩) L.out (Kd.dK o.out m rfl) (.int .i64 (rd vl j-1)));clear hp r;generalize rd vl j=x at hx bn aB aF g u;go_wp2;go_roundw
     case rel=>exact⟨j+1,by omega,by go_num,aF,⟨by rw[u.out];exact aB.out⟩,g⟩
     case measure=>exact(show n- ((j:Int)+1).toNat<n- ((j:Int)).toNat by omega)
   ·obtain rfl:j=n:=by omega
    go_wp2;go_ret2;exact⟨.slice (some ⟨m,0,none⟩) _ _,rfl,by rw[B,<-bi.out];exact Kd.aV o.out (fun _ _=>trivial),by rw[B];exact L.out⟩
theorem gC.calls (k:Nat) (g:Int) (i:Option Addr) (j:Nat) (a:List (S83)) (l:Int) (p:List Int) (q:Int) (w:World) (r:Kd.C aK w i a.length a) (s:a.length<=j) (h:gC.f k g a l=some (p,q)):
  Calls Tryz.prog 198 #[.agg #[.int .i64 g,.slice i a.length j],.int .i64 l] w fun e w'=>∃u:Value,e= .returned (.tuple #[u,.int .i64 q])∧Kd.R (Kd.int .i64) 3 w' w.heap.size (fun _=>True) u p∧Below w.heap.size w w':=by
 unfold gC.f at h;obtain⟨t,m,H⟩:=Option.bind_eq_some_iff.mp h;by_cases o:t=0
 ·subst o
  rw[if_pos rfl] at H;by_cases b:my g a=true
  ·rw[if_pos b] at H
   simp only[Option.some.injEq,Prod.mk.injEq] at H;obtain⟨rfl,rfl⟩:=H;obtain⟨_,⟨v,x⟩,_,_⟩:=kl m;obtain⟨n,rfl⟩:=Int.eq_ofNat_of_zero_le v;simp only[my,Bool.and_eq_true] at b;rw[Int.toNat_natCast];exact CF k n i j a l w r s m b.1 (kT b.2)
  ·rw[if_neg b] at H;cases H
 ·rw[if_neg o] at H
  simp only[Option.some.injEq,Prod.mk.injEq] at H;obtain⟨rfl,rfl⟩:=H;refine(CE k g i j a l t w r s m o).mono ?_;rintro e w' ⟨rfl,hb⟩;exact⟨_,rfl,Kd.cV _ _ _ _ _,hb⟩
def fM.f (k:Nat) (b:Int) (e:List (S83)) (g:Int):Option (List Int×Int):=(gC.f k b e g).bind fun a=>(some (a.1,a.2))
theorem fM.mono:∀a0 a a2 k,ae (fM.f k a0 a a2) (fM.f (k+1) a0 a a2):=by
 intro a0 a a2 k;unfold fM.f;repeat' first
   |(with_reducible exact gC.mono _ _ _ _)
   |(with_reducible exact ae.refl _)
   |(with_reducible exact ae.none _)
   |(with_reducible refine ae.ite ?_ ?_)
   |(with_reducible refine ae.bind ?_ (fun _=>?_))
   |exact gC.mono _ _ _ _
   |exact ae.none _
   |refine ae.ite ?_ ?_
   |refine ae.bind ?_ (fun _=>?_)
theorem fM.calls (k:Nat) (b:Int) (j:Option Addr) (l:Nat) (a:List (S83)) (i:Int) (m:List Int) (n:Int) (w:World) (q:Kd.C aK w j a.length a) (r:a.length<=l) (h:fM.f k b a i=some (m,n)):
  Calls Tryz.prog 173 #[.agg #[.int .i64 b,.slice j a.length l],.int .i64 i] w fun e w'=>∃s:Value,e= .returned (.tuple #[s,.int .i64 n])∧Kd.R (Kd.int .i64) 3 w' w.heap.size (fun _=>True) s m∧Below w.heap.size w w':=by
 have G:=Tryz.underlying24;have y:=Aside0.mk q;have z:=Aside0.mk r;clear q r;have g:=Aside0.mk (Below.refl w.heap.size w);have H:((gC.f k b a i).bind fun u=>(some (u.1,u.2)))=some (m,n):=h;clear h;obtain⟨⟨B,D⟩,E,H⟩:=zo H;dsimp only at H;simp only[Option.some.injEq,Prod.mk.injEq] at H;obtain⟨rfl,rfl⟩:=H;go_enter Tryz.func173,Tryz.ntmps173
 go_wp2_with (first|((with_reducible refine aH (N:=2) rfl ?_);refine zX 2 #[.int .i64 b,.slice j a.length l] 24 ?_;intro I o J v hb;have p:=Aside0.mk (v);have K:=zG g o;have L:=zG g o;replace g:=zS g hb;clear hb v o;obtain⟨M,O,P,Q⟩:=au p)|((with_reducible refine ax (f:=198) rfl ?_);refine zL (some 8) Tryz.func198 #[.agg #[.int .i64 b,.slice j a.length l],.int .i64 i] ?_;(with_reducible refine(gC.calls k b _ _ a i B D _ ?af ?ah E.out).mono ?_);(case af=>exact Kd.al y.out zB);(case ah=>exact z.out);rintro e S ⟨T,rfl,x,hb⟩;refine⟨_,rfl,?_⟩;have F:=Aside0.mk (Kd.aW x (a_ zB));replace p:=zb p hb;replace g:=zS g hb;(try clear hb);(try clear x)))
 go_ret2;exact⟨_,zE,by(with_reducible repeat(first|apply Kd.aI|apply Kd.ba|apply Kd.a8));exact F.out,zB⟩
end Go.Proofs.YtffdiakgjakngaaGreat.P

