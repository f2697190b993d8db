/- Bounds answers true whatever the input (text 4 of 7): own walks and plain laws; no conditions. -/
import Derived.Deep.RegionHeld3
import Derived.Laws.EntriesVeiled
import Derived.Lib.SliceRun
import Derived.Test.YtffdiakgjakngaaGreatBounds3
namespace Go.Proofs.YtffdiakgjakngaaGreat.P
open Go.RowKit Go.Proofs.YtffdiakgjakngaaGreatW.PrintWords Go.Proofs.YtffdiakgjakngaaGreatW.PrintLast Go.Proofs.YtffdiakgjakngaaGreatW.PrintMore
set_option linter.unusedVariables false
set_option linter.unusedSimpArgs false
set_option maxHeartbeats 8000000
set_option maxRecDepth 100000
theorem lU (t:TypeId) (g:Tryz.prog.underlying t=some (.slice 3)) (n:Nat) (hn:n<=1000):∃zs:Array Value,(∀W:World,(Instr.makeSlice t (.int .i64 n) (.int .i64 n)).run Tryz.prog W= .ok (.slice (some ⟨W.heap.size,0,none⟩) n n) (W.alloc (.cells zs 3)))/\
  ∀(W:World) (ok:Nat->Prop),ok W.heap.size->(Kd.int .i64).R 3 (W.alloc (.cells zs 3)) W.heap.size ok (.slice (some ⟨W.heap.size,0,none⟩) n n) (List.replicate n 0):=by
 obtain⟨i0,hi,b⟩:=Option.map_eq_some_iff.1 gD;simp only[Prod.mk.injEq] at b;obtain⟨i,j,l⟩:=b;refine⟨madeCells (Value.int .i64 0).cells (n*1),fun W=>?_,fun W ok m=>⟨fun k hk=>?_,(madeCells (Value.int .i64 0).cells (n*1)).toList,?_,?_⟩⟩
 ·have a:=run_make (P:=Tryz.prog) W t 3 i0 (.int .i64 0) g hi i .i64 .i64 (n:Int) (n:Int) (by omega) (by omega) (by rw[l];omega) (by omega)
  simp only[aQ] at a;rw[j] at a;exact a
 ·have:W.heap.size=k:=by simpa [Value.ownBlock] using hk
  subst this;exact m
 ·have h:=World.ownsRow_lit (base:=W.heap.size) (e:=3) (size:=1) W (madeCells (Value.int .i64 0).cells (n*1)) n (aI _) (by simp only[maxLen];omega) (size_madeCells _ _)
  rw[List.length_replicate];exact h
 ·exact Kd.rG (R:=(Kd.int .i64).M (W.alloc (.cells (madeCells (Value.int .i64 0).cells (n*1)) 3)) W.heap.size (fun k=>ok k/\some k≠(Value.slice (some ⟨W.heap.size,0,none⟩) n n).ownBlock)) (size:=1) (z:=Value.int .i64 0) (z0:=(0:Int)) rfl (by decide) rfl n
theorem CJ {w W:World} {gb:Nat} {v:Value} {cs:Array Value} {t:TypeId} (h1:W.heap[gb]? =some (.cells cs t (0,0))) (a:W.cell? ⟨gb,0,none⟩=some v) (b:Below gb w W):W.drew.heap[gb]? =some (.cells cs t (0,0))/\W.drew.cell? ⟨gb,0,none⟩=some v/\Below gb w W.drew:=⟨h1,a,bU b⟩
theorem CK {w W:World} {gb:Nat} {v:Value} {cs:Array Value} {t:TypeId} {o:Obj} (h1:W.heap[gb]? =some (.cells cs t (0,0))) (a:W.cell? ⟨gb,0,none⟩=some v) (b:Below gb w W):(W.alloc o).heap[gb]? =some (.cells cs t (0,0))/\(W.alloc o).cell? ⟨gb,0,none⟩=some v/\Below gb w (W.alloc o):=
 ⟨aw h1 _,by rw[ai (aw h1 _) 0,<-ai h1 0];exact a,b.alloc (Nat.le_of_lt (az h1)) _⟩
theorem CL {w W W1:World} {gb:Nat} {v:Value} {cs:Array Value} {t:TypeId} (h1:W.heap[gb]? =some (.cells cs t (0,0))) (a:W.cell? ⟨gb,0,none⟩=some v) (b:Below gb w W) (hb:Below W.heap.size W W1):W1.heap[gb]? =some (.cells cs t (0,0))/\W1.cell? ⟨gb,0,none⟩=some v/\Below gb w W1:=
 ⟨aJ h1 hb,by rw[ai (aJ h1 hb) 0,<-ai h1 0];exact a,b.trans ⟨hb.os,hb.tape,hb.output,hb.size,fun k hk=>hb.block k (by have:=az h1;omega)⟩⟩
theorem lV {W:World} {o:Obj} {g:Nat} (h:g=W.heap.size):(W.alloc o).heap[g]? =some o:=by rw[h];exact bl W o
theorem lW {a w1 W':World} {gb bv:Nat} {v:Value} {dl:List Int} (b:(Kd.int .i64).R 3 w1 a.heap.size (fun _=>True) v dl) (e:gb<=a.heap.size)
  (g:∀{ok:Nat->Prop},(Kd.int .i64).R 3 w1 gb ok v dl->(Kd.int .i64).R 3 W' gb ok v dl) (h:bv<a.heap.size\/w1.heap.size<=bv):(Kd.int .i64).R 3 W' gb (fun k=>k≠bv) v dl:=
 g (Kd.bc (Kd.ba (Kd.eD b) (fun k hk=>by have i:=hk.2.1;have a2:=hk.2.2.1;omega)) e)
theorem dQ {a w1 W' Y:World} {gb bv n:Nat} {v:Value} {dl:List Int} {zs:Array Value} (g:(Kd.int .i64).R 3 (Y.alloc (.cells zs 3)) Y.heap.size (fun k=>k=Y.heap.size) (.slice (some ⟨Y.heap.size,0,none⟩) n n) (List.replicate n 0)) (h:bv=Y.heap.size)
  (hb:Below (Y.alloc (.cells zs 3)).heap.size (Y.alloc (.cells zs 3)) W') (b:(Kd.int .i64).R 3 w1 a.heap.size (fun _=>True) v dl) (i:gb<=bv) (j:bv<a.heap.size\/w1.heap.size<=bv):
  (Kd.int .i64).R 3 W' gb (fun k=>some k≠v.ownBlock) (.slice (some ⟨bv,0,none⟩) n n) (List.replicate n 0):=by
 subst h;refine Kd.bc (Kd.ba (Kd.cR g hb) (fun k hk e=>?_)) i;have h1:=Kd.dz b k e.symm;have l:=Kd.a_ b k e.symm;omega
theorem CM (k n:Nat) (A0:Option Addr) (c0:Nat) (E:List S83) (q:Int) (Ad:Option Addr) (cd:Nat) (dl:List Int) (w:World) (em:Kd.C aN w A0 E.length E) (er:E.length<=c0) (hd:Kd.C (Kd.int .i64) w Ad dl.length dl) (es:dl.length<=cd)
  (hn:n<=12) (b_:dl.length=n) (ht:bd.f k n E=some 0) (hE:eQ E=true) (cb:ej n E):
  Calls Tryz.prog 212 #[.agg #[.int .i64 n,.slice A0 E.length c0],.int .i64 q,.slice Ad dl.length cd] w fun e w'=>∃(gp:Nat) (o cc:Option Addr) (r ce:Nat) (rv:Value),e= .returned (.tuple #[.pointer (some ⟨gp,0,none⟩),.int .i64 0])/\cI w' gp (.slice o dl.length r) q rv (.slice cc n ce) (fun x=>if x<dl.length then iM q (gQ n E) dl x else false)/\(Kd.int .i64).R 3 w' w.heap.size (fun _=>True) (.slice cc n ce) (gQ n E)/\Below w.heap.size w w':=by
 have hu:=Tryz.underlying24;have gr:=Tryz.underlying236;have gs:=Tryz.underlying234;have gt:=Tryz.underlying205;have gx:dl.length<=12:=by omega
 have ev:=zA b_;clear b_;have Ht:=zA ht;have HE:=zA hE;have HI:=zA cb.get;clear ht hE cb;have HC:=zA (fun W h=>mN.calls Ad cd dl dl W h es (by unfold mN.f clone.f;rw[if_pos (by omega)]));obtain⟨zs,g1,cj⟩:=lU 25 Tryz.underlying25 n (by omega);have s:=zA cj;clear cj;go_enter Tryz.func212,Tryz.ntmps212
 go_wp2_with fail
 have Z:=zA (show (w.alloc (.cells #[.int .i64 n,.slice A0 E.length c0] 24)).heap[w.heap.size]? =some (.cells #[.int .i64 n,.slice A0 E.length c0] 24 (0,0)) from bl w _);have I:(w.alloc (.cells #[.int .i64 n,.slice A0 E.length c0] 24)).cell? ⟨w.heap.size,0,none⟩=some (.int .i64 n):=(ai Z.out 0).trans rfl;have B:=zA (ao (al w.heap.size w) (.cells #[.int .i64 n,.slice A0 E.length c0] 24));generalize (w.alloc (.cells #[.int .i64 n,.slice A0 E.length c0] 24))=W0 at I Z B⊢;have ck:=az Z.out;have cl:=fun W h=>Kd.aq (w:=w) (w1:=W) hd h
 have a2:=zA cl;clear cl;generalize a3:w.heap.size=gb at I Z ck B a2⊢;refine Code.wp_mono (Q:=fun e a W'=>e=Exit.normal/\∃(gp bv bf r:Nat) (o:Option Addr) (u16 u17 u18 u19 u20 u21 u22 u23 u24 u25 u26:Value),a={tmps:=#[.agg #[.int .i64 n,.slice A0 E.length c0],.int .i64 q,.slice Ad dl.length cd,.pointer (some ⟨gb,0,none⟩),undef,undef,.pointer none,.int .i64 0,.pointer (some ⟨gp,0,none⟩),undef,undef,undef,undef,undef,undef,undef,u16,u17,u18,u19,u20,u21,u22,u23,u24,u25,u26,undef,undef,undef,undef,undef,undef,undef,undef,undef,undef,undef,undef,undef,undef,undef,undef,undef,undef,undef,undef,undef,undef,undef,undef,undef,undef,undef,undef,undef,undef,undef,undef,undef,undef,undef,undef,undef,undef,undef,undef,undef,undef,undef,undef,undef,undef,undef,undef,undef,undef,undef,undef,undef,undef,undef,undef,undef,undef,undef,undef,undef,undef,undef,undef,undef,undef,undef,undef,undef,undef,undef,undef,undef,undef,undef,undef,undef,undef,undef,undef,undef,undef,undef,undef,undef,undef,undef,undef,undef,undef,undef,undef,undef,undef],defers:=[]}/\gb<gp/\W'.heap[gp]? =some (.cells #[.slice o dl.length r,.int .i64 q,.slice none 0 0,.slice (some ⟨bv,0,none⟩) n n,.slice (some ⟨bf,0,none⟩) n n,.int .i64 0,.bool false,.bool false,.bool false,.bool false,.bool false,.bool false,.bool false,.bool false,.bool false,.bool false,.bool false,.bool false] 236 (0,0))/\(Kd.int .i64).R 3 W' gb (fun k=>k≠bv) (.slice o dl.length r) dl/\(Kd.int .i64).R 3 W' gb (fun k=>some k≠(Value.slice o dl.length r).ownBlock) (.slice (some ⟨bv,0,none⟩) n n) (List.replicate n 0)/\W'.heap[gb]? =some (.cells #[.int .i64 n,.slice A0 E.length c0] 24 (0,0))/\Below gb w W') ?_ ?_
 ·rintro e a W' ⟨rfl,gp,bv,bf,r,o,u16,u17,u18,u19,u20,u21,u22,u23,u24,u25,u26,rfl,g2,cq,cs,cv,a4,hB⟩
  dsimp only;have u:=zA (show cI W' gp (.slice o dl.length r) q (.slice none 0 0) (.slice (some ⟨bv,0,none⟩) n n) (fun _=>false) from⟨_,cq,rfl,rfl,rfl,rfl,rfl,fun i hi=>by match i,hi with|0,_=>rfl|1,_=>rfl|2,_=>rfl|3,_=>rfl|4,_=>rfl|5,_=>rfl|6,_=>rfl|7,_=>rfl|8,_=>rfl|9,_=>rfl|10,_=>rfl|11,_=>rfl⟩);have P:=zA cs;have T:=zA cv;have F:=zA a4;have c1:=zA hB;have aB:W'.cell? ⟨gb,0,none⟩=some (.int .i64 n):=(ai a4 0).trans rfl;clear cq cs cv a4 hB I Z B ck HC a2;clear W0;go_wp2;go_loopw [29] (fun i wr=>∃(j:Nat) (rv:Value) (rows:List (List Int)),j<=n/\i= .int .i64 j/\Aside0 (rows.length=j)/\Aside0 (∀y∈rows,y.length=n)/\Aside0 (cI wr gp (.slice o dl.length r) q rv (.slice (some ⟨bv,0,none⟩) n n) (fun _=>false))/\Aside0 ((Kd.int .i64).R 3 wr gb (fun k=>k≠bv) (.slice o dl.length r) dl)/\Aside0 ((Kd.int .i64).R 3 wr gb (fun k=>some k≠(Value.slice o dl.length r).ownBlock) (.slice (some ⟨bv,0,none⟩) n n) (List.replicate n 0))/\Aside0 (Kd.S (Kd.slice 3 (Kd.int .i64)) 25 wr gb (fun k=>some k≠(Value.slice o dl.length r).ownBlock/\k≠bv) rv rows)/\Aside0 (wr.heap[gb]? =some (.cells #[.int .i64 n,.slice A0 E.length c0] 24 (0,0)))/\Aside0 (Below gb w wr)) (fun i _=>n- (intOf i).toNat)
  case atStart=>exact⟨0,_,[],by omega,rfl,⟨rfl⟩,⟨fun y hy=>absurd hy (by simp)⟩,u,P,T,⟨Kd.fQ _ _ _ _ _⟩,F,c1⟩
  case round=>
   clear u P T F c1 aB;obtain⟨j,rv,rows,hj,rfl,J,U,u,P,T,G,F,B⟩:=hrel;by_cases g3:j<n
   ·have aY:=az F.out
    obtain⟨M,cr,rfl⟩:=Kd.lr G.out;have ey:=(ai F.out 0).trans (show _=some (.int .i64 n) from rfl);have e0:(wr.alloc (.cells zs 3)).drew.cell? ⟨gb,0,none⟩=some (.int .i64 n):=(ai (aw F.out _) 0).trans rfl;have e1:=u.out.lT;have e2:(wr.alloc (.cells zs 3)).drew.cell? ⟨gp,2,none⟩=some (.slice M rows.length cr):=(u.out.below (ao (al _ _) _)).lT;have e3:((wr.alloc (.cells zs 3)).alloc (.cells #[.slice (some ⟨wr.heap.size,0,none⟩) n n] 25)).drew.cell? ⟨gp,2,none⟩=some (.slice M rows.length cr):=(u.out.below (ao (ao (al _ _) _) _)).lT;have g4:rows.length<=12:=by have:=J.out;omega
    have be:∀k,wr.heap.size<=k->some k≠(Value.slice o dl.length r).ownBlock/\k≠bv:=fun k hk=>⟨fun e=>by have:=Kd.a_ P.out k e.symm;omega,fun e=>by have:=Kd.a_ T.out bv (by simp[Value.ownBlock]);omega⟩
    have e4:=zA (Kd.l9 (Kd.bq (Kd.bc (s.out wr (fun k=>k=wr.heap.size) rfl) (Nat.le_of_lt aY))));have e5:=zA (Kd.r9 (Kd.po (Kd.kr (ok':=fun k=>(some k≠(Value.slice o dl.length r).ownBlock/\k≠bv)/\¬k=wr.heap.size) (Kd.mf G.out) (fun k hk=>⟨hk.1,by have:=hk.2.2.1;omega⟩)) (.cells zs 3)));have e6:=zA (bU (B.out.alloc (Nat.le_of_lt aY) (.cells zs 3)));have e_:Aside0 (∀k,k=wr.heap.size->(some k≠(Value.slice o dl.length r).ownBlock/\k≠bv)/\some k≠(Value.slice M rows.length cr).ownBlock):=⟨fun k hk=>⟨be k (by omega),fun e=>by have:=Kd.yo G.out k e.symm;omega⟩⟩;have e':Aside0 (∀k,(wr.alloc (.cells zs 3)).drew.heap.size<=k->some k≠(Value.slice o dl.length r).ownBlock/\k≠bv):=⟨fun k hk=>be k (by have h1:(wr.alloc (.cells zs 3)).drew.heap.size=wr.heap.size+1:=World.size_alloc wr _;omega)⟩;have fb:Aside0 (gb<=(wr.alloc (.cells zs 3)).drew.heap.size):=⟨by have h1:(wr.alloc (.cells zs 3)).drew.heap.size=wr.heap.size+1:=World.size_alloc wr _;omega⟩;have c2:=zA (show cI (wr.alloc (.cells zs 3)).drew gp (.slice o dl.length r) q (.slice M rows.length cr) (.slice (some ⟨bv,0,none⟩) n n) (fun _=>false) from(u.out.below (ao (al wr.heap.size wr) (.cells zs 3))).drew);have c3:=zA (show (wr.alloc (.cells zs 3)).drew.heap[gb]? =some (.cells #[.int .i64 n,.slice A0 E.length c0] 24 (0,0)) from aw F.out _);have aF:=zA (Kd.r9 (Kd.po G.out (.cells zs 3)));have fd:=zA (Kd.bq (Kd.aM P.out (.cells zs 3)));have fn:=zA (Kd.bq (Kd.aM T.out (.cells zs 3)));clear be;have fo:=zA (show (wr.alloc (.cells zs 3)).drew.heap.size=wr.heap.size+1 from World.size_alloc wr _);go_wp2;go_region_law ((refine Kd.yt (Kd.slice 3 (Kd.int .i64)) (w0:=w) (W:=(wr.alloc (.cells zs 3)).drew) gb (by rfl) (.tmp 35) (.tmp 39) 73 25 (.slice none 0 0) 24 (by rfl) Tryz.underlying73 sH rfl (by decide) (by omega) _ rows (List.replicate n 0) [.slice (some ⟨wr.heap.size,0,none⟩) n n] (fun k=>some k≠(Value.slice o dl.length r).ownBlock/\k≠bv) (fun k=>k=wr.heap.size) (by rfl) (by rw[fo.out];rfl) e4.out e_.out e'.out e5.out e6.out fb.out (by omega) ?_;intro v4 w4 bg c5 ak fr;obtain⟨V,c4,c6⟩:=Kd.lr bg;rw[show (rows++[List.replicate n (0:Int)]).length=rows.length+1 by simp] at c6;subst c6;have c7:=zA bg;have c8:=zA c5;have X:=zA (c2.out.grown ak (c2.out.qD (Kd.nG aF.out) (by decide)));have c':=zA (cS c3.out ak (Kd.yq aF.out c3.out (by decide)));have dd:=zA (Kd.rQ fd.out (Kd.nG aF.out) (by decide) ak);have dk:=zA (Kd.rQ fn.out (Kd.nG aF.out) (by decide) ak);have ft:=X.out.lT;have fv:=X.out.frozen 2;clear bg c5 ak fr))
    all_goals have n0:=zA (X.out.Cs (.slice V (rows.length+1) c4))
    all_goals have n1:=zA (X.out.eX dd.out (by decide) 2 (.slice V (rows.length+1) c4))
    all_goals have n2:=zA (X.out.eX dk.out (by decide) 2 (.slice V (rows.length+1) c4))
    all_goals have n3:=zA (X.out.pq c7.out (by decide) 2 (.slice V (rows.length+1) c4))
    all_goals have n4:=zA (aD (p:=⟨gp,2,none⟩) c'.out (show gb≠gp by omega) (.slice V (rows.length+1) c4))
    all_goals have n5:=zA (c8.out.setCell (p:=⟨gp,2,none⟩) (by show gb<=gp;omega) (.slice V (rows.length+1) c4))
    all_goals clear ft fv ey e0 e1 e2 e3 X c' dd dk c8 c7
    all_goals generalize (w4.setCell ⟨gp,2,none⟩ (.slice V (rows.length+1) c4))=w5 at n0 n1 n2 n3 n4 n5⊢
    all_goals go_wp2
    all_goals exact⟨⟨j+1,_,_,by omega,by go_num,⟨by simp[J.out]⟩,⟨fun y hy=>by rcases List.mem_append.1 hy with h|h;exact U.out y h;(simp at h;subst h;simp)⟩,n0,n1,n2,n3,n4,n5⟩,(show n- ((j:Int)+1).toNat<n- ((j:Int)).toNat by omega)⟩
   ·obtain rfl:n=j:=by omega
    have aB:wr.cell? ⟨gb,0,none⟩=some (.int .i64 n):=(ai F.out 0).trans rfl;have g:wr.cell? ⟨gb,1,none⟩=some (.slice A0 E.length c0):=(ai F.out 1).trans rfl;have aY:=az F.out;have d2:=zA (Cv k n A0 c0 E wr (Kd.aq em (by rw[a3];exact B.out)) er Ht.out HE.out);go_wp2_with (first|(go_at_call 178;refine d2.out.mono ?_;rintro e w1 ⟨v9,rfl,bi,aa⟩;obtain⟨A9,c9,d3⟩:=Kd.bm bi;rw[uJ] at d3;subst d3;have am:=zA bi;have d4:=zA (u.out.below aa);have bk:=zA (Kd.nF G.out aa);have d5:=zA (Kd.cR P.out aa);have bn:=zA (Kd.cR T.out aa);have d6:=zA (B.out.trans (aa.mono (Nat.le_of_lt aY)));clear bi aa))
    all_goals go_wp2
    have bo:=zA (Cw (n:=n) HI.out);have bw:=zA (uM HE.out);obtain⟨M,cr,ab⟩:=Kd.lr bk.out;rw[J.out] at ab;subst ab;replace am:=zA (Kd.bc (Kd.nI am.out) (Nat.le_of_lt aY));have aL:=zA (show gQ n E=dI n (cg E E.length) (cg E E.length).length from rfl);generalize cg E E.length=L at am bo bw aL⊢;have f3:=bw.out;have d7:List.replicate n (0:Int)=dI n L 0:=rfl;rw[d7] at bn;clear d7 d2 u G P T B F aB g aY;go_loopw [54] (fun i wr=>∃(j:Nat) (rows:List (List Int)),j<=L.length/\i= .int .i64 j/\Aside0 (rows.length=n)/\Aside0 (∀y∈rows,y.length=n)/\Aside0 (cI wr gp (.slice o dl.length r) q (.slice M n cr) (.slice (some ⟨bv,0,none⟩) n n) (fun _=>false))/\Aside0 ((Kd.int .i64).R 3 wr gb (fun k=>k≠bv) (.slice o dl.length r) dl)/\Aside0 ((Kd.int .i64).R 3 wr gb (fun k=>some k≠(Value.slice o dl.length r).ownBlock) (.slice (some ⟨bv,0,none⟩) n n) (dI n L j))/\Aside0 (Kd.S (Kd.slice 3 (Kd.int .i64)) 25 wr gb (fun k=>some k≠(Value.slice o dl.length r).ownBlock/\k≠bv) (.slice M n cr) rows)/\Aside0 ((Kd.raw 2).R 205 wr gb (fun _=>True) (.slice A9 L.length c9) (fG L))/\Aside0 (Below gb w wr)) (fun i _=>L.length- (intOf i).toNat)
    case atStart=>exact⟨0,_,by omega,rfl,J,U,d4,d5,bn,bk,am,d6⟩
    case round=>
     clear d4 d5 bn bk am d6 J U;obtain⟨j,rows,hj,rfl,J,U,u,N,K,G,HR,B⟩:=hrel;by_cases an:j<L.length
     ·obtain⟨-, -,d8⟩:=Kd.aG HR.out
      obtain⟨ad,rfl,I,ap⟩:=CG d8 j (by rw[uJ];exact an) an;have O:=bo.out _ (List.getElem_mem an);have bx:=Lib.hid (Cz n L j an);generalize L[j]=x at I ap O bx;obtain⟨i,a,b⟩:=x;simp only at I ap O;obtain⟨a,rfl⟩:=Int.eq_ofNat_of_zero_le O.1;obtain⟨b,rfl⟩:=Int.eq_ofNat_of_zero_le O.2.2.1;have ha:a<n:=by omega
      have hb:b<n:=by omega
      have g5:(0:Int)<=(j:Int):=by omega
      have g6:(j:Int)<(L.length:Int):=by omega
      clear O d8;have HO:=zA (show (wr.alloc (.cells #[.int .i64 a,.int .i64 b] 205)).heap[wr.heap.size]? =some (.cells #[.int .i64 a,.int .i64 b] 205 (0,0)) from bl wr _);obtain⟨g0,f4,ab, -, -, -⟩:=Kd.pr G.out (by have:=J.out;omega);injection ab with ab _ f5
      subst ab;have D:=zA (PS.mk (L:=L) J.out U.out (u.out.below (ao (al _ _) (.cells #[.int .i64 a,.int .i64 b] 205))) (Kd.aM N.out (.cells #[.int .i64 a,.int .i64 b] 205)) (Kd.aM K.out (.cells #[.int .i64 a,.int .i64 b] 205)) (Kd.po G.out (.cells #[.int .i64 a,.int .i64 b] 205)) (Kd.aM HR.out (.cells #[.int .i64 a,.int .i64 b] 205)) (B.out.alloc (by have:=B.out.size;omega) (.cells #[.int .i64 a,.int .i64 b] 205)));go_wp2;clear u N K G HR B I ap J U f5 f4;generalize (wr.alloc (.cells #[.int .i64 a,.int .i64 b] 205))=W1 at HO D⊢;generalize wr.heap.size=ob at HO⊢;have I:W1.cell? ⟨ob,0,none⟩=some (.int .i64 a):=(ai HO.out 0).trans rfl;have ap:W1.cell? ⟨ob,1,none⟩=some (.int .i64 b):=(ai HO.out 1).trans rfl;go_quiet (fail)
      replace D:=zA (D.out.drewN nq);clear I ap HO;generalize W1.drewN nq=W2 at D⊢;clear W1;have g7:(0:Int)<=(a:Int):=by omega
      have g8:(a:Int)<(n:Int):=by omega
      have aB:(0:Int)<=(b:Int):=by omega
      have g:(b:Int)<(n:Int):=by omega
      by_cases O:a=b
      ·subst O
       have ea:dI n L j=dI n L (j+1):=by rw[bx.out];unfold gP;rw[if_pos rfl]
       rw[ea] at D;clear ea;go_wp2;exact⟨⟨j+1,rows,by omega,by go_num,⟨D.out.len⟩,⟨D.out.all⟩,⟨D.out.iO⟩,⟨D.out.d⟩,⟨D.out.val⟩,⟨D.out.rows⟩,⟨D.out.ends⟩,⟨D.out.below⟩⟩,(show L.length- ((j:Int)+1).toNat<L.length- ((j:Int)).toNat by omega)⟩
      ·have g9:((a:Int) != (b:Int))=true:=by simp;omega
       have g':=D.out.iO.lT;have b1:=uQ n L j;have f6:=b1 a;obtain⟨gi,ci,z,hc,he,hf,eb⟩:=D.out.row a b ha hb;obtain⟨hg,h3⟩:=eb (wrap64 (z+1));have H3:=zA h3;have hh:=h3.iO.lT;obtain⟨hl,hm,z3,ho,hp,hq,ed⟩:=h3.row b a hb ha;obtain⟨f8,h4⟩:=ed (wrap64 (z3+1));have H4:=zA h4;have hr:=h4.iO.oL;obtain⟨f',hs,eg⟩:=h4.uR a ha;have h5:=eg (rd (dI n L j) a+1);have H5:=zA h5;have gd:=h5.iO.oL;obtain⟨b2,ge,b3⟩:=h5.uR b hb;have ek:=qE (v:=a) b1 b;rw[show (dI n L j).set a (rd (dI n L j) a+1)=iN (dI n L j) a from rfl] at b2 b3;have H:=zA (b3 (rd (iN (dI n L j) a) b+1));rw[show (iN (dI n L j) a).set b (rd (iN (dI n L j) a) b+1)=dI n L (j+1) from by rw[bx.out];unfold gP;rw[if_neg (show ¬((i,(a:Int),(b:Int)).2.1=(i,(a:Int),(b:Int)).2.2) from fun e=>O (Int.ofNat.inj e))];rfl] at H;clear eb ed eg b3 h3 h4 h5 b1 H3 H4 H5;generalize rd (dI n L j) a=va at f6 f' gd b2 ge ek H;generalize rd (iN (dI n L j) a) b=vb at ek b2 H;go_wp2;exact⟨⟨j+1,f8,by omega,by go_num,⟨H.out.len⟩,⟨H.out.all⟩,⟨H.out.iO⟩,⟨H.out.d⟩,⟨H.out.val⟩,⟨H.out.rows⟩,⟨H.out.ends⟩,⟨H.out.below⟩⟩,(show L.length- ((j:Int)+1).toNat<L.length- ((j:Int)).toNat by omega)⟩
     ·obtain rfl:j=L.length:=by omega
      have gf:=u.out.uH;go_wp2;have b4:=zA (uO n L L.length);generalize dI n L L.length=vl at K b4 aL⊢;clear G HR J U gf f3 bo bw an hj;go_loopw [113] (fun i wr=>∃(j:Nat),j<=dl.length/\i= .int .i64 j/\Aside0 (cI wr gp (.slice o dl.length r) q (.slice M n cr) (.slice (some ⟨bv,0,none⟩) n n) (fun x=>if x<j then iM q vl dl x else false))/\Aside0 ((Kd.int .i64).R 3 wr gb (fun k=>k≠bv) (.slice o dl.length r) dl)/\Aside0 ((Kd.int .i64).R 3 wr gb (fun k=>some k≠(Value.slice o dl.length r).ownBlock) (.slice (some ⟨bv,0,none⟩) n n) vl)/\Aside0 (Below gb w wr)) (fun i _=>dl.length- (intOf i).toNat)
      case atStart=>exact⟨0,by omega,rfl,⟨by simpa using u.out⟩,N,K,B⟩
      case round=>
       clear u N K B;obtain⟨j,hj,rfl,u,N,K,B⟩:=hrel;by_cases gg:j<dl.length
       ·obtain⟨-, -,el⟩:=Kd.aG N.out
        obtain⟨-, -,b5⟩:=Kd.aG K.out;rw[b4.out] at b5;have HW:=zA (CH gp j n q o (some ⟨bv,0,none⟩) r n dl vl (.slice M n cr) _ wr (by omega) gg b4.out (by have:=ev.out;omega) u.out el b5);clear el b5;go_wp2_with (go_at_call 218;refine HW.out.mono ?_;rintro e w5 ⟨rfl,b6,a1⟩;rw[CI] at b6;have gm:=zA b6;have gn:=zA (Kd.iy N.out rfl a1 (u.out.qD (Kd.gw N.out) (by decide)));have go:=zA (Kd.iy K.out rfl a1 (u.out.qD (Kd.gw K.out) (by decide)));have gq:=zA (jJ B.out (some gp) (by have:=B.out.size;omega) a1 (fun k e=>by cases e;omega));clear b6 a1)
        all_goals go_wp2
        all_goals go_roundw
        case rel=>exact⟨j+1,by omega,by go_num,gm,gn,go,gq⟩
        case measure=>exact(show dl.length- ((j:Int)+1).toNat<dl.length- ((j:Int)).toNat by omega)
       ·obtain rfl:j=dl.length:=by omega
        go_wp2;go_ret2;exact⟨gp,o,_,r,n,_,rfl,by rw[aL.out];exact u.out,by rw[aL.out,a3];exact Kd.ba K.out (fun _ _=>trivial),by rw[a3];exact B.out⟩
 ·go_region_held3 (fun w'=>w'.heap[gb]? =some (.cells #[.int .i64 n,.slice A0 E.length c0] 24 (0,0))/\w'.cell? ⟨gb,0,none⟩=some (.int .i64 n)/\Below gb w w')
   (first
    |exact CJ Z.out I B.out
    |((try go_split_ands);refine⟨by assumption,by assumption,by assumption⟩)
    |((try go_split_ands);exact CK (by assumption) (by assumption) (by assumption))
    |((try go_split_ands);exact CL (by assumption) (by assumption) (by assumption) (by assumption))
    |fail)
   ((go_at_call 217;refine(HC.out _ (a2.out _ (by go_split_ands;assumption))).mono ?_;rintro e w1 ⟨v1,rfl,m,g⟩;obtain⟨o,r,rfl⟩:=Kd.bm m))
  ·refine⟨rfl,?IS,?Hq,?Jc,?IK,?Iz,?Ik,?IM,?H_,?G6,?Hc,?Iy,?IX,?IL,?IT,?Ho,?Jh,?Gu,?Gp,?Gg,?Ge,?Gi,by(go_split_ands;assumption),by(go_split_ands;assumption)⟩
   case Gu=>rfl
   case Gg=>(refine lV ?_;first|rfl|(simp;done))
   case Gp=>(have h1:=g.size;first|omega|(simp at h1⊢;done)|(simp at h1⊢;omega)|(have l:W0.drew.heap.size=W0.heap.size:=rfl;simp[World.drew] at h1⊢;omega))
   case Ge=>
    refine lW m ?_ ?_ ?_
    ·(have h1:=g.size;first|omega|(simp at h1⊢;done)|(simp at h1⊢;omega)|(have l:W0.drew.heap.size=W0.heap.size:=rfl;simp[World.drew] at h1⊢;omega))
    ·(first|exact fun h=>h|exact fun h=>Kd.aM h _|exact fun h=>Kd.aM (Kd.aM h _) _|exact fun h=>Kd.aM (Kd.aM (Kd.aM h _) _) _)
    ·(have h1:=g.size;first|omega|(simp at h1⊢;done)|(simp at h1⊢;omega)|(have l:W0.drew.heap.size=W0.heap.size:=rfl;simp[World.drew] at h1⊢;omega))
   case Gi=>
    first
     |(refine dQ (Y:=w1) (s.out _ _ rfl) ?_ ?_ m ?_ ?_;(focus (first|rfl|(simp;done)));(focus ((repeat(first|exact al _ _|apply ao|apply bU|refine a7 ?_ g));done));(focus (have h1:=g.size;first|omega|(simp at h1⊢;done)|(simp at h1⊢;omega)|(have l:W0.drew.heap.size=W0.heap.size:=rfl;simp[World.drew] at h1⊢;omega)));(focus (have h1:=g.size;first|omega|(simp at h1⊢;done)|(simp at h1⊢;omega)|(have l:W0.drew.heap.size=W0.heap.size:=rfl;simp[World.drew] at h1⊢;omega))))
     |(refine dQ (Y:=(w1.alloc (.cells zs 3))) (s.out _ _ rfl) ?_ ?_ m ?_ ?_;(focus (first|rfl|(simp;done)));(focus ((repeat(first|exact al _ _|apply ao|apply bU|refine a7 ?_ g));done));(focus (have h1:=g.size;first|omega|(simp at h1⊢;done)|(simp at h1⊢;omega)|(have l:W0.drew.heap.size=W0.heap.size:=rfl;simp[World.drew] at h1⊢;omega)));(focus (have h1:=g.size;first|omega|(simp at h1⊢;done)|(simp at h1⊢;omega)|(have l:W0.drew.heap.size=W0.heap.size:=rfl;simp[World.drew] at h1⊢;omega))))
     |(refine dQ (Y:=W0) (s.out _ _ rfl) ?_ ?_ m ?_ ?_;(focus (first|rfl|(simp;done)));(focus ((repeat(first|exact al _ _|apply ao|apply bU|refine a7 ?_ g));done));(focus (have h1:=g.size;first|omega|(simp at h1⊢;done)|(simp at h1⊢;omega)|(have l:W0.drew.heap.size=W0.heap.size:=rfl;simp[World.drew] at h1⊢;omega)));(focus (have h1:=g.size;first|omega|(simp at h1⊢;done)|(simp at h1⊢;omega)|(have l:W0.drew.heap.size=W0.heap.size:=rfl;simp[World.drew] at h1⊢;omega))))
     |(refine dQ (Y:=(W0.alloc (.cells zs 3))) (s.out _ _ rfl) ?_ ?_ m ?_ ?_;(focus (first|rfl|(simp;done)));(focus ((repeat(first|exact al _ _|apply ao|apply bU|refine a7 ?_ g));done));(focus (have h1:=g.size;first|omega|(simp at h1⊢;done)|(simp at h1⊢;omega)|(have l:W0.drew.heap.size=W0.heap.size:=rfl;simp[World.drew] at h1⊢;omega)));(focus (have h1:=g.size;first|omega|(simp at h1⊢;done)|(simp at h1⊢;omega)|(have l:W0.drew.heap.size=W0.heap.size:=rfl;simp[World.drew] at h1⊢;omega))))
     |fail
  ·refine⟨rfl,?Iw,?IJ,?Ir,?Ic,?GZ,?IU,?Is,?Jg,?Ip,?H9,?IG,?G8,?I8,?Ia,?Ih,?Iv,?eq_1,?Gh,?F_,?Gr,?Gl,by(go_split_ands;assumption),by(go_split_ands;assumption)⟩
   case eq_1=>rfl
   case F_=>(refine lV ?_;first|rfl|(simp;done))
   case Gh=>(have h1:=g.size;first|omega|(simp at h1⊢;done)|(simp at h1⊢;omega)|(have l:W0.drew.heap.size=W0.heap.size:=rfl;simp[World.drew] at h1⊢;omega))
   case Gr=>
    refine lW m ?_ ?_ ?_
    ·(have h1:=g.size;first|omega|(simp at h1⊢;done)|(simp at h1⊢;omega)|(have l:W0.drew.heap.size=W0.heap.size:=rfl;simp[World.drew] at h1⊢;omega))
    ·(first|exact fun h=>h|exact fun h=>Kd.aM h _|exact fun h=>Kd.aM (Kd.aM h _) _|exact fun h=>Kd.aM (Kd.aM (Kd.aM h _) _) _)
    ·(have h1:=g.size;first|omega|(simp at h1⊢;done)|(simp at h1⊢;omega)|(have l:W0.drew.heap.size=W0.heap.size:=rfl;simp[World.drew] at h1⊢;omega))
   case Gl=>
    first
     |(refine dQ (Y:=w1) (s.out _ _ rfl) ?_ ?_ m ?_ ?_;(focus (first|rfl|(simp;done)));(focus ((repeat(first|exact al _ _|apply ao|apply bU|refine a7 ?_ g));done));(focus (have h1:=g.size;first|omega|(simp at h1⊢;done)|(simp at h1⊢;omega)|(have l:W0.drew.heap.size=W0.heap.size:=rfl;simp[World.drew] at h1⊢;omega)));(focus (have h1:=g.size;first|omega|(simp at h1⊢;done)|(simp at h1⊢;omega)|(have l:W0.drew.heap.size=W0.heap.size:=rfl;simp[World.drew] at h1⊢;omega))))
     |(refine dQ (Y:=(w1.alloc (.cells zs 3))) (s.out _ _ rfl) ?_ ?_ m ?_ ?_;(focus (first|rfl|(simp;done)));(focus ((repeat(first|exact al _ _|apply ao|apply bU|refine a7 ?_ g));done));(focus (have h1:=g.size;first|omega|(simp at h1⊢;done)|(simp at h1⊢;omega)|(have l:W0.drew.heap.size=W0.heap.size:=rfl;simp[World.drew] at h1⊢;omega)));(focus (have h1:=g.size;first|omega|(simp at h1⊢;done)|(simp at h1⊢;omega)|(have l:W0.drew.heap.size=W0.heap.size:=rfl;simp[World.drew] at h1⊢;omega))))
     |(refine dQ (Y:=W0) (s.out _ _ rfl) ?_ ?_ m ?_ ?_;(focus (first|rfl|(simp;done)));(focus ((repeat(first|exact al _ _|apply ao|apply bU|refine a7 ?_ g));done));(focus (have h1:=g.size;first|omega|(simp at h1⊢;done)|(simp at h1⊢;omega)|(have l:W0.drew.heap.size=W0.heap.size:=rfl;simp[World.drew] at h1⊢;omega)));(focus (have h1:=g.size;first|omega|(simp at h1⊢;done)|(simp at h1⊢;omega)|(have l:W0.drew.heap.size=W0.heap.size:=rfl;simp[World.drew] at h1⊢;omega))))
     |(refine dQ (Y:=(W0.alloc (.cells zs 3))) (s.out _ _ rfl) ?_ ?_ m ?_ ?_;(focus (first|rfl|(simp;done)));(focus ((repeat(first|exact al _ _|apply ao|apply bU|refine a7 ?_ g));done));(focus (have h1:=g.size;first|omega|(simp at h1⊢;done)|(simp at h1⊢;omega)|(have l:W0.drew.heap.size=W0.heap.size:=rfl;simp[World.drew] at h1⊢;omega)));(focus (have h1:=g.size;first|omega|(simp at h1⊢;done)|(simp at h1⊢;omega)|(have l:W0.drew.heap.size=W0.heap.size:=rfl;simp[World.drew] at h1⊢;omega))))
     |fail
  ·refine⟨rfl,?G0,?Hu,?I7,?He,?Ij,?IV,?G9,?Jd,?IB,?GY,?IA,?Hk,?G2,?Ii,?Hm,?IE,?eq_2,?Gk,?F9,?Gb,?Gt,by(go_split_ands;assumption),by(go_split_ands;assumption)⟩
   case eq_2=>rfl
   case F9=>(refine lV ?_;first|rfl|(simp;done))
   case Gk=>(have h1:=g.size;first|omega|(simp at h1⊢;done)|(simp at h1⊢;omega)|(have l:W0.drew.heap.size=W0.heap.size:=rfl;simp[World.drew] at h1⊢;omega))
   case Gb=>
    refine lW m ?_ ?_ ?_
    ·(have h1:=g.size;first|omega|(simp at h1⊢;done)|(simp at h1⊢;omega)|(have l:W0.drew.heap.size=W0.heap.size:=rfl;simp[World.drew] at h1⊢;omega))
    ·(first|exact fun h=>h|exact fun h=>Kd.aM h _|exact fun h=>Kd.aM (Kd.aM h _) _|exact fun h=>Kd.aM (Kd.aM (Kd.aM h _) _) _)
    ·(have h1:=g.size;first|omega|(simp at h1⊢;done)|(simp at h1⊢;omega)|(have l:W0.drew.heap.size=W0.heap.size:=rfl;simp[World.drew] at h1⊢;omega))
   case Gt=>
    first
     |(refine dQ (Y:=w1) (s.out _ _ rfl) ?_ ?_ m ?_ ?_;(focus (first|rfl|(simp;done)));(focus ((repeat(first|exact al _ _|apply ao|apply bU|refine a7 ?_ g));done));(focus (have h1:=g.size;first|omega|(simp at h1⊢;done)|(simp at h1⊢;omega)|(have l:W0.drew.heap.size=W0.heap.size:=rfl;simp[World.drew] at h1⊢;omega)));(focus (have h1:=g.size;first|omega|(simp at h1⊢;done)|(simp at h1⊢;omega)|(have l:W0.drew.heap.size=W0.heap.size:=rfl;simp[World.drew] at h1⊢;omega))))
     |(refine dQ (Y:=(w1.alloc (.cells zs 3))) (s.out _ _ rfl) ?_ ?_ m ?_ ?_;(focus (first|rfl|(simp;done)));(focus ((repeat(first|exact al _ _|apply ao|apply bU|refine a7 ?_ g));done));(focus (have h1:=g.size;first|omega|(simp at h1⊢;done)|(simp at h1⊢;omega)|(have l:W0.drew.heap.size=W0.heap.size:=rfl;simp[World.drew] at h1⊢;omega)));(focus (have h1:=g.size;first|omega|(simp at h1⊢;done)|(simp at h1⊢;omega)|(have l:W0.drew.heap.size=W0.heap.size:=rfl;simp[World.drew] at h1⊢;omega))))
     |(refine dQ (Y:=W0) (s.out _ _ rfl) ?_ ?_ m ?_ ?_;(focus (first|rfl|(simp;done)));(focus ((repeat(first|exact al _ _|apply ao|apply bU|refine a7 ?_ g));done));(focus (have h1:=g.size;first|omega|(simp at h1⊢;done)|(simp at h1⊢;omega)|(have l:W0.drew.heap.size=W0.heap.size:=rfl;simp[World.drew] at h1⊢;omega)));(focus (have h1:=g.size;first|omega|(simp at h1⊢;done)|(simp at h1⊢;omega)|(have l:W0.drew.heap.size=W0.heap.size:=rfl;simp[World.drew] at h1⊢;omega))))
     |(refine dQ (Y:=(W0.alloc (.cells zs 3))) (s.out _ _ rfl) ?_ ?_ m ?_ ?_;(focus (first|rfl|(simp;done)));(focus ((repeat(first|exact al _ _|apply ao|apply bU|refine a7 ?_ g));done));(focus (have h1:=g.size;first|omega|(simp at h1⊢;done)|(simp at h1⊢;omega)|(have l:W0.drew.heap.size=W0.heap.size:=rfl;simp[World.drew] at h1⊢;omega)));(focus (have h1:=g.size;first|omega|(simp at h1⊢;done)|(simp at h1⊢;omega)|(have l:W0.drew.heap.size=W0.heap.size:=rfl;simp[World.drew] at h1⊢;omega))))
     |fail
  ·refine⟨rfl,?I9,?Hx,?Hp,?G5,?G4,?II,?Jb,?Hn,?G_,?H8,?IP,?IF,?Ie,?IZ,?Il,?Jf,?eq_3,?Gj,?Gc,?Ga,?Gd,by(go_split_ands;assumption),by(go_split_ands;assumption)⟩
   case eq_3=>rfl
   case Gc=>(refine lV ?_;first|rfl|(simp;done))
   case Gj=>(have h1:=g.size;first|omega|(simp at h1⊢;done)|(simp at h1⊢;omega)|(have l:W0.drew.heap.size=W0.heap.size:=rfl;simp[World.drew] at h1⊢;omega))
   case Ga=>
    refine lW m ?_ ?_ ?_
    ·(have h1:=g.size;first|omega|(simp at h1⊢;done)|(simp at h1⊢;omega)|(have l:W0.drew.heap.size=W0.heap.size:=rfl;simp[World.drew] at h1⊢;omega))
    ·(first|exact fun h=>h|exact fun h=>Kd.aM h _|exact fun h=>Kd.aM (Kd.aM h _) _|exact fun h=>Kd.aM (Kd.aM (Kd.aM h _) _) _)
    ·(have h1:=g.size;first|omega|(simp at h1⊢;done)|(simp at h1⊢;omega)|(have l:W0.drew.heap.size=W0.heap.size:=rfl;simp[World.drew] at h1⊢;omega))
   case Gd=>
    first
     |(refine dQ (Y:=w1) (s.out _ _ rfl) ?_ ?_ m ?_ ?_;(focus (first|rfl|(simp;done)));(focus ((repeat(first|exact al _ _|apply ao|apply bU|refine a7 ?_ g));done));(focus (have h1:=g.size;first|omega|(simp at h1⊢;done)|(simp at h1⊢;omega)|(have l:W0.drew.heap.size=W0.heap.size:=rfl;simp[World.drew] at h1⊢;omega)));(focus (have h1:=g.size;first|omega|(simp at h1⊢;done)|(simp at h1⊢;omega)|(have l:W0.drew.heap.size=W0.heap.size:=rfl;simp[World.drew] at h1⊢;omega))))
     |(refine dQ (Y:=(w1.alloc (.cells zs 3))) (s.out _ _ rfl) ?_ ?_ m ?_ ?_;(focus (first|rfl|(simp;done)));(focus ((repeat(first|exact al _ _|apply ao|apply bU|refine a7 ?_ g));done));(focus (have h1:=g.size;first|omega|(simp at h1⊢;done)|(simp at h1⊢;omega)|(have l:W0.drew.heap.size=W0.heap.size:=rfl;simp[World.drew] at h1⊢;omega)));(focus (have h1:=g.size;first|omega|(simp at h1⊢;done)|(simp at h1⊢;omega)|(have l:W0.drew.heap.size=W0.heap.size:=rfl;simp[World.drew] at h1⊢;omega))))
     |(refine dQ (Y:=W0) (s.out _ _ rfl) ?_ ?_ m ?_ ?_;(focus (first|rfl|(simp;done)));(focus ((repeat(first|exact al _ _|apply ao|apply bU|refine a7 ?_ g));done));(focus (have h1:=g.size;first|omega|(simp at h1⊢;done)|(simp at h1⊢;omega)|(have l:W0.drew.heap.size=W0.heap.size:=rfl;simp[World.drew] at h1⊢;omega)));(focus (have h1:=g.size;first|omega|(simp at h1⊢;done)|(simp at h1⊢;omega)|(have l:W0.drew.heap.size=W0.heap.size:=rfl;simp[World.drew] at h1⊢;omega))))
     |(refine dQ (Y:=(W0.alloc (.cells zs 3))) (s.out _ _ rfl) ?_ ?_ m ?_ ?_;(focus (first|rfl|(simp;done)));(focus ((repeat(first|exact al _ _|apply ao|apply bU|refine a7 ?_ g));done));(focus (have h1:=g.size;first|omega|(simp at h1⊢;done)|(simp at h1⊢;omega)|(have l:W0.drew.heap.size=W0.heap.size:=rfl;simp[World.drew] at h1⊢;omega)));(focus (have h1:=g.size;first|omega|(simp at h1⊢;done)|(simp at h1⊢;omega)|(have l:W0.drew.heap.size=W0.heap.size:=rfl;simp[World.drew] at h1⊢;omega))))
     |fail
  ·refine⟨rfl,?G7,?I0,?Ib,?Ji,?Hw,?H7,?G1,?Im,?Ig,?Hl,?Hh,?Hd,?Ja,?Je,?Hv,?IW,?eq_4,?Gv,?Gn,?Gm,?Gq,by(go_split_ands;assumption),by(go_split_ands;assumption)⟩
   case eq_4=>rfl
   case Gn=>(refine lV ?_;first|rfl|(simp;done))
   case Gv=>(have h1:=g.size;first|omega|(simp at h1⊢;done)|(simp at h1⊢;omega)|(have l:W0.drew.heap.size=W0.heap.size:=rfl;simp[World.drew] at h1⊢;omega))
   case Gm=>
    refine lW m ?_ ?_ ?_
    ·(have h1:=g.size;first|omega|(simp at h1⊢;done)|(simp at h1⊢;omega)|(have l:W0.drew.heap.size=W0.heap.size:=rfl;simp[World.drew] at h1⊢;omega))
    ·(first|exact fun h=>h|exact fun h=>Kd.aM h _|exact fun h=>Kd.aM (Kd.aM h _) _|exact fun h=>Kd.aM (Kd.aM (Kd.aM h _) _) _)
    ·(have h1:=g.size;first|omega|(simp at h1⊢;done)|(simp at h1⊢;omega)|(have l:W0.drew.heap.size=W0.heap.size:=rfl;simp[World.drew] at h1⊢;omega))
   case Gq=>
    first
     |(refine dQ (Y:=w1) (s.out _ _ rfl) ?_ ?_ m ?_ ?_;(focus (first|rfl|(simp;done)));(focus ((repeat(first|exact al _ _|apply ao|apply bU|refine a7 ?_ g));done));(focus (have h1:=g.size;first|omega|(simp at h1⊢;done)|(simp at h1⊢;omega)|(have l:W0.drew.heap.size=W0.heap.size:=rfl;simp[World.drew] at h1⊢;omega)));(focus (have h1:=g.size;first|omega|(simp at h1⊢;done)|(simp at h1⊢;omega)|(have l:W0.drew.heap.size=W0.heap.size:=rfl;simp[World.drew] at h1⊢;omega))))
     |(refine dQ (Y:=(w1.alloc (.cells zs 3))) (s.out _ _ rfl) ?_ ?_ m ?_ ?_;(focus (first|rfl|(simp;done)));(focus ((repeat(first|exact al _ _|apply ao|apply bU|refine a7 ?_ g));done));(focus (have h1:=g.size;first|omega|(simp at h1⊢;done)|(simp at h1⊢;omega)|(have l:W0.drew.heap.size=W0.heap.size:=rfl;simp[World.drew] at h1⊢;omega)));(focus (have h1:=g.size;first|omega|(simp at h1⊢;done)|(simp at h1⊢;omega)|(have l:W0.drew.heap.size=W0.heap.size:=rfl;simp[World.drew] at h1⊢;omega))))
     |(refine dQ (Y:=W0) (s.out _ _ rfl) ?_ ?_ m ?_ ?_;(focus (first|rfl|(simp;done)));(focus ((repeat(first|exact al _ _|apply ao|apply bU|refine a7 ?_ g));done));(focus (have h1:=g.size;first|omega|(simp at h1⊢;done)|(simp at h1⊢;omega)|(have l:W0.drew.heap.size=W0.heap.size:=rfl;simp[World.drew] at h1⊢;omega)));(focus (have h1:=g.size;first|omega|(simp at h1⊢;done)|(simp at h1⊢;omega)|(have l:W0.drew.heap.size=W0.heap.size:=rfl;simp[World.drew] at h1⊢;omega))))
     |(refine dQ (Y:=(W0.alloc (.cells zs 3))) (s.out _ _ rfl) ?_ ?_ m ?_ ?_;(focus (first|rfl|(simp;done)));(focus ((repeat(first|exact al _ _|apply ao|apply bU|refine a7 ?_ g));done));(focus (have h1:=g.size;first|omega|(simp at h1⊢;done)|(simp at h1⊢;omega)|(have l:W0.drew.heap.size=W0.heap.size:=rfl;simp[World.drew] at h1⊢;omega)));(focus (have h1:=g.size;first|omega|(simp at h1⊢;done)|(simp at h1⊢;omega)|(have l:W0.drew.heap.size=W0.heap.size:=rfl;simp[World.drew] at h1⊢;omega))))
     |fail
  ·refine⟨rfl,?Iq,?Io,?G',?Iu,?ID,?Hz,?G3,?It,?I_,?IN,?IC,?Hi,?Hy,?IQ,?IY,?I',?eq_5,?Gf,?Gx,?Gw,?Gs,by(go_split_ands;assumption),by(go_split_ands;assumption)⟩
   case eq_5=>rfl
   case Gx=>(refine lV ?_;first|rfl|(simp;done))
   case Gf=>(have h1:=g.size;first|omega|(simp at h1⊢;done)|(simp at h1⊢;omega)|(have l:W0.drew.heap.size=W0.heap.size:=rfl;simp[World.drew] at h1⊢;omega))
   case Gw=>
    refine lW m ?_ ?_ ?_
    ·(have h1:=g.size;first|omega|(simp at h1⊢;done)|(simp at h1⊢;omega)|(have l:W0.drew.heap.size=W0.heap.size:=rfl;simp[World.drew] at h1⊢;omega))
    ·(first|exact fun h=>h|exact fun h=>Kd.aM h _|exact fun h=>Kd.aM (Kd.aM h _) _|exact fun h=>Kd.aM (Kd.aM (Kd.aM h _) _) _)
    ·(have h1:=g.size;first|omega|(simp at h1⊢;done)|(simp at h1⊢;omega)|(have l:W0.drew.heap.size=W0.heap.size:=rfl;simp[World.drew] at h1⊢;omega))
   case Gs=>
    first
     |(refine dQ (Y:=w1) (s.out _ _ rfl) ?_ ?_ m ?_ ?_;(focus (first|rfl|(simp;done)));(focus ((repeat(first|exact al _ _|apply ao|apply bU|refine a7 ?_ g));done));(focus (have h1:=g.size;first|omega|(simp at h1⊢;done)|(simp at h1⊢;omega)|(have l:W0.drew.heap.size=W0.heap.size:=rfl;simp[World.drew] at h1⊢;omega)));(focus (have h1:=g.size;first|omega|(simp at h1⊢;done)|(simp at h1⊢;omega)|(have l:W0.drew.heap.size=W0.heap.size:=rfl;simp[World.drew] at h1⊢;omega))))
     |(refine dQ (Y:=(w1.alloc (.cells zs 3))) (s.out _ _ rfl) ?_ ?_ m ?_ ?_;(focus (first|rfl|(simp;done)));(focus ((repeat(first|exact al _ _|apply ao|apply bU|refine a7 ?_ g));done));(focus (have h1:=g.size;first|omega|(simp at h1⊢;done)|(simp at h1⊢;omega)|(have l:W0.drew.heap.size=W0.heap.size:=rfl;simp[World.drew] at h1⊢;omega)));(focus (have h1:=g.size;first|omega|(simp at h1⊢;done)|(simp at h1⊢;omega)|(have l:W0.drew.heap.size=W0.heap.size:=rfl;simp[World.drew] at h1⊢;omega))))
     |(refine dQ (Y:=W0) (s.out _ _ rfl) ?_ ?_ m ?_ ?_;(focus (first|rfl|(simp;done)));(focus ((repeat(first|exact al _ _|apply ao|apply bU|refine a7 ?_ g));done));(focus (have h1:=g.size;first|omega|(simp at h1⊢;done)|(simp at h1⊢;omega)|(have l:W0.drew.heap.size=W0.heap.size:=rfl;simp[World.drew] at h1⊢;omega)));(focus (have h1:=g.size;first|omega|(simp at h1⊢;done)|(simp at h1⊢;omega)|(have l:W0.drew.heap.size=W0.heap.size:=rfl;simp[World.drew] at h1⊢;omega))))
     |(refine dQ (Y:=(W0.alloc (.cells zs 3))) (s.out _ _ rfl) ?_ ?_ m ?_ ?_;(focus (first|rfl|(simp;done)));(focus ((repeat(first|exact al _ _|apply ao|apply bU|refine a7 ?_ g));done));(focus (have h1:=g.size;first|omega|(simp at h1⊢;done)|(simp at h1⊢;omega)|(have l:W0.drew.heap.size=W0.heap.size:=rfl;simp[World.drew] at h1⊢;omega)));(focus (have h1:=g.size;first|omega|(simp at h1⊢;done)|(simp at h1⊢;omega)|(have l:W0.drew.heap.size=W0.heap.size:=rfl;simp[World.drew] at h1⊢;omega))))
     |fail
theorem kL {k:Nat} {N:Int} {E:List S83} {q:Int} (h:dp.f k N E q=some 0):bd.f k N E=some 0/\(0<=N/\N<=12)/\bZ (aK E) N.toNat=1/\0<=q/\q<N:=by
 unfold dp.f cD.f at h;simp only[Option.bind_assoc] at h;obtain⟨t,e,h⟩:=Option.bind_eq_some_iff.1 h;by_cases a:t=0
 ·subst a
  rw[if_pos rfl] at h;by_cases hk:lO N E=true
  ·rw[if_pos hk] at h
   simp only[Option.bind_some,if_pos] at h;simp only[lO,Bool.and_eq_true,decide_eq_true_eq] at hk;refine⟨e,hk.1,?_⟩;by_cases b:bZ (aK E) N.toNat=1
   ·simp only[b,decide_true,if_true] at h
    by_cases h1:q<0
    ·rw[if_pos h1] at h;exact absurd (aE h) (by decide)
    ·rw[if_neg h1] at h
     by_cases g:q>=N
     ·rw[if_pos g] at h;exact absurd (aE h) (by decide)
     ·exact⟨b,by omega,by omega⟩
   ·simp[b] at h
  ·rw[if_neg hk] at h;cases h
 ·rw[if_neg a] at h
  simp[a] at h
def mU (N:Int) (E:List S83):Bool:=eQ E&&iZ N E
def dR (q B:Nat) (calm:List Int->Bool):Nat->List Int->List (List Int)
 |0,p=>[p]
 |k+1,p=>if p.length=q then dR q B calm k (p++[0]) else((List.range B).takeWhile fun (x:Nat)=>calm (p++(x:Int)::List.replicate k 0)).flatMap fun (x:Nat)=>dR q B calm k (p++[(x:Int)])
def gR.f (k:Nat) (b:Int) (e:List (S83)) (g:Int) (l2:List Int):Option (Bool×Int):=(iI.f k b e g l2).bind fun a=>(if a.2.2=0 then(some (((a.2.1.length:Int)==0),a.2.2)) else(some (false,a.2.2)))
theorem gR.mono:∀a0 a a2 a3 k,aj (gR.f k a0 a a2 a3) (gR.f (k+1) a0 a a2 a3):=by
 intro a0 a a2 a3 k;unfold gR.f;with_reducible repeat' first|exact iI.mono _ _ _ _ _|exact aj.refl _|exact aj.none _|refine aj.ite ?_ ?_|refine aj.bind ?_ (fun _=>?_)
theorem gR.calls (k:Nat) (g:Int) (j:Option Addr) (l:Nat) (b:List (S83)) (m:Int) (r:Option Addr) (c2:Nat) (l2:List Int) (u:Bool) (v:Int) (w:World) (x:Kd.C aN w j b.length b) (y:b.length<=l) (z:Kd.C (Kd.int .i64) w r l2.length l2) (B:l2.length<=c2) (h:gR.f k g b m l2=some (u,v)):
  Calls Tryz.prog 201 #[.agg #[.int .i64 g,.slice j b.length l],.int .i64 m,.slice r l2.length c2] w fun e w'=>e= .returned (.tuple #[.bool u,.int .i64 v])/\Below w.heap.size w w':=by
 have W:=Tryz.underlying24;have D:=zA x;have E:=zA y;clear x y;have F:=zA z;have G:=zA B;clear z B;have a:=zA (al w.heap.size w);unfold gR.f at h;have H:=h;clear h;obtain⟨⟨I,J,s⟩,K,H⟩:=zo H;dsimp only at H;by_cases n:s=0
 ·rw[if_pos n] at H
  obtain⟨M,O⟩:=br n;clear n;simp only[Option.some.injEq,Prod.mk.injEq] at H;obtain⟨rfl,rfl⟩:=H;go_enter Tryz.func201,Tryz.ntmps201
  go_wp2_with (first|((with_reducible refine aH (N:=3) rfl ?_);(try(refine dt (by rfl) ?_;dsimp only));refine zX 3 #[.int .i64 g,.slice j b.length l] 24 ?_;intro P hg X o hb;have i:=zA (o);have Q:=zG a hg;have R:=zG a hg;replace a:=zS a hb;clear hb o hg;obtain⟨Y,Z,aa,ab⟩:=au i)|((with_reducible refine aC (f:=213) rfl ?_);refine zL (some 15) Tryz.func213 #[.agg #[.int .i64 g,.slice j b.length l],.int .i64 m,.slice r l2.length c2] ?_;(with_reducible refine(iI.calls k g _ _ b m _ _ l2 I J s _ ?af ?ah ?aT ?aU K.out).mono ?_);(case af=>exact Kd.aq D.out zB);(case ah=>exact E.out);(case aT=>exact Kd.aq F.out zB);(case aU=>exact G.out);rintro e w8 ⟨S,T,rfl,p,q,hb⟩;refine⟨_,rfl,?_⟩;have U:=zA (Kd.bc p (bs zB));have L:=zA (Kd.bc q (bs zB));replace i:=zb i hb;replace a:=zS a hb;(try clear hb);(try clear p);(try clear q);obtain⟨ag,ak,V⟩:=Kd.bm L.out;subst V))
  go_ret2;exact⟨zE,zB⟩
 ·rw[if_neg n] at H
  obtain⟨M,O⟩:=bG n;simp only[Option.some.injEq,Prod.mk.injEq] at H;obtain⟨rfl,rfl⟩:=H;go_enter Tryz.func201,Tryz.ntmps201
  go_wp2_with (first|((with_reducible refine aH (N:=3) rfl ?_);(try(refine dt (by rfl) ?_;dsimp only));refine zX 3 #[.int .i64 g,.slice j b.length l] 24 ?_;intro P hg am o hb;have i:=zA (o);have Q:=zG a hg;have R:=zG a hg;replace a:=zS a hb;clear hb o hg;obtain⟨an,ap,ar,av⟩:=au i)|((with_reducible refine aC (f:=213) rfl ?_);refine zL (some 15) Tryz.func213 #[.agg #[.int .i64 g,.slice j b.length l],.int .i64 m,.slice r l2.length c2] ?_;(with_reducible refine(iI.calls k g _ _ b m _ _ l2 I J s _ ?af ?ah ?aT ?aU K.out).mono ?_);(case af=>exact Kd.aq D.out zB);(case ah=>exact E.out);(case aT=>exact Kd.aq F.out zB);(case aU=>exact G.out);rintro e aB ⟨S,T,rfl,p,q,hb⟩;refine⟨_,rfl,?_⟩;have U:=zA (Kd.bc p (bs zB));have L:=zA (Kd.bc q (bs zB));replace i:=zb i hb;replace a:=zS a hb;(try clear hb);(try clear p);(try clear q)))
  go_ret2;exact⟨zE,zB⟩
def fc.f (k:Nat) (b:Int) (e:List (S83)) (g:Int) (l2:List Int):Option (Bool):=(gR.f k b e g l2).bind fun a=>(if a.1=true then(some (a.2==0)) else(some false))
theorem fc.mono:∀a0 a a2 a3 k,aj (fc.f k a0 a a2 a3) (fc.f (k+1) a0 a a2 a3):=by
 intro a0 a a2 a3 k;unfold fc.f;with_reducible repeat' first|exact gR.mono _ _ _ _ _|exact aj.refl _|exact aj.none _|refine aj.ite ?_ ?_|refine aj.bind ?_ (fun _=>?_)
theorem fc.calls (k:Nat) (g:Int) (j:Option Addr) (l:Nat) (b:List (S83)) (m:Int) (o:Option Addr) (c2:Nat) (l2:List Int) (r:Bool) (w:World) (q:Kd.C aN w j b.length b) (s:b.length<=l) (u:Kd.C (Kd.int .i64) w o l2.length l2) (v:l2.length<=c2) (h:fc.f k g b m l2=some r):
  Calls Tryz.prog 176 #[.agg #[.int .i64 g,.slice j b.length l],.int .i64 m,.slice o l2.length c2] w fun e w'=>e= .returned (.bool r)/\Below w.heap.size w w':=by
 have K:=Tryz.underlying24;have x:=zA q;have y:=zA s;clear q s;have z:=zA u;have B:=zA v;clear u v;have a:=zA (al w.heap.size w);unfold fc.f at h;have H:=h;clear h;obtain⟨⟨F,D⟩,E,H⟩:=zo H;dsimp only at H;by_cases p:F=true
 ·subst p
  replace H:=zi H;obtain rfl:=aE H;go_enter Tryz.func176,Tryz.ntmps176
  go_wp2_with (first|((with_reducible refine aH (N:=3) rfl ?_);refine zX 3 #[.int .i64 g,.slice j b.length l] 24 ?_;intro G hg L n hb;have i:=zA (n);have I:=zG a hg;have J:=zG a hg;replace a:=zS a hb;clear hb n hg;obtain⟨M,O,P,Q⟩:=au i)|((with_reducible refine aC (f:=201) rfl ?_);refine zL (some 13) Tryz.func201 #[.agg #[.int .i64 g,.slice j b.length l],.int .i64 m,.slice o l2.length c2] ?_;(with_reducible refine(gR.calls k g _ _ b m _ _ l2 true D _ ?af ?ah ?aT ?aU E.out).mono ?_);(case af=>exact Kd.aq x.out zB);(case ah=>exact y.out);(case aT=>exact Kd.aq z.out zB);(case aU=>exact B.out);rintro e R ⟨rfl,hb⟩;refine⟨_,rfl,?_⟩;replace i:=zb i hb;replace a:=zS a hb;(try clear hb)))
  go_ret;exact⟨zE,zB⟩
 ·replace p:=Bool.eq_false_iff.mpr p
  subst p;replace H:=zj H;obtain rfl:=aE H;go_enter Tryz.func176,Tryz.ntmps176
  go_wp2_with (first|((with_reducible refine aH (N:=3) rfl ?_);refine zX 3 #[.int .i64 g,.slice j b.length l] 24 ?_;intro G hg S n hb;have i:=zA (n);have I:=zG a hg;have J:=zG a hg;replace a:=zS a hb;clear hb n hg;obtain⟨T,U,V,W⟩:=au i)|((with_reducible refine aC (f:=201) rfl ?_);refine zL (some 13) Tryz.func201 #[.agg #[.int .i64 g,.slice j b.length l],.int .i64 m,.slice o l2.length c2] ?_;(with_reducible refine(gR.calls k g _ _ b m _ _ l2 false D _ ?af ?ah ?aT ?aU E.out).mono ?_);(case af=>exact Kd.aq x.out zB);(case ah=>exact y.out);(case aT=>exact Kd.aq z.out zB);(case aU=>exact B.out);rintro e gV ⟨rfl,hb⟩;refine⟨_,rfl,?_⟩;replace i:=zb i hb;replace a:=zS a hb;(try clear hb)))
  go_ret;exact⟨zE,zB⟩
section
attribute [local go_sem] Oper.semAt_some
def jB {α:Type} (P:Nat->Bool) (F:Nat->List α):Nat->Nat->List α
 |0,_=>[]
 |f+1,x=>if P x then F x++jB P F f (x+1) else[]
theorem uS {α:Type} (P:Nat->Bool) (F:Nat->List α):∀f x,jB P F f x=((List.range' x f).takeWhile P).flatMap F
 |0,x=>by simp[jB]
 |f+1,x=>by
  rw[jB,List.range'_succ,List.takeWhile_cons];cases P x with
  |true=>simp[uS P F f (x+1)]
  |false=>simp
theorem CN (q B:Nat) (calm:List Int->Bool) (k:Nat) (p:List Int) (h:p.length≠q):dR q B calm (k+1) p=jB (fun (x:Nat)=>calm (p++(x:Int)::List.replicate k 0)) (fun (x:Nat)=>dR q B calm k (p++[(x:Int)])) B 0:=by
 rw[dR,if_neg h,uS,List.range_eq_range']
def iP (n q:Nat) (c:List Int):Prop:=c.length=n/\(∀i:Nat,0<=rd c i/\rd c i<=1000)/\rd c q=0
structure CS (w0:World) (n:Nat) (A0:Option Addr) (c0:Nat) (E:List S83) (q gx qx s l:Nat) (W:World) (c:List Int):Prop where
 g:W.heap[gx]? =some (.cells #[.int .i64 n,.slice A0 E.length c0] 24 (0,0))
 q:W.heap[qx]? =some (.cells #[.int .i64 q] 3 (0,0))
 y:W.heap[s]? =some (.cells #[.func (.yield l) #[] #[]] 141 (0,0))
 c:(Kd.int .i64).R 3 W w0.heap.size (fun k=>k=s+1) (.slice (some ⟨s+1,0,none⟩) n n) c
 cb:W.heap[s+2]? =some (.cells #[.slice (some ⟨s+1,0,none⟩) n n] 26 (0,0))
 f:W.heap[s+3]? =some (.cells #[.func (.func 200) #[] #[.pointer (some ⟨gx,0,none⟩),.pointer (some ⟨s,0,none⟩),.pointer (some ⟨s+2,0,none⟩),.pointer (some ⟨qx,0,none⟩),.pointer (some ⟨s+3,0,none⟩)]] 121 (0,0))
 below:Below w0.heap.size w0 W
namespace CS
variable {w0:World} {n:Nat} {A0:Option Addr} {c0:Nat} {E:List S83} {q gx qx s l:Nat} {W W':World} {c:List Int}
theorem iK (h:CS w0 n A0 c0 E q gx qx s l W c) (hk:∀k,(k=gx\/k=qx\/s<=k/\k<s+4)->W'.heap[k]? =W.heap[k]?) (hb:Below w0.heap.size w0 W'):CS w0 n A0 c0 E q gx qx s l W' c:=
 ⟨(hk gx (.inl rfl)).trans h.g,(hk qx (.inr (.inl rfl))).trans h.q,(hk s (.inr (.inr ⟨by omega,by omega⟩))).trans h.y,Kd.fj h.c (fun k e=>hk k (.inr (.inr (by subst e;omega)))),(hk (s+2) (.inr (.inr ⟨by omega,by omega⟩))).trans h.cb,(hk (s+3) (.inr (.inr ⟨by omega,by omega⟩))).trans h.f,hb⟩
theorem lt (h:CS w0 n A0 c0 E q gx qx s l W c):s+3<W.heap.size/\gx<W.heap.size/\qx<W.heap.size:=⟨az h.f,az h.g,az h.q⟩
theorem stay (h:CS w0 n A0 c0 E q gx qx s l W c) (hb:Below W.heap.size W W'):CS w0 n A0 c0 E q gx qx s l W' c:=
 h.iK (fun k hk=>hb.block k (by have:=h.lt;rcases hk with rfl|rfl|hk<;>omega)) (h.below.trans (hb.mono h.below.size))
theorem size (h:CS w0 n A0 c0 E q gx qx s l W c):w0.heap.size<=W.heap.size:=h.below.size
end CS
def qF (s:Nat) (x:List Int×Value) (A B:World):Prop:=A.grownBy B (some (s+1))/\(Kd.int .i64).R 3 B A.heap.size (fun _=>True) x.2 x.1/\s+4<=A.heap.size
def qG (w0:World) (gx qx s:Nat) (X Y:World):Prop:=(w0.heap.size<=X.heap.size->Below w0.heap.size X Y)/\∀k,(k=gx\/k=qx\/s<=k/\k<s+4)->k<X.heap.size->Y.heap[k]? =X.heap[k]?
def qH (w0:World) (B n:Nat) (A0:Option Addr) (c0:Nat) (E:List S83) (q gx qx s l:Nat) (calm:List Int->Bool) (J Jx:List (List Int×Value)->World->Prop) (a:Nat) (p:List Int) (pre:List (List Int×Value)) (e:Ending) (W':World):Prop:=
 (∃b,e= .returned (.bool true)/\J (pre++b) W'/\b.map Prod.fst=dR q B calm a p/\CS w0 n A0 c0 E q gx qx s l W' (p++List.replicate a 0))\/(e= .returned (.bool false)/\∃g,Jx g W')
theorem CO {e:Ending} {A B:Prop} (h:(e= .returned (.bool true)/\A)\/(e= .returned (.bool false)/\B)):∃b:Bool,e= .returned (.bool b)/\Aside0 ((b=true/\A)\/(b=false/\B)):=by
 rcases h with⟨h,a⟩|⟨h,hb⟩
 ·exact⟨true,h,⟨.inl ⟨rfl,a⟩⟩⟩
 ·exact⟨false,h,⟨.inr ⟨rfl,hb⟩⟩⟩
theorem CP {w0:World} {B n:Nat} {A0:Option Addr} {c0:Nat} {E:List S83} {q gx qx s l:Nat} {calm:List Int->Bool} {J Jx:List (List Int×Value)->World->Prop} {g:Nat} {p:List Int} {pre:List (List Int×Value)} {e:Ending} {W':World} (h:qH w0 B n A0 c0 E q gx qx s l calm J Jx g p pre e W'):
  ∃b:Bool,e= .returned (.bool b)/\Aside0 ((b=true/\∃a,J (pre++a) W'/\a.map Prod.fst=dR q B calm g p/\CS w0 n A0 c0 E q gx qx s l W' (p++List.replicate g 0))\/(b=false/\∃i,Jx i W')):=by
 rcases h with⟨a,h,j⟩|⟨h,hb⟩
 ·exact⟨true,h,⟨.inl ⟨rfl,a,j⟩⟩⟩
 ·exact⟨false,h,⟨.inr ⟨rfl,hb⟩⟩⟩
theorem CQ {w0:World} {B n:Nat} {A0:Option Addr} {c0:Nat} {E:List S83} {q gx qx s l:Nat} {calm:List Int->Bool} {J Jx:List (List Int×Value)->World->Prop} (hn:n<=12)
  (m:∀pre x A C,J pre A->qF s x A C->pre.length<16384->YieldAt Fence.wide 8 Tryz.prog l #[x.2] C fun e W'=>(e= .returned (.bool true)/\J (pre++[x]) W'/\qG w0 gx qx s C W')\/(e= .returned (.bool false)/\Jx (pre++[x]) W'))
  (p:List Int) (pre:List (List Int×Value)) (W:World) (hp:p.length=n) (hC:CS w0 n A0 c0 E q gx qx s l W p) (o:J pre W) (hlen:pre.length<16384):
  CallsIn Fence.wide 9 Tryz.prog 200 #[.int .i64 n,.pointer (some ⟨gx,0,none⟩),.pointer (some ⟨s,0,none⟩),.pointer (some ⟨s+2,0,none⟩),.pointer (some ⟨qx,0,none⟩),.pointer (some ⟨s+3,0,none⟩)] W (qH w0 B n A0 c0 E q gx qx s l calm J Jx 0 p pre):=by
 have G:=zA m;have H:=zA o;have j:=zA hC;have N:W.cell? ⟨gx,0,none⟩=some (.int .i64 n):=(ai hC.g 0).trans rfl;have O:W.cell? ⟨s,0,none⟩=some (.func (.yield l) #[] #[]):=(ai hC.y 0).trans rfl;have P:W.cell? ⟨s+2,0,none⟩=some (.slice (some ⟨s+1,0,none⟩) n n):=(ai hC.cb 0).trans rfl;have Q:=zA hp;obtain⟨-, -,r⟩:=Kd.aG hC.c;have S:=hC.below.size;have I:=zA (show CallsIn Fence.wide 8 Tryz.prog 57 #[.slice (some ⟨s+1,0,none⟩) n n] W.drew (fun e w'=>∃u:Value,e= .returned (u)/\Kd.R (Kd.int .i64) 3 w' W.heap.size (fun _=>True) u p/\Below W.heap.size W w'/\Below W.heap.size W.drew w') from callsIn_wide.2 (by
  subst hp;refine(fM.calls (some ⟨s+1,0,none⟩) p.length p p W.drew (Kd.fk r) (aI _) (by unfold fM.f clone.f;rw[if_pos (by omega)])).mono ?_;rintro e w' ⟨v,rfl,h1,w⟩;exact⟨v,rfl,h1,(gW (al _ _)).trans w,w⟩))
 clear m o hC r hp;refine callsIn_of_wp Tryz.func200 rfl trivial ?_ rfl;simp only[Tryz.ntmps200,List.size_toArray,List.length_cons,List.length_nil,Nat.reduceAdd,Nat.reduceSub,Array.replicate_succ,Array.replicate_zero,List.push_toArray,List.append_toArray,List.nil_append,List.cons_append];gi_wp2;gi_region_with (first|(refine⟨trivial,?_⟩;gi_at_call 57;refine I.out.mono ?_;rintro e w1 ⟨v,rfl,z,h,K⟩;have T:w1.cell? ⟨s,0,none⟩=some (.func (.yield l) #[] #[]):=(ai (aJ j.out.y h) 0).trans rfl;have i:=zA (j.out.stay h);obtain⟨fn,tmps,U,V,X,D⟩:=G.out pre (p,v) W w1 H.out ⟨jg h _,z,j.out.lt.1⟩ hlen;have L:=zA D;clear D z h K)|(refine L.out.mono ?_;rintro e w3 a;obtain⟨b,rfl,M⟩:=CO a;clear a))
 all_goals gi_wp2
 all_goals go_ret
 all_goals
  rcases M.out with⟨rfl,a,F⟩|⟨rfl,a⟩
  ·exact .inl ⟨[(p,v)],rfl,a,rfl,by simpa using i.out.iK (fun k hk=>F.2 k hk (by have:=i.out.lt;rcases hk with rfl|rfl|hk<;>omega)) (i.out.below.trans (F.1 i.out.size))⟩
  ·exact .inr ⟨rfl,_,a⟩
theorem CT {n q a:Nat} {p:List Int} {x:Nat} (h:iP n q (p++List.replicate (a+1) 0)) (b:p.length≠q) (g:x<=1000):iP n q (p++(x:Int)::List.replicate a 0):=by
 have e:p++(x:Int)::List.replicate a 0=(p++List.replicate (a+1) 0).set p.length x:=by
  rw[List.replicate_succ,List.set_append_right _ _ (aI _),Nat.sub_self];rfl
 rw[e];refine⟨by rw[List.length_set];exact h.1,fun i=>?_,?_⟩
 ·have hi:=h.2.1 i
  simp only[rd,aQ,bb,List.getElem?_set] at hi⊢;split
  ·split<;>simp<;>omega
  ·exact hi
 ·have hi:=h.2.2
  simp only[rd,aQ,bb,List.getElem?_set] at hi⊢;rw[if_neg b];exact hi
theorem CS.set {w0:World} {n:Nat} {A0:Option Addr} {c0:Nat} {E:List S83} {q gx qx s l:Nat} {W:World} {p:List Int} {a:Nat} {x:Int} (h:CS w0 n A0 c0 E q gx qx s l W (p++x::List.replicate a 0)) (b:gx<s) (i:qx<s) (j:w0.heap.size<=s) (y:Int):
  CS w0 n A0 c0 E q gx qx s l (W.setCell ⟨s+1,p.length,none⟩ (.int .i64 y)) (p++y::List.replicate a 0)/\W.grownBy (W.setCell ⟨s+1,p.length,none⟩ (.int .i64 y)) (some (s+1)):=by
 have hp:=Kd.dh h.c (p.length:Int) y;rw[aQ] at hp;have hZ:∀k,k≠s+1->(W.setCell ⟨s+1,p.length,none⟩ (.int .i64 y)).heap[k]? =W.heap[k]? :=fun k hk=>Below.heap_setCell _ _ _ _ (by simpa using hk)
 refine⟨⟨(hZ gx (by omega)).trans h.g,(hZ qx (by omega)).trans h.q,(hZ s (by omega)).trans h.y,?_,(hZ (s+2) (by omega)).trans h.cb,(hZ (s+3) (by omega)).trans h.f,h.below.setCell (by show w0.heap.size<=s+1;omega) _⟩,hp.2⟩;have e:(p++x::List.replicate a 0).set p.length y=p++y::List.replicate a 0:=by
  rw[List.set_append_right _ _ (aI _),Nat.sub_self];rfl
 rw[<-e];exact hp.1
theorem CS.cell {w0:World} {n:Nat} {A0:Option Addr} {c0:Nat} {E:List S83} {q gx qx s l:Nat} {W:World} {p:List Int} {b:Nat} {x:Int} (h:CS w0 n A0 c0 E q gx qx s l W (p++x::List.replicate b 0)) (hn:p.length<n):
  W.cell? ⟨s+1,p.length,none⟩=some (.int .i64 x)/\W.frozen? ⟨s+1,p.length,none⟩=false:=by
 obtain⟨h1,a⟩:=Kd.bW (0:Int) h.c (p.length:Int) (by omega) (by omega);rw[aQ] at h1 a;refine⟨?_,a⟩;rw[h1];simp[bV,bb]
theorem CU (k m:Nat) (b:Int) (g:Option Addr) (i:Nat) (a:List (S83)) (j:Int) (l:Option Addr) (c2:Nat) (l2:List Int) (r:Bool) (w:World) (n:Kd.C aN w g a.length a) (o:a.length<=i) (p:l2.length=m) (q:Kd.C (Kd.int .i64) w l m l2) (s:m<=c2) (h:fc.f k b a j l2=some r):
  Calls Tryz.prog 176 #[.agg #[.int .i64 b,.slice g a.length i],.int .i64 j,.slice l m c2] w fun e w'=>e= .returned (.bool r)/\Below w.heap.size w w':=by
 subst p;exact fc.calls k b g i a j l c2 l2 r w n o q s h
theorem CV {w0:World} {B K n:Nat} {A0:Option Addr} {c0:Nat} {E:List S83} {q gx qx s l:Nat} {calm:List Int->Bool} {J Jx:List (List Int×Value)->World->Prop} (hn:n<=12) (aL:Kd.C aN w0 A0 E.length E) (aO:E.length<=c0) (X:gx<s) (Y:qx<s) (Z:w0.heap.size<=s)
  (aa:∀c,iP n q c->fc.f K n E q c=some (calm c)) (ab:∀(p:List Int) (x a:Nat),calm (p++(x:Int)::List.replicate a 0)=true->p.length+1+a=n->p.length≠q->x+1<B) (hB:B<=1000) (aP:0<B)
  (ad:∀pre A C,J pre A->A.grownBy C (some (s+1))->J pre C)
  (hY:∀pre x A C,J pre A->qF s x A C->pre.length<16384->YieldAt Fence.wide 8 Tryz.prog l #[x.2] C fun e W'=>(e= .returned (.bool true)/\J (pre++[x]) W'/\qG w0 gx qx s C W')\/(e= .returned (.bool false)/\Jx (pre++[x]) W')):
  ∀(a v:Nat) (p:List Int) (pre:List (List Int×Value)) (W:World),p.length=v->v+a=n->CS w0 n A0 c0 E q gx qx s l W (p++List.replicate a 0)->iP n q (p++List.replicate a 0)->J pre W->pre.length+(dR q B calm a p).length<=16384->
  CallsIn Fence.wide 9 Tryz.prog 200 #[.int .i64 v,.pointer (some ⟨gx,0,none⟩),.pointer (some ⟨s,0,none⟩),.pointer (some ⟨s+2,0,none⟩),.pointer (some ⟨qx,0,none⟩),.pointer (some ⟨s+3,0,none⟩)] W (qH w0 B n A0 c0 E q gx qx s l calm J Jx a p pre):=by
 intro a;induction a with
 |zero=>
  intro v p pre W hp hv hC hO H hlen;obtain rfl:v=n:=by omega
  exact CQ hn hY p pre W hp (by simpa using hC) H (by simp[dR] at hlen;omega)
 |succ a ih=>
  intro v p pre W hp hv hC hO H hlen;have I:W.cell? ⟨gx,0,none⟩=some (.int .i64 n):=(ai hC.g 0).trans rfl;have L:W.cell? ⟨qx,0,none⟩=some (.int .i64 q):=(ai hC.q 0).trans rfl;have a0:W.cell? ⟨s+3,0,none⟩=some (.func (.func 200) #[] #[.pointer (some ⟨gx,0,none⟩),.pointer (some ⟨s,0,none⟩),.pointer (some ⟨s+2,0,none⟩),.pointer (some ⟨qx,0,none⟩),.pointer (some ⟨s+3,0,none⟩)]):=(ai hC.f 0).trans rfl;have a1:((v:Int)==(n:Int))=false:=by simp;omega
  have hu:=Tryz.underlying24;have am:=zA ih;have i:=zA hC;have HO:=zA hO;have w:=zA H;have HL:=zA hlen;have k:=zA hp;have R:=zA ad;have a2:=zA aa;have a3:=zA ab;have b3:v<12:=by omega
  clear ih hC hO H hlen hY ad aa ab hp;refine callsIn_of_wp Tryz.func200 rfl trivial ?_ rfl;simp only[Tryz.ntmps200,List.size_toArray,List.length_cons,List.length_nil,Nat.reduceAdd,Nat.reduceSub,Array.replicate_succ,Array.replicate_zero,List.push_toArray,List.append_toArray,List.nil_append,List.cons_append];by_cases F:v=q
  ·have r:=am.out (v+1) (p++[0]) pre W (by simp[k.out]) (by omega) (by rw[List.append_assoc];exact i.out) (by rw[List.append_assoc];exact HO.out) w.out (by have h:=HL.out;rw[dR,if_pos (by rw[k.out];exact F)] at h;exact h)
   rw[Int.natCast_add,Int.natCast_one] at r;have S:=zA ((callsIn_wide (n:=8)).2 (callsIn_wide.1 r));clear r;have y:=zA F;clear F;have b4:((v:Int)==(q:Int))=true:=by simp[y.out]
   gi_wp2_with (refine⟨trivial,?_⟩;gi_at_call 200;refine S.out.mono ?_;rintro e w3 j;obtain⟨b,rfl,T⟩:=CP j;clear j)
   go_ret;rcases T.out with⟨rfl,m,j,M,z⟩|⟨rfl,j⟩
   ·exact .inl ⟨m,rfl,j,by rw[dR,if_pos (by rw[k.out];exact y.out)];exact M,by rw[List.append_assoc] at z;exact z⟩
   ·exact .inr ⟨rfl,j⟩
  ·have a4:((v:Int)==(q:Int))=false:=by simp;omega
   have y:=zA (show p.length≠q by rw[k.out];exact F);have a5:=zA (CN q B calm a p y.out);clear F;gi_wp2;clear I L a0 a1 a4;gi_loopg [] (B) (fun kq wr=>∃(x:Nat) (m:List (List Int×Value)),x<B/\Aside0 (J (pre++m) wr)/\Aside0 (CS w0 n A0 c0 E q gx qx s l wr (p++(x:Int)::List.replicate a 0))/\Aside0 (dR q B calm (a+1) p=m.map Prod.fst++jB (fun (x:Nat)=>calm (p++(x:Int)::List.replicate a 0)) (fun (x:Nat)=>dR q B calm a (p++[(x:Int)])) (B-x) x)/\Aside0 (kq=B-x))
   case atStart=>exact⟨0,[],aP,⟨by simpa using w.out⟩,i,⟨by rw[a5.out];rfl⟩,⟨rfl⟩⟩
   case round=>
    clear w i;obtain⟨x,m,hx,w,i,HT,HK⟩:=hrel;have N:=zA (CT (x:=x) HO.out y.out (by omega));obtain⟨-, -,U⟩:=Kd.aG i.out.c;rw[N.out.1] at U;have O:=zA ((callsIn_wide (n:=8)).2 (CU K n n A0 c0 E q (some ⟨s+1,0,none⟩) n _ _ wr (Kd.aq aL i.out.below) aO N.out.1 U (aI _) (a2.out _ N.out)));have av:=zA (show jB (fun (x:Nat)=>calm (p++(x:Int)::List.replicate a 0)) (fun (x:Nat)=>dR q B calm a (p++[(x:Int)])) (B-x) x=if calm (p++(x:Int)::List.replicate a 0)=true then dR q B calm a (p++[(x:Int)])++jB (fun (x:Nat)=>calm (p++(x:Int)::List.replicate a 0)) (fun (x:Nat)=>dR q B calm a (p++[(x:Int)])) (B- (x+1)) (x+1) else[] from by rw[show B-x=(B- (x+1))+1 by omega];rfl);have I:wr.cell? ⟨gx,0,none⟩=some (.int .i64 n):=(ai i.out.g 0).trans rfl;have aB:wr.cell? ⟨gx,1,none⟩=some (.slice A0 E.length c0):=(ai i.out.g 1).trans rfl;have L:wr.cell? ⟨qx,0,none⟩=some (.int .i64 q):=(ai i.out.q 0).trans rfl;have aF:wr.cell? ⟨s+2,0,none⟩=some (.slice (some ⟨s+1,0,none⟩) n n):=(ai i.out.cb 0).trans rfl;have b6:(0:Int)<=(v:Int):=by omega
    have b_:(v:Int)<(n:Int):=by omega
    clear U;cases hb:calm (p++(x:Int)::List.replicate a 0) with
    |false=>
     rw[hb] at O;have P:=zA (show dR q B calm (a+1) p=m.map Prod.fst from by rw[HT.out,av.out,if_neg (by rw[hb];decide),List.append_nil]);clear hb;gi_wp2_with (refine⟨trivial,?_⟩;gi_at_call 176;refine O.out.mono ?_;rintro e w1 ⟨rfl,u⟩;have D:=zA (i.out.stay u);have Q:w1.cell? ⟨s+2,0,none⟩=some (.slice (some ⟨s+1,0,none⟩) n n):=(ai D.out.cb 0).trans rfl;have G:=D.out.cell (by rw[k.out];omega);rw[k.out] at G;obtain⟨q2,q3⟩:=G;have bi:=zA u;clear u)
     go_ret;have o:=D.out.set X Y Z 0;rw[k.out] at o;exact .inl ⟨m,rfl,R.out _ _ _ w.out (World.grownBy.trans (jg bi.out _) o.2),P.out.symm,o.1⟩
    |true=>
     rw[hb] at O;have HX:=zA (a3.out p x a hb (by rw[k.out];omega) y.out);have P:=zA (show dR q B calm (a+1) p=m.map Prod.fst++(dR q B calm a (p++[(x:Int)])++jB (fun (x:Nat)=>calm (p++(x:Int)::List.replicate a 0)) (fun (x:Nat)=>dR q B calm a (p++[(x:Int)])) (B- (x+1)) (x+1)) from by rw[HT.out,av.out,if_pos hb]);have bn:=zA (show (pre++m).length+(dR q B calm a (p++[(x:Int)])).length<=16384 from by have h1:=HL.out;rw[P.out] at h1;simp only[List.length_append,List.length_map] at h1⊢;omega);clear hb;gi_wp2_with (refine⟨trivial,?_⟩;gi_at_call 176;refine O.out.mono ?_;rintro e w1 ⟨rfl,u⟩;have D:=zA (i.out.stay u);have Q:w1.cell? ⟨s+3,0,none⟩=some (.func (.func 200) #[] #[.pointer (some ⟨gx,0,none⟩),.pointer (some ⟨s,0,none⟩),.pointer (some ⟨s+2,0,none⟩),.pointer (some ⟨qx,0,none⟩),.pointer (some ⟨s+3,0,none⟩)]):=(ai D.out.f 0).trans rfl;have r:=am.out (v+1) (p++[(x:Int)]) (pre++m) w1 (by simp[k.out]) (by omega) (by rw[List.append_assoc];exact D.out) (by rw[List.append_assoc];exact N.out) (R.out _ _ _ w.out (jg u _)) bn.out;rw[Int.natCast_add,Int.natCast_one] at r;have S:=zA ((callsIn_wide (n:=8)).2 (callsIn_wide.1 r));clear u r)
     refine⟨trivial,?_⟩;refine S.out.mono ?_;rintro e w3 (⟨bo,rfl,j,M,z⟩|⟨rfl,bv,j⟩)
     ·rw[List.append_assoc] at z
      have V:=zA (show CS w0 n A0 c0 E q gx qx s l w3 (p++(x:Int)::List.replicate a 0) from z);have bw:=zA j;have H4:=zA M;clear j M z Q I aB L aF;have Q:w3.cell? ⟨s+2,0,none⟩=some (.slice (some ⟨s+1,0,none⟩) n n):=(ai V.out.cb 0).trans rfl;have G:=V.out.cell (by rw[k.out];omega);have o:=V.out.set X Y Z ((x:Int)+1);rw[k.out] at G o;obtain⟨q2,q3⟩:=G;have b0:=zA o.1;have b1:=zA (R.out _ _ _ bw.out o.2);clear o;have b':(x:Int)<=1000:=by omega
      gi_wp2;gi_roundg (B- (x+1))
      case measure=>rw[HK.out];omega
      case rel=>exact⟨x+1,m++bo,HX.out,⟨by rw[<-List.append_assoc];exact b1.out⟩,b0,⟨by rw[P.out,List.map_append,H4.out,List.append_assoc]⟩,⟨rfl⟩⟩
     ·have T:=zA j
      clear j Q I aB L aF;gi_wp2;go_ret;exact .inr ⟨rfl,bv,T.out⟩
end
theorem uT {α:Type} {f:Nat->Option α} (h:∀k,aj (f k) (f (k+1))) {k:Nat} {r:α} (hk:f k=some r):∀m,f (k+m)=some r
 |0=>hk
 |m+1=>h _ _ (uT h hk m)
theorem uU {i:Nat} (h:i<=1000):wrap64 ((i:Int)+1)=((i+1:Nat):Int):=by
 rw[show wrap64 ((i:Int)+1)=(i:Int)+1 from by unfold wrap64;omega];omega
theorem CW {x:Int} (h: -1048576<=x/\x<=1048576):iH.f x=some true:=by
 unfold iH.f;rw[if_pos (show x>= -1048576 from h.1)];simp[h.2]
theorem uV (c:List Int) (b:c.length<=12) (h:∀i:Nat, -1048576<=rd c i/\rd c i<=1048576):∀(m K i:Nat),i+m=c.length->m<K->bz.l0 K c c.length i=some 0
 |0,0,i,_,a=>by omega
 |0,K+1,i,hi,_=>by
  rw[bz.l0,if_neg (by omega)]
 |m+1,0,i,_,a=>by omega
 |m+1,K+1,i,hi,a=>by
  rw[bz.l0,if_pos (by omega),if_pos (by omega),if_pos (by omega),CW (h i),Option.bind_some,if_pos rfl,uU (by omega)];exact uV c b h m K (i+1) (by omega) (by omega)
theorem uW (q:Int) (c:List Int) (b:c.length<=12) (h:∀i:Nat,0<=rd c i):∀(m K i:Nat),i+m=c.length->m<K->cX.l0 K q c c.length i=some 0
 |0,0,i,_,a=>by omega
 |0,K+1,i,hi,_=>by
  rw[cX.l0,if_neg (by omega)]
 |m+1,0,i,_,a=>by omega
 |m+1,K+1,i,hi,a=>by
  have e:=h i;rw[cX.l0,if_pos (by omega),if_pos (by omega),if_pos (by omega),if_neg (show ¬rd c i<0 by omega),uU (by omega),uW q c b h m K (i+1) (by omega) (by omega)];split<;>rfl
theorem uX (b:Nat->Bool):∀n,(gM b n).length=0↔(List.range n).all b=true
 |0=>by simp[gM]
 |n+1=>by
  have a:=uX b n;rw[List.range_succ,List.all_append];simp only[gM];cases hb:b n with
  |true=>simp[hb] at a⊢;exact a
  |false=>simp[hb]
theorem CX {k n:Nat} {E:List S83} {q:Nat} {c:List Int} (b:dp.f k n E q=some 0) (a:iP n q c):cX.f (k+20) n E q c=some 0:=by
 obtain⟨_,⟨_,hn⟩,_,g,h⟩:=kL b;have j:=a.1;have h1:=uT (fun k=>dp.mono n E q k) b 20;have e:bz.f (k+20) c n=some 0:=by
  unfold bz.f jw.f;rw[if_neg (by omega),if_neg (by omega),Option.bind_some,if_pos rfl,if_pos (by omega)];exact uV c (by omega) (fun i=>by have:=a.2.1 i;omega) c.length (k+20) 0 (by omega) (by omega)
 unfold cX.f;rw[h1,Option.bind_some,if_pos rfl,e,Option.bind_some,if_pos rfl];exact uW q c (by omega) (fun i=>(a.2.1 i).1) c.length (k+20) 0 (by omega) (by omega)
theorem CY {k n:Nat} {E:List S83} {q:Nat} {c:List Int} (b:dp.f k n E q=some 0) (a:iP n q c):gN.f (k+20) n E q c=some 0:=by
 obtain⟨_,⟨_,hn⟩,_,e,g⟩:=kL b;have h:=a.1;unfold gN.f;rw[CX b a,Option.bind_some,if_pos rfl,if_pos e,if_pos (by omega),if_pos a.2.2]
theorem CZ {k n:Nat} {E:List S83} {q:Nat} {c:List Int} (a:dp.f k n E q=some 0) (e:iZ n E=true) (b:iP n q c):gR.f (k+20) n E q c=some (fX n (timesOf E) q c,0):=by
 obtain⟨_,⟨_,hn⟩,_,g,i⟩:=kL a;have j:=b.1;unfold gR.f iI.f;rw[CY a b,Option.bind_some,if_pos rfl,if_pos (by simp only[oA,Bool.and_eq_true,decide_eq_true_eq];exact⟨by omega,e⟩),Option.bind_some,if_pos rfl];congr 2
 rw[aQ,aQ];have h:=uX (cL (cM q) (oB n E q c)) n;rw[Bool.eq_iff_iff];unfold fX;rw[show eG n (cu n (timesOf E) c) (cM q)=oB n E q c from rfl,<-h];simp
theorem C0 {k n:Nat} {E:List S83} {q:Nat} {c:List Int} (a:dp.f k n E q=some 0) (b:iZ n E=true) (e:iP n q c):fc.f (k+20) n E q c=some (fX n (timesOf E) q c):=by
 unfold fc.f;rw[CZ a b e,Option.bind_some];cases fX n (timesOf E) q c<;>simp
theorem C1 {t:Nat->Nat->Int} (a:∀i j,0<=t i j/\t i j<=50) (b:Nat->Bool) (v:Nat) (n:Nat) (hn:n<=12):dF t b v n<=600:=by
 have:=(p' (burnt:=b) a v n).2;omega
theorem C2 {n:Nat} {E:List S83} {q:Nat} (b:iZ n E=true) (hn:n<=12) {l:List Int} {v:Nat} (e:v<n) (g:v≠q) (h:fX n (timesOf E) q l=true):rd l v<valOf n (timesOf E) v/\valOf n (timesOf E) v<=600:=by
 have a:=(lH b).times;exact⟨((ql (fun i j=>(a i j).1) q l).1 h).lt e g,C1 a _ v n hn⟩
section
attribute [local go_sem] Oper.semAt_some
theorem C3 {w0:World} {B K n:Nat} {A0:Option Addr} {c0:Nat} {E:List S83} {q gx qx:Nat} {calm:List Int->Bool} (W:World) (m:Nat) (hS:W.heap.size=m) (hn:n<=12) (ab:Kd.C aN w0 A0 E.length E) (ad:E.length<=c0)
  (F:∀c,iP n q c->fc.f K n E q c=some (calm c)) (G:∀(p:List Int) (x H:Nat),calm (p++(x:Int)::List.replicate H 0)=true->p.length+1+H=n->p.length≠q->x+1<B) (hB:B<=1000) (ak:0<B)
  (I:(dR q B calm n []).length<=16384)
  (hg:W.heap[gx]? =some (.cells #[.int .i64 n,.slice A0 E.length c0] 24 (0,0))) (v:W.heap[qx]? =some (.cells #[.int .i64 q] 3 (0,0))) (hw:Below w0.heap.size w0 W):
  i_ (σ:=Unit) Fence.wide 9 Tryz.prog 199 #[.pointer (some ⟨gx,0,none⟩),.pointer (some ⟨qx,0,none⟩)] (fun x:List Int×Value=>#[x.2]) (fun _ W W1=>W1=W) (fun _ A C=>A.grownBy C (some (m+1))) (fun _ x A C=>qF m x A C)
   (fun _ X Y=>qG w0 gx qx m X Y) (fun _ xs W'=>xs.map Prod.fst=dR q B calm n []) (fun _ _ _=>True) (fun pre=>pre.length<16384) W:=by
 intro r J Jx w am L M;subst hS;have N:=L () W rfl;have an:=zA (fun W' h1 y g=>CV (w0:=w0) (B:=B) (K:=K) (s:=W.heap.size) (l:=r) (J:=J ()) (Jx:=Jx ()) hn ab ad (az hg) (az v) hw.size F G hB ak (fun pre A C h hA=>w _ _ _ _ h hA) (fun pre x A C h1 y g=>M _ _ _ _ _ h1 y g) n 0 [] [] W' rfl (by omega) h1 y g (by simpa using I));have ar:=zA w;have av:=zA N;obtain⟨zs,O,P⟩:=lU 26 Tryz.underlying26 n (by omega);have HZ:=zA P;have Q:=zA hg;have R:=zA v;have S:=zA hw;have bi:(W.alloc (.cells #[.func (.yield r) #[] #[]] 141)).cell? ⟨gx,0,none⟩=some (.int .i64 n):=(ai (aw hg _) 0).trans rfl;have aF:=zA (show iP n q (List.replicate n 0) from⟨by simp,fun i=>by simp[rd,bb,List.getElem?_replicate];split<;>simp,by simp[rd,bb,List.getElem?_replicate];split<;>simp⟩);have aL:=az Q.out;have aO:=az R.out;have aP:=S.out.size;obtain⟨a,T⟩:∃o:Obj,o= .cells #[.func (.yield r) #[] #[]] 141:=⟨_,rfl⟩;obtain⟨j,U⟩:∃o:Obj,o= .cells zs 3:=⟨_,rfl⟩;obtain⟨b,V⟩:∃o:Obj,o= .cells #[.slice (some ⟨W.heap.size+1,0,none⟩) n n] 26:=⟨_,rfl⟩;obtain⟨fo,Z⟩:∃o:Obj,o= .cells #[.func (.func 200) #[] #[.pointer (some ⟨gx,0,none⟩),.pointer (some ⟨W.heap.size,0,none⟩),.pointer (some ⟨W.heap.size+1+1,0,none⟩),.pointer (some ⟨qx,0,none⟩),.pointer (some ⟨W.heap.size+1+1+1,0,none⟩)]] 121:=⟨_,rfl⟩;have u:=zA (ao (ao (ao (ao (al W.heap.size W) a) j) b) fo);have E0:=zA (show ((((W.alloc a).alloc j).alloc b).alloc fo).heap[W.heap.size]? =some a from by rw[Below.heap_alloc _ _ _ (by simp;omega),Below.heap_alloc _ _ _ (by simp;omega),Below.heap_alloc _ _ _ (by simp)];exact bl W a);have z:=HZ.out (W.alloc a) (fun k=>k=W.heap.size+1) (by simp);rw[World.size_alloc,<-U] at z;have E1:=zA (Kd.aM (Kd.aM (Kd.bc z (show w0.heap.size<=W.heap.size+1 by omega)) b) fo);have E2:=zA (show ((((W.alloc a).alloc j).alloc b).alloc fo).heap[W.heap.size+2]? =some b from by rw[Below.heap_alloc _ _ _ (by simp)];have h:=bl ((W.alloc a).alloc j) b;simpa using h);have E3:=zA (show ((((W.alloc a).alloc j).alloc b).alloc fo).heap[W.heap.size+3]? =some fo from by have h:=bl (((W.alloc a).alloc j).alloc b) fo;simpa using h);have a3:Aside0 (CS w0 n A0 c0 E q gx qx W.heap.size r ((((W.alloc a).alloc j).alloc b).alloc fo) (List.replicate n 0)):=
  ⟨⟨(u.out.block gx aL).trans Q.out,(u.out.block qx aO).trans R.out,E0.out.trans (by rw[T]),E1.out,E2.out.trans (by rw[V]),E3.out.trans (by rw[Z]),S.out.trans (u.out.mono aP)⟩⟩
 have a4:Aside0 (J () [] ((((W.alloc a).alloc j).alloc b).alloc fo)):=⟨ar.out _ _ _ _ av.out (jg u.out _)⟩;have a5:=zA ((callsIn_wide (n:=8)).2 (callsIn_wide.1 (an.out _ (by simpa using a3.out) (by simpa using aF.out) a4.out)));subst T U V Z;clear w am L M N F G I P hg v hw z;refine callsIn_of_wp Tryz.func199 rfl trivial ?_ rfl;simp only[Tryz.ntmps199,List.size_toArray,List.length_cons,List.length_nil,Nat.reduceAdd,Nat.reduceSub,Array.replicate_succ,Array.replicate_zero,List.push_toArray,List.append_toArray,List.nil_append,List.cons_append];gi_wp2;refine⟨trivial,?_⟩;refine a5.out.mono ?_;rintro e w3 (⟨vs,rfl,g,h4,h5⟩|⟨rfl,bf,g⟩)
 ·have D:=zA g
  have H4:=zA h4;clear g h4 h5 O;gi_wp2;go_end0;exact⟨⟨_,rfl⟩,.inl ⟨_,vs,H4.out,D.out⟩⟩
 ·have D:=zA g
  clear g O;gi_wp2;go_end0;exact⟨⟨_,rfl⟩,.inr ⟨_,bf,trivial,D.out⟩⟩
end
def gS (val:List Int) (q:Int) (n j:Nat):List Int:=(List.range n).map fun v=>if v<j/\(v:Int)≠q then rd val v-1 else 0
theorem C4 (val:List Int) (q:Int) (n:Nat):gS val q n 0=List.replicate n 0:=by
 unfold gS;refine List.ext_getElem (by simp) fun i h1 a=>?_
 simp
theorem C5 {val:List Int} {q:Int} {n j:Nat} (h:(j:Int)=q):gS val q n (j+1)=gS val q n j:=by
 unfold gS;refine List.map_congr_left fun v _=>?_
 by_cases e:v=j
 ·subst e;simp[h]
 ·have:(v<j+1/\(v:Int)≠q)↔(v<j/\(v:Int)≠q):=by omega
  simp only[this]
theorem C6 {val:List Int} {q:Int} {n j:Nat} (h:(j:Int)≠q) (a:j<n):gS val q n (j+1)=(gS val q n j).set j (rd val j-1):=by
 refine List.ext_getElem (by simp[gS]) fun i h1 b=>?_
 rw[List.getElem_set];simp only[gS,List.getElem_map,List.getElem_range];by_cases e:j=i
 ·subst e;simp[h]
 ·rw[if_neg e]
  have:(i<j+1/\(i:Int)≠q)↔(i<j/\(i:Int)≠q):=by omega
  simp only[this]
theorem C7 (n:Nat) (E:List S83):(gQ n E).length=n:=uO n _ _
theorem C8 {n:Nat} {E:List S83} (h:eQ E=true) (i:Nat):0<=rd (gQ n E) i/\rd (gQ n E) i<=4000:=by
 have h1:=uQ n (cg E E.length) (cg E E.length).length i;have a:=uM h;unfold gQ;omega
theorem C9 (k n:Nat) (A0:Option Addr) (c0:Nat) (E:List S83) (q:Int) (a:Option Addr) (cd:Nat) (dl:List Int) (w:World) (h:Kd.C aN w A0 E.length E) (i:E.length<=c0) (hd:Kd.C (Kd.int .i64) w a n dl) (j:n<=cd)
  (hn:n<=12) (l:dl.length=n) (m:bd.f k n E=some 0) (o:eQ E=true) (p:ej n E):
  Calls Tryz.prog 212 #[.agg #[.int .i64 n,.slice A0 E.length c0],.int .i64 q,.slice a n cd] w fun e w'=>∃(gp:Nat) (r b:Option Addr) (s g:Nat) (u:Value),e= .returned (.tuple #[.pointer (some ⟨gp,0,none⟩),.int .i64 0])/\cI w' gp (.slice r n s) q u (.slice b n g) (fun x=>if x<n then iM q (gQ n E) dl x else false)/\(Kd.int .i64).R 3 w' w.heap.size (fun _=>True) (.slice b n g) (gQ n E)/\Below w.heap.size w w':=by
 subst l;exact CM k dl.length A0 c0 E q a cd dl w h i hd j hn rfl m o p
def ie.f (k:Nat) (N:Int) (E:List S83) (q:Int):Option (List Int×Int):=
 (dp.f k N E q).bind fun t=>if t=0 then(if mU N E=true then some (gS (gQ N.toNat E) q N.toNat N.toNat,0) else none) else some ([],t)
theorem ie.mono:∀a b e k,aj (ie.f k a b e) (ie.f (k+1) a b e):=by
 intro a b e k;unfold ie.f;exact aj.bind (dp.mono _ _ _ _) (fun _=>aj.refl _)
theorem C_ (k:Nat) (N:Int) (A0:Option Addr) (c0:Nat) (E:List S83) (q:Int) (t:Int) (w:World) (g:Kd.C aN w A0 E.length E) (h:E.length<=c0)
  (a:dp.f k N E q=some t) (b:t≠0):
  Calls Tryz.prog 198 #[.agg #[.int .i64 N,.slice A0 E.length c0],.int .i64 q] w fun e w'=>e= .returned (.tuple #[.slice none 0 0,.int .i64 t])/\Below w.heap.size w w':=by
 have hu:=Tryz.underlying24;have i:=zA a;have l:(t != 0)=true:=by simpa using b
 clear a b;go_enter Tryz.func198,Tryz.ntmps198
 go_wp2_with (go_at_call 211;refine(dp.calls k N A0 c0 E q t _ (Kd.bE g _) h i.out).mono ?_;rintro e w1 ⟨rfl,hb⟩;have j:=zA (a7 (ao (al w.heap.size w) _) hb);clear hb)
 go_ret2;exact⟨rfl,j.out⟩
theorem Da (k n:Nat) (A0:Option Addr) (c0:Nat) (E:List S83) (q:Int) (w:World) (L:Kd.C aN w A0 E.length E) (M:E.length<=c0)
  (u:dp.f k n E q=some 0) (N:eQ E=true) (O:ej n E):
  Calls Tryz.prog 198 #[.agg #[.int .i64 n,.slice A0 E.length c0],.int .i64 q] w fun e w'=>∃v,e= .returned (.tuple #[v,.int .i64 0])/\(Kd.int .i64).R 3 w' w.heap.size (fun _=>True) v (gS (gQ n E) q n n)/\Below w.heap.size w w':=by
 have hu:=Tryz.underlying24;have bo:=Tryz.underlying236;obtain⟨hg,⟨_,hn⟩,_,bv,bw⟩:=kL u;obtain⟨zs,aB,P⟩:=lU 25 Tryz.underlying25 n (by omega);obtain⟨ys,aF,Q⟩:=lU 26 Tryz.underlying26 n (by omega);have HZ:=zA P;have HY:=zA Q;have aP:=zA u;have Hg:=zA hg;have S:=zA N;have HI:=zA O;have a0:n<=12:=by omega
 clear P Q u hg N O hn;have y:=zA (bl w (.cells #[.int .i64 n,.slice A0 E.length c0] 24));go_enter Tryz.func198,Tryz.ntmps198
 go_wp2_with (go_at_call 211;refine(dp.calls k n A0 c0 E q 0 _ (Kd.bE L _) M aP.out).mono ?_;rintro e w1 ⟨rfl,hb⟩;have b:=zA (a7 (ao (al w.heap.size w) _) hb);have a:=zA (aJ y.out hb);clear hb)
 generalize z:w.heap.size=gb at y b a⊢;have a1:=az a.out;have a2:w1.cell? ⟨gb,0,none⟩=some (.int .i64 n):=(ai a.out 0).trans rfl;have a3:w1.cell? ⟨gb,1,none⟩=some (.slice A0 E.length c0):=(ai a.out 1).trans rfl;have a4:(w1.alloc (.cells zs 3)).drew.cell? ⟨gb,0,none⟩=some (.int .i64 n):=(ai (aw a.out _) 0).trans rfl;have a5:(w1.alloc (.cells zs 3)).drew.cell? ⟨gb,1,none⟩=some (.slice A0 E.length c0):=(ai (aw a.out _) 1).trans rfl;have T:=zA (C9 k n A0 c0 E q (some ⟨w1.heap.size,0,none⟩) n (List.replicate n 0) (w1.alloc (.cells zs 3)).drew (Kd.fk (Kd.bE (Kd.aq L (by rw[z];exact b.out)) _)) M (by have h:=(Kd.aG (Kd.bq (HZ.out w1 (fun _=>True) trivial))).2.2;rw[List.length_replicate] at h;exact h) (aI _) a0 (by simp) Hg.out S.out HI.out);have B:Aside0 (gb<=(w1.alloc (.cells zs 3)).drew.heap.size):=⟨by have h:(w1.alloc (.cells zs 3)).drew.heap.size=w1.heap.size+1:=World.size_alloc w1 _;omega⟩;have U:=zA (bU (b.out.alloc (Nat.le_of_lt a1) (.cells zs 3)));have V:=zA (show (w1.alloc (.cells zs 3)).drew.heap[gb]? =some (.cells #[.int .i64 n,.slice A0 E.length c0] 24 (0,0)) from aw a.out _);go_wp2;go_region_with ((go_at_call 212;refine T.out.mono ?_;rintro e w2 ⟨gp,bx,W,b0,X,rv,rfl,Y,Z,hb⟩;have aa:=zA (U.out.trans (hb.mono B.out));have D:=zA (aJ V.out hb);have ab:=zA Y;have F:=zA (Kd.bc Z B.out);clear Y Z hb))
 all_goals have a9:w2.cell? ⟨gb,0,none⟩=some (.int .i64 n):=(ai D.out 0).trans rfl
 all_goals have G:=az D.out
 all_goals have ag:=zA (ab.out.below (ao (al w2.heap.size w2) (.cells ys 3)))
 all_goals have r:=zA (Kd.aM F.out (.cells ys 3))
 all_goals have H:=zA (aa.out.alloc (Nat.le_of_lt G) (.cells ys 3))
 all_goals have g:=zA (Kd.bc (HY.out w2 (fun k=>k=w2.heap.size) rfl) (Nat.le_of_lt G))
 all_goals have be:=ag.out.oL
 all_goals have ak:Aside0 (some w2.heap.size≠(Value.slice W n X).ownBlock):=⟨fun e=>by have:=Kd.a_ F.out _ e.symm;omega⟩
 all_goals clear y b a U V B T aa D ab F a2 a3 a4 a5 aB
 all_goals go_wp2
 all_goals clear a9 aF G be ag
 all_goals generalize w2.alloc (.cells ys 3)=w3 at r H g⊢
 all_goals generalize w2.heap.size=l at g ak⊢
 all_goals
  have am:=zA (C8 (n:=n) S.out);have an:=zA (C7 n E);obtain⟨vl,I⟩:∃vl,vl=gQ n E:=⟨_,rfl⟩;rw[<-I] at r am an;have bf:=zA I;clear I;rw[<-C4 vl q n] at g;go_loopw [38] (fun i wr=>∃(j:Nat),j<=n/\i= .int .i64 j/\Aside0 ((Kd.int .i64).R 3 wr gb (fun _=>True) (.slice W n X) vl)/\Aside0 ((Kd.int .i64).R 3 wr gb (fun k=>k=l) (.slice (some ⟨l,0,none⟩) n n) (gS vl q n j))/\Aside0 (Below gb w wr)) (fun i _=>n- (intOf i).toNat)
  case atStart=>exact⟨0,by omega,rfl,r,g,H⟩
  case round=>
   clear r g H;obtain⟨j,hj,rfl,J,m,K⟩:=hrel;by_cases bg:j<n
   ·obtain⟨-, -,hC⟩:=Kd.aG J.out
    rw[an.out] at hC;obtain⟨ad,rfl,hx⟩:=Kd.bT hC j (by omega) (by omega);rw[aQ] at hx;clear hC;have bi:=am.out j;have b3:(0:Int)<=(j:Int):=by omega
    have b4:(j:Int)<(n:Int):=by omega
    by_cases o:(j:Int)=q
    ·have s:=zA (C5 (val:=vl) (n:=n) o)
     subst o;go_wp2;go_roundw
     case rel=>exact⟨j+1,by omega,by go_num,J,⟨by rw[s.out];exact m.out⟩,K⟩
     case measure=>exact(show n- ((j:Int)+1).toNat<n- ((j:Int)).toNat by omega)
    ·have s:=zA (C6 (val:=vl) o bg)
     have b5:((j:Int) != q)=true:=by simpa using o
     obtain⟨bk,bn⟩:=Kd.bW (0:Int) m.out (j:Int) (by omega) (by omega);have hp:=Kd.dh m.out (j:Int) (rd vl j-1);rw[aQ] at bk bn hp;have ar:=zA hp.1;have av:=zA (Kd.iy J.out rfl hp.2 ak.out);have b:=zA (Below.setCell (p:=⟨l,j,none⟩) K.out (Kd.dz m.out l rfl) (.int .i64 (rd vl j-1)));clear hp o;generalize rd vl j=x at hx bi ar av b s;go_wp2;go_roundw
     case rel=>exact⟨j+1,by omega,by go_num,av,⟨by rw[s.out];exact ar.out⟩,b⟩
     case measure=>exact(show n- ((j:Int)+1).toNat<n- ((j:Int)).toNat by omega)
   ·obtain rfl:j=n:=by omega
    go_wp2;go_ret2;exact⟨.slice (some ⟨l,0,none⟩) _ _,rfl,by rw[z,<-bf.out];exact Kd.ba m.out (fun _ _=>trivial),by rw[z];exact K.out⟩
theorem ie.calls (k:Nat) (g:Int) (i:Option Addr) (j:Nat) (a:List (S83)) (l:Int) (p:List Int) (q:Int) (w:World) (r:Kd.C aN w i a.length a) (s:a.length<=j) (h:ie.f k g a l=some (p,q)):
  Calls Tryz.prog 198 #[.agg #[.int .i64 g,.slice i a.length j],.int .i64 l] w fun e w'=>∃u:Value,e= .returned (.tuple #[u,.int .i64 q])/\Kd.R (Kd.int .i64) 3 w' w.heap.size (fun _=>True) u p/\Below w.heap.size w w':=by
 unfold ie.f at h;obtain⟨t,m,H⟩:=Option.bind_eq_some_iff.mp h;by_cases o:t=0
 ·subst o
  rw[if_pos rfl] at H;by_cases b:mU g a=true
  ·rw[if_pos b] at H
   simp only[Option.some.injEq,Prod.mk.injEq] at H;obtain⟨rfl,rfl⟩:=H;obtain⟨_,⟨v,x⟩,_,_⟩:=kL m;obtain⟨n,rfl⟩:=Int.eq_ofNat_of_zero_le v;simp only[mU,Bool.and_eq_true] at b;rw[aQ];exact Da k n i j a l w r s m b.1 (lH b.2)
  ·rw[if_neg b] at H;cases H
 ·rw[if_neg o] at H
  simp only[Option.some.injEq,Prod.mk.injEq] at H;obtain⟨rfl,rfl⟩:=H;refine(C_ k g i j a l t w r s m o).mono ?_;rintro e w' ⟨rfl,hb⟩;exact⟨_,rfl,Kd.dc _ _ _ _ _,hb⟩
def f_.f (k:Nat) (b:Int) (e:List (S83)) (g:Int):Option (List Int×Int):=(ie.f k b e g).bind fun a=>(some (a.1,a.2))
theorem f_.mono:∀a0 a a2 k,aj (f_.f k a0 a a2) (f_.f (k+1) a0 a a2):=by
 intro a0 a a2 k;unfold f_.f;with_reducible repeat' first|exact ie.mono _ _ _ _|exact aj.refl _|exact aj.none _|refine aj.ite ?_ ?_|refine aj.bind ?_ (fun _=>?_)
theorem f_.calls (k:Nat) (b:Int) (j:Option Addr) (l:Nat) (a:List (S83)) (i:Int) (m:List Int) (n:Int) (w:World) (p:Kd.C aN w j a.length a) (q:a.length<=l) (h:f_.f k b a i=some (m,n)):
  Calls Tryz.prog 173 #[.agg #[.int .i64 b,.slice j a.length l],.int .i64 i] w fun e w'=>∃r:Value,e= .returned (.tuple #[r,.int .i64 n])/\Kd.R (Kd.int .i64) 3 w' w.heap.size (fun _=>True) r m/\Below w.heap.size w w':=by
 have F:=Tryz.underlying24;have x:=zA p;have y:=zA q;clear p q;have g:=zA (al w.heap.size w);have H:((ie.f k b a i).bind fun s=>(some (s.1,s.2)))=some (m,n):=h;clear h;obtain⟨⟨z,B⟩,D,H⟩:=zo H;dsimp only at H;simp only[Option.some.injEq,Prod.mk.injEq] at H;obtain⟨rfl,rfl⟩:=H;go_enter Tryz.func173,Tryz.ntmps173
 go_wp2_with (first|((with_reducible refine aH (N:=2) rfl ?_);refine zX 2 #[.int .i64 b,.slice j a.length l] 24 ?_;intro G hg I u hb;have o:=zA (u);have J:=zG g hg;have K:=zG g hg;replace g:=zS g hb;clear hb u hg;obtain⟨L,M,O,P⟩:=au o)|((with_reducible refine aC (f:=198) rfl ?_);refine zL (some 8) Tryz.func198 #[.agg #[.int .i64 b,.slice j a.length l],.int .i64 i] ?_;(with_reducible refine(ie.calls k b _ _ a i z B _ ?af ?ah D.out).mono ?_);(case af=>exact Kd.aq x.out zB);(case ah=>exact y.out);rintro e Q ⟨S,rfl,v,hb⟩;refine⟨_,rfl,?_⟩;have E:=zA (Kd.bc v (bs zB));replace o:=zb o hb;replace g:=zS g hb;(try clear hb);(try clear v)))
 go_ret2;exact⟨_,zE,by(with_reducible repeat(first|apply Kd.aM|apply Kd.bB|apply Kd.bq));exact E.out,zB⟩
end Go.Proofs.YtffdiakgjakngaaGreat.P


namespace Go.Proofs.YtffdiakgjakngaaGreat.P
open Go.RowKit Go.Proofs.YtffdiakgjakngaaGreatW.PrintWords Go.Proofs.YtffdiakgjakngaaGreatW.PrintLast Go.Proofs.YtffdiakgjakngaaGreatW.PrintMore
set_option linter.unusedVariables false
set_option linter.unusedSimpArgs false
set_option maxHeartbeats 8000000
set_option maxRecDepth 100000
section
attribute [local go_sem] Oper.semAt_some
theorem uY {P:Program} {ty:TypeId} {d:TypeDesc} (w:World) (a:Addr) (v:Value) (h:P.underlying ty=some d) (k:(match d with| .struct _| .array _ _=>true|_=>false)=false) (c:w.cell? a=some v):(loadVar ty a).run P w= .ok v w:=by
 have e:(isAgg ty).run P w= .ok false w:=by
  unfold isAgg;rw[Sem.run_bind];have hu:(underlying ty).run P w= .ok d w:=by simp[underlying,Sem.run_bind,Result.andThen,h]
  rw[hu];cases d<;>first|(simp at k;done)|rfl
 unfold loadVar;rw[Sem.run_bind,e];simp[Result.andThen,go_sem,c]
theorem qI {P:Program} {fn:Func} {p u:Tmp} {t1 t2:TypeId} {d1 d2:TypeDesc} (h:fn.results=#[.cell p t1,.cell u t2]) (tmps:Array Value) (w:World) (a b:Addr) (v1 v2:Value) (hp:tmps.getD p undef= .pointer (some a)) (hu:tmps.getD u undef= .pointer (some b))
  (h1:P.underlying t1=some d1) (e:P.underlying t2=some d2) (g:(match d1 with| .struct _| .array _ _=>true|_=>false)=false) (i:(match d2 with| .struct _| .array _ _=>true|_=>false)=false) (c1:w.cell? a=some v1) (c2:w.cell? b=some v2):
  (results fn tmps).run P w= .ok (.tuple #[v1,v2]) w:=by
 have j:tmps[p]?.getD undef= .pointer (some a):=by simpa using hp
 have k:tmps[u]?.getD undef= .pointer (some b):=by simpa using hu
 simp[results,h,j,k,asAddr,Sem.run_bind,Result.andThen,uY w a v1 h1 g c1,uY w b v2 e i c2]
theorem Db (N:Int) (A0:Option Addr) (c0:Nat) (E:List S83) (q:Int) (w:World):Calls Tryz.prog 174 #[.agg #[.int .i64 N,.slice A0 E.length c0],.int .i64 q] w fun e w'=>e= .returned (.func (.func 199) #[] #[.pointer (some ⟨w.heap.size,0,none⟩),.pointer (some ⟨w.heap.size+1,0,none⟩)])/\w'=(w.alloc (.cells #[.int .i64 N,.slice A0 E.length c0] 24)).alloc (.cells #[.int .i64 q] 3):=by
 go_enter Tryz.func174,Tryz.ntmps174
 go_wp2;go_ret;exact⟨rfl,rfl⟩
def qJ:Nat:=1000
def lX (n:Nat) (E:List S83) (q:Nat):List (List Int):=dR q qJ (fX n (timesOf E) q) n []
def fe.f (k:Nat) (N:Int) (E:List S83) (q:Int):Option (List (List Int)×Int):=
 (f_.f k N E q).bind fun t=>if t.2=0 then(if(lX N.toNat E q.toNat).length<=16384 then some (lX N.toNat E q.toNat,0) else none) else some ([],t.2)
theorem fe.mono:∀a b e k,aj (fe.f k a b e) (fe.f (k+1) a b e):=by
 intro a b e k;unfold fe.f;exact aj.bind (f_.mono _ _ _ _) (fun _=>aj.refl _)
theorem uZ {k:Nat} {N:Int} {E:List S83} {q:Int} {l:List Int} (h:f_.f k N E q=some (l,0)):dp.f k N E q=some 0/\eQ E=true/\iZ N E=true/\l=gS (gQ N.toNat E) q N.toNat N.toNat:=by
 unfold f_.f ie.f at h;simp only[Option.bind_assoc] at h;obtain⟨t,b,h⟩:=Option.bind_eq_some_iff.1 h;by_cases a:t=0
 ·subst a
  rw[if_pos rfl] at h;by_cases hk:mU N E=true
  ·rw[if_pos hk] at h
   simp only[mU,Bool.and_eq_true] at hk;simp only[Option.bind_some,Option.some.injEq,Prod.mk.injEq] at h;exact⟨b,hk.1,hk.2,h.1.symm⟩
  ·rw[if_neg hk] at h;cases h
 ·rw[if_neg a] at h
  simp only[Option.bind_some,Option.some.injEq,Prod.mk.injEq] at h;exact absurd h.2 a
theorem Dc {F:Fence} {n:Nat} {P:Program} {fn:Func} {R:Ending->World->Prop} {a:Act} {w:World} {v:Value} (hd:a.defers=[]) (b:(results fn a.tmps).run P w= .ok v w) (e:R (.returned v) w):bodyPostM F n P fn R .ret a w:=by
 show LeavesInM F n P fn a.tmps R a.defers .returning w
 rw[hd];exact⟨_,b,e⟩
theorem Dd {w1:World} {r:Nat} {t1 t2:TypeId} {u1 u2:Value} (v1 v2:Value) (a:w1.heap[r]? =some (.cells #[u1] t1 (0,0))) (b:w1.heap[r+1]? =some (.cells #[u2] t2 (0,0))):
  ((w1.setCell ⟨r,0,none⟩ v1).setCell ⟨r+1,0,none⟩ v2).cell? ⟨r,0,none⟩=some v1/\((w1.setCell ⟨r,0,none⟩ v1).setCell ⟨r+1,0,none⟩ v2).cell? ⟨r+1,0,none⟩=some v2:=by
 have h1:=bR a 0 v1;have e:=aD (p:=⟨r+1,0,none⟩) h1 (by show r≠r+1;omega) v2;have g:=aD (p:=⟨r,0,none⟩) b (by show r+1≠r;omega) v1;have h:=bR g 0 v2;exact⟨(ai e 0).trans (by simp),(ai h 0).trans (by simp)⟩
theorem mV (w:World) (a b e:Obj):(((w.alloc a).alloc b).alloc e).heap[w.heap.size]? =some a/\(((w.alloc a).alloc b).alloc e).heap[w.heap.size+1]? =some b/\(((w.alloc a).alloc b).alloc e).heap[w.heap.size+1+1]? =some e:=by
 refine⟨?_,?_,?_⟩
 ·rw[Below.heap_alloc _ _ _ (by simp;omega),Below.heap_alloc _ _ _ (by simp)];exact bl w a
 ·rw[Below.heap_alloc _ _ _ (by simp)];have h:=bl (w.alloc a) b;simpa using h
 ·have h:=bl ((w.alloc a).alloc b) e;simpa using h
theorem De (k:Nat) (N:Int) (A0:Option Addr) (c0:Nat) (E:List S83) (q:Int) (l:List Int) (t:Int) (w:World) (j:Kd.C aN w A0 E.length E) (m:E.length<=c0) (hf:f_.f k N E q=some (l,t)) (g:t≠0):
  Calls Tryz.prog 114 #[.agg #[.int .i64 N,.slice A0 E.length c0],.int .i64 q] w fun e w'=>e= .returned (.tuple #[.slice none 0 0,.int .i64 t])/\Below w.heap.size w w':=by
 have hu:=Tryz.underlying24;have o:=zA hf;have x:(t != 0)=true:=by simpa using g
 have a:=zA (mV w (.cells #[.int .i64 N,.slice A0 E.length c0] 24) (.cells #[.slice none 0 0] 33) (.cells #[.int .i64 0] 30));have y:(((w.alloc (.cells #[.int .i64 N,.slice A0 E.length c0] 24)).alloc (.cells #[.slice none 0 0] 33)).alloc (.cells #[.int .i64 0] 30)).cell? ⟨w.heap.size,0,none⟩=some (.int .i64 N):=(ai a.out.1 0).trans rfl;have z:(((w.alloc (.cells #[.int .i64 N,.slice A0 E.length c0] 24)).alloc (.cells #[.slice none 0 0] 33)).alloc (.cells #[.int .i64 0] 30)).cell? ⟨w.heap.size,1,none⟩=some (.slice A0 E.length c0):=(ai a.out.1 1).trans rfl;clear hf g;refine(callsIn_wide (n:=10)).1 ?_;refine callsIn_of_wp_marks Tryz.func114 rfl trivial ?_ rfl;simp only[Tryz.ntmps114,List.size_toArray,List.length_cons,List.length_nil,Nat.reduceAdd,Nat.reduceSub,Array.replicate_succ,Array.replicate_zero,List.push_toArray,List.append_toArray,List.nil_append,List.cons_append];gi_wp2_with (refine⟨trivial,?_⟩;gi_at_call 173;refine(callsIn_wide.2 (f_.calls k N A0 c0 E q l t _ (Kd.bE (Kd.bE (Kd.bE j _) _) _) m o.out)).mono ?_;rintro e w1 ⟨v,rfl,r,hb⟩;have s:=zA ((ao (ao (ao (al w.heap.size w) _) _) _).trans (hb.mono (by simp;omega)));have b:=zA (aJ a.out.2.1 hb);have h:=zA (aJ a.out.2.2 hb);have B:w1.cell? ⟨w.heap.size+1,0,none⟩=some (.slice none 0 0):=(ai b.out 0).trans rfl;have D:w1.frozen? ⟨w.heap.size+1,0,none⟩=false:=bD b.out 0;have i:=zA (aD (p:=⟨w.heap.size+1,0,none⟩) h.out (by show w.heap.size+1+1≠w.heap.size+1;omega) (.slice none 0 0));have F:(w1.setCell ⟨w.heap.size+1,0,none⟩ (.slice none 0 0)).cell? ⟨w.heap.size+1+1,0,none⟩=some (.int .i64 0):=(ai i.out 0).trans rfl;have G:=bD i.out 0;clear r hb)
 obtain⟨c1,c2⟩:=Dd (.slice none 0 0) (.int .i64 t) b.out h.out;exact Dc rfl (qI (p:=4) (u:=5) rfl _ _ ⟨w.heap.size+1,0,none⟩ ⟨w.heap.size+1+1,0,none⟩ _ _ rfl rfl Tryz.underlying33 Tryz.underlying30 rfl rfl c1 c2) ⟨rfl,(s.out.setCell (p:=⟨w.heap.size+1,0,none⟩) (by show w.heap.size<=w.heap.size+1;omega) _).setCell (p:=⟨w.heap.size+1+1,0,none⟩) (by show w.heap.size<=w.heap.size+1+1;omega) _⟩
end
section
attribute [local go_sem] Oper.semAt_some
theorem Df (k n:Nat) (A0:Option Addr) (c0:Nat) (E:List S83) (q:Nat) (l:List Int) (w:World) (aP:Kd.C aN w A0 E.length E) (aS:E.length<=c0) (hf:f_.f k n E q=some (l,0)) (a0:(lX n E q).length<=16384):
  Calls Tryz.prog 114 #[.agg #[.int .i64 n,.slice A0 E.length c0],.int .i64 q] w fun e w'=>∃v,e= .returned (.tuple #[v,.int .i64 0])/\(Kd.slice 3 (Kd.int .i64)).R 26 w' w.heap.size (fun _=>True) v (lX n E q)/\Below w.heap.size w w':=by
 have hu:=Tryz.underlying24;obtain⟨hr,hm,an, -⟩:=uZ hf;obtain⟨_,⟨_,hn⟩,_,cf,ch⟩:=kL hr;have a2:n<=12:=by omega
 have ci:=zA (fun c (hc:iP n q c)=>C0 hr an hc);have cj:Aside0 (∀(p:List Int) (x Q:Nat),fX n (timesOf E) q (p++(x:Int)::List.replicate Q 0)=true->p.length+1+Q=n->p.length≠q->x+1<qJ):=⟨fun p x Q h hp ck=>by
  have h1:=C2 an a2 (v:=p.length) (by omega) ck h;have hx:rd (p++(x:Int)::List.replicate Q 0) p.length=x:=by simp[rd,bb]
  rw[hx] at h1;show x+1<1000
  omega⟩
 have co:=zA a0;have Hf:=zA hf;have m:=zA (mV w (.cells #[.int .i64 n,.slice A0 E.length c0] 24) (.cells #[.slice none 0 0] 33) (.cells #[.int .i64 0] 30));have cs:(((w.alloc (.cells #[.int .i64 n,.slice A0 E.length c0] 24)).alloc (.cells #[.slice none 0 0] 33)).alloc (.cells #[.int .i64 0] 30)).cell? ⟨w.heap.size,0,none⟩=some (.int .i64 n):=(ai m.out.1 0).trans rfl;have c2:(((w.alloc (.cells #[.int .i64 n,.slice A0 E.length c0] 24)).alloc (.cells #[.slice none 0 0] 33)).alloc (.cells #[.int .i64 0] 30)).cell? ⟨w.heap.size,1,none⟩=some (.slice A0 E.length c0):=(ai m.out.1 1).trans rfl;clear hf hr hm an a0 cf ch hn;refine(callsIn_wide (n:=10)).1 ?_;refine callsIn_of_wp_marks Tryz.func114 rfl trivial ?_ rfl;simp only[Tryz.ntmps114,List.size_toArray,List.length_cons,List.length_nil,Nat.reduceAdd,Nat.reduceSub,Array.replicate_succ,Array.replicate_zero,List.push_toArray,List.append_toArray,List.nil_append,List.cons_append];gi_wp2_with (first|(refine⟨trivial,?_⟩;gi_at_call 173;refine(callsIn_wide.2 (f_.calls k n A0 c0 E q l 0 _ (Kd.bE (Kd.bE (Kd.bE aP _) _) _) aS Hf.out)).mono ?_;rintro e w1 ⟨v,rfl,c3,hb⟩;have HB:=zA ((ao (ao (ao (al w.heap.size w) _) _) _).trans (hb.mono (by simp;omega)));have X0:=zA (aJ m.out.1 hb);have z:=zA (aJ m.out.2.1 hb);have L:=zA (aJ m.out.2.2 hb);have y0:(w1.alloc (.cells #[.slice none 0 0] 33)).cell? ⟨w.heap.size,0,none⟩=some (.int .i64 n):=(ai (aw X0.out _) 0).trans rfl;have y1:(w1.alloc (.cells #[.slice none 0 0] 33)).cell? ⟨w.heap.size,1,none⟩=some (.slice A0 E.length c0):=(ai (aw X0.out _) 1).trans rfl;clear c3 hb)|(refine⟨trivial,?_⟩;gi_at_call 174;refine(callsIn_wide.2 (Db n A0 c0 E q _)).mono ?_;rintro e w3 ⟨rfl,rfl⟩))
 have c6:w.heap.size+1+1<w1.heap.size:=az L.out;have c7:=HB.out.size;obtain⟨S,a3⟩:∃o:Obj,o= .cells #[.int .i64 n,.slice A0 E.length c0] 24:=⟨_,rfl⟩;obtain⟨T,a4⟩:∃o:Obj,o= .cells #[.int .i64 q] 3:=⟨_,rfl⟩;obtain⟨U,a5⟩:∃o:Obj,o= .cells #[.slice none 0 0] 33:=⟨_,rfl⟩;obtain⟨Z0,Z1,Z2⟩:=mV w1 U S T;have M:=zA (Z0.trans (by rw[a5]:_=some (.cells #[.slice none 0 0] 33 (0,0))));have V:=zA (Z1.trans (by rw[a3]:_=some (.cells #[.int .i64 n,.slice A0 E.length c0] 24 (0,0))));have X:=zA (Z2.trans (by rw[a4]:_=some (.cells #[.int .i64 q] 3 (0,0))));have Y:=zA (ao (ao (ao HB.out U) S) T);have bg:=zA (aw (aw (aw z.out U) S) T);have bi:=zA (aw (aw (aw L.out U) S) T);clear Z0 Z1 Z2;subst a3 a4 a5;clear y0 y1 cs c2 X0 z L HB m;generalize (((w1.alloc (.cells #[.slice none 0 0] 33)).alloc (.cells #[.int .i64 n,.slice A0 E.length c0] 24)).alloc (.cells #[.int .i64 q] 3))=a at M V X Y bg bi⊢;have c8:=az M.out;have c9:=az V.out;have c':=az X.out;generalize dd:w1.heap.size+1+1=qx at X c'⊢;generalize dk:w1.heap.size+1=gx at V c9 dd⊢;generalize w1.heap.size=bo at M c6 c7 c8 dk⊢;have em:=Y.out.size;refine iG (σ:=Unit) (α:=List Int×Value) (F:=Fence.wide) (n:=10) rfl (by decide) (gf:=199) (lb:=#[.pointer (some ⟨gx,0,none⟩),.pointer (some ⟨qx,0,none⟩)]) rfl trivial (enters_of Tryz.func199 (by kernel_rfl) rfl)
  (fun o=>C3 (w0:=w) (B:=qJ) (K:=k+20) (n:=n) (A0:=A0) (c0:=c0) (E:=E) (q:=q) (gx:=gx) (qx:=qx) (calm:=fX n (timesOf E) q) _ (a.heap.size+2) (by simp) a2 aP aS ci.out cj.out (by decide) (by decide) co.out (aw (aw V.out _) _) (aw (aw X.out _) _) (ao (ao Y.out _) _)) (fun _=>rfl)
  (fun _=>True) ?eB ?st ?ar
  (fun _ pre W=>a.heap.size+2<=W.heap.size/\∃v,W.heap[bo]? =some (.cells #[v] 33 (0,0))/\W.heap[w.heap.size+1]? =some (.cells #[.slice none 0 0] 33 (0,0))/\W.heap[w.heap.size+1+1]? =some (.cells #[.int .i64 0] 30 (0,0))/\(Kd.slice 3 (Kd.int .i64)).R 26 W w.heap.size (fun k=>¬(k=gx\/k=qx\/a.heap.size+2<=k/\k<a.heap.size+2+4)) v (pre.map Prod.fst)/\Below w.heap.size w W) (fun _ _ _ _=>False)
  ?is (fun _ _ _ _ _ _ h _=>h) ?ib (fun _ _ _ _ _ h _=>h) ?kt ?h0 ?a1 ?assign ?body ?done (fun _ _ _ _ _ _ _ h=>h.elim)
 case assign=>
  intro l x W K hK;gi_wp2;exact hK
 case eB=>
  intro o s W1 h;exact⟨trivial,by rw[h];exact cp.refl _ _⟩
 case st=>intro s A B _ h k o h1 H g _;exact(h.block k (Array.getElem?_eq_some_iff.1 g).1 (fun e=>by injection e;omega)).trans g
 case ar=>intro s x A B _ h k o h1 H g _;exact(h.1.block k (Array.getElem?_eq_some_iff.1 g).1 (fun e=>by injection e;omega)).trans g
 case is=>
  rintro s pre A B _ ⟨N,v,h1,H,g,h4,Z⟩ I;exact⟨Nat.le_trans N I.size,v,(I.block bo (az h1) (fun e=>by injection e;omega)).trans h1,(I.block _ (az H) (fun e=>by injection e;omega)).trans H,(I.block _ (az g) (fun e=>by injection e;omega)).trans g,Kd.lf h4 I (fun k hk e=>hk (.inr (.inr (by injection e;omega)))),jJ Z _ Z.size I (fun k e=>by injection e;omega)⟩
 case ib=>
  rintro s pre A B ⟨N,v,h1,H,g,h4,Z⟩ hb;exact⟨by rw[hb.size];exact N,v,hb.cells h1,hb.cells H,hb.cells g,dq h4 hb,Z.trans (hb.below w.heap.size (by omega))⟩
 case kt=>
  intro s A B C D aa bk bn;refine⟨fun aY=>((aa.below w.heap.size (by omega)).trans (bk.1 (by rw[aa.size];exact aY))).trans (bn.below w.heap.size (by omega)),fun k hk aY=>?_⟩;have bv:k≠a.heap.size+1:=by rcases hk with rfl|rfl|hk<;>omega
  exact(bn.heap k bv).trans ((bk.2 k hk (by rw[aa.size];exact aY)).trans (aa.heap k bv))
 case h0=>
  rintro o s W1 rfl;exact⟨by simp,_,aw (aw M.out _) _,aw (aw bg.out _) _,aw (aw bi.out _) _,Kd.dc _ _ _ _ _,ao (ao Y.out _) _⟩
 case body=>
  rintro l s pre ⟨xl,xv⟩ O W1 W _ ⟨N,v,i1,i2,i3,i4,i5⟩ ⟨G,ab,es⟩ b0 b;simp only at ab;obtain⟨Ax,cx,rfl⟩:=Kd.bm ab;have ev:O.heap.size<=W.heap.size:=by have:=b.size;have:=G.size;omega
  have r:=zA (b.cells ((G.block bo (az i1) (fun e=>by injection e;omega)).trans i1));have y:=zA (b.cells ((G.block _ (az i2) (fun e=>by injection e;omega)).trans i2));have b3:=zA (b.cells ((G.block _ (az i3) (fun e=>by injection e;omega)).trans i3));have b4:=zA (dq (Kd.lf i4 G (fun k hk e=>hk (.inr (.inr (by injection e;omega))))) b);have b5:=zA ((jJ i5 _ i5.size G (fun k e=>by injection e;omega)).trans (b.below w.heap.size (by omega)));have bx:=zA (Kd.l9 (Kd.bc (Kd.ba (ok':=fun k=>O.heap.size<=k) (Kd.eD (dq ab b)) (fun k hk=>hk.2.1)) i5.size));have b6:∀k,v.ownBlock=some k->k<O.heap.size:=fun k hk=>Kd.a_ i4 k hk
  have b_:=zA b6;have d1:=zA (Kd.gw i4);clear i1 i2 i3 i4 i5 G ab b b6;obtain⟨Ar,cr,rfl⟩:=Kd.bm b4.out;have ca:(pre.map Prod.fst).length=pre.length:=by simp
  rw[ca] at r b4 b_ d1;have hc:=dG r.out;have hf:=bD r.out 0;have ew:(((pre.length:Nat):Int)==16384)=false:=by simp;omega
  have LN:Aside0 (((pre.map Prod.fst).length+1)*24<=140737488355328):=⟨by rw[ca];omega⟩;have d3:Aside0 (∀k,O.heap.size<=k->¬(k=gx\/k=qx\/a.heap.size+2<=k/\k<a.heap.size+2+4)/\some k≠(Value.slice Ar pre.length cr).ownBlock):=⟨fun k hk=>⟨by omega,fun e=>by have:=b_.out k e.symm;omega⟩⟩;have d4:Aside0 (∀k,W.heap.size<=k->¬(k=gx\/k=qx\/a.heap.size+2<=k/\k<a.heap.size+2+4)):=⟨fun k hk=>by omega⟩;gi_wp2_with (gi_at_builtin;go_loud (refine ot (Kd.slice 3 (Kd.int .i64)) (w0:=w) w.heap.size rfl (.tmp 26) (.tmp 28) 33 26 (.slice none 0 0) 24 rfl Tryz.underlying33 pI rfl (by decide) (by omega) (.slice Ar pre.length cr) (pre.map Prod.fst) xl [.slice Ax xl.length cx] (fun k=>¬(k=gx\/k=qx\/a.heap.size+2<=k/\k<a.heap.size+2+4)) (fun k=>O.heap.size<=k) rfl rfl bx.out d3.out d4.out b4.out b5.out b5.out.size LN.out ?_;intro v1 ex aL hb P d5;obtain⟨A1,c1,rfl⟩:=Kd.bm aL;have z:=zA ((P.block bo (az r.out) (Kd.dr b4.out r.out (by decide))).trans r.out);have L:=zA ((P.block _ (az y.out) (Kd.dr b4.out y.out (by decide))).trans y.out);have J:=zA ((P.block _ (az b3.out) (Kd.dr b4.out b3.out (by decide))).trans b3.out);have ey:=dG z.out;have e0:=bD z.out 0;have d6:=zA aL;have d7:=zA hb;have ag:=zA P;clear aL hb P d5))
  refine⟨(ou b4.out ag.out).trans (fz _ _ (az M.out)),⟨fun aY=>Below.setCell ((al w.heap.size W).grown ag.out aY (Kd.dz b4.out)) (by show w.heap.size<=bo;omega) _,fun k hk d8=>?_⟩,by have:=ag.out.size;simp;omega,.slice A1 (pre.length+1) c1,by simpa using bR z.out 0 (.slice A1 (pre.length+1) c1),aD L.out (by show w.heap.size+1≠bo;omega) _,aD J.out (by show w.heap.size+1+1≠bo;omega) _,?_,et d7.out (by show w.heap.size<=bo;omega)⟩
  ·have d9:k≠bo:=by rcases hk with rfl|rfl|hk<;>omega
   rw[Below.heap_setCell _ _ _ _ d9];exact ag.out.block k d8 (fun e=>(b4.out.1 k e.symm) hk)
  ·have h:=Kd.eX d6.out z.out (by decide) 0 (.slice A1 (pre.length+1) c1)
   simpa using h
 case done=>
  rintro s xs W W' _ cb ⟨N,v,i1,i2,i3,i4,i5⟩ b cc;obtain⟨i,j,hv⟩:=Kd.bm i4;rw[List.length_map] at hv;subst hv;have r:=zA (b.cells i1);have y:=zA (b.cells i2);have b3:=zA (b.cells i3);have b4:=zA (dq i4 b);have b5:=zA (i5.trans (b.below w.heap.size (by omega)));have ea:=zA cc;have m:=zA (show xs.map Prod.fst=lX n E q from cb);clear i1 i2 i3 i4 i5 cc cb b;have hc:=dG r.out;have q1:W'.cell? ⟨w.heap.size+1,0,none⟩=some (.slice none 0 0):=(ai y.out 0).trans rfl;have q2:W'.frozen? ⟨w.heap.size+1,0,none⟩=false:=bD y.out 0;have J:=zA (aD (p:=⟨w.heap.size+1,0,none⟩) b3.out (by show w.heap.size+1+1≠w.heap.size+1;omega) (.slice i xs.length j));have q3:(W'.setCell ⟨w.heap.size+1,0,none⟩ (.slice i xs.length j)).cell? ⟨w.heap.size+1+1,0,none⟩=some (.int .i64 0):=(ai J.out 0).trans rfl;have q4:=bD J.out 0;have Y1:=zA (aD (p:=⟨w.heap.size+1+1,0,none⟩) (bR y.out 0 (.slice i xs.length j)) (by show w.heap.size+1≠w.heap.size+1+1;omega) (.int .i64 0));have Y2:=zA (bR J.out 0 (.int .i64 0));have b0:w.heap.size+1≠a.heap.size:=by omega
  have eg:w.heap.size+1+1≠a.heap.size:=by omega
  have Y3:=zA (show ((W'.setCell ⟨w.heap.size+1,0,none⟩ (.slice i xs.length j)).setCell ⟨w.heap.size+1+1,0,none⟩ (.int .i64 0)).heap[a.heap.size]? =some (.deferred (some [])) from by rw[Below.heap_setCell _ _ _ _ (fun e=>eg e.symm),Below.heap_setCell _ _ _ _ (fun e=>b0 e.symm)];exact ea.out);have Y4:=zA (Kd.eX (Kd.eX b4.out y.out (by decide) 0 (.slice i xs.length j)) J.out (by decide) 0 (.int .i64 0));have Y5:=zA ((b5.out.setCell (p:=⟨w.heap.size+1,0,none⟩) (by show w.heap.size<=w.heap.size+1;omega) (.slice i xs.length j)).setCell (p:=⟨w.heap.size+1+1,0,none⟩) (by show w.heap.size<=w.heap.size+1+1;omega) (.int .i64 0));gi_wp2_with fail
  have ak:Bk a.heap.size ((W'.setCell ⟨w.heap.size+1,0,none⟩ (.slice i xs.length j)).setCell ⟨w.heap.size+1+1,0,none⟩ (.int .i64 0)) (((W'.setCell ⟨w.heap.size+1,0,none⟩ (.slice i xs.length j)).setCell ⟨w.heap.size+1+1,0,none⟩ (.int .i64 0)).putObj a.heap.size (.deferred none)):=⟨_,_,Y3.out,rfl,rfl⟩;refine i' (D:=a.heap.size) rfl Y3.out (qI (p:=4) (u:=5) rfl _ _ ⟨w.heap.size+1,0,none⟩ ⟨w.heap.size+1+1,0,none⟩ (.slice i xs.length j) (.int .i64 0) rfl rfl Tryz.underlying33 Tryz.underlying30 rfl rfl ((ai (ak.cells Y1.out) 0).trans (by simp)) ((ai (ak.cells Y2.out) 0).trans (by simp))) ⟨_,rfl,?_,Y5.out.trans (ak.below w.heap.size (by omega))⟩;rw[<-m.out];exact Kd.ba (dq Y4.out ak) (fun _ _=>trivial)
theorem fe.calls (k:Nat) (b:Int) (g:Option Addr) (i:Nat) (a:List (S83)) (j:Int) (r:List (List Int)) (s:Int) (w:World) (u:Kd.C aN w g a.length a) (x:a.length<=i) (h:fe.f k b a j=some (r,s)):
  Calls Tryz.prog 114 #[.agg #[.int .i64 b,.slice g a.length i],.int .i64 j] w fun e w'=>∃y:Value,e= .returned (.tuple #[y,.int .i64 s])/\Kd.N (Kd.slice 3 (Kd.int .i64)) 26 w' w.heap.size (fun z=>(w.heap.size<=z)) y r/\Below w.heap.size w w':=by
 unfold fe.f at h;obtain⟨⟨l,t⟩,o,H⟩:=Option.bind_eq_some_iff.mp h;simp only at H;by_cases p:t=0
 ·subst p
  rw[if_pos rfl] at H;by_cases m:(lX b.toNat a j.toNat).length<=16384
  ·rw[if_pos m] at H
   simp only[Option.some.injEq,Prod.mk.injEq] at H;obtain⟨rfl,rfl⟩:=H;obtain⟨B, -, -, -⟩:=uZ o;obtain⟨_,⟨D,G⟩,_,E,_⟩:=kL B;obtain⟨n,rfl⟩:=Int.eq_ofNat_of_zero_le D;obtain⟨q,rfl⟩:=Int.eq_ofNat_of_zero_le E;rw[aQ,aQ] at m⊢;refine(Df k n g i a q l w u x o m).mono ?_;rintro e w' ⟨v,rfl,h1,F⟩;exact⟨v,rfl,Kd.nJ (Kd.ba (Kd.eD h1) (fun k hk=>hk.2.1)),F⟩
  ·rw[if_neg m] at H;cases H
 ·rw[if_neg p] at H
  simp only[Option.some.injEq,Prod.mk.injEq] at H;obtain⟨rfl,rfl⟩:=H;refine(De k b g i a j l t w u x o p).mono ?_;rintro e w' ⟨rfl,hb⟩;exact⟨_,rfl,Kd.nJ (Kd.dc _ _ _ _ _),hb⟩
end
def oM (qx gx:Nat) (row:Option Nat) (a:World) (l:List (List Int)) (del:List Int->Bool):Prop:=
 ∀(W':World) (A0:Option Addr) (c0:Nat) (x:List Int),a.grownBy W' row->x∈l->x.length<=c0->Kd.C (Kd.int .i64) W' A0 x.length x->
  Calls Tryz.prog 116 #[.slice A0 x.length c0,.pointer (some ⟨qx,0,none⟩),.pointer (some ⟨gx,0,none⟩)] W' fun e w'=>e= .returned (.bool (del x))/\Below W'.heap.size W' w'
theorem u_ {l:List (List Int)} {i:Nat} (h:i<l.length):aZ l i∈l:=by
 have e:aZ l i=l[i]:=by simp[aZ,bb,bP h]
 rw[e];exact List.getElem_mem h
theorem u' (qx gx base:Nat) (row:Option Nat) (A:Option Addr) (cap:Nat) (ok:Nat->Prop) (l:List (List Int)) (del:List Int->Bool) (o W:World) (p:Kd.N (Kd.slice 3 (Kd.int .i64)) 26 W base ok (.slice A l.length cap) l) (q:o.grownBy W row) (s:oM qx gx row o l del):
  Calls Tryz.prog 175 #[.slice A l.length cap,.func (.func 116) #[] #[.pointer (some ⟨qx,0,none⟩),.pointer (some ⟨gx,0,none⟩)]] W fun e w'=>∃r:Int,e= .returned (.int .i64 r)/\((r= -1/\∀j:Nat,j<l.length->del (aZ l j)=false)\/∃i:Nat,r=i/\i<l.length/\del (aZ l i)=true/\∀j:Nat,j<i->del (aZ l j)=false)/\Below W.heap.size W w':=by
 have x:=zA p;have y:=zA q;have z:=zA s;clear p q s;go_enter Tryz.func175,Tryz.ntmps175
 go_wp2;go_loopw [8] (fun i wr=>∃k:Nat,k<=l.length/\i= .int .i64 k/\Aside0 (∀j:Nat,j<k->del (aZ l j)=false)/\Aside0 (Below W.heap.size W wr)) (fun i _=>l.length- (intOf i).toNat)
 case atStart=>exact⟨0,by omega,rfl,⟨fun j B=>by omega⟩,⟨al _ _⟩⟩
 case round=>
  obtain⟨k,hk,rfl,h,a⟩:=hrel;by_cases u:k<l.length
  ·obtain⟨-,C,hC⟩:=Kd.iV (Kd.gB x.out a.out)
   obtain⟨ad,D,cc,rfl,E,v,w⟩:=fT hC k (by omega) (by omega);rw[aQ] at E;have g:=zA (z.out wr D cc (aZ l k) (y.out.trans (jg a.out _)) (u_ u) v w);have F:=zA (rfl:aZ l k=aZ l k);have G:(0:Int)<=(k:Int):=by omega
   have H:(k:Int)<(l.length:Int):=by omega
   have I:l.length<=9223372036854775807:=Kd.l_ hC;clear hC w v C;cases hb:del (aZ l k) with
   |true=>
    rw[hb] at g;have m:=zA hb;clear hb;go_wp2_with (go_at_call 116;refine g.out.mono ?_;rintro e w1 ⟨rfl,b⟩;have n:=zA b;clear b)
    go_ret;exact⟨k,rfl,.inr ⟨k,rfl,u,m.out,h.out⟩,a.out.trans (n.out.mono a.out.size)⟩
   |false=>
    rw[hb] at g;have m:=zA hb;clear hb;go_wp2_with (go_at_call 116;refine g.out.mono ?_;rintro e w1 ⟨rfl,b⟩;have n:=zA b;clear b)
    go_roundw
    case rel=>exact⟨k+1,by omega,by go_num,⟨fun j B=>by
     by_cases e:j=k
     ·subst e;exact m.out
     ·exact h.out j (by omega)⟩,⟨a.out.trans (n.out.mono a.out.size)⟩⟩
    case measure=>exact(show l.length- ((k:Int)+1).toNat<l.length- ((k:Int)).toNat by omega)
  ·obtain rfl:k=l.length:=by omega
   go_wp2;go_ret;exact⟨-1,rfl,.inl ⟨rfl,h.out⟩,a.out⟩
theorem Dg {ys:List (List Int)} {i m:Nat} (h:i≠m) (x:List Int):aZ (ys.set i x) m=aZ ys m:=by
 simp[aZ,bb,List.getElem?_set,h]
theorem Dh (i:Nat):((i:Int)== -1)=false:=by
 rw[beq_eq_false_iff_ne];omega
theorem ve {l:List (List Int)} {j:Nat} (h:j<l.length):l.take (j+1)=l.take j++[aZ l j]:=by
 rw[List.take_succ_eq_append_getElem h];simp[aZ,bb,bP h]
theorem Di {ys:List (List Int)} {i:Nat} (h:i<ys.length) (x:List Int):(ys.set i x).take (i+1)=ys.take i++[x]:=by
 rw[List.take_succ_eq_append_getElem (by simpa using h)];simp[List.take_set_of_le]
theorem Dj {l:List (List Int)} {del:List Int->Bool} {j:Nat} (h:j<l.length):(l.take (j+1)).filter (fun x=> !del x)=(l.take j).filter (fun x=> !del x)++(if del (aZ l j) then[] else[aZ l j]):=by
 rw[ve h,List.filter_append];cases hd:del (aZ l j)<;>simp[hd]
theorem Dk (w:World):(zeroValue 26).run Tryz.prog w= .ok (.slice none 0 0) w:=by kernel_rfl
theorem Dl {l:List (List Int)} {del:List Int->Bool} {i:Nat} (h1:del (aZ l i)=true) (b:∀j:Nat,j<i->del (aZ l j)=false) (h:i<l.length):l.take i=(l.take (i+1)).filter fun x=> !del x:=by
 rw[ve h,List.filter_append];rw[show[aZ l i].filter (fun x=> !del x)=[] by simp[h1],List.append_nil];symm
 rw[List.filter_eq_self];intro x g;obtain⟨j,k,rfl⟩:=List.mem_take_iff_getElem.1 g;have a:=b j (by omega);have e:aZ l j=l[j]'(by omega):=by simp[aZ,bb,bP (by omega:j<l.length)]
 rw[e] at a;simp[a]
theorem oN {W:World} {base g0 n cap:Nat} {ok:Nat->Prop} {ys:List (List Int)} {x:List Int} {v:Value} {i:Nat} (h:Kd.N (Kd.slice 3 (Kd.int .i64)) 26 W base ok (.slice (some ⟨g0,0,none⟩) n cap) ys) (l:Kd.FK (Kd.slice 3 (Kd.int .i64)) W (fun k=>ok k/\k≠g0) x [v]) (hi:i<n):
  (∃u,W.cell? ⟨g0,i,none⟩=some u)/\W.frozen? ⟨g0,i,none⟩=false/\Kd.N (Kd.slice 3 (Kd.int .i64)) 26 (W.setCell ⟨g0,i,none⟩ v) base ok (.slice (some ⟨g0,0,none⟩) n cap) (ys.set i x)/\W.grownBy (W.setCell ⟨g0,i,none⟩ v) (some g0):=by
 obtain⟨c,b, -,a,m⟩:=Kd.pz h [] (i:Int) (by omega) (by omega);obtain⟨u,rfl⟩:∃u,c=[u]:=List.length_eq_one_iff.1 b;have e:=Kd.yW h (i:Int) (by omega) (by omega) (c:=[u]) (seg:=[v]) (j:=0) (x':=x) (okp:=fun k=>ok k/\k≠g0) b a (by simp[Kd.slice]) (by simpa using l) (fun k hk=>hk);rw[aQ] at a e;have o:=a 0 u rfl;have g:=m 0;rw[aQ] at g;refine⟨⟨u,by simpa [Kd.slice] using o⟩,by simpa [Kd.slice] using g,?_⟩;simpa [Kd.slice,World.setCells] using e
theorem Dm {base g0 n cap:Nat} {ok:Nat->Prop}:∀(m i:Nat) (W:World) (ys:List (List Int)),i+m=n->ys.length=n->Kd.N (Kd.slice 3 (Kd.int .i64)) 26 W base ok (.slice (some ⟨g0,0,none⟩) n cap) ys->
  ∃zs:List (List Int),zs.length=n/\zs.take i=ys.take i/\Kd.N (Kd.slice 3 (Kd.int .i64)) 26 (W.setCells g0 i (List.replicate m (.slice none 0 0))) base ok (.slice (some ⟨g0,0,none⟩) n cap) zs/\W.grownBy (W.setCells g0 i (List.replicate m (.slice none 0 0))) (some g0):=by
 intro m;induction m with
 |zero=>intro i W ys _ a h;exact⟨ys,a,rfl,h,⟨rfl,rfl,rfl,aI _,fun _ _ _=>rfl⟩⟩
 |succ m e=>
  intro i W ys hi a h;obtain⟨-, -,h1,g⟩:=oN (x:=[]) (v:=.slice none 0 0) (i:=i) h (fun W' _=>⟨none,0,rfl,aI _,Kd.nz _ _⟩) (by omega);obtain⟨zs,z1,z2,z3,z4⟩:=e (i+1) _ (ys.set i []) (by omega) (by rw[List.length_set];exact a) h1;refine⟨zs,z1,?_,by rw[List.replicate_succ,World.setCells];exact z3,by rw[List.replicate_succ,World.setCells];exact g.trans z4⟩;have b:=congrArg (List.take i) z2;rw[List.take_take,List.take_take,show min i (i+1)=i by omega] at b;rw[b,List.take_set_of_le (aI i)]
theorem Dn (qx gx base g0 cap:Nat) (ok:Nat->Prop) (l:List (List Int)) (del:List Int->Bool) (y W:World) (g:Kd.N (Kd.slice 3 (Kd.int .i64)) 26 W base ok (.slice (some ⟨g0,0,none⟩) l.length cap) l) (z:y.grownBy W (some g0)) (B:oM qx gx (some g0) y l del) (hex:∃j:Nat,j<l.length/\del (aZ l j)=true):
  Calls Tryz.prog 115 #[.slice (some ⟨g0,0,none⟩) l.length cap,.func (.func 116) #[] #[.pointer (some ⟨qx,0,none⟩),.pointer (some ⟨gx,0,none⟩)]] W fun e w'=>∃m:Nat,e= .returned (.slice (some ⟨g0,0,none⟩) m cap)/\m=(l.filter fun x=> !del x).length/\Kd.N (Kd.slice 3 (Kd.int .i64)) 26 w' base ok (.slice (some ⟨g0,0,none⟩) m cap) (l.filter fun x=> !del x)/\W.grownBy w' (some g0):=by
 have HN:=zA g;have an:=zA z;have HD:=zA B;have ar:=zA hex;have J:Aside0 (Calls Tryz.prog 175 #[.slice (some ⟨g0,0,none⟩) l.length cap,.func (.func 116) #[] #[.pointer (some ⟨qx,0,none⟩),.pointer (some ⟨gx,0,none⟩)]] W fun e w'=>∃i:Nat,e= .returned (.int .i64 i)/\i<l.length/\del (aZ l i)=true/\(∀j:Nat,j<i->del (aZ l j)=false)/\Below W.heap.size W w'):=⟨(u' qx gx base (some g0) (some ⟨g0,0,none⟩) cap ok l del y W g z B).mono (by
  rintro e w' ⟨r,rfl,h|⟨i,rfl,h1,h2,h3⟩,hb⟩
  ·obtain⟨j,k,K⟩:=hex
   rw[h.2 j k] at K;cases K
  ·exact⟨i,rfl,h1,h2,h3,hb⟩)⟩
 obtain⟨-,a2,L⟩:=Kd.iV g;have a3:l.length<=9223372036854775807:=Kd.l_ L;clear g z B hex L;go_enter Tryz.func115,Tryz.ntmps115
 go_wp2_with (go_at_call 175;refine J.out.mono ?_;rintro e w1 ⟨i0,rfl,M,O,Q,hb⟩;have R:=zA O;have S:=zA Q;have C:=zA hb;have aF:=Dh i0;clear O Q hb)
 have T:=zA (Dl R.out S.out M);have U:=zA (jg C.out (some g0));have V:=zA (Kd.gB HN.out C.out);clear J R S C ar aF;go_loopw [5,6] (fun ii D wr=>∃(i j:Nat) (ys:List (List Int)),i<j/\j<=l.length/\ii= .int .i64 i/\D= .int .i64 j/\Aside0 (ys.length=l.length)/\Aside0 (ys.take i=(l.take j).filter fun x=> !del x)/\Aside0 (∀m:Nat,j<=m->aZ ys m=aZ l m)/\Aside0 (Kd.N (Kd.slice 3 (Kd.int .i64)) 26 wr base ok (.slice (some ⟨g0,0,none⟩) l.length cap) ys)/\Aside0 (W.grownBy wr (some g0))) (fun _ D _=>l.length- (intOf D).toNat)
 case atStart=>exact⟨i0,i0+1,l,by omega,by omega,rfl,by go_num,⟨rfl⟩,T,⟨fun _ _=>rfl⟩,V,U⟩
 case round=>
  clear T U V;obtain⟨i,j,ys,a4,k,rfl,rfl,n,E,F,b,o⟩:=hrel;by_cases X:j<l.length
  ·obtain⟨c,G,p,H, -⟩:=Kd.pz b.out [] (j:Int) (by omega) (by omega)
   rw[show ys.getD (j:Int).toNat []=aZ l j from F.out j (aI _)] at p;rw[aQ] at H;obtain⟨Y,Z,rfl,hle,hF⟩:=Kd.kx p;have a5:wr.cell? ⟨g0,j,none⟩=some (.slice Y (aZ l j).length Z):=by have h:=H 0 _ rfl;simpa [Kd.slice] using h
   have q:=zA (HD.out wr Y Z (aZ l j) (an.out.trans o.out) (u_ X) hle (Kd.jR hF));have aL:=zA p;have a9:(0:Int)<=(j:Int):=by omega
   have be:(j:Int)<(l.length:Int):=by omega
   have bf:(0:Int)<=(i:Int):=by omega
   have aO:(i:Int)<(l.length:Int):=by omega
   have s:=zA (show (l.take (j+1)).filter (fun x=> !del x)=(l.take j).filter (fun x=> !del x)++(if del (aZ l j) then[] else[aZ l j]) from Dj X);have bg:=zA (show ∃x,x=aZ l j from⟨_,rfl⟩);clear G p H hle hF;cases hb:del (aZ l j) with
   |true=>
    rw[hb] at q s;clear hb;go_wp2_with (go_at_call 116;refine q.out.mono ?_;rintro e w2 ⟨rfl,a⟩;have w:=zA a;clear a)
    go_roundw
    case rel=>exact⟨i,j+1,ys,by omega,by omega,rfl,by go_num,n,⟨by rw[s.out,E.out];simp⟩,⟨fun m hm=>F.out m (by omega)⟩,⟨Kd.gB b.out w.out⟩,⟨o.out.trans (jg w.out _)⟩⟩
    case measure=>exact(show l.length- ((j:Int)+1).toNat<l.length- ((j:Int)).toNat by omega)
   |false=>
    rw[hb] at q s;clear hb;go_wp2_with (go_at_call 116;refine q.out.mono ?_;rintro e w2 ⟨rfl,a⟩;obtain⟨q1,q2,I⟩:=oN (Kd.gB b.out a) (Kd.yJ aL.out a) (show i<l.length by omega);have w:=zA a;have aP:=zA I.1;have aS:=zA I.2;obtain⟨q0,q1⟩:=q1;clear I a)
    go_roundw
    case rel=>exact⟨i+1,j+1,ys.set i (aZ l j),by omega,by omega,by go_num,by go_num,⟨by rw[List.length_set];exact n.out⟩,⟨by rw[Di (by rw[n.out];omega),s.out,E.out];simp⟩,⟨fun m hm=>by rw[Dg (by omega)];exact F.out m (by omega)⟩,aP,⟨(o.out.trans (jg w.out _)).trans aS.out⟩⟩
    case measure=>exact(show l.length- ((j:Int)+1).toNat<l.length- ((j:Int)).toNat by omega)
  ·obtain rfl:j=l.length:=by omega
   have G:=Lib.run_clear_slice (P:=Tryz.prog) wr 33 26 0 (.slice none 0 0) Tryz.underlying33 Dk rfl rfl g0 i (l.length-i) (cap-i) (by omega) (fun j k=>by
    obtain⟨⟨u,hu⟩, -⟩:=oN (x:=[]) (v:=.slice none 0 0) (i:=i+j) b.out (fun W' _=>⟨none,0,rfl,aI _,Kd.nz _ _⟩) (by omega);rw[hu];rfl) (fun j k=>(oN (x:=[]) (v:=.slice none 0 0) (i:=i+j) b.out (fun W' _=>⟨none,0,rfl,aI _,Kd.nz _ _⟩) (by omega)).2.1)
   obtain⟨zs,z1,z2,z3,z4⟩:=Dm (l.length-i) i wr ys (by omega) n.out b.out;have ab:=zA z1;have a0:=zA z2;have ad:=zA z3;have ag:=zA z4;have M:(0:Int)<=(i:Int):=by omega
   have aO:(i:Int)<=(l.length:Int):=by omega
   have bk:(i:Int)<=(cap:Int):=by omega
   have bn:¬cap=i:=by omega
   clear z1 z2 z3 z4;generalize wr.setCells g0 i (List.replicate (l.length-i) (.slice none 0 0))=w9 at G ad ag;go_wp2;go_ret;have ak:(l.filter fun x=> !del x)=zs.take i:=by
    have h:=E.out;rw[List.take_length] at h;rw[<-h,a0.out]
   have a1:i=(l.filter fun x=> !del x).length:=by rw[ak,List.length_take,ab.out];omega
   refine⟨i,rfl,a1,?_,o.out.trans ag.out⟩;rw[ak];exact Kd.yV ad.out (by rw[ab.out];omega)
theorem filter_none {l:List (List Int)} {del:List Int->Bool} (h:∀j:Nat,j<l.length->del (aZ l j)=false):(l.filter fun x=> !del x)=l:=by
 rw[List.filter_eq_self];intro x g;obtain⟨j,a,rfl⟩:=List.mem_iff_getElem.1 g;have b:=h j a;have e:aZ l j=l[j]:=by simp[aZ,bb,bP a]
 rw[e] at b;simp[b]
theorem Dp (qx gx base:Nat) (row:Option Nat) (A:Option Addr) (cap:Nat) (ok:Nat->Prop) (l:List (List Int)) (del:List Int->Bool) (a W:World) (b:Kd.N (Kd.slice 3 (Kd.int .i64)) 26 W base ok (.slice A l.length cap) l) (g:a.grownBy W row) (k:oM qx gx row a l del) (hex:∀j:Nat,j<l.length->del (aZ l j)=false):
  Calls Tryz.prog 115 #[.slice A l.length cap,.func (.func 116) #[] #[.pointer (some ⟨qx,0,none⟩),.pointer (some ⟨gx,0,none⟩)]] W fun e w'=>e= .returned (.slice A l.length cap)/\Below W.heap.size W w':=by
 have n:Aside0 (Calls Tryz.prog 175 #[.slice A l.length cap,.func (.func 116) #[] #[.pointer (some ⟨qx,0,none⟩),.pointer (some ⟨gx,0,none⟩)]] W fun e w'=>e= .returned (.int .i64 (-1))/\Below W.heap.size W w'):=⟨(u' qx gx base row A cap ok l del a W b g k).mono (by
  rintro e w' ⟨r,rfl,⟨rfl,h⟩|⟨i,rfl,h1,m,p⟩,hb⟩
  ·exact⟨rfl,hb⟩
  ·rw[hex i h1] at m;cases m)⟩
 clear b g k hex;go_enter Tryz.func115,Tryz.ntmps115
 go_wp2_with (go_at_call 175;refine n.out.mono ?_;rintro e w1 ⟨rfl,hb⟩;have o:=zA hb;clear hb)
 go_ret;exact⟨rfl,o.out⟩
def cY.l0:Nat->Int->List Int->Int->Int->List (S83)->Option (List Int)
 |0,_,_,_,_,_=>none
 |k+1,x1,x2,x3,a,b=>(fc.f k a b x1 x2).bind fun e=>(if e=true then(if 0<=x3 then(if x3<(x2.length:Int) then(cY.l0 k x1 (x2.set (x3:Int).toNat (wrap64 ((rd x2 x3)+1))) x3 a b) else(none)) else(none)) else(if 0<=x3 then(if x3<(x2.length:Int) then(some (x2.set (x3:Int).toNat (wrap64 ((rd x2 x3)-1)))) else(none)) else(none)))
def cY.f (k:Nat) (b:Int) (e:List (S83)) (g:Int) (l2:List Int) (a3:Int):Option (List Int):=(fM.f l2).bind fun a=>(if 0<=a3 then(if a3<(a.length:Int) then(cY.l0 k g (a.set (a3:Int).toNat (wrap64 ((rd a a3)+1))) a3 b e) else(none)) else(none))
theorem cY.cn:∀k,(∀a b e g i,aj (cY.l0 k a b e g i) (cY.l0 (k+1) a b e g i))
 |0=>fun _ _ _ _ _ r h=>by simp[cY.l0] at h
 |k+1=>by
  have j:=cY.cn k
  ·intro a b e g i
   unfold cY.l0;with_reducible repeat' first|exact j _ _ _ _ _|exact fc.mono _ _ _ _ _|exact aj.refl _|exact aj.none _|refine aj.ite ?_ ?_|refine aj.bind ?_ (fun _=>?_)
theorem cY.mono:∀a0 a a2 a3 a4 k,aj (cY.f k a0 a a2 a3 a4) (cY.f (k+1) a0 a a2 a3 a4):=by
 intro a0 a a2 a3 a4 k;have b:=cY.cn k;unfold cY.f;with_reducible repeat' first|exact b _ _ _ _ _|exact fc.mono _ _ _ _ _|exact aj.refl _|exact aj.none _|refine aj.ite ?_ ?_|refine aj.bind ?_ (fun _=>?_)
theorem cY.calls (k:Nat) (m:Int) (u:Option Addr) (x:Nat) (j:List (S83)) (o:Int) (U:Option Addr) (c2:Nat) (l2:List Int) (a3:Int) (r:List Int) (w:World) (a4:Kd.C aN w u j.length j) (a5:j.length<=x) (a9:Kd.C (Kd.int .i64) w U l2.length l2) (be:l2.length<=c2) (h:cY.f k m j o l2 a3=some r):
  Calls Tryz.prog 117 #[.agg #[.int .i64 m,.slice u j.length x],.int .i64 o,.slice U l2.length c2,.int .i64 a3] w fun e w'=>∃bf:Value,e= .returned (bf)/\Kd.R (Kd.int .i64) 3 w' w.heap.size (fun _=>True) bf r/\Below w.heap.size w w':=by
 have c1:=Tryz.underlying24;have bg:=zA a4;have bi:=zA a5;clear a4 a5;have b_:=zA a9;have b':=zA be;clear a9 be;have i:=zA (al w.heap.size w);unfold cY.f at h;have H:=h;clear h;obtain⟨n,A5,H⟩:=zo H;by_cases D:0<=a3
 ·rw[if_pos D] at H
  have cb:=ay D;clear D;by_cases E:a3<(n.length:Int)
  ·rw[if_pos E] at H
   have cc:=ay E;clear E;obtain⟨V,W⟩:∃B:List Int,B=(n.set (a3:Int).toNat (wrap64 ((rd n a3)+1))):=⟨_,rfl⟩;replace H:(cY.l0 k o V a3 m j)=some r:=zh W H;have cd:=zA W;clear W;have F:=zA H;clear H;go_enter Tryz.func117,Tryz.ntmps117
   go_wp2_with (first|((with_reducible refine aH (N:=4) rfl ?_);refine zX 4 #[.int .i64 m,.slice u j.length x] 24 ?_;intro ce hg w9 bk hb;have g:=zA (bk);have c4:=zG i hg;have c5:=zG i hg;replace i:=zS i hb;clear hb bk hg)|((with_reducible refine aC (f:=57) rfl ?_);refine zL (some 10) Tryz.func57 #[.slice U l2.length c2] ?_;(with_reducible refine(fM.calls _ _ l2 n _ ?af ?ah A5.out).mono ?_);(case af=>exact Kd.aq b_.out zB);(case ah=>exact b'.out);rintro e bn ⟨c8,rfl,bo,hb⟩;refine⟨_,rfl,?_⟩;have q:=zA (Kd.bc bo (bs zB));replace g:=zb g hb;replace i:=zS i hb;(try clear hb);(try clear bo);obtain⟨c9,y,cf⟩:=Kd.bm q.out;subst cf;have G:0<=(a3:Int):=ax ‹_›;have I:a3<(n.length:Int):=ax ‹_›;obtain⟨c',ch,bv⟩:=Kd.bT (Kd.aG q.out).2.2 a3 G I;cases ch;replace G:=eq_true G;replace I:=eq_true I;have J:0<=(a3:Int):=ax ‹_›;have K:(a3:Int)<((n.length:Int):Int):=ax ‹_›;obtain⟨l,dd,bw,bx,ci,dk,b0⟩:=Kd.fC q.out (by omega);(first|cases bw|(injection bw with L cj ck;(first|subst L|(injection L with L;subst L));subst ck;clear cj));have X:=zA bx;have dl:=zA b0;clear bx ci b0;(first|simp only[add_plain] at bv|skip);obtain⟨cl,ds⟩:=Kd.bW 0 q.out (a3:Int) J K;replace J:=eq_true J;replace K:=eq_true K;obtain⟨dv,d0⟩:=Kd.bW 0 q.out (a3:Int) (ax ‹_›) (ax ‹_›);have Y:=Kd.dh q.out (a3:Int) (wrap64 ((rd n a3)+1)))|((with_reducible refine jO (t:=3) (p:=16) rfl ?_);refine jN (t:=3) (p:=16) (v:=?F7) (w1:=(bn.setCell ⟨l,(a3:Int).toNat,none⟩ (.int .i64 (wrap64 ((rd n a3)+1))))) ?hg ?ho ?hn ?hr ?_;(case ho=>rfl);(case hg=>rfl);(case hn=>rfl);(case hr=>first|(go_simp;done)|(go_simp;rfl));intro Z hw;have hg:bn.grownBy Z (some l):=(by rw[hw];exact Y.2);have s:Kd.R (Kd.int .i64) 3 Z w.heap.size (fun _=>True) (.slice (some ⟨l,0,none⟩) n.length y) V:=(by rw[hw,cd.out];exact Y.1);clear Y;replace g:=zA (cS (zK g) hg (Kd.dr q.out g.out (by decide)));replace q:=zA (s);replace i:=zA ((by rw[hw];exact et (i.out) X.out:Below w.heap.size w Z));clear hg hw s))
   go_loopg [] k (fun kq w'=>∃(b:List Int),Aside0 (cY.l0 kq o b a3 m j=some r)/\Aside0 (kq<=k)/\Aside0 (Kd.R (Kd.int .i64) 3 w' w.heap.size (fun _=>True) (.slice (some ⟨l,0,none⟩) n.length y) b)/\Aside0 (w'.heap[ce]? =some (.cells #[.int .i64 m,(.slice u j.length x)] 24 (0,0)))/\Aside0 (Below w.heap.size w w'))
   case atStart=>exact⟨(V),F,⟨aI _⟩,⟨zR q⟩,⟨zK g⟩,⟨zB⟩⟩
   case round=>
    clear F;clear cb cc J K bv cl G I;obtain⟨b,HA,b2,a,g,i⟩:=hrel;have z:=(Kd.aG a.out).1;rw[z] at a
    (try simp only[z])
    (try simp only[z] at g)
    cases gk with
    |zero=>exact absurd HA.out (by simp[cY.l0])
    |succ M=>
     have H:=HA.out;clear HA;simp only[cY.l0] at H;obtain⟨co,b3,H⟩:=zo H;by_cases O:co=true
     ·subst O
      replace H:=zi H;by_cases P:0<=a3
      ·rw[if_pos P] at H
       have d1:=ay P;clear P;by_cases Q:a3<(b.length:Int)
       ·rw[if_pos Q] at H
        have d2:=ay Q;clear Q;obtain⟨ab,ad⟩:∃B:List Int,B=(b.set (a3:Int).toNat (wrap64 ((rd b a3)+1))):=⟨_,rfl⟩;replace H:(cY.l0 M o ab a3 m j)=some r:=zh ad H;have cq:=zA ad;clear ad;have F:=zA H;clear H;obtain⟨d3,d4,d5,d6⟩:=au g;go_wp2_with (first|((with_reducible refine aC (f:=176) rfl ?_);refine zL (some 20) Tryz.func176 #[.agg #[.int .i64 m,.slice u j.length x],.int .i64 o,.slice (some ⟨l,0,none⟩) b.length y] ?_;(with_reducible refine(fc.calls M m _ _ j o _ _ b true _ ?af ?ah ?aT ?aU b3.out).mono ?_);(case af=>exact Kd.aq bg.out zB);(case ah=>exact bi.out);(case aT=>exact zC (Kd.aG a.out).2.2);(case aU=>exact(Kd.aG a.out).2.1);rintro e b4 ⟨rfl,hb⟩;refine⟨_,rfl,?_⟩;replace a:=bp a hb;replace g:=zb g hb;replace i:=zS i hb;(try clear hb);have ag:0<=(a3:Int):=ax ‹_›;have ak:a3<(b.length:Int):=ax ‹_›;obtain⟨cr,cs,am⟩:=Kd.bT (Kd.aG a.out).2.2 a3 ag ak;obtain rfl:(⟨l,0,none⟩:Addr)=cr:=(by injection cs);(first|simp only[add_plain] at am|simp only[ix] at am|simp only[Addr.add,Nat.zero_add] at am|skip);replace ag:=eq_true ag;replace ak:=eq_true ak;have an:0<=(a3:Int):=ax ‹_›;have ap:(a3:Int)<((b.length:Int):Int):=ax ‹_›;obtain⟨d7,d8⟩:=Kd.bW 0 a.out (a3:Int) an ap;replace an:=eq_true an;replace ap:=eq_true ap;obtain⟨d9,ea⟩:=Kd.bW 0 a.out (a3:Int) (ax ‹_›) (ax ‹_›);have ar:=Kd.dh a.out (a3:Int) (wrap64 ((rd b a3)+1)))|((with_reducible refine jO (t:=3) (p:=26) rfl ?_);refine jN (t:=3) (p:=26) (v:=?Jk) (w1:=(b4.setCell ⟨l,(a3:Int).toNat,none⟩ (.int .i64 (wrap64 ((rd b a3)+1))))) ?hg ?ho ?hn ?hr ?_;(case ho=>rfl);(case hg=>rfl);(case hn=>rfl);(case hr=>first|(go_simp;done)|(go_simp;rfl));intro av hw;have hg:b4.grownBy av (some l):=(by rw[hw];exact ar.2);have s:Kd.R (Kd.int .i64) 3 av w.heap.size (fun _=>True) (.slice (some ⟨l,0,none⟩) b.length y) ab:=(by rw[hw,cq.out];exact ar.1);clear ar;replace g:=zA (cS (zK g) hg (Kd.dr a.out g.out (by decide)));replace a:=zA (s);replace i:=zA ((by rw[hw];exact et (i.out) X.out:Below w.heap.size w av));clear hg hw s))
        (try simp only[<-z])
        go_roundg M
        case measure=>have:=b2.out;omega
        case rel=>exact⟨(ab),F,⟨by have:=b2.out;omega⟩,⟨by(try simp only[z]);(with_reducible repeat(first|apply Kd.aM|apply Kd.bB|apply Kd.bq));exact a.out⟩,⟨by(try simp only[z]);exact zK g⟩,⟨zB⟩⟩
       ·rw[if_neg Q] at H
        exact absurd H (by simp)
      ·rw[if_neg P] at H
       exact absurd H (by simp)
     ·replace O:=Bool.eq_false_iff.mpr O
      subst O;replace H:=zj H;by_cases S:0<=a3
      ·rw[if_pos S] at H
       have eb:=ay S;clear S;by_cases T:a3<(b.length:Int)
       ·rw[if_pos T] at H
        have ed:=ay T;clear T;obtain⟨b5,aB⟩:∃B:List Int,B=(b.set (a3:Int).toNat (wrap64 ((rd b a3)-1))):=⟨_,rfl⟩;replace H:(some b5)=some r:=zh aB H;have cv:=zA aB;clear aB;obtain rfl:=aE H;obtain⟨eg,ek,el,em⟩:=au g;go_wp2_with (first|((with_reducible refine aC (f:=176) rfl ?_);refine zL (some 20) Tryz.func176 #[.agg #[.int .i64 m,.slice u j.length x],.int .i64 o,.slice (some ⟨l,0,none⟩) b.length y] ?_;(with_reducible refine(fc.calls M m _ _ j o _ _ b false _ ?af ?ah ?aT ?aU b3.out).mono ?_);(case af=>exact Kd.aq bg.out zB);(case ah=>exact bi.out);(case aT=>exact zC (Kd.aG a.out).2.2);(case aU=>exact(Kd.aG a.out).2.1);rintro e b6 ⟨rfl,hb⟩;refine⟨_,rfl,?_⟩;replace a:=bp a hb;replace g:=zb g hb;replace i:=zS i hb;(try clear hb);have aF:0<=(a3:Int):=ax ‹_›;have aL:a3<(b.length:Int):=ax ‹_›;obtain⟨cx,c0,aO⟩:=Kd.bT (Kd.aG a.out).2.2 a3 aF aL;obtain rfl:(⟨l,0,none⟩:Addr)=cx:=(by injection c0);(first|simp only[add_plain] at aO|simp only[ix] at aO|simp only[Addr.add,Nat.zero_add] at aO|skip);replace aF:=eq_true aF;replace aL:=eq_true aL;have aP:0<=(a3:Int):=ax ‹_›;have aS:(a3:Int)<((b.length:Int):Int):=ax ‹_›;obtain⟨er,es⟩:=Kd.bW 0 a.out (a3:Int) aP aS;replace aP:=eq_true aP;replace aS:=eq_true aS;obtain⟨ev,ew⟩:=Kd.bW 0 a.out (a3:Int) (ax ‹_›) (ax ‹_›);have a0:=Kd.dh a.out (a3:Int) (wrap64 ((rd b a3)-1)))|((with_reducible refine jO (t:=3) (p:=32) rfl ?_);refine jN (t:=3) (p:=32) (v:=?Jj) (w1:=(b6.setCell ⟨l,(a3:Int).toNat,none⟩ (.int .i64 (wrap64 ((rd b a3)-1))))) ?hg ?ho ?hn ?hr ?_;(case ho=>rfl);(case hg=>rfl);(case hn=>rfl);(case hr=>first|(go_simp;done)|(go_simp;rfl));intro a2 hw;have hg:b6.grownBy a2 (some l):=(by rw[hw];exact a0.2);have s:Kd.R (Kd.int .i64) 3 a2 w.heap.size (fun _=>True) (.slice (some ⟨l,0,none⟩) b.length y) b5:=(by rw[hw,cv.out];exact a0.1);clear a0;replace g:=zA (cS (zK g) hg (Kd.dr a.out g.out (by decide)));replace a:=zA (s);replace i:=zA ((by rw[hw];exact et (i.out) X.out:Below w.heap.size w a2));clear hg hw s))
        go_ret;exact⟨_,zE,by(with_reducible repeat(first|apply Kd.aM|apply Kd.bB|apply Kd.bq));exact a.out,zB⟩
       ·rw[if_neg T] at H
        exact absurd H (by simp)
      ·rw[if_neg S] at H
       exact absurd H (by simp)
  ·rw[if_neg E] at H
   exact absurd H (by simp)
 ·rw[if_neg D] at H
  exact absurd H (by simp)
def ff (x:List Int) (q:Int) (r:Nat->List Int) (k:Nat):Bool:=(List.range k).any fun v=>decide ((v:Int)≠q)&&decide (rd x v<rd (r v) v)
theorem oO (x:List Int) (q:Int) (r:Nat->List Int) (k:Nat):ff x q r (k+1)=(ff x q r k||(decide ((k:Int)≠q)&&decide (rd x k<rd (r k) k))):=by simp[ff,List.range_succ,List.any_append]
theorem Dq {x:List Int} {q:Int} {r:Nat->List Int} {k n:Nat} (hk:k<n) (a:(k:Int)≠q) (h:rd x k<rd (r k) k):ff x q r n=true:=by
 unfold ff;rw[List.any_eq_true];exact⟨k,List.mem_range.2 hk,by simp[a,h]⟩
theorem Dr (K:Nat) (N:Int) (A0:Option Addr) (c0:Nat) (E:List S83) (q:Int) (qx gx:Nat) (A:Option Addr) (c:Nat) (x:List Int) (r:Nat->List Int) (W:World) (w:Kd.C aN W A0 E.length E) (I:E.length<=c0) (hg:W.heap[gx]? =some (.cells #[.int .i64 N,.slice A0 E.length c0] 24 (0,0))) (y:W.heap[qx]? =some (.cells #[.int .i64 q] 3 (0,0)))
  (l:Kd.C (Kd.int .i64) W A x.length x) (J:x.length<=c) (z:∀v:Nat,v<x.length->(v:Int)≠q->cY.f K N E q x v=some (r v)/\v<(r v).length):
  Calls Tryz.prog 116 #[.slice A x.length c,.pointer (some ⟨qx,0,none⟩),.pointer (some ⟨gx,0,none⟩)] W fun e w'=>e= .returned (.bool (ff x q r x.length))/\Below W.heap.size W w':=by
 have L:=zA w;have B:=zA hg;have M:=zA y;have O:=zA l;have P:=zA z;have Y:x.length<=9223372036854775807:=Kd.l_ l;clear w hg y l z;go_enter Tryz.func116,Tryz.ntmps116
 go_wp2;go_loopw [10] (fun i wr=>∃k:Nat,k<=x.length/\i= .int .i64 k/\Aside0 (ff x q r k=false)/\Aside0 (Below W.heap.size W wr)) (fun i _=>x.length- (intOf i).toNat)
 case atStart=>exact⟨0,by omega,rfl,⟨rfl⟩,⟨al _ _⟩⟩
 case round=>
  obtain⟨k,hk,rfl,m,a⟩:=hrel;have Z:wr.cell? ⟨qx,0,none⟩=some (.int .i64 q):=(ai (aJ M.out a.out) 0).trans rfl;have aa:wr.cell? ⟨gx,0,none⟩=some (.int .i64 N):=(ai (aJ B.out a.out) 0).trans rfl;have ab:wr.cell? ⟨gx,1,none⟩=some (.slice A0 E.length c0):=(ai (aJ B.out a.out) 1).trans rfl;have hu:=Tryz.underlying24;by_cases D:k<x.length
  ·have hC:=Kd.aq O.out a.out
   have Q:=zA hC;obtain⟨ad,rfl,R⟩:=Kd.bT hC k (by omega) (by omega);rw[aQ] at R;have ag:(0:Int)<=(k:Int):=by omega
   have ak:(k:Int)<(x.length:Int):=by omega
   clear hC;by_cases b:(k:Int)=q
   ·have o:=zA (show ff x q r (k+1)=false from by rw[oO,m.out];simp[b])
    have S:((k:Int)==q)=true:=by simpa using b
    have F:=zA b;clear b;go_wp2;go_roundw
    case rel=>exact⟨k+1,by omega,by go_num,o,a⟩
    case measure=>exact(show x.length- ((k:Int)+1).toNat<x.length- ((k:Int)).toNat by omega)
   ·have S:((k:Int)==q)=false:=by simpa using b
    obtain⟨G,am⟩:=P.out k D b;have H:=zA (cY.calls K N A0 c0 E q (some ad) c x k (r k) wr (Kd.aq L.out a.out) I Q.out J G);have F:=zA b;clear b G;by_cases p:rd x k<rd (r k) k
    ·have T:=zA (Dq (n:=x.length) D F.out p)
     have U:(k:Int)<((r k).length:Int):=by omega
     go_wp2_with (go_at_call 117;refine H.out.mono ?_;rintro e w1 ⟨v1,rfl,g,h⟩;obtain⟨V,cr,rfl⟩:=Kd.bm g;obtain⟨-, -,j⟩:=Kd.aG g;obtain⟨X,rfl,s⟩:=Kd.bT j k (by omega) (by omega);rw[aQ] at s;have u:=zA h;clear g h j)
     go_ret;exact⟨by rw[T.out];rfl,a.out.trans (u.out.mono a.out.size)⟩
    ·have o:=zA (show ff x q r (k+1)=false from by rw[oO,m.out];simp[p])
     have an:¬rd (r k) k>rd x k:=p;have U:(k:Int)<((r k).length:Int):=by omega
     go_wp2_with (go_at_call 117;refine H.out.mono ?_;rintro e w1 ⟨v1,rfl,g,h⟩;obtain⟨V,cr,rfl⟩:=Kd.bm g;obtain⟨-, -,j⟩:=Kd.aG g;obtain⟨X,rfl,s⟩:=Kd.bT j k (by omega) (by omega);rw[aQ] at s;have u:=zA h;clear g h j)
     go_roundw
     case rel=>exact⟨k+1,by omega,by go_num,o,⟨a.out.trans (u.out.mono a.out.size)⟩⟩
     case measure=>exact(show x.length- ((k:Int)+1).toNat<x.length- ((k:Int)).toNat by omega)
  ·obtain rfl:k=x.length:=by omega
   go_wp2;go_ret;exact⟨by rw[m.out];rfl,a.out⟩
theorem Dt (k:Nat) (N:Int) (A0:Option Addr) (c0:Nat) (E:List S83) (q:Int) (l:List (List Int)) (t:Int) (w:World) (g:Kd.C aN w A0 E.length E) (h:E.length<=c0) (hf:fe.f k N E q=some (l,t)) (a:t≠0):
  Calls Tryz.prog 56 #[.agg #[.int .i64 N,.slice A0 E.length c0],.int .i64 q] w fun e w'=>e= .returned (.tuple #[.slice none 0 0,.int .i64 t])/\Below w.heap.size w w':=by
 have hu:=Tryz.underlying24;have i:=zA hf;have n:(t != 0)=true:=by simpa using a
 have b:=zA (aw (bl w (.cells #[.int .i64 N,.slice A0 E.length c0] 24)) (.cells #[.int .i64 q] 3));have o:((w.alloc (.cells #[.int .i64 N,.slice A0 E.length c0] 24)).alloc (.cells #[.int .i64 q] 3)).cell? ⟨w.heap.size,0,none⟩=some (.int .i64 N):=(ai b.out 0).trans rfl;have p:((w.alloc (.cells #[.int .i64 N,.slice A0 E.length c0] 24)).alloc (.cells #[.int .i64 q] 3)).cell? ⟨w.heap.size,1,none⟩=some (.slice A0 E.length c0):=(ai b.out 1).trans rfl;clear hf a;go_enter Tryz.func56,Tryz.ntmps56
 go_wp2_with (go_at_call 114;refine(fe.calls k N A0 c0 E q l t _ (Kd.bE (Kd.bE g _) _) h i.out).mono ?_;rintro e w1 ⟨v,rfl,j,hb⟩;have m:=zA (a7 (ao (ao (al w.heap.size w) _) _) hb);clear j hb)
 go_ret2;exact⟨rfl,m.out⟩
theorem Du (k K:Nat) (N:Int) (A0:Option Addr) (c0:Nat) (E:List S83) (q:Int) (l:List (List Int)) (r:List Int->Nat->List Int) (w:World) (F:Kd.C aN w A0 E.length E) (G:E.length<=c0) (hf:fe.f k N E q=some (l,0)) (H:∀x∈l,∀v:Nat,v<x.length->(v:Int)≠q->cY.f K N E q x v=some (r x v)/\v<(r x v).length):
  Calls Tryz.prog 56 #[.agg #[.int .i64 N,.slice A0 E.length c0],.int .i64 q] w fun e w'=>∃v,e= .returned (.tuple #[v,.int .i64 0])/\Kd.N (Kd.slice 3 (Kd.int .i64)) 26 w' w.heap.size (fun R=>(w.heap.size<=R)) v (l.filter fun x=> !ff x q (r x) x.length)/\Below w.heap.size w w':=by
 have hu:=Tryz.underlying24;have S:=zA hf;have i:=zA (aw (bl w (.cells #[.int .i64 N,.slice A0 E.length c0] 24)) (.cells #[.int .i64 q] 3));have T:=zA (heap_alloc2_new w (.cells #[.int .i64 N,.slice A0 E.length c0] 24) (.cells #[.int .i64 q] 3));have ag:((w.alloc (.cells #[.int .i64 N,.slice A0 E.length c0] 24)).alloc (.cells #[.int .i64 q] 3)).cell? ⟨w.heap.size,0,none⟩=some (.int .i64 N):=(ai i.out 0).trans rfl;have ak:((w.alloc (.cells #[.int .i64 N,.slice A0 E.length c0] 24)).alloc (.cells #[.int .i64 q] 3)).cell? ⟨w.heap.size,1,none⟩=some (.slice A0 E.length c0):=(ai i.out 1).trans rfl;have U:=zA H;clear hf H;go_enter Tryz.func56,Tryz.ntmps56
 go_wp2_with (go_at_call 114;refine(fe.calls k N A0 c0 E q l 0 _ (Kd.bE (Kd.bE F _) _) G S.out).mono ?_;rintro e w1 ⟨v,rfl,n,hb⟩;obtain⟨I,o,rfl⟩:=Kd.mj n;have a:=zA (a7 (ao (ao (al w.heap.size w) _) _) hb);have J:=zA (aJ i.out hb);have L:=zA (aJ T.out hb);have b:=zA n;clear n hb)
 have p:w.heap.size+2=((w.alloc (.cells #[.int .i64 N,.slice A0 E.length c0] 24)).alloc (.cells #[.int .i64 q] 3)).heap.size:=by simp
 rw[<-p] at b;have M:Aside0 (∀row,(∀g,row=some g->w.heap.size+2<=g)->oM (w.heap.size+1) w.heap.size row w1 l (fun x=>ff x q (r x) x.length)):=⟨fun row s W' A c x u V W X=>by
  have Y:Below w.heap.size w W':=jJ a.out row a.out.size u (fun g e=>by have:=s g e;omega);refine Dr K N A0 c0 E q (w.heap.size+1) w.heap.size A c x (r x) W' (Kd.aq F Y) G ((u.block _ (az J.out) (fun e=>by have:=s _ e.symm;omega)).trans J.out) ((u.block _ (az L.out) (fun e=>by have:=s _ e.symm;omega)).trans L.out) X W (U.out x V)⟩
 have aY:=a.out.size;by_cases hex:∃j:Nat,j<l.length/\(fun x=>ff x q (r x) x.length) (aZ l j)=true
 ·obtain⟨g0,cap,Z,am, -, -⟩:=Kd.yQ b.out (by obtain⟨j,O,_⟩:=hex;omega)
  injection Z with aa an ab
  subst aa ab;refine(Dn (w.heap.size+1) w.heap.size (w.heap.size+2) g0 o (fun k=>w.heap.size+2<=k) l _ w1 w1 b.out ⟨rfl,rfl,rfl,aI _,fun _ _ _=>rfl⟩ (M.out (some g0) (fun g e=>by injection e with e;omega)) hex).mono ?_;rintro e w2 ⟨m,rfl,hm,P,Q⟩;have y:=zA (Kd.eE (Kd.mh (base':=w.heap.size) P (by omega)) (ok':=fun k=>w.heap.size<=k) (fun k hk=>by omega));have z:=zA (jJ a.out (some g0) a.out.size Q (fun k e=>by injection e with e;omega));clear hm P Q hex p;go_wp2;go_ret2;exact⟨_,rfl,y.out,z.out⟩
 ·have B:∀j:Nat,j<l.length->(fun x=>ff x q (r x) x.length) (aZ l j)=false:=fun j O=>by
   cases h:(fun x=>ff x q (r x) x.length) (aZ l j) with
   |false=>rfl
   |true=>exact absurd ⟨j,O,h⟩ hex
  have ad:=zA (filter_none (l:=l) (del:=fun x=>ff x q (r x) x.length) B);refine(Dp (w.heap.size+1) w.heap.size (w.heap.size+2) none I o (fun k=>w.heap.size+2<=k) l _ w1 w1 b.out ⟨rfl,rfl,rfl,aI _,fun _ _ _=>rfl⟩ (M.out none (fun g e=>by cases e)) B).mono ?_;rintro e w2 ⟨rfl,D⟩;have y:=zA (Kd.gB (Kd.eE (Kd.mh (base':=w.heap.size) b.out (by omega)) (ok':=fun k=>w.heap.size<=k) (fun k hk=>by omega)) D);have z:=zA (a.out.trans (D.mono a.out.size));clear D hex B p;go_wp2;go_ret2;exact⟨.slice I l.length o,rfl,by rw[ad.out];exact y.out,z.out⟩
def mW (k:Nat) (N:Int) (E:List S83) (q:Int) (l:List (List Int)):Bool:=l.all fun c=>(List.range c.length).all fun v=>decide ((v:Int)=q)||match cY.f k N E q c v with|some r=>decide (v<r.length)|none=>false
def jC (k:Nat) (N:Int) (E:List S83) (q:Int) (c:List Int) (v:Nat):List Int:=(cY.f k N E q c v).getD []
theorem vf {k:Nat} {N:Int} {E:List S83} {q:Int} {l:List (List Int)} (h:mW k N E q l=true):∀x∈l,∀v:Nat,v<x.length->(v:Int)≠q->cY.f k N E q x v=some (jC k N E q x v)/\v<(jC k N E q x v).length:=by
 intro x b v e g;have h1:=List.all_eq_true.1 (List.all_eq_true.1 h x b) v (List.mem_range.2 e);rw[a6 g,Bool.false_or] at h1;unfold jC;cases a:cY.f k N E q x v with
 |none=>rw[a] at h1;cases h1
 |some r=>rw[a] at h1;exact⟨rfl,by simpa using h1⟩
def gT.f (k:Nat) (N:Int) (E:List S83) (q:Int):Option (List (List Int)×Int):=
 (fe.f k N E q).bind fun t=>if t.2=0 then(if mW k N E q t.1=true then some (t.1.filter fun x=> !ff x q (jC k N E q x) x.length,0) else none) else some ([],t.2)
theorem vg {x:List Int} {q:Int} {r a:Nat->List Int}:∀k,(∀v:Nat,v<k->(v:Int)≠q->r v=a v)->ff x q r k=ff x q a k
 |0,_=>rfl
 |k+1,h=>by
  rw[oO,oO,vg k (fun v e=>h v (by omega))];by_cases b:(k:Int)=q
  ·simp[b]
  ·rw[h k (by omega) b]
theorem gT.mono:∀h i j k,aj (gT.f k h i j) (gT.f (k+1) h i j):=by
 intro N E q k;unfold gT.f;refine aj.bind (fe.mono _ _ _ _) (fun t=>?_);refine aj.ite ?_ (aj.refl _);intro r g;by_cases hk:mW k N E q t.1=true
 ·rw[if_pos hk] at g
  have hg:=vf hk;have l:∀x∈t.1,∀v:Nat,v<x.length->(v:Int)≠q->cY.f (k+1) N E q x v=some (jC k N E q x v):=fun x e v a b=>cY.mono _ _ _ _ _ _ _ (hg x e v a b).1
  have m:∀x∈t.1,∀v:Nat,v<x.length->(v:Int)≠q->jC k N E q x v=jC (k+1) N E q x v:=fun x e v a b=>by
   have h1:=l x e v a b;generalize jC k N E q x v=y at h1;unfold jC;rw[h1];rfl
  have n:mW (k+1) N E q t.1=true:=by
   refine List.all_eq_true.2 fun x e=>List.all_eq_true.2 fun v a=>?_
   have a:=List.mem_range.1 a;by_cases b:(v:Int)=q
   ·simp[b]
   ·rw[l x e v a b]
    simp[(hg x e v a b).2]
  rw[if_pos n,<-g];congr 2
  refine List.filter_congr fun x e=>?_
  rw[vg x.length (fun v a b=>(m x e v a b).symm)]
 ·rw[if_neg hk] at g;cases g
theorem gT.calls (k:Nat) (b:Int) (i:Option Addr) (j:Nat) (a:List (S83)) (g:Int) (o:List (List Int)) (p:Int) (w:World) (q:Kd.C aN w i a.length a) (r:a.length<=j) (h:gT.f k b a g=some (o,p)):
  Calls Tryz.prog 56 #[.agg #[.int .i64 b,.slice i a.length j],.int .i64 g] w fun e w'=>∃s:Value,e= .returned (.tuple #[s,.int .i64 p])/\Kd.N (Kd.slice 3 (Kd.int .i64)) 26 w' w.heap.size (fun v=>(w.heap.size<=v)) s o/\Below w.heap.size w w':=by
 unfold gT.f at h;obtain⟨⟨l,t⟩,u,H⟩:=Option.bind_eq_some_iff.mp h;simp only at H;by_cases m:t=0
 ·subst m
  rw[if_pos rfl] at H;by_cases n:mW k b a g l=true
  ·rw[if_pos n] at H
   simp only[Option.some.injEq,Prod.mk.injEq] at H;obtain⟨rfl,rfl⟩:=H;exact Du k k b i j a g l _ w q r u (vf n)
  ·rw[if_neg n] at H;cases H
 ·rw[if_neg m] at H
  simp only[Option.some.injEq,Prod.mk.injEq] at H;obtain⟨rfl,rfl⟩:=H;refine(Dt k b i j a g l t w q r u m).mono ?_;rintro e w' ⟨rfl,hb⟩;exact⟨_,rfl,Kd.gA _ _ _ _ _,hb⟩
def kM.f (a0:Int):Option (Bool):=if a0>=(-1048576) then(some (decide (a0<=1048576))) else(some false)
theorem kM.calls (a0:Int) (r:Bool) (w:World) (h:kM.f a0=some r):
  Calls Tryz.prog 96 #[.int .i64 a0] w fun e w'=>e= .returned (.bool r)/\aA w w':=by
 have H:(if a0>=(-1048576) then(some (decide (a0<=1048576))) else(some false))=some r:=h;clear h;by_cases c2:a0>=(-1048576)
 ·rw[if_pos c2] at H
  have a:=ay c2;clear c2;obtain rfl:=aE H;go_enter Tryz.func96,Tryz.ntmps96
  go_wp2;go_ret;exact⟨zT,by repeat(first|exact aA.refl _|apply aA.step)⟩
 ·rw[if_neg c2] at H
  have a:=a6 c2;clear c2;obtain rfl:=aE H;go_enter Tryz.func96,Tryz.ntmps96
  go_wp2;go_ret;exact⟨zT,by repeat(first|exact aA.refl _|apply aA.step)⟩
mutual
def cG.j0:Nat->List Int->Int->Bool->Option (Int)
 |0,_,_,_=>none
 |k+1,a,x1,b=>if b=true then(some 2) else(if(a.length:Int)=x1 then(cG.l0 k a x1 0) else(some 8))
def cG.l0:Nat->List Int->Int->Int->Option (Int)
 |0,_,_,_=>none
 |k+1,b,x1,a=>if a<x1 then(if 0<=a then(if a<(b.length:Int) then((kM.f (rd b a)).bind fun t103=>(if t103=true then(cG.l0 k b x1 (wrap64 (a+1))) else(some 2))) else(none)) else(none)) else(some 0)
end
def cG.f (k:Nat) (l0:List Int) (a:Int):Option (Int):=if a<1 then(cG.j0 k l0 a true) else(cG.j0 k l0 a (decide (a>12)))
theorem cG.calls (k:Nat) (A0:Option Addr) (c0:Nat) (l0:List Int) (b:Int) (r:Int) (w:World) (B:Kd.C (Kd.int .i64) w A0 l0.length l0) (D:l0.length<=c0) (h:cG.f k l0 b=some r):
  Calls Tryz.prog 42 #[.slice A0 l0.length c0,.int .i64 b] w fun e w'=>e= .returned (.int .i64 r)/\aA w w':=by
 have E:=zA B;have R:=zA D;clear B D;unfold cG.f at h;have H:=h;clear h;have y:=zA H;clear H;go_enter Tryz.func42,Tryz.ntmps42
 go_upto_region 1 with (fail)
 go_cut [11] (fun v11 wc=>∃(i:Nat) (q:Bool),v11= .bool q/\Aside0 (cG.j0 i l0 b q=some r)/\Aside0 (i<=k)/\aA w wc)
 case first=>
  have H:=y.out;clear y;by_cases c4:b<1
  ·rw[if_pos c4] at H
   have o:=ay c4;clear c4
   (first|rw[o]|(simp only[aW,aX];rw[o])|skip)
   have g:=zA H;clear H;go_wp2;go_meet
   case rel=>exact⟨_,(true),zT,g,⟨by first|omega|exact aI _⟩,by repeat(first|exact aA.refl _|apply aA.step)⟩
  ·rw[if_neg c4] at H
   have o:=a6 c4;clear c4
   (first|rw[o]|(simp only[aW,aX];rw[o])|skip)
   have g:=zA H;clear H;go_wp2;go_meet
   case rel=>exact⟨_,(decide (b>12)),zT,g,⟨by first|omega|exact aI _⟩,by repeat(first|exact aA.refl _|apply aA.step)⟩
 case rest=>
  clear y;obtain⟨i,q,rfl,j,F,⟨S,rfl⟩⟩:=hcut;cases i with
  |zero=>exact absurd j.out (by simp[cG.j0])
  |succ G=>
   have H:=j.out;clear j;simp only[cG.j0] at H;by_cases s:q=true
   ·subst s
    replace H:=zi H;obtain rfl:=aE H;go_wp2;go_ret;exact⟨zT,by repeat(first|exact aA.refl _|apply aA.step)⟩
   ·replace s:=Bool.eq_false_iff.mpr s
    subst s;replace H:=zj H;by_cases p:(l0.length:Int)=b
    ·rw[if_pos p] at H
     obtain⟨I,J⟩:=br p;clear p;have g:=zA H;clear H;go_wp2;go_loopg [5] G (fun i v5 w'=>∃(a:Int),v5= .int .i64 a/\Aside0 (cG.l0 i l0 b a=some r)/\Aside0 (i<=G)/\aA w w')
     case atStart=>exact⟨(0),zT,g,⟨aI _⟩,by repeat(first|exact aA.refl _|apply aA.step)⟩
     case round=>
      clear g;clear I J;obtain⟨a,rfl,j,K,⟨m2,rfl⟩⟩:=hrel;cases gk with
      |zero=>exact absurd j.out (by simp[cG.l0])
      |succ M=>
       have H:=j.out;clear j;simp only[cG.l0] at H;by_cases n:a<b
       ·rw[if_pos n] at H
        have N:=ay n;clear n;by_cases u:0<=a
        ·rw[if_pos u] at H
         have T:=ay u;clear u;by_cases v:a<(l0.length:Int)
         ·rw[if_pos v] at H
          have U:=ay v;clear v;obtain⟨t103,L,H⟩:=zo H;by_cases x:t103=true
          ·subst x
           replace H:=zi H;have g:=zA H;clear H;have l:0<=(a:Int):=ax ‹_›;have m:a<(l0.length:Int):=ax ‹_›;obtain⟨O,z,P⟩:=Kd.bT E.out a l m;cases z;replace l:=eq_true l;replace m:=eq_true m;go_wp2_with (first|((with_reducible refine aC (f:=96) rfl ?_);refine zL (some 25) Tryz.func96 #[.int .i64 (rd l0 a)] ?_;(with_reducible refine(kM.calls (rd l0 a) true _ L.out).mono ?_);rintro e w' ⟨rfl,⟨Q,rfl⟩⟩;refine⟨_,rfl,?_⟩))
           go_roundg M
           case measure=>have:=F.out;have:=K.out;omega
           case rel=>exact⟨(wrap64 (a+1)),zT,g,⟨by have:=F.out;have:=K.out;omega⟩,by repeat(first|exact aA.refl _|apply aA.step)⟩
          ·replace x:=Bool.eq_false_iff.mpr x
           subst x;replace H:=zj H;obtain rfl:=aE H;have l:0<=(a:Int):=ax ‹_›;have m:a<(l0.length:Int):=ax ‹_›;obtain⟨O,z,P⟩:=Kd.bT E.out a l m;cases z;replace l:=eq_true l;replace m:=eq_true m;go_wp2_with (first|((with_reducible refine aC (f:=96) rfl ?_);refine zL (some 25) Tryz.func96 #[.int .i64 (rd l0 a)] ?_;(with_reducible refine(kM.calls (rd l0 a) false _ L.out).mono ?_);rintro e w' ⟨rfl,⟨Q,rfl⟩⟩;refine⟨_,rfl,?_⟩))
           go_ret;exact⟨zT,by repeat(first|exact aA.refl _|apply aA.step)⟩
         ·rw[if_neg v] at H
          exact absurd H (by simp)
        ·rw[if_neg u] at H
         exact absurd H (by simp)
       ·rw[if_neg n] at H
        have N:=a6 n;clear n;obtain rfl:=aE H;go_wp2;go_ret;exact⟨zT,by repeat(first|exact aA.refl _|apply aA.step)⟩
    ·rw[if_neg p] at H
     obtain⟨I,J⟩:=bG p;obtain rfl:=aE H;go_wp2;go_ret;exact⟨zT,by repeat(first|exact aA.refl _|apply aA.step)⟩
theorem bt.Dv {N:Int} {E:List S83} (h:bt N E) (a:E.length<=40):eQ E=true:=by
 unfold eQ;rw[ay a,Bool.true_and];refine List.all_eq_true.2 fun x b=>?_
 have:=h.ok x b;simp[bX] at this⊢;omega
theorem vh {l:List Int} {i:Nat} (h:i<l.length):l.drop i=rd l i::l.drop (i+1):=by
 rw[List.drop_eq_getElem_cons h];simp[rd,bb,bP h]
end Go.Proofs.YtffdiakgjakngaaGreat.P
namespace Go.Proofs.YtffdiakgjakngaaGreat.P
open Go.RowKit Go.Proofs.YtffdiakgjakngaaGreatW.PrintWords Go.Proofs.YtffdiakgjakngaaGreatW.PrintLast Go.Proofs.YtffdiakgjakngaaGreatW.PrintMore
set_option linter.unusedVariables false
set_option linter.unusedSimpArgs false
def fA:List S83->Int
 |[]=>0
 |x::E=>x.f2+fA E
theorem vi:∀(A B:List S83),fA (A++B)=fA A+fA B
 |[],B=>by simp[fA]
 |x::A,B=>by rw[List.cons_append,fA,fA,vi A B];omega
theorem oP {N:Int} {E:List S83} (a:bt N E):∀k,k<=E.length->((cK E k:Nat):Int)=fA (E.take k)
 |0,_=>rfl
 |k+1,hk=>by
  have e:ae E k=E[k]:=by simp[ae,bb,bP (by omega:k<E.length)]
  have:=a.ok E[k] (List.getElem_mem _);simp[bX] at this;rw[List.take_succ_eq_append_getElem (by omega),vi,<-oP a k (by omega),cK,e];simp only[fA];omega
structure Small (n q:Nat) (E:List S83):Prop where
 right:bt n E
 conn:fw n E
 len:E.length<=40
 n1:1<=n
 n5:n<=5
 q:q<n
 size:cK E E.length<=8
namespace Small
variable {n q:Nat} {E:List S83}
end Small
namespace Small
variable {n q:Nat} {E:List S83}
end Small
def mX (x:Int):Bool:=decide (-1048576<=x)&&decide (x<=1048576)
def ig:List Int->Int
 |[]=>0
 |x::l=>if mX x=true then ig l else 2
theorem Dw (x:Int):kM.f x=some (mX x):=by
 unfold kM.f mX;by_cases h:x>= -1048576
 ·rw[if_pos h,ay (show -1048576<=x from h),Bool.true_and]
 ·rw[if_neg h,a6 (show ¬ -1048576<=x from h),Bool.false_and]
theorem vj (c:List Int) (a:c.length<=1000):∀(m i:Nat),i+m=c.length->Ev (fun k=>cG.l0 k c c.length i) (ig (c.drop i))
 |0,i,hi=>by
  refine Ev.of_succ ?_;simp only[cG.l0,if_neg (show ¬(i:Int)<c.length by omega),List.drop_eq_nil_of_le (show c.length<=i by omega),ig];exact Ev.const _
 |m+1,i,hi=>by
  refine Ev.of_succ ?_;simp only[cG.l0,if_pos (show (i:Int)<c.length by omega),if_pos (show (0:Int)<=i by omega),Dw,Option.bind_some,eh (show i<=1000000 by omega)];rw[vh (by omega),ig];by_cases h:mX (rd c i)=true
  ·simp only[if_pos h];exact vj c a m (i+1) (by omega)
  ·simp only[if_neg h];exact Ev.const _
theorem lY (c:List Int) (N:Int) (a:1<=N/\N<=12):Ev (fun k=>cG.f k c N) (if(c.length:Int)=N then ig c else 8):=by
 unfold cG.f;simp only[if_neg (show ¬N<1 by omega)];refine Ev.of_succ ?_;simp only[cG.j0,a6 (show ¬N>12 by omega),Bool.false_eq_true,if_false];by_cases h:(c.length:Int)=N
 ·simp only[if_pos h]
  subst h;exact vj c (by omega) c.length 0 (by omega)
 ·simp only[if_neg h];exact Ev.const _
namespace Small
variable {n q:Nat} {E:List S83}
end Small
namespace Small
variable {n q:Nat} {E:List S83}
end Small
namespace Small
variable {n q:Nat} {E:List S83}
end Small
def gU.f (k:Nat) (a:Int) (b:List (S83)):Option (Int):=(c_.f k a b).bind fun t149=>(if t149=0 then((lL.f k a b).bind fun t150=>(if t150=true then(some 0) else(some 13))) else(some t149))
theorem gU.calls (k:Nat) (i:Int) (j:Option Addr) (l:Nat) (b:List (S83)) (r:Int) (w:World) (s:Kd.C aN w j b.length b) (u:b.length<=l) (h:gU.f k i b=some r):
  Calls Tryz.prog 48 #[.agg #[.int .i64 i,.slice j b.length l]] w fun e w'=>e= .returned (.int .i64 r)/\Below w.heap.size w w':=by
 have E:=Tryz.underlying24;have n:=zA s;have o:=zA u;clear s u;have a:=zA (al w.heap.size w);unfold gU.f at h;have H:=h;clear h;obtain⟨t149,q,H⟩:=zo H;by_cases c3:t149=0
 ·rw[if_pos c3] at H
  obtain⟨B,D⟩:=br c3;clear c3;obtain⟨t150,v,H⟩:=zo H;by_cases p:t150=true
  ·subst p
   replace H:=zi H;obtain rfl:=aE H;go_enter Tryz.func48,Tryz.ntmps48
   go_wp2_with (first|((with_reducible refine aH (N:=1) rfl ?_);refine zX 1 #[.int .i64 i,.slice j b.length l] 24 ?_;intro x hg F m hb;have g:=zA (m);have y:=zG a hg;have z:=zG a hg;replace a:=zS a hb;clear hb m hg;obtain⟨G,I,J,K⟩:=au g)|((with_reducible refine aC (f:=103) rfl ?_);refine zL (some 5) Tryz.func103 #[.agg #[.int .i64 i,.slice j b.length l]] ?_;(with_reducible refine(c_.calls k i _ _ b t149 _ ?af ?ah q.out).mono ?_);(case af=>exact Kd.aq n.out zB);(case ah=>exact o.out);rintro e L ⟨rfl,hb⟩;refine⟨_,rfl,?_⟩;replace g:=zb g hb;replace a:=zS a hb;(try clear hb);obtain⟨M,O,P,Q⟩:=au g)|((with_reducible refine aC (f:=104) rfl ?_);refine zL (some 10) Tryz.func104 #[.agg #[.int .i64 i,.slice j b.length l]] ?_;(with_reducible refine(lL.calls k i _ _ b true _ ?af ?ah v.out).mono ?_);(case af=>exact Kd.aq n.out zB);(case ah=>exact o.out);rintro e R ⟨rfl,hb⟩;refine⟨_,rfl,?_⟩;replace g:=zb g hb;replace a:=zS a hb;(try clear hb)))
   go_ret;exact⟨zE,zB⟩
  ·replace p:=Bool.eq_false_iff.mpr p
   subst p;replace H:=zj H;obtain rfl:=aE H;go_enter Tryz.func48,Tryz.ntmps48
   go_wp2_with (first|((with_reducible refine aH (N:=1) rfl ?_);refine zX 1 #[.int .i64 i,.slice j b.length l] 24 ?_;intro x hg gV m hb;have g:=zA (m);have y:=zG a hg;have z:=zG a hg;replace a:=zS a hb;clear hb m hg;obtain⟨S,T,U,V⟩:=au g)|((with_reducible refine aC (f:=103) rfl ?_);refine zL (some 5) Tryz.func103 #[.agg #[.int .i64 i,.slice j b.length l]] ?_;(with_reducible refine(c_.calls k i _ _ b t149 _ ?af ?ah q.out).mono ?_);(case af=>exact Kd.aq n.out zB);(case ah=>exact o.out);rintro e W ⟨rfl,hb⟩;refine⟨_,rfl,?_⟩;replace g:=zb g hb;replace a:=zS a hb;(try clear hb);obtain⟨X,Y,Z,aa⟩:=au g)|((with_reducible refine aC (f:=104) rfl ?_);refine zL (some 10) Tryz.func104 #[.agg #[.int .i64 i,.slice j b.length l]] ?_;(with_reducible refine(lL.calls k i _ _ b false _ ?af ?ah v.out).mono ?_);(case af=>exact Kd.aq n.out zB);(case ah=>exact o.out);rintro e ab ⟨rfl,hb⟩;refine⟨_,rfl,?_⟩;replace g:=zb g hb;replace a:=zS a hb;(try clear hb)))
   go_ret;exact⟨zE,zB⟩
 ·rw[if_neg c3] at H
  obtain⟨B,D⟩:=bG c3;obtain rfl:=aE H;go_enter Tryz.func48,Tryz.ntmps48
  go_wp2_with (first|((with_reducible refine aH (N:=1) rfl ?_);refine zX 1 #[.int .i64 i,.slice j b.length l] 24 ?_;intro x hg ad m hb;have g:=zA (m);have y:=zG a hg;have z:=zG a hg;replace a:=zS a hb;clear hb m hg;obtain⟨ag,ak,am,an⟩:=au g)|((with_reducible refine aC (f:=103) rfl ?_);refine zL (some 5) Tryz.func103 #[.agg #[.int .i64 i,.slice j b.length l]] ?_;(with_reducible refine(c_.calls k i _ _ b t149 _ ?af ?ah q.out).mono ?_);(case af=>exact Kd.aq n.out zB);(case ah=>exact o.out);rintro e ap ⟨rfl,hb⟩;refine⟨_,rfl,?_⟩;replace g:=zb g hb;replace a:=zS a hb;(try clear hb)))
  go_ret;exact⟨zE,zB⟩
def ij.f (k:Nat) (a:Int) (b:List (S83)) (l1:List Int):Option (Int):=(gU.f k a b).bind fun t152=>(if t152=0 then((cG.f k l1 a).bind fun t153=>(some t153)) else(some t152))
theorem ij.calls (k:Nat) (g:Int) (j:Option Addr) (l:Nat) (b:List (S83)) (n:Option Addr) (c1:Nat) (l1:List Int) (r:Int) (w:World) (o:Kd.C aN w j b.length b) (p:b.length<=l) (q:Kd.C (Kd.int .i64) w n l1.length l1) (s:l1.length<=c1) (h:ij.f k g b l1=some r):
  Calls Tryz.prog 80 #[.agg #[.int .i64 g,.slice j b.length l],.slice n l1.length c1] w fun e w'=>e= .returned (.int .i64 r)/\Below w.heap.size w w':=by
 have J:=Tryz.underlying24;have u:=zA o;have v:=zA p;clear o p;have y:=zA q;have z:=zA s;clear q s;have a:=zA (al w.heap.size w);unfold ij.f at h;have H:=h;clear h;obtain⟨t152,x,H⟩:=zo H;by_cases c4:t152=0
 ·rw[if_pos c4] at H
  obtain⟨B,D⟩:=br c4;clear c4;obtain⟨t153,E,H⟩:=zo H;obtain rfl:=aE H;go_enter Tryz.func80,Tryz.ntmps80
  go_wp2_with (first|((with_reducible refine aH (N:=2) rfl ?_);refine zX 2 #[.int .i64 g,.slice j b.length l] 24 ?_;intro F hg K m hb;have i:=zA (m);have G:=zG a hg;have I:=zG a hg;replace a:=zS a hb;clear hb m hg;obtain⟨L,M,O,P⟩:=au i)|((with_reducible refine aC (f:=48) rfl ?_);refine zL (some 7) Tryz.func48 #[.agg #[.int .i64 g,.slice j b.length l]] ?_;(with_reducible refine(gU.calls k g _ _ b t152 _ ?af ?ah x.out).mono ?_);(case af=>exact Kd.aq u.out zB);(case ah=>exact v.out);rintro e Q ⟨rfl,hb⟩;refine⟨_,rfl,?_⟩;replace i:=zb i hb;replace a:=zS a hb;(try clear hb);obtain⟨R,S,T,U⟩:=au i)|((with_reducible refine aC (f:=42) rfl ?_);refine zL (some 14) Tryz.func42 #[.slice n l1.length c1,.int .i64 g] ?_;(with_reducible refine(cG.calls k _ _ l1 g t153 _ ?af ?ah E.out).mono ?_);(case af=>exact Kd.aq y.out zB);(case ah=>exact z.out);rintro e w' ⟨rfl,⟨V,rfl⟩⟩;refine⟨_,rfl,?_⟩))
  go_ret;exact⟨zE,zB⟩
 ·rw[if_neg c4] at H
  obtain⟨B,D⟩:=bG c4;obtain rfl:=aE H;go_enter Tryz.func80,Tryz.ntmps80
  go_wp2_with (first|((with_reducible refine aH (N:=2) rfl ?_);refine zX 2 #[.int .i64 g,.slice j b.length l] 24 ?_;intro F hg W m hb;have i:=zA (m);have G:=zG a hg;have I:=zG a hg;replace a:=zS a hb;clear hb m hg;obtain⟨X,Y,Z,aa⟩:=au i)|((with_reducible refine aC (f:=48) rfl ?_);refine zL (some 7) Tryz.func48 #[.agg #[.int .i64 g,.slice j b.length l]] ?_;(with_reducible refine(gU.calls k g _ _ b t152 _ ?af ?ah x.out).mono ?_);(case af=>exact Kd.aq u.out zB);(case ah=>exact v.out);rintro e ab ⟨rfl,hb⟩;refine⟨_,rfl,?_⟩;replace i:=zb i hb;replace a:=zS a hb;(try clear hb)))
  go_ret;exact⟨zE,zB⟩
def cU.l0:Nat->List Int->Int->Int->Option (Int)
 |0,_,_,_=>none
 |k+1,a,x3,x4=>if x4<(a.length:Int) then(if 0<=x4 then(cU.l0 k a (wrap64 (x3+(rd a x4))) (wrap64 (x4+1))) else(none)) else(some x3)
def cU.f (k:Nat) (l0:List Int):Option (Int):=cU.l0 k l0 0 0
theorem cU.calls (k:Nat) (A0:Option Addr) (c0:Nat) (l0:List Int) (r:Int) (w:World) (m:Kd.C (Kd.int .i64) w A0 l0.length l0) (n:l0.length<=c0) (h:cU.f k l0=some r):
  Calls Tryz.prog 22 #[.slice A0 l0.length c0] w fun e w'=>e= .returned (.int .i64 r)/\aA w w':=by
 have q:=zA m;have x:=zA n;clear m n;have H:(cU.l0 k l0 0 0)=some r:=h;clear h;have b:=zA H;clear H;go_enter Tryz.func22,Tryz.ntmps22
 go_wp2;go_loopg [3,4] k (fun o v3 v4 w'=>∃(g:Int) (a:Int),v3= .int .i64 g/\v4= .int .i64 a/\Aside0 (cU.l0 o l0 g a=some r)/\Aside0 (o<=k)/\aA w w')
 case atStart=>exact⟨(0),(0),zT,zT,b,⟨aI _⟩,by repeat(first|exact aA.refl _|apply aA.step)⟩
 case round=>
  clear b;obtain⟨g,a,rfl,rfl,i,p,⟨m1,rfl⟩⟩:=hrel;cases gk with
  |zero=>exact absurd i.out (by simp[cU.l0])
  |succ s=>
   have H:=i.out;clear i;simp only[cU.l0] at H;by_cases c2:a<(l0.length:Int)
   ·rw[if_pos c2] at H
    have u:=ay c2;clear c2;by_cases c3:0<=a
    ·rw[if_pos c3] at H
     have y:=ay c3;clear c3;have b:=zA H;clear H;have j:0<=(a:Int):=ax ‹_›;have l:a<(l0.length:Int):=ax ‹_›;obtain⟨z,v,B⟩:=Kd.bT q.out a j l;cases v;replace j:=eq_true j;replace l:=eq_true l;go_wp2;go_roundg s
     case measure=>have:=p.out;omega
     case rel=>exact⟨(wrap64 (g+(rd l0 a))),(wrap64 (a+1)),zT,zT,b,⟨by have:=p.out;omega⟩,by repeat(first|exact aA.refl _|apply aA.step)⟩
    ·rw[if_neg c3] at H
     exact absurd H (by simp)
   ·rw[if_neg c2] at H
    have u:=a6 c2;clear c2;obtain rfl:=aE H;go_wp2;go_ret;exact⟨zT,by repeat(first|exact aA.refl _|apply aA.step)⟩
def fB.l0:Nat->List Int->Int->Option (Bool)
 |0,_,_=>none
 |k+1,x1,a=>if a<(x1.length:Int) then(if 0<=a then(if(rd x1 a)<(-100) then(some false) else(if(rd x1 a)>100 then(some false) else(fB.l0 k x1 (wrap64 (a+1))))) else(none)) else(some true)
def fB.f (k:Nat) (a:Int) (b:List (S83)) (l1:List Int):Option (Bool):=if(l1.length:Int)>100 then(some false) else((cG.f k l1 a).bind fun t105=>(if t105=0 then(fB.l0 k l1 0) else(some true)))
theorem fB.calls (k:Nat) (l:Int) (v:Option Addr) (x:Nat) (m:List (S83)) (F:Option Addr) (c1:Nat) (l1:List Int) (r:Bool) (w:World) (P:Kd.C aN w v m.length m) (Q:m.length<=x) (R:Kd.C (Kd.int .i64) w F l1.length l1) (S:l1.length<=c1) (h:fB.f k l m l1=some r):
  Calls Tryz.prog 38 #[.agg #[.int .i64 l,.slice v m.length x],.slice F l1.length c1] w fun e w'=>e= .returned (.bool r)/\Below w.heap.size w w':=by
 have aL:=Tryz.underlying24;have aO:=zA P;have aP:=zA Q;clear P Q;have o:=zA R;have T:=zA S;clear R S;have b:=zA (al w.heap.size w);unfold fB.f at h;have H:=h;clear h;by_cases c3:(l1.length:Int)>100
 ·rw[if_pos c3] at H
  have U:=ay c3;have V:decide (100<l1.length)=true:=ay (by omega);clear c3;obtain rfl:=aE H;go_enter Tryz.func38,Tryz.ntmps38
  go_wp2_with (first|((with_reducible refine aH (N:=2) rfl ?_);refine zX 2 #[.int .i64 l,.slice v m.length x] 24 ?_;intro K hg w4 n hb;have p:=zA (n);have W:=zG b hg;have X:=zG b hg;replace b:=zS b hb;clear hb n hg))
  go_ret;exact⟨zE,zB⟩
 ·rw[if_neg c3] at H
  have U:=a6 c3;have V:decide (100<l1.length)=false:=a6 (by omega);clear c3;obtain⟨t105,Y,H⟩:=zo H;by_cases D:t105=0
  ·rw[if_pos D] at H
   obtain⟨Z,aa⟩:=br D;clear D;have G:=zA H;clear H;go_enter Tryz.func38,Tryz.ntmps38
   go_wp2_with (first|((with_reducible refine aH (N:=2) rfl ?_);refine zX 2 #[.int .i64 l,.slice v m.length x] 24 ?_;intro K hg w7 n hb;have p:=zA (n);have W:=zG b hg;have X:=zG b hg;replace b:=zS b hb;clear hb n hg;obtain⟨ag,ak,am,an⟩:=au p)|((with_reducible refine aC (f:=42) rfl ?_);refine zL (some 12) Tryz.func42 #[.slice F l1.length c1,.int .i64 l] ?_;(with_reducible refine(cG.calls k _ _ l1 l t105 _ ?af ?ah Y.out).mono ?_);(case af=>exact Kd.aq o.out zB);(case ah=>exact T.out);rintro e w' ⟨rfl,⟨nd,rfl⟩⟩;refine⟨_,rfl,?_⟩))
   go_loopg [5] k (fun kq v5 w'=>∃(a:Int),v5= .int .i64 a/\Aside0 (fB.l0 kq l1 a=some r)/\Aside0 (kq<=k)/\Aside0 (w'.heap[K]? =some (.cells #[.int .i64 l,(.slice v m.length x)] 24 (0,0)))/\Aside0 (Below w.heap.size w w'))
   case atStart=>exact⟨(0),zT,G,⟨aI _⟩,⟨zK p⟩,⟨zB⟩⟩
   case round=>
    clear G;clear U V Z aa ag ak am an;obtain⟨a,rfl,L,ad,p,b⟩:=hrel;cases gk with
    |zero=>exact absurd L.out (by simp[fB.l0])
    |succ k1=>
     have H:=L.out;clear L;simp only[fB.l0] at H;by_cases y:a<(l1.length:Int)
     ·rw[if_pos y] at H
      have av:=ay y;clear y;by_cases I:0<=a
      ·rw[if_pos I] at H
       have a1:=ay I;clear I;by_cases z:(rd l1 a)<(-100)
       ·rw[if_pos z] at H
        have aB:=ay z;clear z;obtain rfl:=aE H;have g:0<=(a:Int):=ax ‹_›;have i:a<(l1.length:Int):=ax ‹_›;obtain⟨J,E,j⟩:=Kd.bT o.out a g i;cases E;replace j:=(b.out.cell (a8 w _ j)).trans j;replace g:=eq_true g;replace i:=eq_true i;go_wp2;go_ret;exact⟨zE,zB⟩
       ·rw[if_neg z] at H
        have aB:=a6 z;clear z;by_cases B:(rd l1 a)>100
        ·rw[if_pos B] at H
         have aF:=ay B;clear B;obtain rfl:=aE H;have g:0<=(a:Int):=ax ‹_›;have i:a<(l1.length:Int):=ax ‹_›;obtain⟨J,E,j⟩:=Kd.bT o.out a g i;cases E;replace j:=(b.out.cell (a8 w _ j)).trans j;replace g:=eq_true g;replace i:=eq_true i;have q:0<=(a:Int):=ax ‹_›;have s:a<(l1.length:Int):=ax ‹_›;obtain⟨M,O,u⟩:=Kd.bT o.out a q s;obtain rfl:J=M:=(by injection O);replace u:=(b.out.cell (a8 w _ u)).trans u;replace q:=eq_true q;replace s:=eq_true s;go_wp2;go_ret;exact⟨zE,zB⟩
        ·rw[if_neg B] at H
         have aF:=a6 B;clear B;have G:=zA H;clear H;have g:0<=(a:Int):=ax ‹_›;have i:a<(l1.length:Int):=ax ‹_›;obtain⟨J,E,j⟩:=Kd.bT o.out a g i;cases E;replace j:=(b.out.cell (a8 w _ j)).trans j;replace g:=eq_true g;replace i:=eq_true i;have q:0<=(a:Int):=ax ‹_›;have s:a<(l1.length:Int):=ax ‹_›;obtain⟨M,O,u⟩:=Kd.bT o.out a q s;obtain rfl:J=M:=(by injection O);replace u:=(b.out.cell (a8 w _ u)).trans u;replace q:=eq_true q;replace s:=eq_true s;go_wp2;go_roundg k1
         case measure=>have:=ad.out;omega
         case rel=>exact⟨(wrap64 (a+1)),zT,G,⟨by have:=ad.out;omega⟩,⟨zK p⟩,⟨zB⟩⟩
      ·rw[if_neg I] at H
       exact absurd H (by simp)
     ·rw[if_neg y] at H
      have av:=a6 y;clear y;obtain rfl:=aE H;go_wp2;go_ret;exact⟨zE,zB⟩
  ·rw[if_neg D] at H
   obtain⟨Z,aa⟩:=bG D;obtain rfl:=aE H;go_enter Tryz.func38,Tryz.ntmps38
   go_wp2_with (first|((with_reducible refine aH (N:=2) rfl ?_);refine zX 2 #[.int .i64 l,.slice v m.length x] 24 ?_;intro K hg a2 n hb;have p:=zA (n);have W:=zG b hg;have X:=zG b hg;replace b:=zS b hb;clear hb n hg;obtain⟨a3,a4,a5,a9⟩:=au p)|((with_reducible refine aC (f:=42) rfl ?_);refine zL (some 12) Tryz.func42 #[.slice F l1.length c1,.int .i64 l] ?_;(with_reducible refine(cG.calls k _ _ l1 l t105 _ ?af ?ah Y.out).mono ?_);(case af=>exact Kd.aq o.out zB);(case ah=>exact T.out);rintro e w' ⟨rfl,⟨nd,rfl⟩⟩;refine⟨_,rfl,?_⟩))
   go_ret;exact⟨zE,zB⟩
end Go.Proofs.YtffdiakgjakngaaGreat.P


namespace Go.Proofs.YtffdiakgjakngaaGreat.P
open Go.RowKit Go.Proofs.YtffdiakgjakngaaGreatW.PrintWords Go.Proofs.YtffdiakgjakngaaGreatW.PrintLast Go.Proofs.YtffdiakgjakngaaGreatW.PrintMore
set_option linter.unusedVariables false
set_option linter.unusedSimpArgs false
set_option maxHeartbeats 8000000
set_option maxRecDepth 100000
def kN.f (k:Nat) (a:Int) (b:List (S83)) (e:Int) (a2:Int):Option (Bool):=if(b.length:Int)>40 then(some false) else((c_.f k a b).bind fun t119=>(if t119=0 then(if a<=e then((lQ.f a b).bind fun t120=>(some (decide (t120<=a2)))) else(some false)) else(some true)))
theorem kN.calls (k:Nat) (i:Int) (l:Option Addr) (m:Nat) (b:List (S83)) (s:Int) (a2:Int) (r:Bool) (w:World) (z:Kd.C aN w l b.length b) (B:b.length<=m) (h:kN.f k i b s a2=some r):
  Calls Tryz.prog 97 #[.agg #[.int .i64 i,.slice l b.length m],.int .i64 s,.int .i64 a2] w fun e w'=>e= .returned (.bool r)/\Below w.heap.size w w':=by
 have K:=Tryz.underlying24;have p:=zA z;have q:=zA B;clear z B;have a:=zA (al w.heap.size w);unfold kN.f at h;have H:=h;clear h;by_cases c4:(b.length:Int)>40
 ·rw[if_pos c4] at H
  have D:=ay c4;have E:decide (40<b.length)=true:=ay (by omega);clear c4;obtain rfl:=aE H;go_enter Tryz.func97,Tryz.ntmps97
  go_wp2_with (first|((with_reducible refine aH (N:=3) rfl ?_);refine zX 3 #[.int .i64 i,.slice l b.length m] 24 ?_;intro u hg L j hb;have g:=zA (j);have v:=zG a hg;have x:=zG a hg;replace a:=zS a hb;clear hb j hg;obtain⟨M,O,P,Q⟩:=au g))
  go_ret;exact⟨zE,zB⟩
 ·rw[if_neg c4] at H
  have D:=a6 c4;have E:decide (40<b.length)=false:=a6 (by omega);clear c4;obtain⟨t119,y,H⟩:=zo H;by_cases o:t119=0
  ·rw[if_pos o] at H
   obtain⟨F,G⟩:=br o;clear o;by_cases n:i<=s
   ·rw[if_pos n] at H
    have I:=ay n;clear n;obtain⟨t120,J,H⟩:=zo H;obtain rfl:=aE H;go_enter Tryz.func97,Tryz.ntmps97
    go_wp2_with (first|((with_reducible refine aH (N:=3) rfl ?_);refine zX 3 #[.int .i64 i,.slice l b.length m] 24 ?_;intro u hg gV j hb;have g:=zA (j);have v:=zG a hg;have x:=zG a hg;replace a:=zS a hb;clear hb j hg;obtain⟨R,S,T,U⟩:=au g)|((with_reducible refine aC (f:=103) rfl ?_);refine zL (some 12) Tryz.func103 #[.agg #[.int .i64 i,.slice l b.length m]] ?_;(with_reducible refine(c_.calls k i _ _ b t119 _ ?af ?ah y.out).mono ?_);(case af=>exact Kd.aq p.out zB);(case ah=>exact q.out);rintro e V ⟨rfl,hb⟩;refine⟨_,rfl,?_⟩;replace g:=zb g hb;replace a:=zS a hb;(try clear hb);obtain⟨W,X,Y,Z⟩:=au g)|(go_at_call 73;(with_reducible refine(lQ.calls i _ _ b t120 _ ?af ?ah J.out).mono ?_);(case af=>exact Kd.aq p.out zB);(case ah=>exact q.out);rintro e aa ⟨rfl,hb⟩;replace g:=zb g hb;replace a:=zS a hb;(try clear hb)))
    go_ret;exact⟨zE,zB⟩
   ·rw[if_neg n] at H
    have I:=a6 n;clear n;obtain rfl:=aE H;go_enter Tryz.func97,Tryz.ntmps97
    go_wp2_with (first|((with_reducible refine aH (N:=3) rfl ?_);refine zX 3 #[.int .i64 i,.slice l b.length m] 24 ?_;intro u hg ab j hb;have g:=zA (j);have v:=zG a hg;have x:=zG a hg;replace a:=zS a hb;clear hb j hg;obtain⟨ad,ag,ak,am⟩:=au g)|((with_reducible refine aC (f:=103) rfl ?_);refine zL (some 12) Tryz.func103 #[.agg #[.int .i64 i,.slice l b.length m]] ?_;(with_reducible refine(c_.calls k i _ _ b t119 _ ?af ?ah y.out).mono ?_);(case af=>exact Kd.aq p.out zB);(case ah=>exact q.out);rintro e an ⟨rfl,hb⟩;refine⟨_,rfl,?_⟩;replace g:=zb g hb;replace a:=zS a hb;(try clear hb);obtain⟨ap,ar,av,aB⟩:=au g))
    go_ret;exact⟨zE,zB⟩
  ·rw[if_neg o] at H
   obtain⟨F,G⟩:=bG o;obtain rfl:=aE H;go_enter Tryz.func97,Tryz.ntmps97
   go_wp2_with (first|((with_reducible refine aH (N:=3) rfl ?_);refine zX 3 #[.int .i64 i,.slice l b.length m] 24 ?_;intro u hg aF j hb;have g:=zA (j);have v:=zG a hg;have x:=zG a hg;replace a:=zS a hb;clear hb j hg;obtain⟨aL,aO,aP,aS⟩:=au g)|((with_reducible refine aC (f:=103) rfl ?_);refine zL (some 12) Tryz.func103 #[.agg #[.int .i64 i,.slice l b.length m]] ?_;(with_reducible refine(c_.calls k i _ _ b t119 _ ?af ?ah y.out).mono ?_);(case af=>exact Kd.aq p.out zB);(case ah=>exact q.out);rintro e a0 ⟨rfl,hb⟩;refine⟨_,rfl,?_⟩;replace g:=zb g hb;replace a:=zS a hb;(try clear hb)))
   go_ret;exact⟨zE,zB⟩
def kO.f (k:Nat) (a:Int) (b:List (S83)):Option (Bool):=(kN.f k a b 5 7).bind fun t122=>(some t122)
theorem kO.calls (k:Nat) (b:Int) (i:Option Addr) (j:Nat) (a:List (S83)) (r:Bool) (w:World) (m:Kd.C aN w i a.length a) (n:a.length<=j) (h:kO.f k b a=some r):
  Calls Tryz.prog 44 #[.agg #[.int .i64 b,.slice i a.length j]] w fun e w'=>e= .returned (.bool r)/\Below w.heap.size w w':=by
 have u:=Tryz.underlying24;have p:=zA m;have q:=zA n;clear m n;have g:=zA (al w.heap.size w);have H:((kN.f k b a 5 7).bind fun t122=>(some t122))=some r:=h;clear h;obtain⟨t122,s,H⟩:=zo H;obtain rfl:=aE H;go_enter Tryz.func44,Tryz.ntmps44
 go_wp2_with (first|((with_reducible refine aH (N:=1) rfl ?_);refine zX 1 #[.int .i64 b,.slice i a.length j] 24 ?_;intro v hg w3 o hb;have l:=zA (o);have x:=zG g hg;have y:=zG g hg;replace g:=zS g hb;clear hb o hg;obtain⟨z,B,D,E⟩:=au l)|((with_reducible refine aC (f:=97) rfl ?_);refine zL (some 4) Tryz.func97 #[.agg #[.int .i64 b,.slice i a.length j],.int .i64 5,.int .i64 7] ?_;(with_reducible refine(kN.calls k b _ _ a 5 7 t122 _ ?af ?ah s.out).mono ?_);(case af=>exact Kd.aq p.out zB);(case ah=>exact q.out);rintro e F ⟨rfl,hb⟩;refine⟨_,rfl,?_⟩;replace l:=zb l hb;replace g:=zS g hb;(try clear hb)))
 go_ret;exact⟨zE,zB⟩
def en.j0:Nat->List Int->Int->Bool->Int->List (S83)->Option (Bool)
 |0,_,_,_,_,_=>none
 |k+1,x1,x2,e,a,b=>if e=true then(some false) else((ij.f k a b x1).bind fun t156=>(if t156=0 then((fB.f k a b x1).bind fun t157=>(if t157=true then((cU.f k x1).bind fun t158=>(some (decide (t158<=x2)))) else(some false))) else(some true)))
def en.f (k:Nat) (a:Int) (b:List (S83)) (l1:List Int) (a2:Int):Option (Bool):=(kO.f k a b).bind fun t155=>(if t155=true then(en.j0 k l1 a2 (decide ((l1.length:Int)>100)) a b) else(en.j0 k l1 a2 true a b))
theorem en.calls (k:Nat) (i:Int) (j:Option Addr) (l:Nat) (b:List (S83)) (s:Option Addr) (c1:Nat) (l1:List Int) (a2:Int) (r:Bool) (w:World) (I:Kd.C aN w j b.length b) (J:b.length<=l) (K:Kd.C (Kd.int .i64) w s l1.length l1) (L:l1.length<=c1) (h:en.f k i b l1 a2=some r):
  Calls Tryz.prog 79 #[.agg #[.int .i64 i,.slice j b.length l],.slice s l1.length c1,.int .i64 a2] w fun e w'=>e= .returned (.bool r)/\Below w.heap.size w w':=by
 have V:=Tryz.underlying24;have m:=zA I;have n:=zA J;clear I J;have o:=zA K;have p:=zA L;clear K L;have g:=zA (al w.heap.size w);unfold en.f at h;have H:=h;clear h;have D:=zA H;clear H;go_enter Tryz.func79,Tryz.ntmps79
 go_upto_region 1 with (first|((with_reducible refine aH (N:=3) rfl ?_);(try(refine dt (by rfl) ?_;dsimp only));refine zX 3 #[.int .i64 i,.slice j b.length l] 24 ?_;intro Q hg W M hb;have a:=zA (M);have X:=zG g hg;have Y:=zG g hg;replace g:=zS g hb;clear hb M hg))
 (try simp only[Act.put,List.setIfInBounds_toArray,List.set_cons_zero,List.set_cons_succ])
 go_cut [14] (fun R wc=>∃(v:Nat) (x:Bool),R= .bool x/\Aside0 (en.j0 v l1 a2 x i b=some r)/\Aside0 (v<=k)/\Aside0 (wc.heap[Q]? =some (.cells #[.int .i64 i,(.slice j b.length l)] 24 (0,0)))/\Aside0 (Below w.heap.size w wc))
 case first=>
  have H:=D.out;clear D;obtain⟨t155,O,H⟩:=zo H;by_cases y:t155=true
  ·subst y
   replace H:=zi H;have E:=zA H;clear H;obtain⟨Z,aa,ab,ad⟩:=au a;go_wp2_with (first|((with_reducible refine aC (f:=44) rfl ?_);refine zL (some 8) Tryz.func44 #[.agg #[.int .i64 i,.slice j b.length l]] ?_;(with_reducible refine(kO.calls k i _ _ b true _ ?af ?ah O.out).mono ?_);(case af=>exact Kd.aq m.out zB);(case ah=>exact n.out);rintro e w9 ⟨rfl,hb⟩;refine⟨_,rfl,?_⟩;replace a:=zb a hb;replace g:=zS g hb;(try clear hb)))
   go_meet
   case rel=>exact⟨_,(decide ((l1.length:Int)>100)),zT,E,⟨by first|omega|exact aI _⟩,⟨zK a⟩,⟨zB⟩⟩
  ·replace y:=Bool.eq_false_iff.mpr y
   subst y;replace H:=zj H;have E:=zA H;clear H;obtain⟨ak,am,an,ap⟩:=au a;go_wp2_with (first|((with_reducible refine aC (f:=44) rfl ?_);refine zL (some 8) Tryz.func44 #[.agg #[.int .i64 i,.slice j b.length l]] ?_;(with_reducible refine(kO.calls k i _ _ b false _ ?af ?ah O.out).mono ?_);(case af=>exact Kd.aq m.out zB);(case ah=>exact n.out);rintro e gV ⟨rfl,hb⟩;refine⟨_,rfl,?_⟩;replace a:=zb a hb;replace g:=zS g hb;(try clear hb)))
   go_meet
   case rel=>exact⟨_,(true),zT,E,⟨by first|omega|exact aI _⟩,⟨zK a⟩,⟨zB⟩⟩
 case rest=>
  clear D;obtain⟨v,x,rfl,F,ar,a,g⟩:=hcut;cases v with
  |zero=>exact absurd F.out (by simp[en.j0])
  |succ q=>
   have H:=F.out;clear F;simp only[en.j0] at H;by_cases z:x=true
   ·subst z
    replace H:=zi H;obtain rfl:=aE H;go_wp2;go_ret;exact⟨zE,zB⟩
   ·replace z:=Bool.eq_false_iff.mpr z
    subst z;replace H:=zj H;obtain⟨t156,G,H⟩:=zo H;by_cases u:t156=0
    ·rw[if_pos u] at H
     obtain⟨S,T⟩:=br u;clear u;obtain⟨t157,P,H⟩:=zo H;by_cases B:t157=true
     ·subst B
      replace H:=zi H;obtain⟨t158,U,H⟩:=zo H;obtain rfl:=aE H;obtain⟨av,aB,aF,aL⟩:=au a;go_wp2_with (first|((with_reducible refine aC (f:=80) rfl ?_);refine zL (some 17) Tryz.func80 #[.agg #[.int .i64 i,.slice j b.length l],.slice s l1.length c1] ?_;(with_reducible refine(ij.calls q i _ _ b _ _ l1 t156 _ ?af ?ah ?aT ?aU G.out).mono ?_);(case af=>exact Kd.aq m.out zB);(case ah=>exact n.out);(case aT=>exact Kd.aq o.out zB);(case aU=>exact p.out);rintro e aO ⟨rfl,hb⟩;refine⟨_,rfl,?_⟩;replace a:=zb a hb;replace g:=zS g hb;(try clear hb);obtain⟨aP,aS,a0,a1⟩:=au a)|(go_at_call 38;(with_reducible refine(fB.calls q i _ _ b _ _ l1 true _ ?af ?ah ?aT ?aU P.out).mono ?_);(case af=>exact Kd.aq m.out zB);(case ah=>exact n.out);(case aT=>exact Kd.aq o.out zB);(case aU=>exact p.out);rintro e a3 ⟨rfl,hb⟩;replace a:=zb a hb;replace g:=zS g hb;(try clear hb))|(go_at_call 22;(with_reducible refine(cU.calls q _ _ l1 t158 _ ?af ?ah U.out).mono ?_);(case af=>exact Kd.aq o.out zB);(case ah=>exact p.out);rintro e w' ⟨rfl,⟨nd,rfl⟩⟩))
      go_ret;exact⟨zE,zB⟩
     ·replace B:=Bool.eq_false_iff.mpr B
      subst B;replace H:=zj H;obtain rfl:=aE H;obtain⟨a5,a9,be,bf⟩:=au a;go_wp2_with (first|((with_reducible refine aC (f:=80) rfl ?_);refine zL (some 17) Tryz.func80 #[.agg #[.int .i64 i,.slice j b.length l],.slice s l1.length c1] ?_;(with_reducible refine(ij.calls q i _ _ b _ _ l1 t156 _ ?af ?ah ?aT ?aU G.out).mono ?_);(case af=>exact Kd.aq m.out zB);(case ah=>exact n.out);(case aT=>exact Kd.aq o.out zB);(case aU=>exact p.out);rintro e bg ⟨rfl,hb⟩;refine⟨_,rfl,?_⟩;replace a:=zb a hb;replace g:=zS g hb;(try clear hb);obtain⟨bi,bk,bn,bo⟩:=au a)|(go_at_call 38;(with_reducible refine(fB.calls q i _ _ b _ _ l1 false _ ?af ?ah ?aT ?aU P.out).mono ?_);(case af=>exact Kd.aq m.out zB);(case ah=>exact n.out);(case aT=>exact Kd.aq o.out zB);(case aU=>exact p.out);rintro e bv ⟨rfl,hb⟩;replace a:=zb a hb;replace g:=zS g hb;(try clear hb)))
      go_ret;exact⟨zE,zB⟩
    ·rw[if_neg u] at H
     obtain⟨S,T⟩:=bG u;obtain rfl:=aE H;obtain⟨bw,bx,b0,b1⟩:=au a;go_wp2_with (first|((with_reducible refine aC (f:=80) rfl ?_);refine zL (some 17) Tryz.func80 #[.agg #[.int .i64 i,.slice j b.length l],.slice s l1.length c1] ?_;(with_reducible refine(ij.calls q i _ _ b _ _ l1 t156 _ ?af ?ah ?aT ?aU G.out).mono ?_);(case af=>exact Kd.aq m.out zB);(case ah=>exact n.out);(case aT=>exact Kd.aq o.out zB);(case aU=>exact p.out);rintro e b2 ⟨rfl,hb⟩;refine⟨_,rfl,?_⟩;replace a:=zb a hb;replace g:=zS g hb;(try clear hb)))
     go_ret;exact⟨zE,zB⟩
def fH.l0:Nat->Int->Int->Int->Int->List (S83)->Option (Int)
 |0,_,_,_,_,_=>none
 |k+1,x1,e,a,b,g=>if a<b then(if a=x1 then(fH.l0 k x1 e (wrap64 (a+1)) b g) else((dN.f k b g a x1).bind fun t160=>(fH.l0 k x1 (wrap64 (e+t160)) (wrap64 (a+1)) b g))) else(some e)
def fH.f (k:Nat) (a:Int) (b:List (S83)) (e:Int):Option (Int):=fH.l0 k e 0 0 a b
theorem fH.calls (k:Nat) (b:Int) (n:Option Addr) (o:Nat) (a:List (S83)) (j:Int) (r:Int) (w:World) (x:Kd.C aN w n a.length a) (y:a.length<=o) (h:fH.f k b a j=some r):
  Calls Tryz.prog 144 #[.agg #[.int .i64 b,.slice n a.length o],.int .i64 j] w fun e w'=>e= .returned (.int .i64 r)/\Below w.heap.size w w':=by
 have L:=Tryz.underlying24;have D:=zA x;have E:=zA y;clear x y;have l:=zA (al w.heap.size w);have H:(fH.l0 k j 0 0 b a)=some r:=h;clear h;have m:=zA H;clear H;go_enter Tryz.func144,Tryz.ntmps144
 go_wp2_with (first|((with_reducible refine aH (N:=2) rfl ?_);refine zX 2 #[.int .i64 b,.slice n a.length o] 24 ?_;intro F hg w3 z hb;have g:=zA (z);have M:=zG l hg;have O:=zG l hg;replace l:=zS l hb;clear hb z hg))
 go_loopg [5,6] k (fun B v5 v6 w'=>∃(p:Int) (i:Int),v5= .int .i64 p/\v6= .int .i64 i/\Aside0 (fH.l0 B j p i b a=some r)/\Aside0 (B<=k)/\Aside0 (w'.heap[F]? =some (.cells #[.int .i64 b,(.slice n a.length o)] 24 (0,0)))/\Aside0 (Below w.heap.size w w'))
 case atStart=>exact⟨(0),(0),zT,zT,m,⟨aI _⟩,⟨zK g⟩,⟨zB⟩⟩
 case round=>
  clear m;obtain⟨p,i,rfl,rfl,u,s,g,l⟩:=hrel;cases gk with
  |zero=>exact absurd u.out (by simp[fH.l0])
  |succ v=>
   have H:=u.out;clear u;simp only[fH.l0] at H;by_cases c4:i<b
   ·rw[if_pos c4] at H
    have G:=ay c4;clear c4;by_cases q:i=j
    ·rw[if_pos q] at H
     obtain⟨I,J⟩:=br q;clear q;have m:=zA H;clear H;obtain⟨P,Q,R,S⟩:=au g;go_wp2;go_roundg v
     case measure=>have:=s.out;omega
     case rel=>exact⟨(p),(wrap64 (i+1)),zT,zT,m,⟨by have:=s.out;omega⟩,⟨zK g⟩,⟨zB⟩⟩
    ·rw[if_neg q] at H
     obtain⟨I,J⟩:=bG q;obtain⟨t160,K,H⟩:=zo H;have m:=zA H;clear H;obtain⟨T,U,V,W⟩:=au g;go_wp2_with (first|((with_reducible refine aC (f:=147) rfl ?_);refine zL (some 20) Tryz.func147 #[.agg #[.int .i64 b,.slice n a.length o],.int .i64 i,.int .i64 j] ?_;(with_reducible refine(dN.calls v b _ _ a i j t160 _ ?af ?ah K.out).mono ?_);(case af=>exact Kd.aq D.out zB);(case ah=>exact E.out);rintro e X ⟨rfl,hb⟩;refine⟨_,rfl,?_⟩;replace g:=zb g hb;replace l:=zS l hb;(try clear hb)))
     go_roundg v
     case measure=>have:=s.out;omega
     case rel=>exact⟨(wrap64 (p+t160)),(wrap64 (i+1)),zT,zT,m,⟨by have:=s.out;omega⟩,⟨zK g⟩,⟨zB⟩⟩
   ·rw[if_neg c4] at H
    have G:=a6 c4;clear c4;obtain rfl:=aE H;obtain⟨Y,Z,aa,ab⟩:=au g;go_wp2;go_ret;exact⟨zE,zB⟩
def fI.l0:Nat->List Int->Int->Int->List (S83)->Option (List Int)
 |0,_,_,_,_=>none
 |k+1,x3,x4,a,b=>if x4<a then((fH.f k a b x4).bind fun t162=>(if x3.length<17592186044416 then(fI.l0 k (x3++[wrap64 (t162-2)]) (wrap64 (x4+1)) a b) else(none))) else(some x3)
def fI.f (k:Nat) (a:Int) (b:List (S83)):Option (List Int):=fI.l0 k ([]:List Int) 0 a b
theorem fI.calls (k:Nat) (g:Int) (o:Option Addr) (p:Nat) (a:List (S83)) (r:List Int) (w:World) (z:Kd.C aN w o a.length a) (B:a.length<=p) (h:fI.f k g a=some r):
  Calls Tryz.prog 90 #[.agg #[.int .i64 g,.slice o a.length p]] w fun e w'=>∃D:Value,e= .returned (D)/\Kd.R (Kd.int .i64) 3 w' w.heap.size (fun _=>True) D r/\Below w.heap.size w w':=by
 have V:=Tryz.underlying24;have J:=zA z;have K:=zA B;clear z B;have j:=zA (al w.heap.size w);have H:(fI.l0 k ([]:List Int) 0 g a)=some r:=h;clear h;have q:=zA H;clear H;go_enter Tryz.func90,Tryz.ntmps90
 go_wp2_with (first|((with_reducible refine aH (N:=1) rfl ?_);refine zX 1 #[.int .i64 g,.slice o a.length p] 24 ?_;intro L hg w2 E hb;have i:=zA (E);have W:=zG j hg;have X:=zG j hg;replace j:=zS j hb;clear hb E hg))
 go_loopg [3,4] k (fun F v3 v4 w'=>∃(m:List Int) (l:Int),v4= .int .i64 l/\Aside0 (fI.l0 F m l g a=some r)/\Aside0 (F<=k)/\Aside0 (Kd.R (Kd.int .i64) 3 w' w.heap.size (fun _=>True) v3 m)/\Aside0 (w'.heap[L]? =some (.cells #[.int .i64 g,(.slice o a.length p)] 24 (0,0)))/\Aside0 (Below w.heap.size w w'))
 case atStart=>exact⟨(([]:List Int)),(0),zT,q,⟨aI _⟩,⟨by first|exact Kd.dc _ _ _ _ _|exact Kd.gA _ _ _ _ _|exact Kd.V_nil _ _ _ _ _|exact Kd.Q_nil _ _ _ _ _|exact Kd.fQ _ _ _ _ _⟩,⟨zK i⟩,⟨zB⟩⟩
 case round=>
  clear q;obtain⟨m,l,rfl,u,G,n,i,j⟩:=hrel;cases gk with
  |zero=>exact absurd u.out (by simp[fI.l0])
  |succ v=>
   have H:=u.out;clear u;simp only[fI.l0] at H;by_cases c3:l<g
   ·rw[if_pos c3] at H
    have M:=ay c3;clear c3;obtain⟨t162,O,H⟩:=zo H;by_cases s:m.length<17592186044416
    ·rw[if_pos s] at H
     have P:=zA s;clear s;obtain⟨I,x⟩:∃Q:List Int,Q=(m++[wrap64 (t162-2)]):=⟨_,rfl⟩;replace H:(fI.l0 v I (wrap64 (l+1)) g a)=some r:=zh x H;have S:=zA x;clear x;have q:=zA H;clear H;obtain⟨Y,Z,aa,ab⟩:=au i;go_wp2_with (first|((with_reducible refine aC (f:=144) rfl ?_);refine zL (some 14) Tryz.func144 #[.agg #[.int .i64 g,.slice o a.length p],.int .i64 l] ?_;(with_reducible refine(fH.calls v g _ _ a l t162 _ ?af ?ah O.out).mono ?_);(case af=>exact Kd.aq J.out zB);(case ah=>exact K.out);rintro e w7 ⟨rfl,hb⟩;refine⟨_,rfl,?_⟩;replace n:=bp n hb;replace i:=zb i hb;replace j:=zS j hb;(try clear hb))|((with_reducible refine pA (b:=.append) (xs:=#[.tmp 11,.tmp 16]) rfl ?_);at_builtin;refine Kd.l7 (Kd.int .i64) (w0:=w) w.heap.size rfl (.tmp 11) (.tmp 16) 25 3 (.int .i64 0) 8 rfl Tryz.underlying25 gD rfl (by decide) (by omega) u3 m (wrap64 (t162-2)) [.int .i64 (wrap64 (t162-2))] (fun _=>True) (fun _=>False) rfl rfl ?aP (fun _ hk=>hk.elim) ?aF ?aO ?aB ?aS ?aL ?_;(case aP=>exact rfl);(case aB=>exact zB);(case aF=>exact(fun _ _=>trivial));(case aO=>exact(zR n));(case aS=>exact(bs zB));(case aL=>have:=P.out;omega);intro v164 w8 y hb hg T;rw[<-S.out] at y;replace i:=zA (cS (zK i) hg (Kd.dr n.out i.out (by decide)));replace j:=zA (hb);have U:=zA (y);clear n;clear y hb hg T))
     go_roundg v
     case measure=>have:=G.out;omega
     case rel=>exact⟨(I),(wrap64 (l+1)),zT,q,⟨by have:=G.out;omega⟩,⟨zR U⟩,⟨zK i⟩,⟨zB⟩⟩
    ·rw[if_neg s] at H
     exact absurd H (by simp)
   ·rw[if_neg c3] at H
    have M:=a6 c3;clear c3;obtain rfl:=aE H;obtain⟨ak,am,an,ap⟩:=au i;go_wp2;go_ret;exact⟨_,zE,by(with_reducible repeat(first|apply Kd.aM|apply Kd.bB|apply Kd.bq));exact n.out,zB⟩
def dx.l0:Nat->List Int->List Int->Int->List Int->Int->Option (List Int)
 |0,_,_,_,_,_=>none
 |k+1,b,x1,x2,e,a=>if a<(b.length:Int) then(if 0<=a then(if a<(x1.length:Int) then(if a<(e.length:Int) then(dx.l0 k b x1 x2 (e.set (a:Int).toNat (wrap64 ((rd b a)+(wrap64 (x2*(rd x1 a)))))) (wrap64 (a+1))) else(none)) else(none)) else(none)) else(some e)
def dx.f (k:Nat) (l0:List Int) (l1:List Int) (a2:Int):Option (List Int):=if 0<=(l0.length:Int) then(if((l0.length:Int):Int).toNat<=35184372088832 then(dx.l0 k l0 l1 a2 (List.replicate ((l0.length:Int):Int).toNat 0) 0) else(none)) else(none)
def dx.T5:Bool×List (List Nat×List Nat):=(true,[([],[]),([],[]),([],[]),([],[]),([2,3],[2,3]),([4],[4]),([],[]),([],[]),([],[]),([7,8],[7,8]),([9],[9]),([6,10],[6,10]),([5,11],[5,11]),([0,1,0,1,2,3,4,5,6,7,8,9,10,11,12],[0,1]),([13,12,0,1,2,3,4,5,6,7,8,9,10,11,12],[12,13])])
def dx.B5:List Nat:=[0,0,0,0,12,28,0,0,0,384,896,1984,4092,8191,16383]
theorem dx.Dx:dA .any (opsOf Tryz.f134 5)=dx.T5:=by kernel_rfl
theorem dx.Dy:jU dx.T5.2 dx.B5=true:=by kernel_rfl
theorem dx.calls (k:Nat) (A0:Option Addr) (c0:Nat) (l0:List Int) (T:Option Addr) (c1:Nat) (l1:List Int) (a2:Int) (r:List Int) (w:World) (U:Kd.C (Kd.int .i64) w A0 l0.length l0) (V:l0.length<=c0) (W:Kd.C (Kd.int .i64) w T l1.length l1) (X:l1.length<=c1) (h:dx.f k l0 l1 a2=some r):
  Calls Tryz.prog 134 #[.slice A0 l0.length c0,.slice T l1.length c1,.int .i64 a2] w fun e w'=>∃Y:Value,e= .returned (Y)/\Kd.R (Kd.int .i64) 3 w' w.heap.size (fun _=>True) Y r/\Below w.heap.size w w':=by
 have aO:=zA U;have b4:=zA V;clear U V;have aP:=zA W;have b5:=zA X;clear W X;have b:=zA (al w.heap.size w);unfold dx.f at h;have H:=h;clear h;by_cases c4:0<=(l0.length:Int)
 ·rw[if_pos c4] at H
  have aS:=eq_true c4;have a0:=ay c4;clear c4;by_cases o:((l0.length:Int):Int).toNat<=35184372088832
  ·rw[if_pos o] at H
   have a1:=eq_true o;have a3:=ay o;clear o;obtain⟨Z,D⟩:∃E:List Int,E=(List.replicate ((l0.length:Int):Int).toNat 0):=⟨_,rfl⟩;replace H:(dx.l0 k l0 l1 a2 Z 0)=some r:=zh D H;have aa:=zA D;clear D;have u:=zA H;clear H;go_enter Tryz.func134,Tryz.ntmps134
   go_wp2_with (first|((with_reducible refine aH (N:=11) rfl ?_);refine Kd.jM (Kd.int .i64) _ 3 rfl (N:=11) rfl 25 _ _ rfl (l0.length:Int) rfl rfl Tryz.underlying25 (.int .i64 0) 8 gD rfl (by decide) (by omega) 0 (ok:=fun _=>True) (okp:=fun _=>True) rfl (fun _ hk=>hk) trivial (ax ‹_›) (Nat.le_trans (Nat.mul_le_mul_right _ (ax ‹_› :(l0.length:Int).toNat<=35184372088832)) (by omega)) (al _ _) (aI _) ?_;intro v167 w6 p hb a4 a5;clear a4 a5;(first|rw[<-aa.out] at p|(simp only[Int.reduceToNat] at p;rw[<-aa.out] at p));have a9:=zA (Kd.bc p (bs zB));replace b:=zS b hb;clear hb p))
   go_loopg [8] k (fun kq v8 w'=>∃(l:List Int) (a:Int),v8= .int .i64 a/\Aside0 (dx.l0 kq l0 l1 a2 l a=some r)/\Aside0 (kq<=k)/\Aside0 (Kd.R (Kd.int .i64) 3 w' w.heap.size (fun _=>True) v167 l)/\Aside0 (Below w.heap.size w w'))
   case atStart=>exact⟨(Z),(0),zT,u,⟨aI _⟩,⟨zR a9⟩,⟨zB⟩⟩
   case round=>
    clear u;clear aS a0 a1 a3;obtain⟨l,a,rfl,F,ad,g,b⟩:=hrel;cases gk with
    |zero=>exact absurd F.out (by simp[dx.l0])
    |succ k1=>
     have H:=F.out;clear F;simp only[dx.l0] at H;by_cases m:a<(l0.length:Int)
     ·rw[if_pos m] at H
      have bf:=ay m;clear m;by_cases x:0<=a
      ·rw[if_pos x] at H
       have b_:=ay x;clear x;by_cases y:a<(l1.length:Int)
       ·rw[if_pos y] at H
        have b':=ay y;clear y;by_cases z:a<(l.length:Int)
        ·rw[if_pos z] at H
         have ca:=ay z;clear z;obtain⟨ak,G⟩:∃E:List Int,E=(l.set (a:Int).toNat (wrap64 ((rd l0 a)+(wrap64 (a2*(rd l1 a)))))):=⟨_,rfl⟩;replace H:(dx.l0 k1 l0 l1 a2 ak (wrap64 (a+1)))=some r:=zh G H;have bg:=zA G;clear G;have u:=zA H;clear H;try go_wp2
         replace g:=zA (Kd.bq g.out);replace b:=zA (bU b.out);have I:0<=(a:Int):=ax ‹_›;have J:a<(l0.length:Int):=ax ‹_›;obtain⟨bi,bk,q⟩:=Kd.bT aO.out a I J;have am:=q;cases bk;replace q:=(b.out.cell (a8 w _ q)).trans q;replace I:=eq_true I;replace J:=eq_true J;have L:0<=(a:Int):=ax ‹_›;have M:a<(l1.length:Int):=ax ‹_›;obtain⟨bn,bo,s⟩:=Kd.bT aP.out a L M;have an:=s;cases bo;replace s:=(b.out.cell (a8 w _ s)).trans s;replace L:=eq_true L;replace M:=eq_true M;have O:0<=(a:Int):=ax ‹_›;have P:(a:Int)<((l.length:Int):Int):=ax ‹_›;obtain⟨cb,cc,ap,ar,bv,cd,av⟩:=Kd.fC g.out (by omega)
         (first|cases ap|(injection ap with B bw bx;(first|subst B|(injection B with B;subst B));subst bx;clear bw))
         have b0:=zA ar;have b1:=zA av;clear ar bv av;obtain⟨b2,b3⟩:=Kd.bW 0 g.out (a:Int) O P;replace O:=eq_true O;replace P:=eq_true P;have Q:=Kd.xS g.out (a:Int) (wrap64 ((rd l0 a)+(wrap64 (a2*(rd l1 a)))));rw[<-bg.out] at Q;have aB:=zA Q;clear Q;refine kn (n:=15) (S:=fun w'=>w'.cell? (bi.add (a).toNat)=some (.int .i64 (rd l0 a))/\w'.cell? (bn.add (a).toNat)=some (.int .i64 (rd l1 a))) (ds:=[14]) #[false,false,false,false,false,false,false,false,false,false,false,false,false,false,false] (by kernel_rfl) rfl rfl ⟨((b.out.cell (a8 w _ am)).trans am),((b.out.cell (a8 w _ an)).trans an)⟩ (fun hHeld=>?_);refine kA dx.Dx dx.Dy (fun j aF=>?_);generalize wr.drew=ce at g b b1 aB b3 b2 q s hHeld⊢;refine zs 15 0 0 (by kernel_rfl) ?_;iterate 5 (refine zn (v:=?_) (a':=?_) (by simp only[Nat.reduceAdd];rfl) j rfl rfl (by kernel_rfl) (Or.inl ⟨by rfl,?_⟩) ?_ ?_;rotate_left;(focus (intro w';go_simp;with_reducible rfl));rotate_left;(focus (simp only[Act.put,List.setIfInBounds_toArray,List.set_cons_zero,List.set_cons_succ,aW,aX];rfl)))
         refine zs 15 31 6 (by kernel_rfl) ?_;iterate 4 (refine zn (v:=?_) (a':=?_) (by simp only[Nat.reduceAdd];rfl) j rfl rfl (by kernel_rfl) (Or.inl ⟨by rfl,?_⟩) ?_ ?_;rotate_left;(focus (intro w';go_simp;with_reducible rfl));rotate_left;(focus (simp only[Act.put,List.setIfInBounds_toArray,List.set_cons_zero,List.set_cons_succ,aW,aX];rfl)))
         refine eJ (i:=5) (N:=some 23) (v:=?_) (a':=?_) #[true,true,true,true,true,true,true,true,true,true,false,false,false,false,false] rfl rfl (eO j.out aF.out (by kernel_rfl)) (fun _ _ _ h=>h) (Or.inl ⟨by rfl,?_⟩) hHeld ?_ ?_;rotate_left
         ·rintro w' ⟨s0,s1⟩
          go_simp
          with_reducible rfl
         rotate_left
         ·simp only[Act.put,List.setIfInBounds_toArray,List.set_cons_zero,List.set_cons_succ,aW,aX]
          rfl
         refine eJ (i:=10) (N:=some 28) (v:=?_) (a':=?_) #[true,true,true,true,true,true,true,true,true,true,true,false,false,false,false] rfl rfl (eO j.out aF.out (by kernel_rfl)) (fun _ _ _ h=>h) (Or.inl ⟨by rfl,?_⟩) hHeld ?_ ?_;rotate_left
         ·rintro w' ⟨s0,s1⟩
          go_simp
          with_reducible rfl
         rotate_left
         ·simp only[Act.put,List.setIfInBounds_toArray,List.set_cons_zero,List.set_cons_succ,aW,aX]
          rfl
         refine zs 15 2047 11 (by kernel_rfl) ?_;iterate 3 (refine zn (v:=?_) (a':=?_) (by simp only[Nat.reduceAdd];rfl) j rfl rfl (by kernel_rfl) (Or.inl ⟨by rfl,?_⟩) ?_ ?_;rotate_left;(focus (intro w';go_simp;with_reducible rfl));rotate_left;(focus (simp only[Act.put,List.setIfInBounds_toArray,List.set_cons_zero,List.set_cons_succ,aW,aX];rfl)))
         refine ye (i:=14) (N:=none) #[true,true,true,true,true,true,true,true,true,true,true,true,true,true,true] rfl rfl (eN j.out (by kernel_rfl)) (by decide) (fun K hK=>?_);refine yg (w1:=?_) (by rfl) rfl ?_ ?_;rotate_left
         ·go_simp
          rfl
         refine hK.out _ _ ?_;clear hK K;refine ko (ky j.out (by kernel_rfl)) ?_;try go_wp2
         go_roundg k1
         case measure=>have:=ad.out;omega
         case rel=>exact⟨(ak),(wrap64 (a+1)),zT,u,⟨by have:=ad.out;omega⟩,⟨zR aB⟩,⟨by repeat(first|(with_reducible first|exact b.out|apply ao|apply b8|apply bU|refine et ?_ b0.out)|exact b.out)⟩⟩
        ·rw[if_neg z] at H
         exact absurd H (by simp)
       ·rw[if_neg y] at H
        exact absurd H (by simp)
      ·rw[if_neg x] at H
       exact absurd H (by simp)
     ·rw[if_neg m] at H
      have bf:=a6 m;clear m;obtain rfl:=aE H;go_wp2;go_ret;exact⟨_,zE,by(with_reducible repeat(first|apply Kd.aM|apply Kd.bB|apply Kd.bq));exact g.out,zB⟩
  ·rw[if_neg o] at H
   exact absurd H (by simp)
 ·rw[if_neg c4] at H
  exact absurd H (by simp)
def kP.f (k:Nat) (a:Int) (b:List (S83)) (l1:List Int):Option (List Int):=(fI.f k a b).bind fun t173=>((dx.f k t173 l1 (-1)).bind fun t176=>(some t176))
theorem kP.calls (k:Nat) (j:Int) (m:Option Addr) (n:Nat) (a:List (S83)) (o:Option Addr) (c1:Nat) (l1:List Int) (r:List Int) (w:World) (p:Kd.C aN w m a.length a) (q:a.length<=n) (s:Kd.C (Kd.int .i64) w o l1.length l1) (u:l1.length<=c1) (h:kP.f k j a l1=some r):
  Calls Tryz.prog 81 #[.agg #[.int .i64 j,.slice m a.length n],.slice o l1.length c1] w fun e w'=>∃v:Value,e= .returned (v)/\Kd.R (Kd.int .i64) 3 w' w.heap.size (fun _=>True) v r/\Below w.heap.size w w':=by
 have L:=Tryz.underlying24;have y:=zA p;have z:=zA q;clear p q;have B:=zA s;have D:=zA u;clear s u;have b:=zA (al w.heap.size w);unfold kP.f at h;have H:=h;clear h;obtain⟨t173,E,H⟩:=zo H;obtain⟨t176,F,H⟩:=zo H;obtain rfl:=aE H;go_enter Tryz.func81,Tryz.ntmps81
 go_wp2_with (first|((with_reducible refine aH (N:=2) rfl ?_);refine zX 2 #[.int .i64 j,.slice m a.length n] 24 ?_;intro M hg O x hb;have l:=zA (x);have P:=zG b hg;have Q:=zG b hg;replace b:=zS b hb;clear hb x hg;obtain⟨S,T,U,V⟩:=au l)|((with_reducible refine aC (f:=90) rfl ?_);refine zL (some 6) Tryz.func90 #[.agg #[.int .i64 j,.slice m a.length n]] ?_;(with_reducible refine(fI.calls k j _ _ a t173 _ ?af ?ah E.out).mono ?_);(case af=>exact Kd.aq y.out zB);(case ah=>exact z.out);rintro e W ⟨X,rfl,g,hb⟩;refine⟨_,rfl,?_⟩;have i:=zA (Kd.bc g (bs zB));replace l:=zb l hb;replace b:=zS b hb;(try clear hb);(try clear g);obtain⟨G,I,J⟩:=Kd.bm i.out;subst J)|((with_reducible refine aC (f:=134) rfl ?_);refine zL (some 8) Tryz.func134 #[.slice G t173.length I,.slice o l1.length c1,.int .i64 (-1)] ?_;(with_reducible refine(dx.calls k _ _ t173 _ _ l1 (-1) t176 _ ?af ?ah ?aT ?aU F.out).mono ?_);(case af=>exact zC (Kd.aG i.out).2.2);(case ah=>exact(Kd.aG i.out).2.1);(case aT=>exact Kd.aq B.out zB);(case aU=>exact D.out);rintro e Y ⟨Z,rfl,g,hb⟩;refine⟨_,rfl,?_⟩;have K:=zA (Kd.bc (Kd.bJ g (Kd.a_ (zR i))) (bs zB));replace i:=bN i g hb;replace l:=zb l hb;replace b:=zS b hb;(try clear hb);(try clear g)))
 go_ret;exact⟨_,zE,by(with_reducible repeat(first|apply Kd.aM|apply Kd.bB|apply Kd.bq));exact Kd.ba K.out (fun _ hk=>trivial),zB⟩
def eS.f (k:Nat) (a:Int) (b:List (S83)) (l1:List Int) (a2:Int):Option (Bool):=(en.f k a b l1 a2).bind fun t180=>(if t180=true then((ij.f k a b l1).bind fun t181=>(if t181=0 then((kP.f k a b l1).bind fun t182=>((en.f k a b t182 a2).bind fun t185=>(some t185))) else(some true))) else(some false))
def eS.T3:Bool×List (List Nat×List Nat):=(true,[([],[]),([],[]),([0,1],[0,1]),([2],[2]),([3,2],[3]),([4],[4]),([4],[4]),([4],[4]),([6,7,4,4],[4,6,7]),([4],[4]),([5,8,9,8,4],[4,5,8,9]),([4,10],[4,10]),([11,10,0,1,2,3,4,5,6,7,8,9,10,11],[11])])
def eS.B3:List Nat:=[0,0,3,7,15,31,31,31,223,31,1023,2047,4095]
theorem eS.vk:dA .any (opsOf Tryz.f25 3)=eS.T3:=by kernel_rfl
theorem eS.vm:jU eS.T3.2 eS.B3=true:=by kernel_rfl
theorem eS.calls (k:Nat) (l:Int) (m:Option Addr) (o:Nat) (j:List (S83)) (q:Option Addr) (c1:Nat) (l1:List Int) (a2:Int) (r:Bool) (w:World) (J:Kd.C aN w m j.length j) (L:j.length<=o) (M:Kd.C (Kd.int .i64) w q l1.length l1) (O:l1.length<=c1) (h:eS.f k l j l1 a2=some r):
  Calls Tryz.prog 25 #[.agg #[.int .i64 l,.slice m j.length o],.slice q l1.length c1,.int .i64 a2] w fun e w'=>e= .returned (.bool r)/\Below w.heap.size w w':=by
 have ar:=Tryz.underlying24;have u:=zA J;have x:=zA L;clear J L;have y:=zA M;have z:=zA O;clear M O;have b:=zA (al w.heap.size w);unfold eS.f at h;have H:=h;clear h;obtain⟨t180,I,H⟩:=zo H;by_cases G:t180=true
 ·subst G
  replace H:=zi H;obtain⟨t181,P,H⟩:=zo H;by_cases D:t181=0
  ·rw[if_pos D] at H
   obtain⟨X,Y⟩:=br D;clear D;obtain⟨t182,Z,H⟩:=zo H;obtain⟨t185,A9,H⟩:=zo H;obtain rfl:=aE H;go_enter Tryz.func25,Tryz.ntmps25
   try go_wp2_with (first|((with_reducible refine aH (N:=3) rfl ?_);refine zX 3 #[.int .i64 l,.slice m j.length o] 24 ?_;intro B hg av s hb;have a:=zA (s);have Q:=zG b hg;have R:=zG b hg;replace b:=zS b hb;clear hb s hg;obtain⟨aB,aF,aL,aO⟩:=au a)|((with_reducible refine aC (f:=79) rfl ?_);refine zL (some 10) Tryz.func79 #[.agg #[.int .i64 l,.slice m j.length o],.slice q l1.length c1,.int .i64 a2] ?_;(with_reducible refine(en.calls k l _ _ j _ _ l1 a2 true _ ?af ?ah ?aT ?aU I.out).mono ?_);(case af=>exact Kd.aq u.out zB);(case ah=>exact x.out);(case aT=>exact Kd.aq y.out zB);(case aU=>exact z.out);rintro e ab ⟨rfl,hb⟩;refine⟨_,rfl,?_⟩;replace a:=zb a hb;replace b:=zS b hb;(try clear hb)))
   replace a:=zA (eI a.out);replace b:=zA (bU b.out);refine kn (n:=13) (S:=fun w'=>w'.cell? ⟨B,0,none⟩=some (.int .i64 l)/\w'.cell? ⟨B,1,none⟩=some (.slice m j.length o)) (ds:=[]) #[false,false,false,false,false,false,false,false,false,false,false,false,false] (by kernel_rfl) rfl rfl ⟨(ai a.out 0).trans rfl,(ai a.out 1).trans rfl⟩ (fun hHeld=>?_);refine kA eS.vk eS.vm (fun g E=>?_);generalize ab.drew=aP at a b hHeld⊢;refine zs 13 0 1 (by kernel_rfl) ?_;refine zn (v:=?_) (a':=?_) (by simp only[Nat.reduceAdd];rfl) g rfl rfl (by kernel_rfl) (Or.inl ⟨by rfl,?_⟩) ?_ ?_;rotate_left;(focus (intro w';go_simp;with_reducible rfl));rotate_left;(focus (simp only[Act.put,List.setIfInBounds_toArray,List.set_cons_zero,List.set_cons_succ,aW,aX];rfl))
   refine eJ (i:=0) (N:=some 12) (v:=?_) (a':=?_) #[true,true,false,false,false,false,false,false,false,false,false,false,false] rfl rfl (eO g.out E.out (by kernel_rfl)) (fun _ _ _ h=>h) (Or.inl ⟨by rfl,?_⟩) hHeld ?_ ?_;rotate_left
   ·rintro w' ⟨s0,s1⟩
    go_simp
    with_reducible rfl
   rotate_left
   ·simp only[Act.put,List.setIfInBounds_toArray,List.set_cons_zero,List.set_cons_succ,aW,aX]
    rfl
   refine e7 (i:=2) (N:=some 14) #[true,true,true,false,false,false,false,false,false,false,false,false,false] rfl rfl (eN g.out (by kernel_rfl)) (by decide) (fun K p=>?_);refine fl Tryz.func80 (by kernel_rfl) rfl #[.agg #[.int .i64 l,.slice m j.length o],.slice q l1.length c1] (by rfl) rfl rfl (by(try simp only[List.map_toArray,List.map_cons,List.map_nil]);first|done|rfl|(simp only[List.length_drop,List.length_take];rfl)) ?_;with_reducible refine(ij.calls k l _ _ j _ _ l1 t181 _ ?af ?ah ?aT ?aU P.out).mono ?_
   (case af=>exact Kd.aq u.out zB)
   (case ah=>exact x.out)
   (case aT=>exact Kd.aq y.out zB)
   (case aU=>exact z.out)
   rintro e aS ⟨rfl,hb⟩;refine⟨_,rfl,?_⟩;replace a:=zb a hb;replace b:=zS b hb
   (try clear hb)
   skip;skip;skip;refine p.out _ _ ⟨(ai a.out 0).trans rfl,(ai a.out 1).trans rfl⟩ (fun hHeld=>?_);clear p K;refine e8 (a':=?_) ?_ ?_;rotate_left
   ·show Act.put _ (some 14) _=_
    simp only[Act.put,List.setIfInBounds_toArray,List.set_cons_zero,List.set_cons_succ,aW,aX];rfl
   refine zs 13 7 3 (by kernel_rfl) ?_;iterate 2 (refine zn (v:=?_) (a':=?_) (by simp only[Nat.reduceAdd];rfl) g rfl rfl (by kernel_rfl) (Or.inl ⟨by rfl,?_⟩) ?_ ?_;rotate_left;(focus (intro w';go_simp;with_reducible rfl));rotate_left;(focus (simp only[Act.put,List.setIfInBounds_toArray,List.set_cons_zero,List.set_cons_succ,aW,aX];rfl)))
   refine zs 13 31 7 (by kernel_rfl) ?_;refine zn (v:=?_) (a':=?_) (by simp only[Nat.reduceAdd];rfl) g rfl rfl (by kernel_rfl) (Or.inl ⟨by rfl,?_⟩) ?_ ?_;rotate_left;(focus (intro w';go_simp;with_reducible rfl));rotate_left;(focus (simp only[Act.put,List.setIfInBounds_toArray,List.set_cons_zero,List.set_cons_succ,aW,aX];rfl))
   refine zs 13 159 9 (by kernel_rfl) ?_;refine zn (v:=?_) (a':=?_) (by simp only[Nat.reduceAdd];rfl) g rfl rfl (by kernel_rfl) (Or.inl ⟨by rfl,?_⟩) ?_ ?_;rotate_left;(focus (intro w';go_simp;with_reducible rfl));rotate_left;(focus (simp only[Act.put,List.setIfInBounds_toArray,List.set_cons_zero,List.set_cons_succ,aW,aX];rfl))
   refine eJ (i:=5) (N:=some 17) (v:=?_) (a':=?_) #[true,true,true,true,true,true,false,true,false,true,false,false,false] rfl rfl (eO g.out E.out (by kernel_rfl)) (fun _ _ _ h=>h) (Or.inl ⟨by rfl,?_⟩) hHeld ?_ ?_;rotate_left
   ·rintro w' ⟨s0,s1⟩
    go_simp
    with_reducible rfl
   rotate_left
   ·simp only[Act.put,List.setIfInBounds_toArray,List.set_cons_zero,List.set_cons_succ,aW,aX]
    rfl
   refine eJ (i:=6) (N:=some 18) (v:=?_) (a':=?_) #[true,true,true,true,true,true,true,true,false,true,false,false,false] rfl rfl (eO g.out E.out (by kernel_rfl)) (fun _ _ _ h=>h) (Or.inl ⟨by rfl,?_⟩) hHeld ?_ ?_;rotate_left
   ·rintro w' ⟨s0,s1⟩
    go_simp
    with_reducible rfl
   rotate_left
   ·simp only[Act.put,List.setIfInBounds_toArray,List.set_cons_zero,List.set_cons_succ,aW,aX]
    rfl
   refine e7 (i:=8) (N:=some 20) #[true,true,true,true,true,true,true,true,true,true,false,false,false] rfl rfl (eN g.out (by kernel_rfl)) (by decide) (fun K p=>?_);refine fl Tryz.func81 (by kernel_rfl) rfl #[.agg #[.int .i64 l,.slice m j.length o],.slice q l1.length c1] (by rfl) rfl rfl (by(try simp only[List.map_toArray,List.map_cons,List.map_nil]);first|done|rfl|(simp only[List.length_drop,List.length_take];rfl)) ?_;with_reducible refine(kP.calls k l _ _ j _ _ l1 t182 _ ?af ?ah ?aT ?aU Z.out).mono ?_
   (case af=>exact Kd.aq u.out zB)
   (case ah=>exact x.out)
   (case aT=>exact Kd.aq y.out zB)
   (case aU=>exact z.out)
   rintro e a0 ⟨v183,rfl,T,hb⟩;refine⟨_,rfl,?_⟩;have F:=zA (Kd.bc T (bs zB));replace a:=zb a hb;replace b:=zS b hb
   (try clear hb)
   skip;skip;skip
   (try clear T)
   obtain⟨ad,ag,U⟩:=Kd.bm F.out
   (first|subst U|(injection U with V ak W;have am:=V.symm;have an:=W.symm;clear V ak W;subst am;subst an))
   refine p.out _ _ ⟨(ai a.out 0).trans rfl,(ai a.out 1).trans rfl⟩ (fun hHeld=>?_);clear p K;refine e8 (a':=?_) ?_ ?_;rotate_left
   ·show Act.put _ (some 20) _=_
    simp only[Act.put,List.setIfInBounds_toArray,List.set_cons_zero,List.set_cons_succ,aW,aX];rfl
   refine e7 (i:=10) (N:=some 22) #[true,true,true,true,true,true,true,true,true,true,true,false,false] rfl rfl (eN g.out (by kernel_rfl)) (by decide) (fun K p=>?_);refine fl Tryz.func79 (by kernel_rfl) rfl #[.agg #[.int .i64 l,.slice m j.length o],.slice ad t182.length ag,.int .i64 a2] (by rfl) rfl rfl (by(try simp only[List.map_toArray,List.map_cons,List.map_nil]);first|done|rfl|(simp only[List.length_drop,List.length_take];rfl)) ?_;with_reducible refine(en.calls k l _ _ j _ _ t182 a2 t185 _ ?af ?ah ?aT ?aU A9.out).mono ?_
   (case af=>exact Kd.aq u.out zB)
   (case ah=>exact x.out)
   (case aT=>exact zC (Kd.aG F.out).2.2)
   (case aU=>exact(Kd.aG F.out).2.1)
   rintro e a1 ⟨rfl,hb⟩;refine⟨_,rfl,?_⟩;replace F:=bp F hb;replace a:=zb a hb;replace b:=zS b hb
   (try clear hb)
   skip;skip;skip;refine p.out _ _ ⟨(ai a.out 0).trans rfl,(ai a.out 1).trans rfl⟩ (fun hHeld=>?_);clear p K;refine e8 (a':=?_) ?_ ?_;rotate_left
   ·show Act.put _ (some 22) _=_
    simp only[Act.put,List.setIfInBounds_toArray,List.set_cons_zero,List.set_cons_succ,aW,aX];rfl
   refine zs 13 2047 11 (by kernel_rfl) ?_;iterate 2 (refine zn (v:=?_) (a':=?_) (by simp only[Nat.reduceAdd];rfl) g rfl rfl (by kernel_rfl) (Or.inl ⟨by rfl,?_⟩) ?_ ?_;rotate_left;(focus (intro w';go_simp;with_reducible rfl));rotate_left;(focus (simp only[Act.put,List.setIfInBounds_toArray,List.set_cons_zero,List.set_cons_succ,aW,aX];rfl)))
   refine ko (ky g.out (by kernel_rfl)) ?_;try go_wp2
   go_ret;exact⟨zE,zB⟩
  ·rw[if_neg D] at H
   obtain⟨X,Y⟩:=bG D;obtain rfl:=aE H;go_enter Tryz.func25,Tryz.ntmps25
   try go_wp2_with (first|((with_reducible refine aH (N:=3) rfl ?_);refine zX 3 #[.int .i64 l,.slice m j.length o] 24 ?_;intro B hg a3 s hb;have a:=zA (s);have Q:=zG b hg;have R:=zG b hg;replace b:=zS b hb;clear hb s hg;obtain⟨a4,a5,a9,be⟩:=au a)|((with_reducible refine aC (f:=79) rfl ?_);refine zL (some 10) Tryz.func79 #[.agg #[.int .i64 l,.slice m j.length o],.slice q l1.length c1,.int .i64 a2] ?_;(with_reducible refine(en.calls k l _ _ j _ _ l1 a2 true _ ?af ?ah ?aT ?aU I.out).mono ?_);(case af=>exact Kd.aq u.out zB);(case ah=>exact x.out);(case aT=>exact Kd.aq y.out zB);(case aU=>exact z.out);rintro e ap ⟨rfl,hb⟩;refine⟨_,rfl,?_⟩;replace a:=zb a hb;replace b:=zS b hb;(try clear hb)))
   replace a:=zA (eI a.out);replace b:=zA (bU b.out);refine kn (n:=13) (S:=fun w'=>w'.cell? ⟨B,0,none⟩=some (.int .i64 l)/\w'.cell? ⟨B,1,none⟩=some (.slice m j.length o)) (ds:=[]) #[false,false,false,false,false,false,false,false,false,false,false,false,false] (by kernel_rfl) rfl rfl ⟨(ai a.out 0).trans rfl,(ai a.out 1).trans rfl⟩ (fun hHeld=>?_);refine kA eS.vk eS.vm (fun g E=>?_);generalize ap.drew=bf at a b hHeld⊢;refine zs 13 0 1 (by kernel_rfl) ?_;refine zn (v:=?_) (a':=?_) (by simp only[Nat.reduceAdd];rfl) g rfl rfl (by kernel_rfl) (Or.inl ⟨by rfl,?_⟩) ?_ ?_;rotate_left;(focus (intro w';go_simp;with_reducible rfl));rotate_left;(focus (simp only[Act.put,List.setIfInBounds_toArray,List.set_cons_zero,List.set_cons_succ,aW,aX];rfl))
   refine eJ (i:=0) (N:=some 12) (v:=?_) (a':=?_) #[true,true,false,false,false,false,false,false,false,false,false,false,false] rfl rfl (eO g.out E.out (by kernel_rfl)) (fun _ _ _ h=>h) (Or.inl ⟨by rfl,?_⟩) hHeld ?_ ?_;rotate_left
   ·rintro w' ⟨s0,s1⟩
    go_simp
    with_reducible rfl
   rotate_left
   ·simp only[Act.put,List.setIfInBounds_toArray,List.set_cons_zero,List.set_cons_succ,aW,aX]
    rfl
   refine e7 (i:=2) (N:=some 14) #[true,true,true,false,false,false,false,false,false,false,false,false,false] rfl rfl (eN g.out (by kernel_rfl)) (by decide) (fun K p=>?_);refine fl Tryz.func80 (by kernel_rfl) rfl #[.agg #[.int .i64 l,.slice m j.length o],.slice q l1.length c1] (by rfl) rfl rfl (by(try simp only[List.map_toArray,List.map_cons,List.map_nil]);first|done|rfl|(simp only[List.length_drop,List.length_take];rfl)) ?_;with_reducible refine(ij.calls k l _ _ j _ _ l1 t181 _ ?af ?ah ?aT ?aU P.out).mono ?_
   (case af=>exact Kd.aq u.out zB)
   (case ah=>exact x.out)
   (case aT=>exact Kd.aq y.out zB)
   (case aU=>exact z.out)
   rintro e bg ⟨rfl,hb⟩;refine⟨_,rfl,?_⟩;replace a:=zb a hb;replace b:=zS b hb
   (try clear hb)
   skip;skip;skip;refine p.out _ _ ⟨(ai a.out 0).trans rfl,(ai a.out 1).trans rfl⟩ (fun hHeld=>?_);clear p K;refine e8 (a':=?_) ?_ ?_;rotate_left
   ·show Act.put _ (some 14) _=_
    simp only[Act.put,List.setIfInBounds_toArray,List.set_cons_zero,List.set_cons_succ,aW,aX];rfl
   refine zs 13 7 3 (by kernel_rfl) ?_;iterate 2 (refine zn (v:=?_) (a':=?_) (by simp only[Nat.reduceAdd];rfl) g rfl rfl (by kernel_rfl) (Or.inl ⟨by rfl,?_⟩) ?_ ?_;rotate_left;(focus (intro w';go_simp;with_reducible rfl));rotate_left;(focus (simp only[Act.put,List.setIfInBounds_toArray,List.set_cons_zero,List.set_cons_succ,aW,aX];rfl)))
   refine eK (i:=5) (N:=some 17) (v:=undef) (a':=?_) #[true,true,true,true,true,true,false,false,false,false,false,false,false] rfl rfl (eM g.out (by kernel_rfl)) (fun _ _ _ h=>h) (Or.inr ⟨by rfl,rfl⟩) ?_ ?_;rotate_left
   ·simp only[Act.put,List.setIfInBounds_toArray,List.set_cons_zero,List.set_cons_succ,aW,aX]
    rfl
   refine eK (i:=6) (N:=some 18) (v:=undef) (a':=?_) #[true,true,true,true,true,true,true,false,false,false,false,false,false] rfl rfl (eM g.out (by kernel_rfl)) (fun _ _ _ h=>h) (Or.inr ⟨by rfl,rfl⟩) ?_ ?_;rotate_left
   ·simp only[Act.put,List.setIfInBounds_toArray,List.set_cons_zero,List.set_cons_succ,aW,aX]
    rfl
   refine eK (i:=7) (N:=some 19) (v:=undef) (a':=?_) #[true,true,true,true,true,true,true,true,false,false,false,false,false] rfl rfl (eM g.out (by kernel_rfl)) (fun _ _ _ h=>h) (Or.inr ⟨by rfl,rfl⟩) ?_ ?_;rotate_left
   ·simp only[Act.put,List.setIfInBounds_toArray,List.set_cons_zero,List.set_cons_succ,aW,aX]
    rfl
   refine eK (i:=8) (N:=some 20) (v:=undef) (a':=?_) #[true,true,true,true,true,true,true,true,true,false,false,false,false] rfl rfl (eM g.out (by kernel_rfl)) (fun _ _ _ h=>h) (Or.inr ⟨by rfl,rfl⟩) ?_ ?_;rotate_left
   ·simp only[Act.put,List.setIfInBounds_toArray,List.set_cons_zero,List.set_cons_succ,aW,aX]
    rfl
   refine eK (i:=9) (N:=some 21) (v:=undef) (a':=?_) #[true,true,true,true,true,true,true,true,true,true,false,false,false] rfl rfl (eM g.out (by kernel_rfl)) (fun _ _ _ h=>h) (Or.inr ⟨by rfl,rfl⟩) ?_ ?_;rotate_left
   ·simp only[Act.put,List.setIfInBounds_toArray,List.set_cons_zero,List.set_cons_succ,aW,aX]
    rfl
   refine eK (i:=10) (N:=some 22) (v:=undef) (a':=?_) #[true,true,true,true,true,true,true,true,true,true,true,false,false] rfl rfl (eM g.out (by kernel_rfl)) (fun _ _ _ h=>h) (Or.inr ⟨by rfl,rfl⟩) ?_ ?_;rotate_left
   ·simp only[Act.put,List.setIfInBounds_toArray,List.set_cons_zero,List.set_cons_succ,aW,aX]
    rfl
   refine zs 13 2047 11 (by kernel_rfl) ?_;iterate 2 (refine zn (v:=?_) (a':=?_) (by simp only[Nat.reduceAdd];rfl) g rfl rfl (by kernel_rfl) (Or.inl ⟨by rfl,?_⟩) ?_ ?_;rotate_left;(focus (intro w';go_simp;with_reducible rfl));rotate_left;(focus (simp only[Act.put,List.setIfInBounds_toArray,List.set_cons_zero,List.set_cons_succ,aW,aX];rfl)))
   refine ko (ky g.out (by kernel_rfl)) ?_;try go_wp2
   go_ret;exact⟨zE,zB⟩
 ·replace G:=Bool.eq_false_iff.mpr G
  subst G;replace H:=zj H;obtain rfl:=aE H;go_enter Tryz.func25,Tryz.ntmps25
  go_wp2_with (first|((with_reducible refine aH (N:=3) rfl ?_);refine zX 3 #[.int .i64 l,.slice m j.length o] 24 ?_;intro B hg bi s hb;have a:=zA (s);have Q:=zG b hg;have R:=zG b hg;replace b:=zS b hb;clear hb s hg;obtain⟨bk,bn,bo,bv⟩:=au a)|((with_reducible refine aC (f:=79) rfl ?_);refine zL (some 10) Tryz.func79 #[.agg #[.int .i64 l,.slice m j.length o],.slice q l1.length c1,.int .i64 a2] ?_;(with_reducible refine(en.calls k l _ _ j _ _ l1 a2 false _ ?af ?ah ?aT ?aU I.out).mono ?_);(case af=>exact Kd.aq u.out zB);(case ah=>exact x.out);(case aT=>exact Kd.aq y.out zB);(case aU=>exact z.out);rintro e bw ⟨rfl,hb⟩;refine⟨_,rfl,?_⟩;replace a:=zb a hb;replace b:=zS b hb;(try clear hb)))
  go_ret;exact⟨zE,zB⟩
def vn.f (k:Nat) (a:Int) (b:List (S83)) (l1:List Int) (a2:Int):Option (Bool):=(gU.f k a b).bind fun t187=>(if t187=0 then((cG.f k l1 a).bind fun t188=>(if t188=0 then((eS.f k a b l1 a2).bind fun t189=>(some t189)) else(some false))) else(some false))
def Dz:List (Int×Int):=(List.range 12).flatMap fun a=>(List.range 12).map fun b:Nat=>(((a:Nat):Int),(b:Int))
theorem vo {N:Int} {E:List S83} (g:N<=12) (h:bt N E):E.length<=144:=by
 have h1:(E.map fun x=>(x.f0,x.f1)).length<=Dz.length:=by
  refine qC ?_ (fun p hp=>?_)
  ·rw[List.pairwise_map]
   refine h.order.imp fun {x y} a e=>?_
   injection e with i e2
   unfold g_ at a;omega
  ·obtain⟨x,b,rfl⟩:=List.mem_map.1 hp
   have:=h.ok x b;simp[bX] at this;refine List.mem_flatMap.2 ⟨x.f0.toNat,List.mem_range.2 (by omega),List.mem_map.2 ⟨x.f1.toNat,List.mem_range.2 (by omega),?_⟩⟩;rw[Int.toNat_of_nonneg (by omega),Int.toNat_of_nonneg (by omega)]
 rw[List.length_map] at h1;exact h1
theorem DA {n:Nat} {f:Nat->Nat->Int} (hf:∀u v,0<=f u v) {x:S83} (o:0<=x.f0/\x.f0<n) (h1:0<=x.f1/\x.f1<n) (p:1<=x.f2):
  (∀u v,0<=cQ f x u v)/\T.sN (T.val n (cQ f x)) n<=T.sN (T.val n f) n+2*x.f2:=by
 unfold cQ;by_cases e:x.f0=x.f1
 ·simp only[if_pos e]
  exact⟨hf,by omega⟩
 ·simp only[if_neg e]
  refine⟨fun u v=>?_,?_⟩
  ·split
   ·omega
   ·split
    ·omega
    ·exact hf u v
  ·have i:x.f0.toNat<n:=by omega
   have hb:x.f1.toNat<n:=by omega
   have h:∀a u,0<=T.one a u:=fun a u=>by unfold T.one;split<;>omega
   have hle:∀u,u<n->T.val n (fun a b=>if a=x.f1.toNat/\b=x.f0.toNat then x.f2 else if a=x.f0.toNat/\b=x.f1.toNat then x.f2 else f a b) u<=T.val n f u+(T.one x.f1.toNat u*x.f2+T.one x.f0.toNat u*x.f2):=fun u hu=>by
    unfold T.val;have k:T.one x.f1.toNat u*x.f2=T.sN (fun v=>(T.one x.f1.toNat u*x.f2)*T.one x.f0.toNat v) n:=by rw[T.eP,T.fu i,Int.mul_one]
    have e2:T.one x.f0.toNat u*x.f2=T.sN (fun v=>(T.one x.f0.toNat u*x.f2)*T.one x.f1.toNat v) n:=by rw[T.eP,T.fu hb,Int.mul_one]
    rw[k,e2,<-T.dD,<-T.dD];refine T.cT fun v q=>?_
    have r:=hf u v;have s:0<=T.one x.f1.toNat u*x.f2*T.one x.f0.toNat v:=Int.mul_nonneg (Int.mul_nonneg (h _ _) (by omega)) (h _ _);have w:0<=T.one x.f0.toNat u*x.f2*T.one x.f1.toNat v:=Int.mul_nonneg (Int.mul_nonneg (h _ _) (by omega)) (h _ _);show (if u=x.f1.toNat/\v=x.f0.toNat then x.f2 else if u=x.f0.toNat/\v=x.f1.toNat then x.f2 else f u v)<=_
    split
    ·rename_i c
     have:T.one x.f1.toNat u*x.f2*T.one x.f0.toNat v=x.f2:=by unfold T.one;rw[if_pos c.1,if_pos c.2];omega
     omega
    ·split
     ·rename_i c
      have:T.one x.f0.toNat u*x.f2*T.one x.f1.toNat v=x.f2:=by unfold T.one;rw[if_pos c.1,if_pos c.2];omega
      omega
     ·omega
   have j:=T.cT hle;rw[T.dD,T.dD] at j;have l:T.sN (fun u=>T.one x.f1.toNat u*x.f2) n=x.f2:=by
    rw[T.bI (g:=fun u=>x.f2*T.one x.f1.toNat u) (fun u _=>Int.mul_comm _ _),T.eP,T.fu hb,Int.mul_one]
   have m:T.sN (fun u=>T.one x.f0.toNat u*x.f2) n=x.f2:=by
    rw[T.bI (g:=fun u=>x.f2*T.one x.f0.toNat u) (fun u _=>Int.mul_comm _ _),T.eP,T.fu i,Int.mul_one]
   rw[l,m] at j;omega
theorem vp {n:Nat}:∀(E:List S83) (f:Nat->Nat->Int),(∀u v,0<=f u v)->(∀x∈E,bX n x=true)->T.sN (T.val n (E.foldl cQ f)) n<=T.sN (T.val n f) n+2*fA E
 |[],f,_,_=>by simp[fA]
 |x::E,f,hf,h=>by
  have e:=h x (List.mem_cons_self ..);simp[bX] at e;obtain⟨a,b⟩:=DA (n:=n) hf (x:=x) (by omega) (by omega) (by omega);have i:=vp E (cQ f x) a (fun y g=>h y (List.mem_cons_of_mem _ g));rw[List.foldl_cons,fA];omega
theorem DB {n:Nat} {E:List S83} (h:bt n E):T.sN (T.val n (timesOf E)) n<=2*(cK E E.length:Nat):=by
 have h1:=vp (n:=n) E (fun _ _=>0) (fun _ _=>Int.le_refl _) h.ok;have b:T.sN (T.val n fun _ _=>0) n=0:=T.gG fun u _=>T.iY n
 have a:=oP h E.length (aI _);rw[List.take_length] at a;unfold timesOf;omega
def jD (N:Int) (E:List S83):Int:=if cJ N E=0 then(if partsOf E N.toNat=1 then 0 else 13) else cJ N E
theorem qK (N:Int) (E:List S83) (e:E.length<=9223372036854775807):Ev (fun k=>gU.f k N E) (jD N E):=by
 unfold gU.f jD;refine Ev.bind (sM N E e) ?_;by_cases b:cJ N E=0
 ·obtain⟨h1,g,h⟩:=gK b
  obtain⟨n,rfl⟩:=Int.eq_ofNat_of_zero_le (show 0<=N by omega);have i:=vo g h;simp only[if_pos b,aQ];refine Ev.bind (a:=decide (partsOf E n=1)) ?_ ?_
  ·unfold lL.f
   refine Ev.bind (AF E (by omega) n (by omega)) ?_;rw[show (((partsOf E n:Nat):Int)==1)=decide (partsOf E n=1) by rw[Bool.eq_iff_iff];simp;omega];exact Ev.const _
  ·by_cases hp:partsOf E n=1
   ·simp only[ay hp,if_true,if_pos hp];exact Ev.const _
   ·simp only[a6 hp,Bool.false_eq_true,if_false,if_neg hp];exact Ev.const _
 ·simp only[if_neg b];exact Ev.const _
theorem kQ {N:Int} {E:List S83} (h:jD N E=0):cJ N E=0/\partsOf E N.toNat=1:=by
 unfold jD at h;by_cases a:cJ N E=0
 ·rw[if_pos a] at h
  by_cases hp:partsOf E N.toNat=1
  ·exact⟨a,hp⟩
  ·rw[if_neg hp] at h;cases h
 ·rw[if_neg a] at h;exact absurd h a
def jE (N:Int) (E:List S83):Bool:=decide (E.length<=40/\N<=5/\cK E E.length<=7)
theorem vq {N:Int} {E:List S83} (b:cJ N E=0):Ev (fun k=>kO.f k N E) (jE N E):=by
 unfold kO.f kN.f jE;refine Ev.bind (a:=decide (E.length<=40/\N<=5/\cK E E.length<=7)) ?_ (Ev.const _);by_cases g:E.length>40
 ·simp only[if_pos (show (E.length:Int)>40 by omega)]
  rw[a6 (fun h=>by omega)];exact Ev.const _
 ·simp only[if_neg (show ¬(E.length:Int)>40 by omega)]
  refine Ev.bind (sM N E (by omega)) ?_;simp only[if_pos b];by_cases e:N<=5
  ·simp only[if_pos e,lQ.f,(gK b).2.2.Dv (by omega),Option.bind_some,if_true]
   rw[show decide (((cK E E.length:Nat):Int)<=7)=decide (E.length<=40/\N<=5/\cK E E.length<=7) by congr 1;exact propext (by omega)];exact Ev.const _
  ·simp only[if_neg e]
   rw[a6 (fun h=>by omega)];exact Ev.const _
def jc (N:Int) (c:List Int):Int:=if(c.length:Int)=N then ig c else 8
theorem mY {N:Int} {E:List S83} (h:jD N E=0) (b:E.length<=9223372036854775807) (c:List Int):Ev (fun k=>ij.f k N E c) (jc N c):=by
 unfold ij.f;have a:=gK (kQ h).1;have h1:=qK N E b;rw[h] at h1;refine Ev.bind h1 ?_;simp only[if_true];exact Ev.bind (lY c N ⟨a.1,a.2.1⟩) (Ev.const _)
def kR (c:List Int):Bool:=c.all fun x=>decide (-100<=x/\x<=100)
theorem qL (c:List Int) (e:c.length<=1000):∀(m i:Nat),i+m=c.length->Ev (fun k=>fB.l0 k c i) (kR (c.drop i))
 |0,i,hi=>by
  refine Ev.of_succ ?_;simp only[fB.l0,if_neg (show ¬((i:Int)<(c.length:Int)) by omega)];rw[List.drop_eq_nil_of_le (by omega)];exact Ev.const _
 |m+1,i,hi=>by
  have a:=qL c e m (i+1) (by omega);refine Ev.of_succ ?_;simp only[fB.l0,if_pos (show (i:Int)<(c.length:Int) by omega),if_pos (show (0:Int)<=(i:Int) by omega),eh (show i<=1000000 by omega)];rw[vh (by omega)];unfold kR at a⊢;rw[List.all_cons];by_cases h1:rd c i< -100
  ·simp only[if_pos h1]
   rw[a6 (fun h=>by omega),Bool.false_and];exact Ev.const _
  ·simp only[if_neg h1]
   by_cases b:rd c i>100
   ·simp only[if_pos b]
    rw[a6 (fun h=>by omega),Bool.false_and];exact Ev.const _
   ·simp only[if_neg b]
    rw[ay (⟨by omega,by omega⟩: -100<=rd c i/\rd c i<=100),Bool.true_and];exact a
theorem vr (c:List Int) (a:c.length<=1000):∀(m i:Nat) (s:Int),i+m=c.length->∃r,Ev (fun k=>cU.l0 k c s i) r
 |0,i,s,hi=>⟨s,by
  refine Ev.of_succ ?_;simp only[cU.l0,if_neg (show ¬((i:Int)<(c.length:Int)) by omega)];exact Ev.const _⟩
 |m+1,i,s,hi=>by
  obtain⟨r,b⟩:=vr c a m (i+1) (wrap64 (s+rd c i)) (by omega);refine⟨r,Ev.of_succ ?_⟩;simp only[cU.l0,if_pos (show (i:Int)<(c.length:Int) by omega),if_pos (show (0:Int)<=(i:Int) by omega),eh (show i<=1000000 by omega)];exact b
theorem vt {N:Int} {E:List S83} (h:jD N E=0) (l:E.length<=9223372036854775807) (c:List Int) (m:Int):
  ∃b,Ev (fun k=>en.f k N E c m) b/\(b=true->jE N E=true/\(jc N c=0->kR c=true)):=by
 have hg:=gK (kQ h).1;have key:∀x:Bool,x=true\/x=false/\c.length<=100/\jE N E=true->∃b,Ev (fun k=>en.j0 k c m x N E) b/\(b=true->jE N E=true/\(jc N c=0->kR c=true)):=by
  rintro x (rfl|⟨rfl,s,g⟩)
  ·refine⟨false,Ev.of_succ ?_,fun e=>by cases e⟩
   simp only[en.j0,if_true];exact Ev.const _
  ·by_cases i:jc N c=0
   ·cases o:kR c with
    |true=>
     obtain⟨r,q⟩:=vr c (by omega) c.length 0 0 (by omega);refine⟨decide (r<=m),Ev.of_succ ?_,fun _=>⟨g,fun _=>rfl⟩⟩;simp only[en.j0,Bool.false_eq_true,if_false];refine Ev.bind (mY h l c) ?_;simp only[if_pos i];refine Ev.bind (a:=true) ?_ ?_
     ·unfold fB.f
      simp only[if_neg (show ¬(c.length:Int)>100 by omega)];refine Ev.bind (lY c N ⟨hg.1,hg.2.1⟩) ?_;have:=qL c (by omega) c.length 0 (by omega);rw[List.drop_zero,o] at this;have n:(if(c.length:Int)=N then ig c else 8)=0:=i;simp only[if_pos n];exact this
     ·simp only[if_true]
      refine Ev.bind (a:=r) ?_ (Ev.const _);exact q
    |false=>
     refine⟨false,Ev.of_succ ?_,fun e=>by cases e⟩;simp only[en.j0,Bool.false_eq_true,if_false];refine Ev.bind (mY h l c) ?_;simp only[if_pos i];refine Ev.bind (a:=false) ?_ (by simp only[Bool.false_eq_true,if_false];exact Ev.const _);unfold fB.f;simp only[if_neg (show ¬(c.length:Int)>100 by omega)];refine Ev.bind (lY c N ⟨hg.1,hg.2.1⟩) ?_;have:=qL c (by omega) c.length 0 (by omega);rw[List.drop_zero,o] at this;have n:(if(c.length:Int)=N then ig c else 8)=0:=i;simp only[if_pos n];exact this
   ·refine⟨true,Ev.of_succ ?_,fun _=>⟨g,fun e=>absurd e i⟩⟩
    simp only[en.j0,Bool.false_eq_true,if_false];refine Ev.bind (mY h l c) ?_;simp only[if_neg i];exact Ev.const _
 unfold en.f;cases g:jE N E with
 |true=>
  have h1:=vq (kQ h).1;rw[g] at h1;obtain⟨b,hb,j⟩:=key (decide ((c.length:Int)>100)) (by by_cases p:(c.length:Int)>100;exact .inl (ay p);exact .inr ⟨a6 p,by omega,g⟩);refine⟨b,Ev.bind h1 ?_,by rw[g] at j;exact j⟩;simp only[if_true];exact hb
 |false=>
  have h1:=vq (kQ h).1;rw[g] at h1;obtain⟨b,hb,j⟩:=key true (.inl rfl);refine⟨b,Ev.bind h1 ?_,by rw[g] at j;exact j⟩;simp only[Bool.false_eq_true,if_false];exact hb
theorem qM {n:Nat} (hn:n<=12) {E:List S83} (a:E.length<=1000) (v:Int):∀(m i:Nat) (s:Int),i+m=n->∃r,Ev (fun k=>fH.l0 k v s i n E) r
 |0,i,s,hi=>⟨s,by
  refine Ev.of_succ ?_;simp only[fH.l0,if_neg (show ¬((i:Int)<(n:Int)) by omega)];exact Ev.const _⟩
 |m+1,i,s,hi=>by
  obtain⟨b,g⟩:=qM hn a v m (i+1) s (by omega);obtain⟨h,j⟩:=qM hn a v m (i+1) (wrap64 (s+du E i v)) (by omega);by_cases e:(i:Int)=v
  ·refine⟨b,Ev.of_succ ?_⟩
   simp only[fH.l0,if_pos (show (i:Int)<(n:Int) by omega),if_pos e,eh (show i<=1000000 by omega)];exact g
  ·refine⟨h,Ev.of_succ ?_⟩
   simp only[fH.l0,if_pos (show (i:Int)<(n:Int) by omega),if_neg e,eh (show i<=1000000 by omega)];exact Ev.bind (ta n E i v a) j
theorem vu {n:Nat} (hn:n<=12) {E:List S83} (a:E.length<=1000):∀(m i:Nat) (o:List Int),i+m=n->o.length=i->∃r:List Int,r.length=n/\Ev (fun k=>fI.l0 k o i n E) r
 |0,i,o,hi,b=>⟨o,by omega,by
  refine Ev.of_succ ?_;simp only[fI.l0,if_neg (show ¬((i:Int)<(n:Int)) by omega)];exact Ev.const _⟩
 |m+1,i,o,hi,b=>by
  obtain⟨t,e⟩:=qM hn a (i:Int) n 0 0 (by omega);obtain⟨r,g,h⟩:=vu hn a m (i+1) (o++[wrap64 (t-2)]) (by omega) (by simp[b]);refine⟨r,g,Ev.of_succ ?_⟩;simp only[fI.l0,if_pos (show (i:Int)<(n:Int) by omega),if_pos (show o.length<17592186044416 by omega),eh (show i<=1000000 by omega)];exact Ev.bind e h
theorem vw {a b:List Int} (g:a.length<=1000) (hb:a.length<=b.length) (s:Int):∀(m i:Nat) (o:List Int),i+m=a.length->o.length=a.length->∃r:List Int,Ev (fun k=>dx.l0 k a b s o i) r
 |0,i,o,hi,e=>⟨o,by
  refine Ev.of_succ ?_;simp only[dx.l0,if_neg (show ¬((i:Int)<(a.length:Int)) by omega)];exact Ev.const _⟩
 |m+1,i,o,hi,e=>by
  obtain⟨r,h⟩:=vw g hb s m (i+1) (o.set (i:Int).toNat (wrap64 (rd a i+wrap64 (s*rd b i)))) (by omega) (by rw[List.length_set];exact e);refine⟨r,Ev.of_succ ?_⟩;simp only[dx.l0,if_pos (show (i:Int)<(a.length:Int) by omega),if_pos (show (0:Int)<=(i:Int) by omega),if_pos (show (i:Int)<(b.length:Int) by omega),if_pos (show (i:Int)<(o.length:Int) by omega),eh (show i<=1000000 by omega)];exact h
theorem DC {n:Nat} (hn:n<=12) {E:List S83} (e:E.length<=1000) {d:List Int} (hd:d.length=n):∃r,Ev (fun k=>kP.f k n E d) r:=by
 obtain⟨r,i,g⟩:=vu hn e n 0 [] (by omega) rfl;obtain⟨o,h⟩:=vw (a:=r) (b:=d) (by omega) (by omega) (-1) r.length 0 (List.replicate r.length 0) (by omega) (by simp);refine⟨o,?_⟩;unfold kP.f fI.f;refine Ev.bind g ?_;refine Ev.bind (a:=o) ?_ (Ev.const _);unfold dx.f;simp only[if_pos (show (0:Int)<=(r.length:Int) by omega),aQ,if_pos (show r.length<=35184372088832 by omega)];exact h
theorem DD {N:Int} {E:List S83} (h:jD N E=0) (g:E.length<=9223372036854775807) (d:List Int) (i:Int):
  ∃b,Ev (fun k=>eS.f k N E d i) b/\(b=true->jE N E=true/\(jc N d=0->kR d=true)):=by
 obtain⟨b,hb,j⟩:=vt h g d i;unfold eS.f;cases l:b with
 |false=>
  subst l;refine⟨false,Ev.bind hb ?_,fun e=>by cases e⟩;simp only[Bool.false_eq_true,if_false];exact Ev.const _
 |true=>
  subst l;by_cases a:jc N d=0
  ·have hg:=gK (kQ h).1
   obtain⟨n,rfl⟩:=Int.eq_ofNat_of_zero_le (show 0<=N by omega);have q:=vo hg.2.1 hg.2.2;have hd:d.length=n:=by
    unfold jc at a;by_cases e:(d.length:Int)=(n:Int)
    ·omega
    ·rw[if_neg e] at a;cases a
   obtain⟨r,m⟩:=DC (n:=n) (by omega) (E:=E) (by omega) hd;obtain⟨o,p, -⟩:=vt h g r i;refine⟨o,Ev.bind hb ?_,fun _=>j rfl⟩;simp only[if_true];refine Ev.bind (mY h g d) ?_;simp only[if_pos a];exact Ev.bind m (Ev.bind p (Ev.const _))
  ·refine⟨true,Ev.bind hb ?_,fun _=>j rfl⟩
   simp only[if_true];refine Ev.bind (mY h g d) ?_;simp only[if_neg a];exact Ev.const _
structure Curve (n:Nat) (E:List S83) (d:List Int):Prop where
 check:cJ n E=0
 small:∀q,q<n->Small n q E
 val:T.sN (T.val n (timesOf E)) n<=14
 dl:d.length=n
 low:∀v:Nat,v<n-> -100<=rd d v/\rd d v<=100
theorem DE {N:Int} {E:List S83} {d:List Int} (h:jD N E=0) (a:jc N d=0) (b:jE N E=true) (j:kR d=true):∃n:Nat,N=n/\1<=n/\Curve n E d:=by
 obtain⟨g,j2⟩:=kQ h;obtain⟨g1,g2,g3⟩:=gK g;obtain⟨n,rfl⟩:=Int.eq_ofNat_of_zero_le (show 0<=N by omega);rw[aQ] at j2;unfold jE at b;rw[decide_eq_true_iff] at b;have hd:d.length=n:=by
  unfold jc at a;by_cases e:(d.length:Int)=(n:Int)
  ·omega
  ·rw[if_neg e] at a;cases a
 refine⟨n,rfl,by omega,g,fun q k=>⟨g3,(kE (by omega) g3).1 j2,b.1,by omega,by omega,k,by omega⟩,?_,hd,fun v m=>?_⟩
 ·have:=DB g3
  omega
 ·have l:=List.all_eq_true.1 j
  have i:v<d.length:=by omega
  have:=l d[v] (List.getElem_mem i);rw[decide_eq_true_iff] at this;have e:rd d (v:Int)=d[v]:=by simp[rd,bb,bP i]
  rw[e];exact this
theorem DF (N:Int) (E:List S83) (g:E.length<=9223372036854775807) (d:List Int) (j:Int):∃b,Ev (fun k=>vn.f k N E d j) b/\(b=true->∃n:Nat,N=n/\1<=n/\Curve n E d):=by
 unfold vn.f;by_cases h:jD N E=0
 ·have h1:=qK N E g
  rw[h] at h1;have hg:=gK (kQ h).1;by_cases a:jc N d=0
  ·obtain⟨b,hb,l⟩:=DD h g d j
   refine⟨b,Ev.bind h1 ?_,fun e=>?_⟩
   ·simp only[if_true]
    refine Ev.bind (lY d N ⟨hg.1,hg.2.1⟩) ?_;have i:(if(d.length:Int)=N then ig d else 8)=0:=a;simp only[if_pos i];exact Ev.bind hb (Ev.const _)
   ·exact DE h a (l e).1 ((l e).2 a)
  ·refine⟨false,Ev.bind h1 ?_,fun e=>by cases e⟩
   simp only[if_true];refine Ev.bind (lY d N ⟨hg.1,hg.2.1⟩) ?_;have i:¬(if(d.length:Int)=N then ig d else 8)=0:=a;simp only[if_neg i];exact Ev.const _
 ·refine⟨false,Ev.bind (qK N E g) ?_,fun e=>by cases e⟩
  simp only[if_neg h];exact Ev.const _
section
def eo (w:World) (g:Nat) (p:Nat->Nat):Prop:=∃cs:Array Value,w.heap[g]? =some (.cells cs 111 (0,0))/\cs.size=12/\∀i,i<12->cs[i]? =some (.int .i64 (p i:Nat))
namespace eo
variable {w w':World} {g:Nat} {p:Nat->Nat}
theorem lt (h:eo w g p):g<w.heap.size:=by
 obtain⟨cs,hb,_⟩:=h;exact az hb
theorem cell (h:eo w g p) (i:Nat) (hi:i<12):w.cell? ⟨g,i,none⟩=some (.int .i64 (p i:Nat)):=by
 obtain⟨cs,hb,_,a⟩:=h;exact(ai hb i).trans (a i hi)
theorem frozen (h:eo w g p) (k:Nat):w.frozen? ⟨g,k,none⟩=false:=by
 obtain⟨cs,hb,_⟩:=h;exact bD hb k
theorem grown {row:Option Nat} (h:eo w g p) (hg:w.grownBy w' row) (a:some g≠row):eo w' g p:=by
 obtain⟨cs,b,e⟩:=h;exact⟨cs,cS b hg a,e⟩
theorem below (h:eo w g p) (hb:Below w.heap.size w w'):eo w' g p:=by
 obtain⟨cs,a,b⟩:=h;exact⟨cs,aJ a hb,b⟩
theorem alloc (h:eo w g p) (o:Obj):eo (w.alloc o) g p:=h.below (ao (al _ _) o)
theorem set (h:eo w g p) (i:Nat) (hi:i<12) (x:Nat):eo (w.setCell ⟨g,i,none⟩ (.int .i64 x)) g (fun j=>if j=i then x else p j):=by
 obtain⟨cs,a,b,l⟩:=h;refine⟨cs.setIfInBounds i (.int .i64 x),by simpa using bR a i (.int .i64 x),by simp[b],?_⟩;intro k hk;by_cases e:k=i
 ·subst e
  rw[Array.getElem?_setIfInBounds_self_of_lt (by omega)];simp
 ·rw[Array.getElem?_setIfInBounds_ne (by omega),l k hk];simp[e]
theorem congr {q:Nat->Nat} (h:eo w g p) (he:∀i,i<12->q i=p i):eo w g q:=by
 obtain⟨cs,a,b,e⟩:=h;exact⟨cs,a,b,fun i hi=>by rw[he i hi];exact e i hi⟩
end eo
theorem vx (g v:Nat) (p:Nat->Nat) (w:World) (hf:hU p) (m:v<12) (hw:eo w g p):
  Calls Tryz.prog 86 #[.pointer (some ⟨g,0,none⟩),.int .i64 v] w fun e w'=>e= .returned (.int .i64 (rootOf p v:Nat))/\w=w':=by
 go_enter Tryz.func86,Tryz.ntmps86
 go_wp2;go_loop [1] (fun u=>∃k:Nat,k<12/\u= .int .i64 k/\rootOf p k=rootOf p v) (fun u=>(intOf u).toNat)
 case atStart=>exact⟨v,m,rfl,rfl⟩
 case round=>
  obtain⟨k,hk,rfl,h⟩:=hrel;have i:=Lib.hid h;clear h;have n:=hw.cell k hk;have o:(0:Int)<=(k:Int):=by omega
  have q:(k:Int)<12:=by omega
  have hle:=hf k;by_cases j:p k<k
  ·have a:rootOf p k=rootOf p (p k):=by rw[rootOf,dif_pos j]
   have b:=Lib.hid a;clear a;have r:((p k:Nat):Int)≠(k:Int):=by omega
   go_wp2;go_round
   case rel=>exact⟨p k,by omega,rfl,by rw[<-i.out,b.out]⟩
   case measure=>simp[intOf];omega
  ·have a:rootOf p k=k:=by rw[rootOf,dif_neg j]
   have b:=Lib.hid a;clear a;have l:p k=k:=by omega
   rw[l] at n;clear l;go_wp2;go_ret;exact⟨td (by rw[<-i.out,b.out]),rfl⟩
end
section
attribute [local go_sem] Oper.semAt_some jk jl jm jn
theorem DG (l f:Nat):(Fence.wide.inRound l).fn f=True:=rfl
attribute [local simp] DG
def fg (s:(Nat->Nat)×Nat) (x:Nat×Int×Int):(Nat->Nat)×Nat:=(dE s.1 x.2.1.toNat x.2.2.toNat,if rootOf s.1 x.2.1.toNat=rootOf s.1 x.2.2.toNat then s.2+1 else s.2)
def cw (xs:List (Nat×Int×Int)):(Nat->Nat)×Nat:=xs.foldl fg (id,0)
theorem DH (xs:List (Nat×Int×Int)) (x:Nat×Int×Int):cw (xs++[x])=fg (cw xs) x:=by simp[cw,List.foldl_append]
theorem vy (xs:List (Nat×Int×Int)):hU (cw xs).1/\(cw xs).2<=xs.length:=by
 have:∀(xs:List (Nat×Int×Int)) (s:(Nat->Nat)×Nat),hU s.1->hU (xs.foldl fg s).1/\(xs.foldl fg s).2<=s.2+xs.length:=by
  intro xs;induction xs with
  |nil=>intro s h;exact⟨h,by simp⟩
  |cons x xs a=>
   intro s h;obtain⟨h1,b⟩:=a (fg s x) (tb h _ _);refine⟨h1,Nat.le_trans b ?_⟩;have:(fg s x).2<=s.2+1:=by unfold fg;dsimp only;split<;>omega
   simp only[List.length_cons];omega
 have:=this xs (id,0) (fun i=>aI _);exact⟨this.1,by simpa [cw] using this.2⟩
theorem DJ (k:Nat) (N:Int) (A0:Option Addr) (c0:Nat) (E:List S83) (t:Int) (w:World) (g:Kd.C aN w A0 E.length E) (h:E.length<=c0) (a:bd.f k N E=some t) (b:t≠0):
  Calls Tryz.prog 31 #[.agg #[.int .i64 N,.slice A0 E.length c0]] w fun e w'=>e= .returned (.tuple #[.int .i64 0,.int .i64 t])/\Below w.heap.size w w':=by
 have hu:=Tryz.underlying24;have i:=zA a;have l:(t != 0)=true:=by simpa using b
 clear a b;go_enter Tryz.func31,Tryz.ntmps31
 go_wp2_with (go_at_call 64;refine(bd.calls k N A0 c0 E t _ (Kd.bE g _) h i.out).mono ?_;rintro e w1 ⟨rfl,hb⟩;have j:=zA (a7 (ao (al w.heap.size w) _) hb);clear hb)
 go_ret2;exact⟨rfl,j.out⟩
theorem DK (k n:Nat) (A0:Option Addr) (c0:Nat) (E:List S83) (w:World) (bn:Kd.C aN w A0 E.length E) (c5:E.length<=c0) (r:bd.f k n E=some 0) (hE:eQ E=true) (aa:ej n E) (hn:n<=12):
  Calls Tryz.prog 31 #[.agg #[.int .i64 n,.slice A0 E.length c0]] w fun e w'=>e= .returned (.tuple #[.int .i64 (cw (cg E E.length)).2,.int .i64 0])/\Below w.heap.size w w':=by
 have hu:=Tryz.underlying24;have Ht:=zA r;have HE:=zA hE;have HI:=zA aa;clear r hE aa;refine(callsIn_wide (n:=10)).1 ?_;refine callsIn_of_wp_marks Tryz.func31 rfl trivial ?_ rfl;simp only[Tryz.ntmps31,List.size_toArray,List.length_cons,List.length_nil,Nat.reduceAdd,Nat.reduceSub,Array.replicate_succ,Array.replicate_zero,List.push_toArray,List.append_toArray,List.nil_append,List.cons_append];gi_wp2_with (refine⟨trivial,?_⟩;gi_at_call 64;refine(callsIn_wide.2 (bd.calls k n A0 c0 E 0 _ (Kd.bE bn _) c5 Ht.out)).mono ?_;rintro e w1 ⟨rfl,hb⟩;have G:=zA (aJ (bl w (.cells #[.int .i64 n,.slice A0 E.length c0] 24)) hb);have J:=zA (a7 (ao (al w.heap.size w) _) hb);clear hb)
 have ab:Aside0 (eo (w1.alloc (.cells #[.int .i64 0,.int .i64 0,.int .i64 0,.int .i64 0,.int .i64 0,.int .i64 0,.int .i64 0,.int .i64 0,.int .i64 0,.int .i64 0,.int .i64 0,.int .i64 0] 111)) w1.heap.size (fun i=>if i<0 then i else 0)):=⟨⟨_,bl _ _,rfl,fun i hi=>by
  rw[show (#[.int .i64 0,.int .i64 0,.int .i64 0,.int .i64 0,.int .i64 0,.int .i64 0,.int .i64 0,.int .i64 0,.int .i64 0,.int .i64 0,.int .i64 0,.int .i64 0]:Array Value)=Array.replicate 12 (.int .i64 0) from rfl,Array.getElem?_replicate,if_pos hi];rfl⟩⟩
 have aL:=zA (aw G.out (.cells #[.int .i64 0,.int .i64 0,.int .i64 0,.int .i64 0,.int .i64 0,.int .i64 0,.int .i64 0,.int .i64 0,.int .i64 0,.int .i64 0,.int .i64 0,.int .i64 0] 111));have aO:=zA (ao J.out (.cells #[.int .i64 0,.int .i64 0,.int .i64 0,.int .i64 0,.int .i64 0,.int .i64 0,.int .i64 0,.int .i64 0,.int .i64 0,.int .i64 0,.int .i64 0,.int .i64 0] 111));have c9:w.heap.size<w1.heap.size:=az G.out;clear G J;generalize w1.alloc (.cells #[.int .i64 0,.int .i64 0,.int .i64 0,.int .i64 0,.int .i64 0,.int .i64 0,.int .i64 0,.int .i64 0,.int .i64 0,.int .i64 0,.int .i64 0,.int .i64 0] 111)=W1 at ab aL aO⊢;generalize w1.heap.size=gf at ab c9⊢;gi_loopg [17] (12) (fun kq vv wr=>∃v:Nat,v<=12/\vv= .int .i64 v/\Aside0 (eo wr gf (fun i=>if i<v then i else 0))/\Aside0 (wr.heap[w.heap.size]? =some (.cells #[.int .i64 n,.slice A0 E.length c0] 24 (0,0)))/\Aside0 (Below w.heap.size w wr)/\Aside0 (kq=12-v))
 case atStart=>exact⟨0,by omega,rfl,ab,aL,aO,⟨rfl⟩⟩
 case round=>
  clear ab aL aO;obtain⟨v,hv,rfl,O,G,J,HK⟩:=hrel;by_cases bw:v<12
  ·have e4:(0:Int)<=(v:Int):=by omega
   have e5:(v:Int)<12:=by omega
   have z1:=O.out.cell v bw;have z2:=O.out.frozen v;generalize (if v<v then v else 0)=z at z1;have dl:=zA ((O.out.set v bw v).congr (q:=fun i=>if i<v+1 then i else 0) (fun i hi=>by
    by_cases e:i=v
    ·subst e;simp
    ·simp only[if_neg e]
     by_cases h:i<v
     ·rw[if_pos h,if_pos (by omega)]
     ·rw[if_neg h,if_neg (by omega)]))
   have ds:=zA (aD (p:=⟨gf,v,none⟩) G.out (by show w.heap.size≠gf;omega) (.int .i64 v));have dv:=zA (Below.setCell (p:=⟨gf,v,none⟩) J.out (by show w.heap.size<=gf;omega) (.int .i64 v));clear O G J;gi_wp2;gi_roundg (12- (v+1))
   case measure=>rw[HK.out];omega
   case rel=>exact⟨v+1,by omega,by go_num,dl,ds,dv,⟨rfl⟩⟩
  ·obtain rfl:v=12:=by omega
   have aP:=zA (O.out.congr (q:=(cw []).1) (fun i hi=>by simp[cw,hi]));have y0:(wr.alloc (.cells #[.int .i64 0] 3)).cell? ⟨w.heap.size,0,none⟩=some (.int .i64 n):=(ai (aw G.out _) 0).trans rfl;have y1:(wr.alloc (.cells #[.int .i64 0] 3)).cell? ⟨w.heap.size,1,none⟩=some (.slice A0 E.length c0):=(ai (aw G.out _) 1).trans rfl;gi_wp2_with (refine⟨trivial,?_⟩;gi_at_call 85;refine(callsIn_wide.2 (tI n A0 c0 E _)).mono ?_;rintro e w3 ⟨rfl,rfl⟩)
   have S:=zA (show ((wr.alloc (.cells #[.int .i64 0] 3)).alloc (.cells #[.int .i64 n,.slice A0 E.length c0] 24)).heap[wr.heap.size]? =some (.cells #[.int .i64 ((cw []).2:Nat)] 3 (0,0)) from aw (bl wr _) _);have T:=zA (show ((wr.alloc (.cells #[.int .i64 0] 3)).alloc (.cells #[.int .i64 n,.slice A0 E.length c0] 24)).heap[wr.heap.size+1]? =some (.cells #[.int .i64 n,.slice A0 E.length c0] 24 (0,0)) from heap_alloc2_new wr _ _);have I:=zA (ao (ao J.out (.cells #[.int .i64 0] 3)) (.cells #[.int .i64 n,.slice A0 E.length c0] 24));have aS:=zA ((aP.out.alloc (.cells #[.int .i64 0] 3)).alloc (.cells #[.int .i64 n,.slice A0 E.length c0] 24));have d2:=aP.out.lt;clear y0 y1 O aP G J;generalize ((wr.alloc (.cells #[.int .i64 0] 3)).alloc (.cells #[.int .i64 n,.slice A0 E.length c0] 24))=g at S T I aS⊢;have b0:=az S.out;have d3:=az T.out;generalize a0:wr.heap.size+1=bx at T d3⊢;generalize wr.heap.size=bo at S d2 b0 a0⊢;have e6:=Nat.le_of_eq a0;clear a0;refine uI (σ:=Unit) (α:=Nat×Int×Int) (F:=Fence.wide) (n:=10) rfl (by decide) (gf:=140) (lb:=#[.pointer (some ⟨bx,0,none⟩)]) rfl trivial (enters_of Tryz.func140 (by kernel_rfl) rfl)
    (fun o=>tM bx n A0 c0 E w _ bn HE.out (ao (ao I.out _) _) (aw (aw T.out _) _)) (fun _=>rfl)
    (fun _=>True) ?eB ?st ?ar
    (fun _ pre W=>g.heap.size<=W.heap.size/\eo W gf (cw pre).1/\W.heap[bo]? =some (.cells #[.int .i64 ((cw pre).2:Nat)] 3 (0,0))/\Below w.heap.size w W) (fun _ _ _ _=>False)
    ?is (fun _ _ _ _ _ _ h _=>h) ?ib (fun _ _ _ _ _ h _=>h) ?kt ?h0 ?a1 (fun x W=>W.alloc (.cells #[.int .i64 x.2.1,.int .i64 x.2.2] 116)) ?hw ?rl ?assign ?body ?done (fun _ _ _ _ _ _ _ h=>h.elim)
   case assign=>
    intro l x W K hK;gi_wp2;exact hK
   case eB=>
    intro o s W1 h;exact⟨trivial,by rw[h];exact cp.refl _ _⟩
   case st=>intro s A B _ h;exact cW h
   case ar=>intro s x A B _ h;exact cW h.2
   case hw=>intro x W k o h1 h2 U _;exact aw U _
   case rl=>
    intro s x A D h;exact⟨fun aY=>((al w.heap.size A).alloc aY _).trans (h.1 (by simp;omega)),fun k cs t r hk=>h.2 k cs t r (aw hk _)⟩
   case is=>
    rintro s pre A B _ ⟨L,h1,h2,U⟩ ag;exact⟨Nat.le_trans L ag.size,h1.below ag,aJ h2 ag,a7 U ag⟩
   case ib=>
    rintro s pre A B ⟨L,⟨cs,h1,ak⟩,h2,U⟩ hb;exact⟨by rw[hb.size];exact L,⟨cs,hb.cells h1,ak⟩,hb.cells h2,U.trans (hb.below w.heap.size (by have:=I.out.size;omega))⟩
   case kt=>
    intro s A B C D a2 b6 b_;have:=I.out.size;exact⟨fun aY=>((a2.below w.heap.size (by omega)).trans (b6.1 (by rw[a2.size];exact aY))).trans (b_.below w.heap.size (by omega)),fun k cs t r hk=>b_.cells (b6.2 k cs t r (a2.cells hk))⟩
   case h0=>
    rintro o s W1 rfl;exact⟨by simp;omega,(aS.out.alloc _).alloc _,aw (aw S.out _) _,ao (ao I.out _) _⟩
   case body=>
    rintro l s pre ⟨i,a,b⟩ Wb W1 W _ ⟨L,i1,i2,i3⟩ ⟨b',V⟩ ca H;obtain⟨ed,cb,cc,cd⟩:=qd E E.length (aI _) _ b';have aa:=HI.out ed cb;simp only at cc cd;obtain⟨a,rfl⟩:=Int.eq_ofNat_of_zero_le (show 0<=a by omega);obtain⟨b,rfl⟩:=Int.eq_ofNat_of_zero_le (show 0<=b by omega);have ha:a<12:=by omega
    have hb:b<12:=by omega
    have d7:=I.out.size;have d8:g.heap.size<=W1.heap.size:=Nat.le_trans L V.size;have ce:=(vy pre).1;have d9:=(vy pre).2;have HS:=zA (DH pre (i,(a:Int),(b:Int)));have ca:pre.length<2000:=ca;obtain⟨cs,h1,ak⟩:=(i1.below V).alloc (.cells #[.int .i64 a,.int .i64 b] 116);have M:Aside0 (eo W gf (cw pre).1):=⟨cs,H.cells h1,ak⟩;have b2:=zA (H.cells (aw (aJ i2 V) (.cells #[.int .i64 a,.int .i64 b] 116)));have b3:=zA ((ao (a7 i3 V) (.cells #[.int .i64 a,.int .i64 b] 116)).trans (H.below w.heap.size (by omega)));have b4:=zA (H.cells (bl W1 (.cells #[.int .i64 a,.int .i64 b] 116)));have aY:W.heap.size=W1.heap.size+1:=by rw[H.size];simp
    have ci:g.heap.size<=W.heap.size:=by omega
    clear i1 i2 i3 V H h1 ak aY d8 L b' cb cc cd aa;generalize W1.heap.size=pb at b4⊢;have ea:W.cell? ⟨pb,0,none⟩=some (.int .i64 a):=(ai b4.out 0).trans rfl;have eb:W.cell? ⟨pb,1,none⟩=some (.int .i64 b):=(ai b4.out 1).trans rfl;have e':=Tryz.underlying116;have a3:=zA (fun m=>vx gf a (cw pre).1 (W.drewN m) ce ha (M.out.below (b8 (al _ _) m)));have a4:=zA (fun m=>vx gf b (cw pre).1 (W.drewN m) ce hb (M.out.below (b8 (al _ _) m)));have eg:=iD (cw pre).1 a;have ek:=iD (cw pre).1 b;have P:Aside0 (fg (cw pre) (i,(a:Int),(b:Int))=(dE (cw pre).1 a b,if rootOf (cw pre).1 a=rootOf (cw pre).1 b then(cw pre).2+1 else(cw pre).2)):=⟨rfl⟩;have Q:Aside0 (dE (cw pre).1 a b=fun j=>if j=max (rootOf (cw pre).1 a) (rootOf (cw pre).1 b) then min (rootOf (cw pre).1 a) (rootOf (cw pre).1 b) else(cw pre).1 j):=⟨rfl⟩;generalize dE (cw pre).1 a b=pj at P Q;generalize rootOf (cw pre).1 a=x at a3 P Q eg;generalize rootOf (cw pre).1 b=y at a4 P Q ek;generalize ck:(cw pre).2=gc at b2 d9 P;clear ck;have fb:(0:Int)<=(x:Int):=by omega
    have fd:(0:Int)<=(y:Int):=by omega
    have fn:(x:Int)<12:=by omega
    have fo:(y:Int)<12:=by omega
    gi_wp2;refine BK rfl (by kernel_rfl) (by kernel_rfl) ?_;repeat(gi_big_quiet_step (fail))
    gi_big_quiet_want
    gi_big_quiet_op
    gi_big_quiet_call ((gi_at_call 86;exact CallsIn.quiet_of_same (callsIn_wide.2 ((a3.out _).mono (fun e w' h=>⟨h.1,h.2.symm⟩)))))
    repeat(gi_big_quiet_step (fail))
    gi_big_quiet_want
    gi_big_quiet_op
    gi_big_quiet_call ((gi_at_call 86;exact CallsIn.quiet_of_same (callsIn_wide.2 ((a4.out _).mono (fun e w' h=>⟨h.1,h.2.symm⟩)))))
    repeat(gi_big_quiet_step (fail))
    refine wpQuietIn_nil ?_;rintro _ ⟨nq,rfl⟩;have u:=zA (M.out.below (b8 (al _ _) nq));have R:=zA (iw b2.out nq);have I3:=zA (b8 b3.out nq);have ap:=zA (cW (nw:=g.heap.size) (b8 (al W.heap.size W) nq));have av:=zA (b8 (al w.heap.size W) nq);have aB:Aside0 (∀k:Nat,(W.drewN nq).heap[k]? =W.heap[k]?):=⟨fun k=>by simp⟩;have aF:g.heap.size<=(W.drewN nq).heap.size:=by simpa using ci
    have em:Aside0 (∀(k:Nat) (cs:Array Value) (t:TypeId),(t=24\/t=83)->W.heap[k]? =some (Obj.cells cs t (0,0))->k≠gf/\k≠bo):=⟨fun k cs t r hk=>by
     obtain⟨cf,cl, -⟩:=M.out;refine⟨fun e=>?_,fun e=>?_⟩
     ·subst e;rw[hk] at cl;injection cl with h;injection h with _ h _;rcases r with rfl|rfl<;>exact absurd h (by decide)
     ·subst e;have h:=hk.symm.trans b2.out;injection h with h;injection h with _ h _;rcases r with rfl|rfl<;>exact absurd h (by decide)⟩
    have co:gf≠bo:=by omega
    have cq:w.heap.size<=gf:=by omega
    have cr:w.heap.size<=bo:=by omega
    have ck:(gc:Int)<=2000:=by omega
    have fr:(0:Int)<=(gc:Int):=by omega
    clear M b2 b3 b4 ea eb a3 a4 ci S T I aS;generalize W.drewN nq=N at u R I3 ap av aB aF⊢;have ft:=zA (fun j=>u.out.frozen j);have cv:∀(j v:Nat) (W1:World) (g':Nat),j<12->g.heap.size<=W1.heap.size->eo W1 gf (cw pre).1->W1.heap[bo]? =some (.cells #[.int .i64 (g':Nat)] 3 (0,0))->Below w.heap.size w W1->cp g.heap.size W W1->Below w.heap.size W W1->(∀k,k≠gf->k≠bo->W1.heap[k]? =W.heap[k]?)->
      (fun i=>if i=j then v else(cw pre).1 i)=pj->g'=(if x=y then gc+1 else gc)->qa (σ:=Unit) g.heap.size (fun X Y=>qc w.heap.size X Y) (fun pre W=>g.heap.size<=W.heap.size/\eo W gf (cw pre).1/\W.heap[bo]? =some (.cells #[.int .i64 ((cw pre).2:Nat)] 3 (0,0))/\Below w.heap.size w W) (fun (_:Code) (_:List (Nat×Int×Int)) (_:World)=>False) (pre++[(i,(a:Int),(b:Int))]) W Exit.normal {tmps:=#[],defers:=[]} (W1.setCell ⟨gf,j,none⟩ (.int .i64 v)):=by
     intro j v W1 g' hj a9 f1 f2 f3 f4 f5 f6 f7 f8;refine⟨f4.trans (fz _ _ (show gf<g.heap.size by omega)),⟨fun _=>Below.setCell (p:=⟨gf,j,none⟩) f5 cq _,fun k cs t r hk=>?_⟩,by simpa using a9,?_,?_,Below.setCell (p:=⟨gf,j,none⟩) f3 cq _⟩
     ·obtain⟨k1,k2⟩:=em.out k cs t r hk
      exact(Below.heap_setCell _ _ _ _ k1).trans ((f6 k k1 k2).trans hk)
     ·rw[HS.out,P.out]
      have h:=f1.set j hj v;rw[f7] at h;exact h
     ·rw[HS.out,P.out]
      simp only;rw[<-f8];exact aD f2 (fun e=>co e.symm) _
    have be:=zA cv;clear cv;rcases Nat.lt_trichotomy x y with bf|bf|bf
    ·have hl:(x:Int)<(y:Int):=by omega
     have he:((x:Int)==(y:Int))=false:=by simpa using (show ¬(x:Int)=(y:Int) by omega)
     have hm:max x y=y:=by omega
     have Z:min x y=x:=by omega
     have hz:=u.out.cell y (by omega);have hf:=u.out.frozen y;have HM:=zA hm;have bi:=zA Z;clear hm Z;gi_wp2;exact be.out y x N gc (by omega) aF u.out R.out I3.out ap.out av.out (fun k _ _=>aB.out k) (by rw[Q.out,HM.out,bi.out]) (by rw[if_neg (by omega)])
    ·subst bf
     have he:((x:Int)==(x:Int))=true:=by simp
     have hl:¬(x:Int)<(x:Int):=by omega
     have hz:=u.out.cell x (by omega);have hf:=u.out.frozen x;have z1:=dG R.out;have z2:=bD R.out 0;have ev:bo<g.heap.size:=b0;have a9:=zA (show g.heap.size<=(N.setCell ⟨bo,0,none⟩ (.int .i64 ((gc:Int)+1))).heap.size by simpa using aF);have J1:=zA (u.out.grown (jZ N bo 0 (.int .i64 ((gc:Int)+1))) (fun e=>by injection e with e;exact co e));have fv:=J1.out.cell x (by omega);have f0:=J1.out.frozen x;have J2:Aside0 ((N.setCell ⟨bo,0,none⟩ (.int .i64 ((gc:Int)+1))).heap[bo]? =some (.cells #[.int .i64 ((gc+1:Nat):Int)] 3 (0,0))):=⟨by simpa using bR R.out 0 (.int .i64 ((gc:Int)+1))⟩;have J3:=zA (Below.setCell (p:=⟨bo,0,none⟩) I3.out cr (.int .i64 ((gc:Int)+1)));have J4:=zA (ap.out.trans (fz (bo:=bo) (j:=0) N (.int .i64 ((gc:Int)+1)) ev));have J5:=zA (Below.setCell (p:=⟨bo,0,none⟩) av.out cr (.int .i64 ((gc:Int)+1)));have J6:Aside0 (∀k,k≠gf->k≠bo->(N.setCell ⟨bo,0,none⟩ (.int .i64 ((gc:Int)+1))).heap[k]? =W.heap[k]?):=⟨fun k _ h=>(Below.heap_setCell _ _ _ _ h).trans (aB.out k)⟩;gi_wp2;exact be.out x x _ (gc+1) (by omega) a9.out J1.out J2.out J3.out J4.out J5.out J6.out (by rw[Q.out,Nat.max_self,Nat.min_self]) (by simp)
    ·have hl:¬(x:Int)<(y:Int):=by omega
     have f9:(y:Int)<(x:Int):=by omega
     have he:((x:Int)==(y:Int))=false:=by simpa using (show ¬(x:Int)=(y:Int) by omega)
     have hm:max x y=x:=by omega
     have Z:min x y=y:=by omega
     have hz:=u.out.cell x (by omega);have hf:=u.out.frozen x;have HM:=zA hm;have bi:=zA Z;clear hm Z;gi_wp2;exact be.out x y N gc (by omega) aF u.out R.out I3.out ap.out av.out (fun k _ _=>aB.out k) (by rw[Q.out,HM.out,bi.out]) (by rw[if_neg (by omega)])
   case done=>
    rintro s xs W W' _ rfl ⟨L,i1,i2,i3⟩ H c3;have d7:=I.out.size;have M:=zA (H.cells i2);have b3:=zA (i3.trans (H.below w.heap.size (by omega)));have c4:=zA c3;clear i1 i2 i3 c3;have hc:=dG M.out;gi_wp2_with fail
    have e2:Bk g.heap.size W' (W'.putObj g.heap.size (.deferred none)):=⟨_,_,c4.out,rfl,rfl⟩;exact i' (D:=g.heap.size) rfl c4.out (results_tmp2 rfl _ _ _) ⟨rfl,b3.out.trans (e2.below w.heap.size (by omega))⟩
def mZ (N:Int) (E:List S83):Bool:=decide (0<=N/\N<=12)&&eQ E&&iZ N E
def eT.f (k:Nat) (N:Int) (E:List S83):Option (Int×Int):=
 (bd.f k N E).bind fun e=>if e=0 then(if mZ N E=true then some (((cw (cg E E.length)).2:Nat),0) else none) else some (0,e)
theorem eT.mono:∀a b k,aj (eT.f k a b) (eT.f (k+1) a b):=by
 intro N E k;unfold eT.f;exact aj.bind (bd.mono _ _ _) (fun _=>aj.refl _)
theorem eT.calls (k:Nat) (i:Int) (j:Option Addr) (l:Nat) (b:List (S83)) (o:Int) (p:Int) (w:World) (q:Kd.C aN w j b.length b) (r:b.length<=l) (h:eT.f k i b=some (o,p)):
  Calls Tryz.prog 31 #[.agg #[.int .i64 i,.slice j b.length l]] w fun e w'=>e= .returned (.tuple #[.int .i64 o,.int .i64 p])/\Below w.heap.size w w':=by
 unfold eT.f at h;obtain⟨e,he,a⟩:=Option.bind_eq_some_iff.1 h;clear h;by_cases m:e=0
 ·subst m
  rw[if_pos rfl] at a;by_cases g:mZ i b=true
  ·rw[if_pos g] at a
   simp only[Option.some.injEq,Prod.mk.injEq] at a;obtain⟨rfl,rfl⟩:=a;unfold mZ at g;simp only[Bool.and_eq_true,decide_eq_true_eq] at g;obtain⟨⟨⟨h1,v⟩,s⟩,u⟩:=g;obtain⟨n,rfl⟩:=Int.eq_ofNat_of_zero_le h1;exact DK k n j l b w q r he s (lH u) (by omega)
  ·rw[if_neg g] at a;cases a
 ·rw[if_neg m] at a
  simp only[Option.some.injEq,Prod.mk.injEq] at a;obtain⟨rfl,rfl⟩:=a;exact DJ k i j l b e w q r he m
end
end Go.Proofs.YtffdiakgjakngaaGreat.P


