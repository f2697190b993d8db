/- Canons answers true whatever the input (text 4 of 7): own walks and plain laws; no conditions. -/
import Derived.Deep.RegionHeld3
import Derived.Laws.EntriesVeiled
import Derived.Lib.SliceRun
import Derived.Test.YtffdiakgjakngaaGreatCanons3
namespace Go.Proofs.YtffdiakgjakngaaGreat.P
open Go.RowKit Go.Proofs.YtffdiakgjakngaaGreatW.PrintWords Go.Proofs.YtffdiakgjakngaaGreatW.PrintLast Go.Proofs.YtffdiakgjakngaaGreatW.PrintMore
set_option linter.unusedVariables false
set_option linter.unusedSimpArgs false
set_option maxHeartbeats 8000000
set_option maxRecDepth 100000
theorem lS (t:TypeId) (g:Tryz.prog.underlying t=some (.slice 3)) (n:Nat) (hn:n<=1000):∃zs:Array Value,(∀W:World,(Instr.makeSlice t (.int .i64 n) (.int .i64 n)).run Tryz.prog W= .ok (.slice (some ⟨W.heap.size,0,none⟩) n n) (W.alloc (.cells zs 3)))/\
  ∀(W:World) (ok:Nat->Prop),ok W.heap.size->(Kd.int .i64).R 3 (W.alloc (.cells zs 3)) W.heap.size ok (.slice (some ⟨W.heap.size,0,none⟩) n n) (List.replicate n 0):=by
 obtain⟨i0,hi,b⟩:=Option.map_eq_some_iff.1 fW;simp only[Prod.mk.injEq] at b;obtain⟨i,j,l⟩:=b;refine⟨madeCells (Value.int .i64 0).cells (n*1),fun W=>?_,fun W ok m=>⟨fun k hk=>?_,(madeCells (Value.int .i64 0).cells (n*1)).toList,?_,?_⟩⟩
 ·have a:=run_make (P:=Tryz.prog) W t 3 i0 (.int .i64 0) g hi i .i64 .i64 (n:Int) (n:Int) (by omega) (by omega) (by rw[l];omega) (by omega)
  simp only[aQ] at a;rw[j] at a;exact a
 ·have:W.heap.size=k:=by simpa [Value.ownBlock] using hk
  subst this;exact m
 ·have h:=World.ownsRow_lit (base:=W.heap.size) (e:=3) (size:=1) W (madeCells (Value.int .i64 0).cells (n*1)) n (aI _) (by simp only[maxLen];omega) (size_madeCells _ _)
  rw[List.length_replicate];exact h
 ·exact Kd.rU (R:=(Kd.int .i64).M (W.alloc (.cells (madeCells (Value.int .i64 0).cells (n*1)) 3)) W.heap.size (fun k=>ok k/\some k≠(Value.slice (some ⟨W.heap.size,0,none⟩) n n).ownBlock)) (size:=1) (z:=Value.int .i64 0) (z0:=(0:Int)) rfl (by decide) rfl n
theorem CH {w W:World} {gb:Nat} {v:Value} {cs:Array Value} {t:TypeId} (h1:W.heap[gb]? =some (.cells cs t (0,0))) (a:W.cell? ⟨gb,0,none⟩=some v) (b:Below gb w W):W.drew.heap[gb]? =some (.cells cs t (0,0))/\W.drew.cell? ⟨gb,0,none⟩=some v/\Below gb w W.drew:=⟨h1,a,bV b⟩
theorem CI {w W:World} {gb:Nat} {v:Value} {cs:Array Value} {t:TypeId} {o:Obj} (h1:W.heap[gb]? =some (.cells cs t (0,0))) (a:W.cell? ⟨gb,0,none⟩=some v) (b:Below gb w W):(W.alloc o).heap[gb]? =some (.cells cs t (0,0))/\(W.alloc o).cell? ⟨gb,0,none⟩=some v/\Below gb w (W.alloc o):=
 ⟨ay h1 _,by rw[al (ay h1 _) 0,<-al h1 0];exact a,b.alloc (Nat.le_of_lt (aE h1)) _⟩
theorem CJ {w W W1:World} {gb:Nat} {v:Value} {cs:Array Value} {t:TypeId} (h1:W.heap[gb]? =some (.cells cs t (0,0))) (a:W.cell? ⟨gb,0,none⟩=some v) (b:Below gb w W) (hb:Below W.heap.size W W1):W1.heap[gb]? =some (.cells cs t (0,0))/\W1.cell? ⟨gb,0,none⟩=some v/\Below gb w W1:=
 ⟨aM h1 hb,by rw[al (aM h1 hb) 0,<-al h1 0];exact a,b.trans ⟨hb.os,hb.tape,hb.output,hb.size,fun k hk=>hb.block k (by have:=aE h1;omega)⟩⟩
theorem lT {W:World} {o:Obj} {g:Nat} (h:g=W.heap.size):(W.alloc o).heap[g]? =some o:=by rw[h];exact bm W o
theorem lU {a w1 W':World} {gb bv:Nat} {v:Value} {dl:List Int} (b:(Kd.int .i64).R 3 w1 a.heap.size (fun _=>True) v dl) (e:gb<=a.heap.size)
  (g:∀{ok:Nat->Prop},(Kd.int .i64).R 3 w1 gb ok v dl->(Kd.int .i64).R 3 W' gb ok v dl) (h:bv<a.heap.size\/w1.heap.size<=bv):(Kd.int .i64).R 3 W' gb (fun k=>k≠bv) v dl:=
 g (Kd.ba (Kd.a_ (Kd.eH b) (fun k hk=>by have i:=hk.2.1;have a2:=hk.2.2.1;omega)) e)
theorem dU {a w1 W' Y:World} {gb bv n:Nat} {v:Value} {dl:List Int} {zs:Array Value} (g:(Kd.int .i64).R 3 (Y.alloc (.cells zs 3)) Y.heap.size (fun k=>k=Y.heap.size) (.slice (some ⟨Y.heap.size,0,none⟩) n n) (List.replicate n 0)) (h:bv=Y.heap.size)
  (hb:Below (Y.alloc (.cells zs 3)).heap.size (Y.alloc (.cells zs 3)) W') (b:(Kd.int .i64).R 3 w1 a.heap.size (fun _=>True) v dl) (i:gb<=bv) (j:bv<a.heap.size\/w1.heap.size<=bv):
  (Kd.int .i64).R 3 W' gb (fun k=>some k≠v.ownBlock) (.slice (some ⟨bv,0,none⟩) n n) (List.replicate n 0):=by
 subst h;refine Kd.ba (Kd.a_ (Kd.cU g hb) (fun k hk e=>?_)) i;have h1:=Kd.dD b k e.symm;have l:=Kd.a7 b k e.symm;omega
theorem CK (k n:Nat) (A0:Option Addr) (c0:Nat) (E:List S83) (q:Int) (Ad:Option Addr) (cd:Nat) (dl:List Int) (w:World) (em:Kd.C aT w A0 E.length E) (er:E.length<=c0) (hd:Kd.C (Kd.int .i64) w Ad dl.length dl) (es:dl.length<=cd)
  (hn:n<=12) (b6:dl.length=n) (ht:bj.f k n E=some 0) (hE:e8 E=true) (ca:ep n E):
  Calls Tryz.prog 212 #[.agg #[.int .i64 n,.slice A0 E.length c0],.int .i64 q,.slice Ad dl.length cd] w fun e w'=>∃(gp:Nat) (o cb:Option Addr) (r cc:Nat) (rv:Value),e= .returned (.tuple #[.pointer (some ⟨gp,0,none⟩),.int .i64 0])/\cL w' gp (.slice o dl.length r) q rv (.slice cb n cc) (fun x=>if x<dl.length then iG q (gO n E) dl x else false)/\(Kd.int .i64).R 3 w' w.heap.size (fun _=>True) (.slice cb n cc) (gO n E)/\Below w.heap.size w w':=by
 have hu:=Tryz.underlying24;have gr:=Tryz.underlying236;have gs:=Tryz.underlying234;have gt:=Tryz.underlying205;have gx:dl.length<=12:=by omega
 have ev:=zA b6;clear b6;have Ht:=zA ht;have HE:=zA hE;have HI:=zA ca.get;clear ht hE ca;have HC:=zA (fun W h=>mN.calls Ad cd dl dl W h es (by unfold mN.f clone.f;rw[if_pos (by omega)]));obtain⟨zs,g1,ch⟩:=lS 25 Tryz.underlying25 n (by omega);have s:=zA ch;clear ch;go_enter Tryz.func212,Tryz.ntmps212
 go_wp2_with fail
 have Z:=zA (show (w.alloc (.cells #[.int .i64 n,.slice A0 E.length c0] 24)).heap[w.heap.size]? =some (.cells #[.int .i64 n,.slice A0 E.length c0] 24 (0,0)) from bm w _);have I:(w.alloc (.cells #[.int .i64 n,.slice A0 E.length c0] 24)).cell? ⟨w.heap.size,0,none⟩=some (.int .i64 n):=(al Z.out 0).trans rfl;have B:=zA (aq (ao w.heap.size w) (.cells #[.int .i64 n,.slice A0 E.length c0] 24));generalize (w.alloc (.cells #[.int .i64 n,.slice A0 E.length c0] 24))=W0 at I Z B⊢;have cj:=aE Z.out;have ck:=fun W h=>Kd.au (w:=w) (w1:=W) hd h
 have a1:=zA ck;clear ck;generalize a2:w.heap.size=gb at I Z cj B a1⊢;refine Code.wp_mono (Q:=fun e a W'=>e=Exit.normal/\∃(gp bv bf r:Nat) (o:Option Addr) (u16 u17 u18 u19 u20 u21 u22 u23 u24 u25 u26:Value),a={tmps:=#[.agg #[.int .i64 n,.slice A0 E.length c0],.int .i64 q,.slice Ad dl.length cd,.pointer (some ⟨gb,0,none⟩),undef,undef,.pointer none,.int .i64 0,.pointer (some ⟨gp,0,none⟩),undef,undef,undef,undef,undef,undef,undef,u16,u17,u18,u19,u20,u21,u22,u23,u24,u25,u26,undef,undef,undef,undef,undef,undef,undef,undef,undef,undef,undef,undef,undef,undef,undef,undef,undef,undef,undef,undef,undef,undef,undef,undef,undef,undef,undef,undef,undef,undef,undef,undef,undef,undef,undef,undef,undef,undef,undef,undef,undef,undef,undef,undef,undef,undef,undef,undef,undef,undef,undef,undef,undef,undef,undef,undef,undef,undef,undef,undef,undef,undef,undef,undef,undef,undef,undef,undef,undef,undef,undef,undef,undef,undef,undef,undef,undef,undef,undef,undef,undef,undef,undef,undef,undef,undef,undef,undef,undef,undef,undef,undef,undef,undef],defers:=[]}/\gb<gp/\W'.heap[gp]? =some (.cells #[.slice o dl.length r,.int .i64 q,.slice none 0 0,.slice (some ⟨bv,0,none⟩) n n,.slice (some ⟨bf,0,none⟩) n n,.int .i64 0,.bool false,.bool false,.bool false,.bool false,.bool false,.bool false,.bool false,.bool false,.bool false,.bool false,.bool false,.bool false] 236 (0,0))/\(Kd.int .i64).R 3 W' gb (fun k=>k≠bv) (.slice o dl.length r) dl/\(Kd.int .i64).R 3 W' gb (fun k=>some k≠(Value.slice o dl.length r).ownBlock) (.slice (some ⟨bv,0,none⟩) n n) (List.replicate n 0)/\W'.heap[gb]? =some (.cells #[.int .i64 n,.slice A0 E.length c0] 24 (0,0))/\Below gb w W') ?_ ?_
 ·rintro e a W' ⟨rfl,gp,bv,bf,r,o,u16,u17,u18,u19,u20,u21,u22,u23,u24,u25,u26,rfl,g2,co,cq,cs,a3,hB⟩
  dsimp only;have u:=zA (show cL W' gp (.slice o dl.length r) q (.slice none 0 0) (.slice (some ⟨bv,0,none⟩) n n) (fun _=>false) from⟨_,co,rfl,rfl,rfl,rfl,rfl,fun i hi=>by match i,hi with|0,_=>rfl|1,_=>rfl|2,_=>rfl|3,_=>rfl|4,_=>rfl|5,_=>rfl|6,_=>rfl|7,_=>rfl|8,_=>rfl|9,_=>rfl|10,_=>rfl|11,_=>rfl⟩);have P:=zA cq;have T:=zA cs;have F:=zA a3;have cx:=zA hB;have aB:W'.cell? ⟨gb,0,none⟩=some (.int .i64 n):=(al a3 0).trans rfl;clear co cq cs a3 hB I Z B cj HC a1;clear W0;go_wp2;go_loopw [29] (fun i wr=>∃(j:Nat) (rv:Value) (rows:List (List Int)),j<=n/\i= .int .i64 j/\Aside0 (rows.length=j)/\Aside0 (∀y∈rows,y.length=n)/\Aside0 (cL wr gp (.slice o dl.length r) q rv (.slice (some ⟨bv,0,none⟩) n n) (fun _=>false))/\Aside0 ((Kd.int .i64).R 3 wr gb (fun k=>k≠bv) (.slice o dl.length r) dl)/\Aside0 ((Kd.int .i64).R 3 wr gb (fun k=>some k≠(Value.slice o dl.length r).ownBlock) (.slice (some ⟨bv,0,none⟩) n n) (List.replicate n 0))/\Aside0 (Kd.S (Kd.slice 3 (Kd.int .i64)) 25 wr gb (fun k=>some k≠(Value.slice o dl.length r).ownBlock/\k≠bv) rv rows)/\Aside0 (wr.heap[gb]? =some (.cells #[.int .i64 n,.slice A0 E.length c0] 24 (0,0)))/\Aside0 (Below gb w wr)) (fun i _=>n- (intOf i).toNat)
  case atStart=>exact⟨0,_,[],by omega,rfl,⟨rfl⟩,⟨fun y hy=>absurd hy (by simp)⟩,u,P,T,⟨Kd.fh _ _ _ _ _⟩,F,cx⟩
  case round=>
   clear u P T F cx aB;obtain⟨j,rv,rows,hj,rfl,J,U,u,P,T,G,F,B⟩:=hrel;by_cases g3:j<n
   ·have aY:=aE F.out
    obtain⟨M,cr,rfl⟩:=Kd.lB G.out;have ey:=(al F.out 0).trans (show _=some (.int .i64 n) from rfl);have e0:(wr.alloc (.cells zs 3)).drew.cell? ⟨gb,0,none⟩=some (.int .i64 n):=(al (ay F.out _) 0).trans rfl;have e1:=u.out.lR;have e2:(wr.alloc (.cells zs 3)).drew.cell? ⟨gp,2,none⟩=some (.slice M rows.length cr):=(u.out.below (aq (ao _ _) _)).lR;have e3:((wr.alloc (.cells zs 3)).alloc (.cells #[.slice (some ⟨wr.heap.size,0,none⟩) n n] 25)).drew.cell? ⟨gp,2,none⟩=some (.slice M rows.length cr):=(u.out.below (aq (aq (ao _ _) _) _)).lR;have g4:rows.length<=12:=by have:=J.out;omega
    have a9:∀k,wr.heap.size<=k->some k≠(Value.slice o dl.length r).ownBlock/\k≠bv:=fun k hk=>⟨fun e=>by have:=Kd.a7 P.out k e.symm;omega,fun e=>by have:=Kd.a7 T.out bv (by simp[Value.ownBlock]);omega⟩
    have e4:=zA (Kd.l8 (Kd.bd (Kd.ba (s.out wr (fun k=>k=wr.heap.size) rfl) (Nat.le_of_lt aY))));have e5:=zA (Kd.sr (Kd.pz (Kd.kA (ok':=fun k=>(some k≠(Value.slice o dl.length r).ownBlock/\k≠bv)/\¬k=wr.heap.size) (Kd.mf G.out) (fun k hk=>⟨hk.1,by have:=hk.2.2.1;omega⟩)) (.cells zs 3)));have e6:=zA (bV (B.out.alloc (Nat.le_of_lt aY) (.cells zs 3)));have e_:Aside0 (∀k,k=wr.heap.size->(some k≠(Value.slice o dl.length r).ownBlock/\k≠bv)/\some k≠(Value.slice M rows.length cr).ownBlock):=⟨fun k hk=>⟨a9 k (by omega),fun e=>by have:=Kd.yp G.out k e.symm;omega⟩⟩;have e':Aside0 (∀k,(wr.alloc (.cells zs 3)).drew.heap.size<=k->some k≠(Value.slice o dl.length r).ownBlock/\k≠bv):=⟨fun k hk=>a9 k (by have h1:(wr.alloc (.cells zs 3)).drew.heap.size=wr.heap.size+1:=World.size_alloc wr _;omega)⟩;have fb:Aside0 (gb<=(wr.alloc (.cells zs 3)).drew.heap.size):=⟨by have h1:(wr.alloc (.cells zs 3)).drew.heap.size=wr.heap.size+1:=World.size_alloc wr _;omega⟩;have c1:=zA (show cL (wr.alloc (.cells zs 3)).drew gp (.slice o dl.length r) q (.slice M rows.length cr) (.slice (some ⟨bv,0,none⟩) n n) (fun _=>false) from(u.out.below (aq (ao wr.heap.size wr) (.cells zs 3))).drew);have c2:=zA (show (wr.alloc (.cells zs 3)).drew.heap[gb]? =some (.cells #[.int .i64 n,.slice A0 E.length c0] 24 (0,0)) from ay F.out _);have aF:=zA (Kd.sr (Kd.pz G.out (.cells zs 3)));have fd:=zA (Kd.bd (Kd.aK P.out (.cells zs 3)));have fn:=zA (Kd.bd (Kd.aK T.out (.cells zs 3)));clear a9;have fo:=zA (show (wr.alloc (.cells zs 3)).drew.heap.size=wr.heap.size+1 from World.size_alloc wr _);go_wp2;go_region_law ((refine Kd.yu (Kd.slice 3 (Kd.int .i64)) (w0:=w) (W:=(wr.alloc (.cells zs 3)).drew) gb (by rfl) (.tmp 35) (.tmp 39) 73 25 (.slice none 0 0) 24 (by rfl) Tryz.underlying73 sW rfl (by decide) (by omega) _ rows (List.replicate n 0) [.slice (some ⟨wr.heap.size,0,none⟩) n n] (fun k=>some k≠(Value.slice o dl.length r).ownBlock/\k≠bv) (fun k=>k=wr.heap.size) (by rfl) (by rw[fo.out];rfl) e4.out e_.out e'.out e5.out e6.out fb.out (by omega) ?_;intro v4 w4 be c3 ak fr;obtain⟨V,c4,c5⟩:=Kd.lB be;rw[show (rows++[List.replicate n (0:Int)]).length=rows.length+1 by simp] at c5;subst c5;have c6:=zA be;have c7:=zA c3;have X:=zA (c1.out.grown ak (c1.out.qQ (Kd.nD aF.out) (by decide)));have c8:=zA (cR c2.out ak (Kd.yr aF.out c2.out (by decide)));have c':=zA (Kd.pr fd.out (Kd.nD aF.out) (by decide) ak);have dd:=zA (Kd.pr fn.out (Kd.nD aF.out) (by decide) ak);have ft:=X.out.lR;have fv:=X.out.frozen 2;clear be c3 ak fr))
    all_goals have n0:=zA (X.out.Cq (.slice V (rows.length+1) c4))
    all_goals have n1:=zA (X.out.eU c'.out (by decide) 2 (.slice V (rows.length+1) c4))
    all_goals have n2:=zA (X.out.eU dd.out (by decide) 2 (.slice V (rows.length+1) c4))
    all_goals have n3:=zA (X.out.pA c6.out (by decide) 2 (.slice V (rows.length+1) c4))
    all_goals have n4:=zA (aG (p:=⟨gp,2,none⟩) c8.out (show gb≠gp by omega) (.slice V (rows.length+1) c4))
    all_goals have n5:=zA (c7.out.setCell (p:=⟨gp,2,none⟩) (by show gb<=gp;omega) (.slice V (rows.length+1) c4))
    all_goals clear ft fv ey e0 e1 e2 e3 X c8 c' dd c7 c6
    all_goals generalize (w4.setCell ⟨gp,2,none⟩ (.slice V (rows.length+1) c4))=w5 at n0 n1 n2 n3 n4 n5⊢
    all_goals go_wp2
    all_goals exact⟨⟨j+1,_,_,by omega,by go_num,⟨by simp[J.out]⟩,⟨fun y hy=>by rcases List.mem_append.1 hy with h|h;exact U.out y h;(simp at h;subst h;simp)⟩,n0,n1,n2,n3,n4,n5⟩,(show n- ((j:Int)+1).toNat<n- ((j:Int)).toNat by omega)⟩
   ·obtain rfl:n=j:=by omega
    have aB:wr.cell? ⟨gb,0,none⟩=some (.int .i64 n):=(al F.out 0).trans rfl;have g:wr.cell? ⟨gb,1,none⟩=some (.slice A0 E.length c0):=(al F.out 1).trans rfl;have aY:=aE F.out;have d2:=zA (Ct k n A0 c0 E wr (Kd.au em (by rw[a2];exact B.out)) er Ht.out HE.out);go_wp2_with (first|(go_at_call 178;refine d2.out.mono ?_;rintro e w1 ⟨v9,rfl,bg,aa⟩;obtain⟨A9,c9,d3⟩:=Kd.bb bg;rw[uT] at d3;subst d3;have am:=zA bg;have d4:=zA (u.out.below aa);have bi:=zA (Kd.nC G.out aa);have d5:=zA (Kd.cU P.out aa);have bk:=zA (Kd.cU T.out aa);have d6:=zA (B.out.trans (aa.mono (Nat.le_of_lt aY)));clear bg aa))
    all_goals go_wp2
    have bn:=zA (Cu (n:=n) HI.out);have bo:=zA (uW HE.out);obtain⟨M,cr,ab⟩:=Kd.lB bi.out;rw[J.out] at ab;subst ab;replace am:=zA (Kd.ba (Kd.nF am.out) (Nat.le_of_lt aY));have aL:=zA (show gO n E=dO n (dj E E.length) (dj E E.length).length from rfl);generalize dj E E.length=L at am bn bo aL⊢;have f3:=bo.out;have d7:List.replicate n (0:Int)=dO n L 0:=rfl;rw[d7] at bk;clear d7 d2 u G P T B F aB g aY;go_loopw [54] (fun i wr=>∃(j:Nat) (rows:List (List Int)),j<=L.length/\i= .int .i64 j/\Aside0 (rows.length=n)/\Aside0 (∀y∈rows,y.length=n)/\Aside0 (cL wr gp (.slice o dl.length r) q (.slice M n cr) (.slice (some ⟨bv,0,none⟩) n n) (fun _=>false))/\Aside0 ((Kd.int .i64).R 3 wr gb (fun k=>k≠bv) (.slice o dl.length r) dl)/\Aside0 ((Kd.int .i64).R 3 wr gb (fun k=>some k≠(Value.slice o dl.length r).ownBlock) (.slice (some ⟨bv,0,none⟩) n n) (dO n L j))/\Aside0 (Kd.S (Kd.slice 3 (Kd.int .i64)) 25 wr gb (fun k=>some k≠(Value.slice o dl.length r).ownBlock/\k≠bv) (.slice M n cr) rows)/\Aside0 ((Kd.raw 2).R 205 wr gb (fun _=>True) (.slice A9 L.length c9) (fF L))/\Aside0 (Below gb w wr)) (fun i _=>L.length- (intOf i).toNat)
    case atStart=>exact⟨0,_,by omega,rfl,J,U,d4,d5,bk,bi,am,d6⟩
    case round=>
     clear d4 d5 bk bi am d6 J U;obtain⟨j,rows,hj,rfl,J,U,u,N,K,G,HR,B⟩:=hrel;by_cases an:j<L.length
     ·obtain⟨-, -,d8⟩:=Kd.aD HR.out
      obtain⟨ad,rfl,I,ap⟩:=CE d8 j (by rw[uT];exact an) an;have O:=bn.out _ (List.getElem_mem an);have bw:=Lib.hid (Cx n L j an);generalize L[j]=x at I ap O bw;obtain⟨i,a,b⟩:=x;simp only at I ap O;obtain⟨a,rfl⟩:=Int.eq_ofNat_of_zero_le O.1;obtain⟨b,rfl⟩:=Int.eq_ofNat_of_zero_le O.2.2.1;have ha:a<n:=by omega
      have hb:b<n:=by omega
      have g5:(0:Int)<=(j:Int):=by omega
      have g6:(j:Int)<(L.length:Int):=by omega
      clear O d8;have HO:=zA (show (wr.alloc (.cells #[.int .i64 a,.int .i64 b] 205)).heap[wr.heap.size]? =some (.cells #[.int .i64 a,.int .i64 b] 205 (0,0)) from bm wr _);obtain⟨g0,f4,ab, -, -, -⟩:=Kd.pB G.out (by have:=J.out;omega);injection ab with ab _ f5
      subst ab;have D:=zA (PS.mk (L:=L) J.out U.out (u.out.below (aq (ao _ _) (.cells #[.int .i64 a,.int .i64 b] 205))) (Kd.aK N.out (.cells #[.int .i64 a,.int .i64 b] 205)) (Kd.aK K.out (.cells #[.int .i64 a,.int .i64 b] 205)) (Kd.pz G.out (.cells #[.int .i64 a,.int .i64 b] 205)) (Kd.aK HR.out (.cells #[.int .i64 a,.int .i64 b] 205)) (B.out.alloc (by have:=B.out.size;omega) (.cells #[.int .i64 a,.int .i64 b] 205)));go_wp2;clear u N K G HR B I ap J U f5 f4;generalize (wr.alloc (.cells #[.int .i64 a,.int .i64 b] 205))=W1 at HO D⊢;generalize wr.heap.size=ob at HO⊢;have I:W1.cell? ⟨ob,0,none⟩=some (.int .i64 a):=(al HO.out 0).trans rfl;have ap:W1.cell? ⟨ob,1,none⟩=some (.int .i64 b):=(al HO.out 1).trans rfl;go_quiet (fail)
      replace D:=zA (D.out.drewN nq);clear I ap HO;generalize W1.drewN nq=W2 at D⊢;clear W1;have g7:(0:Int)<=(a:Int):=by omega
      have g8:(a:Int)<(n:Int):=by omega
      have aB:(0:Int)<=(b:Int):=by omega
      have g:(b:Int)<(n:Int):=by omega
      by_cases O:a=b
      ·subst O
       have ea:dO n L j=dO n L (j+1):=by rw[bw.out];unfold gN;rw[if_pos rfl]
       rw[ea] at D;clear ea;go_wp2;exact⟨⟨j+1,rows,by omega,by go_num,⟨D.out.len⟩,⟨D.out.all⟩,⟨D.out.iI⟩,⟨D.out.d⟩,⟨D.out.val⟩,⟨D.out.rows⟩,⟨D.out.ends⟩,⟨D.out.below⟩⟩,(show L.length- ((j:Int)+1).toNat<L.length- ((j:Int)).toNat by omega)⟩
      ·have g9:((a:Int) != (b:Int))=true:=by simp;omega
       have g':=D.out.iI.lR;have b0:=u_ n L j;have f6:=b0 a;obtain⟨gi,ci,z,hc,he,hf,eb⟩:=D.out.row a b ha hb;obtain⟨hg,h3⟩:=eb (wrap64 (z+1));have H3:=zA h3;have hh:=h3.iI.lR;obtain⟨hl,hm,z3,ho,hp,hq,ed⟩:=h3.row b a hb ha;obtain⟨f8,h4⟩:=ed (wrap64 (z3+1));have H4:=zA h4;have hr:=h4.iI.oN;obtain⟨f',hs,eg⟩:=h4.u' a ha;have h5:=eg (rd (dO n L j) a+1);have H5:=zA h5;have gd:=h5.iI.oN;obtain⟨b1,ge,b2⟩:=h5.u' b hb;have ek:=qR (v:=a) b0 b;rw[show (dO n L j).set a (rd (dO n L j) a+1)=iH (dO n L j) a from rfl] at b1 b2;have H:=zA (b2 (rd (iH (dO n L j) a) b+1));rw[show (iH (dO n L j) a).set b (rd (iH (dO n L j) a) b+1)=dO n L (j+1) from by rw[bw.out];unfold gN;rw[if_neg (show ¬((i,(a:Int),(b:Int)).2.1=(i,(a:Int),(b:Int)).2.2) from fun e=>O (Int.ofNat.inj e))];rfl] at H;clear eb ed eg b2 h3 h4 h5 b0 H3 H4 H5;generalize rd (dO n L j) a=va at f6 f' gd b1 ge ek H;generalize rd (iH (dO n L j) a) b=vb at ek b1 H;go_wp2;exact⟨⟨j+1,f8,by omega,by go_num,⟨H.out.len⟩,⟨H.out.all⟩,⟨H.out.iI⟩,⟨H.out.d⟩,⟨H.out.val⟩,⟨H.out.rows⟩,⟨H.out.ends⟩,⟨H.out.below⟩⟩,(show L.length- ((j:Int)+1).toNat<L.length- ((j:Int)).toNat by omega)⟩
     ·obtain rfl:j=L.length:=by omega
      have gf:=u.out.uR;go_wp2;have b3:=zA (uY n L L.length);generalize dO n L L.length=vl at K b3 aL⊢;clear G HR J U gf f3 bn bo an hj;go_loopw [113] (fun i wr=>∃(j:Nat),j<=dl.length/\i= .int .i64 j/\Aside0 (cL wr gp (.slice o dl.length r) q (.slice M n cr) (.slice (some ⟨bv,0,none⟩) n n) (fun x=>if x<j then iG q vl dl x else false))/\Aside0 ((Kd.int .i64).R 3 wr gb (fun k=>k≠bv) (.slice o dl.length r) dl)/\Aside0 ((Kd.int .i64).R 3 wr gb (fun k=>some k≠(Value.slice o dl.length r).ownBlock) (.slice (some ⟨bv,0,none⟩) n n) vl)/\Aside0 (Below gb w wr)) (fun i _=>dl.length- (intOf i).toNat)
      case atStart=>exact⟨0,by omega,rfl,⟨by simpa using u.out⟩,N,K,B⟩
      case round=>
       clear u N K B;obtain⟨j,hj,rfl,u,N,K,B⟩:=hrel;by_cases gg:j<dl.length
       ·obtain⟨-, -,el⟩:=Kd.aD N.out
        obtain⟨-, -,b4⟩:=Kd.aD K.out;rw[b3.out] at b4;have HW:=zA (CF gp j n q o (some ⟨bv,0,none⟩) r n dl vl (.slice M n cr) _ wr (by omega) gg b3.out (by have:=ev.out;omega) u.out el b4);clear el b4;go_wp2_with (go_at_call 218;refine HW.out.mono ?_;rintro e w5 ⟨rfl,b5,a0⟩;rw[CG] at b5;have gm:=zA b5;have gn:=zA (Kd.iu N.out rfl a0 (u.out.qQ (Kd.fT N.out) (by decide)));have go:=zA (Kd.iu K.out rfl a0 (u.out.qQ (Kd.fT K.out) (by decide)));have gq:=zA (jU B.out (some gp) (by have:=B.out.size;omega) a0 (fun k e=>by cases e;omega));clear b5 a0)
        all_goals go_wp2
        all_goals go_roundw
        case rel=>exact⟨j+1,by omega,by go_num,gm,gn,go,gq⟩
        case measure=>exact(show dl.length- ((j:Int)+1).toNat<dl.length- ((j:Int)).toNat by omega)
       ·obtain rfl:j=dl.length:=by omega
        go_wp2;go_ret2;exact⟨gp,o,_,r,n,_,rfl,by rw[aL.out];exact u.out,by rw[aL.out,a2];exact Kd.a_ K.out (fun _ _=>trivial),by rw[a2];exact B.out⟩
 ·go_region_held3 (fun w'=>w'.heap[gb]? =some (.cells #[.int .i64 n,.slice A0 E.length c0] 24 (0,0))/\w'.cell? ⟨gb,0,none⟩=some (.int .i64 n)/\Below gb w w')
   (first
    |exact CH Z.out I B.out
    |((try go_split_ands);refine⟨by assumption,by assumption,by assumption⟩)
    |((try go_split_ands);exact CI (by assumption) (by assumption) (by assumption))
    |((try go_split_ands);exact CJ (by assumption) (by assumption) (by assumption) (by assumption))
    |fail)
   ((go_at_call 217;refine(HC.out _ (a1.out _ (by go_split_ands;assumption))).mono ?_;rintro e w1 ⟨v1,rfl,m,g⟩;obtain⟨o,r,rfl⟩:=Kd.bb m))
  ·refine⟨rfl,?IT,?Ia,?Ja,?IN,?IF,?Hu,?Jg,?I',?Im,?Io,?Jp,?IS,?G7,?Hl,?Jo,?IC,?Gh,?GC,?GD,?Gl,?Gg,by(go_split_ands;assumption),by(go_split_ands;assumption)⟩
   case Gh=>rfl
   case GD=>(refine lT ?_;first|rfl|(simp;done))
   case GC=>(have h1:=g.size;first|omega|(simp at h1⊢;done)|(simp at h1⊢;omega)|(have l:W0.drew.heap.size=W0.heap.size:=rfl;simp[World.drew] at h1⊢;omega))
   case Gl=>
    refine lU m ?_ ?_ ?_
    ·(have h1:=g.size;first|omega|(simp at h1⊢;done)|(simp at h1⊢;omega)|(have l:W0.drew.heap.size=W0.heap.size:=rfl;simp[World.drew] at h1⊢;omega))
    ·(first|exact fun h=>h|exact fun h=>Kd.aK h _|exact fun h=>Kd.aK (Kd.aK h _) _|exact fun h=>Kd.aK (Kd.aK (Kd.aK h _) _) _)
    ·(have h1:=g.size;first|omega|(simp at h1⊢;done)|(simp at h1⊢;omega)|(have l:W0.drew.heap.size=W0.heap.size:=rfl;simp[World.drew] at h1⊢;omega))
   case Gg=>
    first
     |(refine dU (Y:=w1) (s.out _ _ rfl) ?_ ?_ m ?_ ?_;(focus (first|rfl|(simp;done)));(focus ((repeat(first|exact ao _ _|apply aq|apply bV|refine a8 ?_ g));done));(focus (have h1:=g.size;first|omega|(simp at h1⊢;done)|(simp at h1⊢;omega)|(have l:W0.drew.heap.size=W0.heap.size:=rfl;simp[World.drew] at h1⊢;omega)));(focus (have h1:=g.size;first|omega|(simp at h1⊢;done)|(simp at h1⊢;omega)|(have l:W0.drew.heap.size=W0.heap.size:=rfl;simp[World.drew] at h1⊢;omega))))
     |(refine dU (Y:=(w1.alloc (.cells zs 3))) (s.out _ _ rfl) ?_ ?_ m ?_ ?_;(focus (first|rfl|(simp;done)));(focus ((repeat(first|exact ao _ _|apply aq|apply bV|refine a8 ?_ g));done));(focus (have h1:=g.size;first|omega|(simp at h1⊢;done)|(simp at h1⊢;omega)|(have l:W0.drew.heap.size=W0.heap.size:=rfl;simp[World.drew] at h1⊢;omega)));(focus (have h1:=g.size;first|omega|(simp at h1⊢;done)|(simp at h1⊢;omega)|(have l:W0.drew.heap.size=W0.heap.size:=rfl;simp[World.drew] at h1⊢;omega))))
     |(refine dU (Y:=W0) (s.out _ _ rfl) ?_ ?_ m ?_ ?_;(focus (first|rfl|(simp;done)));(focus ((repeat(first|exact ao _ _|apply aq|apply bV|refine a8 ?_ g));done));(focus (have h1:=g.size;first|omega|(simp at h1⊢;done)|(simp at h1⊢;omega)|(have l:W0.drew.heap.size=W0.heap.size:=rfl;simp[World.drew] at h1⊢;omega)));(focus (have h1:=g.size;first|omega|(simp at h1⊢;done)|(simp at h1⊢;omega)|(have l:W0.drew.heap.size=W0.heap.size:=rfl;simp[World.drew] at h1⊢;omega))))
     |(refine dU (Y:=(W0.alloc (.cells zs 3))) (s.out _ _ rfl) ?_ ?_ m ?_ ?_;(focus (first|rfl|(simp;done)));(focus ((repeat(first|exact ao _ _|apply aq|apply bV|refine a8 ?_ g));done));(focus (have h1:=g.size;first|omega|(simp at h1⊢;done)|(simp at h1⊢;omega)|(have l:W0.drew.heap.size=W0.heap.size:=rfl;simp[World.drew] at h1⊢;omega)));(focus (have h1:=g.size;first|omega|(simp at h1⊢;done)|(simp at h1⊢;omega)|(have l:W0.drew.heap.size=W0.heap.size:=rfl;simp[World.drew] at h1⊢;omega))))
     |fail
  ·refine⟨rfl,?IV,?Jd,?It,?Jq,?Hi,?G6,?IA,?I_,?IY,?Il,?G9,?Iu,?IJ,?Ir,?IK,?IX,?eq_1,?Gq,?Gj,?Gu,?Gk,by(go_split_ands;assumption),by(go_split_ands;assumption)⟩
   case eq_1=>rfl
   case Gj=>(refine lT ?_;first|rfl|(simp;done))
   case Gq=>(have h1:=g.size;first|omega|(simp at h1⊢;done)|(simp at h1⊢;omega)|(have l:W0.drew.heap.size=W0.heap.size:=rfl;simp[World.drew] at h1⊢;omega))
   case Gu=>
    refine lU m ?_ ?_ ?_
    ·(have h1:=g.size;first|omega|(simp at h1⊢;done)|(simp at h1⊢;omega)|(have l:W0.drew.heap.size=W0.heap.size:=rfl;simp[World.drew] at h1⊢;omega))
    ·(first|exact fun h=>h|exact fun h=>Kd.aK h _|exact fun h=>Kd.aK (Kd.aK h _) _|exact fun h=>Kd.aK (Kd.aK (Kd.aK h _) _) _)
    ·(have h1:=g.size;first|omega|(simp at h1⊢;done)|(simp at h1⊢;omega)|(have l:W0.drew.heap.size=W0.heap.size:=rfl;simp[World.drew] at h1⊢;omega))
   case Gk=>
    first
     |(refine dU (Y:=w1) (s.out _ _ rfl) ?_ ?_ m ?_ ?_;(focus (first|rfl|(simp;done)));(focus ((repeat(first|exact ao _ _|apply aq|apply bV|refine a8 ?_ g));done));(focus (have h1:=g.size;first|omega|(simp at h1⊢;done)|(simp at h1⊢;omega)|(have l:W0.drew.heap.size=W0.heap.size:=rfl;simp[World.drew] at h1⊢;omega)));(focus (have h1:=g.size;first|omega|(simp at h1⊢;done)|(simp at h1⊢;omega)|(have l:W0.drew.heap.size=W0.heap.size:=rfl;simp[World.drew] at h1⊢;omega))))
     |(refine dU (Y:=(w1.alloc (.cells zs 3))) (s.out _ _ rfl) ?_ ?_ m ?_ ?_;(focus (first|rfl|(simp;done)));(focus ((repeat(first|exact ao _ _|apply aq|apply bV|refine a8 ?_ g));done));(focus (have h1:=g.size;first|omega|(simp at h1⊢;done)|(simp at h1⊢;omega)|(have l:W0.drew.heap.size=W0.heap.size:=rfl;simp[World.drew] at h1⊢;omega)));(focus (have h1:=g.size;first|omega|(simp at h1⊢;done)|(simp at h1⊢;omega)|(have l:W0.drew.heap.size=W0.heap.size:=rfl;simp[World.drew] at h1⊢;omega))))
     |(refine dU (Y:=W0) (s.out _ _ rfl) ?_ ?_ m ?_ ?_;(focus (first|rfl|(simp;done)));(focus ((repeat(first|exact ao _ _|apply aq|apply bV|refine a8 ?_ g));done));(focus (have h1:=g.size;first|omega|(simp at h1⊢;done)|(simp at h1⊢;omega)|(have l:W0.drew.heap.size=W0.heap.size:=rfl;simp[World.drew] at h1⊢;omega)));(focus (have h1:=g.size;first|omega|(simp at h1⊢;done)|(simp at h1⊢;omega)|(have l:W0.drew.heap.size=W0.heap.size:=rfl;simp[World.drew] at h1⊢;omega))))
     |(refine dU (Y:=(W0.alloc (.cells zs 3))) (s.out _ _ rfl) ?_ ?_ m ?_ ?_;(focus (first|rfl|(simp;done)));(focus ((repeat(first|exact ao _ _|apply aq|apply bV|refine a8 ?_ g));done));(focus (have h1:=g.size;first|omega|(simp at h1⊢;done)|(simp at h1⊢;omega)|(have l:W0.drew.heap.size=W0.heap.size:=rfl;simp[World.drew] at h1⊢;omega)));(focus (have h1:=g.size;first|omega|(simp at h1⊢;done)|(simp at h1⊢;omega)|(have l:W0.drew.heap.size=W0.heap.size:=rfl;simp[World.drew] at h1⊢;omega))))
     |fail
  ·refine⟨rfl,?Hk,?Jl,?Hv,?H8,?Je,?Iq,?Hq,?Ho,?Hz,?IZ,?I0,?IG,?IL,?IU,?I7,?Hm,?eq_2,?GA,?Gx,?GF,?Gi,by(go_split_ands;assumption),by(go_split_ands;assumption)⟩
   case eq_2=>rfl
   case Gx=>(refine lT ?_;first|rfl|(simp;done))
   case GA=>(have h1:=g.size;first|omega|(simp at h1⊢;done)|(simp at h1⊢;omega)|(have l:W0.drew.heap.size=W0.heap.size:=rfl;simp[World.drew] at h1⊢;omega))
   case GF=>
    refine lU m ?_ ?_ ?_
    ·(have h1:=g.size;first|omega|(simp at h1⊢;done)|(simp at h1⊢;omega)|(have l:W0.drew.heap.size=W0.heap.size:=rfl;simp[World.drew] at h1⊢;omega))
    ·(first|exact fun h=>h|exact fun h=>Kd.aK h _|exact fun h=>Kd.aK (Kd.aK h _) _|exact fun h=>Kd.aK (Kd.aK (Kd.aK h _) _) _)
    ·(have h1:=g.size;first|omega|(simp at h1⊢;done)|(simp at h1⊢;omega)|(have l:W0.drew.heap.size=W0.heap.size:=rfl;simp[World.drew] at h1⊢;omega))
   case Gi=>
    first
     |(refine dU (Y:=w1) (s.out _ _ rfl) ?_ ?_ m ?_ ?_;(focus (first|rfl|(simp;done)));(focus ((repeat(first|exact ao _ _|apply aq|apply bV|refine a8 ?_ g));done));(focus (have h1:=g.size;first|omega|(simp at h1⊢;done)|(simp at h1⊢;omega)|(have l:W0.drew.heap.size=W0.heap.size:=rfl;simp[World.drew] at h1⊢;omega)));(focus (have h1:=g.size;first|omega|(simp at h1⊢;done)|(simp at h1⊢;omega)|(have l:W0.drew.heap.size=W0.heap.size:=rfl;simp[World.drew] at h1⊢;omega))))
     |(refine dU (Y:=(w1.alloc (.cells zs 3))) (s.out _ _ rfl) ?_ ?_ m ?_ ?_;(focus (first|rfl|(simp;done)));(focus ((repeat(first|exact ao _ _|apply aq|apply bV|refine a8 ?_ g));done));(focus (have h1:=g.size;first|omega|(simp at h1⊢;done)|(simp at h1⊢;omega)|(have l:W0.drew.heap.size=W0.heap.size:=rfl;simp[World.drew] at h1⊢;omega)));(focus (have h1:=g.size;first|omega|(simp at h1⊢;done)|(simp at h1⊢;omega)|(have l:W0.drew.heap.size=W0.heap.size:=rfl;simp[World.drew] at h1⊢;omega))))
     |(refine dU (Y:=W0) (s.out _ _ rfl) ?_ ?_ m ?_ ?_;(focus (first|rfl|(simp;done)));(focus ((repeat(first|exact ao _ _|apply aq|apply bV|refine a8 ?_ g));done));(focus (have h1:=g.size;first|omega|(simp at h1⊢;done)|(simp at h1⊢;omega)|(have l:W0.drew.heap.size=W0.heap.size:=rfl;simp[World.drew] at h1⊢;omega)));(focus (have h1:=g.size;first|omega|(simp at h1⊢;done)|(simp at h1⊢;omega)|(have l:W0.drew.heap.size=W0.heap.size:=rfl;simp[World.drew] at h1⊢;omega))))
     |(refine dU (Y:=(W0.alloc (.cells zs 3))) (s.out _ _ rfl) ?_ ?_ m ?_ ?_;(focus (first|rfl|(simp;done)));(focus ((repeat(first|exact ao _ _|apply aq|apply bV|refine a8 ?_ g));done));(focus (have h1:=g.size;first|omega|(simp at h1⊢;done)|(simp at h1⊢;omega)|(have l:W0.drew.heap.size=W0.heap.size:=rfl;simp[World.drew] at h1⊢;omega)));(focus (have h1:=g.size;first|omega|(simp at h1⊢;done)|(simp at h1⊢;omega)|(have l:W0.drew.heap.size=W0.heap.size:=rfl;simp[World.drew] at h1⊢;omega))))
     |fail
  ·refine⟨rfl,?Ih,?IB,?Jk,?Iw,?Jb,?Ji,?Hw,?Hn,?Jh,?Jj,?Ig,?IM,?IQ,?Hy,?Ii,?H9,?eq_3,?Gv,?Gf,?Gs,?Gt,by(go_split_ands;assumption),by(go_split_ands;assumption)⟩
   case eq_3=>rfl
   case Gf=>(refine lT ?_;first|rfl|(simp;done))
   case Gv=>(have h1:=g.size;first|omega|(simp at h1⊢;done)|(simp at h1⊢;omega)|(have l:W0.drew.heap.size=W0.heap.size:=rfl;simp[World.drew] at h1⊢;omega))
   case Gs=>
    refine lU m ?_ ?_ ?_
    ·(have h1:=g.size;first|omega|(simp at h1⊢;done)|(simp at h1⊢;omega)|(have l:W0.drew.heap.size=W0.heap.size:=rfl;simp[World.drew] at h1⊢;omega))
    ·(first|exact fun h=>h|exact fun h=>Kd.aK h _|exact fun h=>Kd.aK (Kd.aK h _) _|exact fun h=>Kd.aK (Kd.aK (Kd.aK h _) _) _)
    ·(have h1:=g.size;first|omega|(simp at h1⊢;done)|(simp at h1⊢;omega)|(have l:W0.drew.heap.size=W0.heap.size:=rfl;simp[World.drew] at h1⊢;omega))
   case Gt=>
    first
     |(refine dU (Y:=w1) (s.out _ _ rfl) ?_ ?_ m ?_ ?_;(focus (first|rfl|(simp;done)));(focus ((repeat(first|exact ao _ _|apply aq|apply bV|refine a8 ?_ g));done));(focus (have h1:=g.size;first|omega|(simp at h1⊢;done)|(simp at h1⊢;omega)|(have l:W0.drew.heap.size=W0.heap.size:=rfl;simp[World.drew] at h1⊢;omega)));(focus (have h1:=g.size;first|omega|(simp at h1⊢;done)|(simp at h1⊢;omega)|(have l:W0.drew.heap.size=W0.heap.size:=rfl;simp[World.drew] at h1⊢;omega))))
     |(refine dU (Y:=(w1.alloc (.cells zs 3))) (s.out _ _ rfl) ?_ ?_ m ?_ ?_;(focus (first|rfl|(simp;done)));(focus ((repeat(first|exact ao _ _|apply aq|apply bV|refine a8 ?_ g));done));(focus (have h1:=g.size;first|omega|(simp at h1⊢;done)|(simp at h1⊢;omega)|(have l:W0.drew.heap.size=W0.heap.size:=rfl;simp[World.drew] at h1⊢;omega)));(focus (have h1:=g.size;first|omega|(simp at h1⊢;done)|(simp at h1⊢;omega)|(have l:W0.drew.heap.size=W0.heap.size:=rfl;simp[World.drew] at h1⊢;omega))))
     |(refine dU (Y:=W0) (s.out _ _ rfl) ?_ ?_ m ?_ ?_;(focus (first|rfl|(simp;done)));(focus ((repeat(first|exact ao _ _|apply aq|apply bV|refine a8 ?_ g));done));(focus (have h1:=g.size;first|omega|(simp at h1⊢;done)|(simp at h1⊢;omega)|(have l:W0.drew.heap.size=W0.heap.size:=rfl;simp[World.drew] at h1⊢;omega)));(focus (have h1:=g.size;first|omega|(simp at h1⊢;done)|(simp at h1⊢;omega)|(have l:W0.drew.heap.size=W0.heap.size:=rfl;simp[World.drew] at h1⊢;omega))))
     |(refine dU (Y:=(W0.alloc (.cells zs 3))) (s.out _ _ rfl) ?_ ?_ m ?_ ?_;(focus (first|rfl|(simp;done)));(focus ((repeat(first|exact ao _ _|apply aq|apply bV|refine a8 ?_ g));done));(focus (have h1:=g.size;first|omega|(simp at h1⊢;done)|(simp at h1⊢;omega)|(have l:W0.drew.heap.size=W0.heap.size:=rfl;simp[World.drew] at h1⊢;omega)));(focus (have h1:=g.size;first|omega|(simp at h1⊢;done)|(simp at h1⊢;omega)|(have l:W0.drew.heap.size=W0.heap.size:=rfl;simp[World.drew] at h1⊢;omega))))
     |fail
  ·refine⟨rfl,?I8,?He,?Hp,?IP,?Ie,?Ip,?G_,?I9,?G',?G5,?Hh,?Iz,?Ib,?Jn,?G8,?Hc,?eq_4,?Gn,?Gr,?Gm,?Gz,by(go_split_ands;assumption),by(go_split_ands;assumption)⟩
   case eq_4=>rfl
   case Gr=>(refine lT ?_;first|rfl|(simp;done))
   case Gn=>(have h1:=g.size;first|omega|(simp at h1⊢;done)|(simp at h1⊢;omega)|(have l:W0.drew.heap.size=W0.heap.size:=rfl;simp[World.drew] at h1⊢;omega))
   case Gm=>
    refine lU m ?_ ?_ ?_
    ·(have h1:=g.size;first|omega|(simp at h1⊢;done)|(simp at h1⊢;omega)|(have l:W0.drew.heap.size=W0.heap.size:=rfl;simp[World.drew] at h1⊢;omega))
    ·(first|exact fun h=>h|exact fun h=>Kd.aK h _|exact fun h=>Kd.aK (Kd.aK h _) _|exact fun h=>Kd.aK (Kd.aK (Kd.aK h _) _) _)
    ·(have h1:=g.size;first|omega|(simp at h1⊢;done)|(simp at h1⊢;omega)|(have l:W0.drew.heap.size=W0.heap.size:=rfl;simp[World.drew] at h1⊢;omega))
   case Gz=>
    first
     |(refine dU (Y:=w1) (s.out _ _ rfl) ?_ ?_ m ?_ ?_;(focus (first|rfl|(simp;done)));(focus ((repeat(first|exact ao _ _|apply aq|apply bV|refine a8 ?_ g));done));(focus (have h1:=g.size;first|omega|(simp at h1⊢;done)|(simp at h1⊢;omega)|(have l:W0.drew.heap.size=W0.heap.size:=rfl;simp[World.drew] at h1⊢;omega)));(focus (have h1:=g.size;first|omega|(simp at h1⊢;done)|(simp at h1⊢;omega)|(have l:W0.drew.heap.size=W0.heap.size:=rfl;simp[World.drew] at h1⊢;omega))))
     |(refine dU (Y:=(w1.alloc (.cells zs 3))) (s.out _ _ rfl) ?_ ?_ m ?_ ?_;(focus (first|rfl|(simp;done)));(focus ((repeat(first|exact ao _ _|apply aq|apply bV|refine a8 ?_ g));done));(focus (have h1:=g.size;first|omega|(simp at h1⊢;done)|(simp at h1⊢;omega)|(have l:W0.drew.heap.size=W0.heap.size:=rfl;simp[World.drew] at h1⊢;omega)));(focus (have h1:=g.size;first|omega|(simp at h1⊢;done)|(simp at h1⊢;omega)|(have l:W0.drew.heap.size=W0.heap.size:=rfl;simp[World.drew] at h1⊢;omega))))
     |(refine dU (Y:=W0) (s.out _ _ rfl) ?_ ?_ m ?_ ?_;(focus (first|rfl|(simp;done)));(focus ((repeat(first|exact ao _ _|apply aq|apply bV|refine a8 ?_ g));done));(focus (have h1:=g.size;first|omega|(simp at h1⊢;done)|(simp at h1⊢;omega)|(have l:W0.drew.heap.size=W0.heap.size:=rfl;simp[World.drew] at h1⊢;omega)));(focus (have h1:=g.size;first|omega|(simp at h1⊢;done)|(simp at h1⊢;omega)|(have l:W0.drew.heap.size=W0.heap.size:=rfl;simp[World.drew] at h1⊢;omega))))
     |(refine dU (Y:=(W0.alloc (.cells zs 3))) (s.out _ _ rfl) ?_ ?_ m ?_ ?_;(focus (first|rfl|(simp;done)));(focus ((repeat(first|exact ao _ _|apply aq|apply bV|refine a8 ?_ g));done));(focus (have h1:=g.size;first|omega|(simp at h1⊢;done)|(simp at h1⊢;omega)|(have l:W0.drew.heap.size=W0.heap.size:=rfl;simp[World.drew] at h1⊢;omega)));(focus (have h1:=g.size;first|omega|(simp at h1⊢;done)|(simp at h1⊢;omega)|(have l:W0.drew.heap.size=W0.heap.size:=rfl;simp[World.drew] at h1⊢;omega))))
     |fail
  ·refine⟨rfl,?Jf,?Ic,?Jm,?Jc,?IE,?ID,?Iy,?Ij,?Ik,?Iv,?Hd,?II,?IW,?Hx,?H7,?Is,?eq_5,?Gp,?Gw,?Gy,?GB,by(go_split_ands;assumption),by(go_split_ands;assumption)⟩
   case eq_5=>rfl
   case Gw=>(refine lT ?_;first|rfl|(simp;done))
   case Gp=>(have h1:=g.size;first|omega|(simp at h1⊢;done)|(simp at h1⊢;omega)|(have l:W0.drew.heap.size=W0.heap.size:=rfl;simp[World.drew] at h1⊢;omega))
   case Gy=>
    refine lU m ?_ ?_ ?_
    ·(have h1:=g.size;first|omega|(simp at h1⊢;done)|(simp at h1⊢;omega)|(have l:W0.drew.heap.size=W0.heap.size:=rfl;simp[World.drew] at h1⊢;omega))
    ·(first|exact fun h=>h|exact fun h=>Kd.aK h _|exact fun h=>Kd.aK (Kd.aK h _) _|exact fun h=>Kd.aK (Kd.aK (Kd.aK h _) _) _)
    ·(have h1:=g.size;first|omega|(simp at h1⊢;done)|(simp at h1⊢;omega)|(have l:W0.drew.heap.size=W0.heap.size:=rfl;simp[World.drew] at h1⊢;omega))
   case GB=>
    first
     |(refine dU (Y:=w1) (s.out _ _ rfl) ?_ ?_ m ?_ ?_;(focus (first|rfl|(simp;done)));(focus ((repeat(first|exact ao _ _|apply aq|apply bV|refine a8 ?_ g));done));(focus (have h1:=g.size;first|omega|(simp at h1⊢;done)|(simp at h1⊢;omega)|(have l:W0.drew.heap.size=W0.heap.size:=rfl;simp[World.drew] at h1⊢;omega)));(focus (have h1:=g.size;first|omega|(simp at h1⊢;done)|(simp at h1⊢;omega)|(have l:W0.drew.heap.size=W0.heap.size:=rfl;simp[World.drew] at h1⊢;omega))))
     |(refine dU (Y:=(w1.alloc (.cells zs 3))) (s.out _ _ rfl) ?_ ?_ m ?_ ?_;(focus (first|rfl|(simp;done)));(focus ((repeat(first|exact ao _ _|apply aq|apply bV|refine a8 ?_ g));done));(focus (have h1:=g.size;first|omega|(simp at h1⊢;done)|(simp at h1⊢;omega)|(have l:W0.drew.heap.size=W0.heap.size:=rfl;simp[World.drew] at h1⊢;omega)));(focus (have h1:=g.size;first|omega|(simp at h1⊢;done)|(simp at h1⊢;omega)|(have l:W0.drew.heap.size=W0.heap.size:=rfl;simp[World.drew] at h1⊢;omega))))
     |(refine dU (Y:=W0) (s.out _ _ rfl) ?_ ?_ m ?_ ?_;(focus (first|rfl|(simp;done)));(focus ((repeat(first|exact ao _ _|apply aq|apply bV|refine a8 ?_ g));done));(focus (have h1:=g.size;first|omega|(simp at h1⊢;done)|(simp at h1⊢;omega)|(have l:W0.drew.heap.size=W0.heap.size:=rfl;simp[World.drew] at h1⊢;omega)));(focus (have h1:=g.size;first|omega|(simp at h1⊢;done)|(simp at h1⊢;omega)|(have l:W0.drew.heap.size=W0.heap.size:=rfl;simp[World.drew] at h1⊢;omega))))
     |(refine dU (Y:=(W0.alloc (.cells zs 3))) (s.out _ _ rfl) ?_ ?_ m ?_ ?_;(focus (first|rfl|(simp;done)));(focus ((repeat(first|exact ao _ _|apply aq|apply bV|refine a8 ?_ g));done));(focus (have h1:=g.size;first|omega|(simp at h1⊢;done)|(simp at h1⊢;omega)|(have l:W0.drew.heap.size=W0.heap.size:=rfl;simp[World.drew] at h1⊢;omega)));(focus (have h1:=g.size;first|omega|(simp at h1⊢;done)|(simp at h1⊢;omega)|(have l:W0.drew.heap.size=W0.heap.size:=rfl;simp[World.drew] at h1⊢;omega))))
     |fail
theorem kP {k:Nat} {N:Int} {E:List S83} {q:Int} (h:dt.f k N E q=some 0):bj.f k N E=some 0/\(0<=N/\N<=12)/\cY (aN E) N.toNat=1/\0<=q/\q<N:=by
 unfold dt.f cu.f at h;simp only[Option.bind_assoc] at h;obtain⟨t,e,h⟩:=Option.bind_eq_some_iff.1 h;by_cases a:t=0
 ·subst a
  rw[if_pos rfl] at h;by_cases hk:j9 N E=true
  ·rw[if_pos hk] at h
   simp only[Option.bind_some,if_pos] at h;simp only[j9,Bool.and_eq_true,decide_eq_true_eq] at hk;refine⟨e,hk.1,?_⟩;by_cases b:cY (aN E) N.toNat=1
   ·simp only[b,decide_true,if_true] at h
    by_cases h1:q<0
    ·rw[if_pos h1] at h;exact absurd (aH h) (by decide)
    ·rw[if_neg h1] at h
     by_cases g:q>=N
     ·rw[if_pos g] at h;exact absurd (aH h) (by decide)
     ·exact⟨b,by omega,by omega⟩
   ·simp[b] at h
  ·rw[if_neg hk] at h;cases h
 ·rw[if_neg a] at h
  simp[a] at h
def mU (N:Int) (E:List S83):Bool:=e8 E&&ja N E
def dV (q B:Nat) (calm:List Int->Bool):Nat->List Int->List (List Int)
 |0,p=>[p]
 |k+1,p=>if p.length=q then dV q B calm k (p++[0]) else((List.range B).takeWhile fun (x:Nat)=>calm (p++(x:Int)::List.replicate k 0)).flatMap fun (x:Nat)=>dV q B calm k (p++[(x:Int)])
def gP.f (k:Nat) (b:Int) (e:List (S83)) (g:Int) (l2:List Int):Option (Bool×Int):=(iD.f k b e g l2).bind fun a=>(if a.2.2=0 then(some (((a.2.1.length:Int)==0),a.2.2)) else(some (false,a.2.2)))
theorem gP.mono:∀a0 a a2 a3 k,aj (gP.f k a0 a a2 a3) (gP.f (k+1) a0 a a2 a3):=by
 intro a0 a a2 a3 k;unfold gP.f;with_reducible repeat' first|exact iD.mono _ _ _ _ _|exact aj.refl _|exact aj.none _|refine aj.ite ?_ ?_|refine aj.bind ?_ (fun _=>?_)
theorem gP.calls (k:Nat) (g:Int) (l:Option Addr) (m:Nat) (b:List (S83)) (n:Int) (s:Option Addr) (c2:Nat) (l2:List Int) (v:Bool) (x:Int) (w:World) (y:Kd.C aT w l b.length b) (z:b.length<=m) (B:Kd.C (Kd.int .i64) w s l2.length l2) (D:l2.length<=c2) (h:gP.f k g b n l2=some (v,x)):
  Calls Tryz.prog 201 #[.agg #[.int .i64 g,.slice l b.length m],.int .i64 n,.slice s l2.length c2] w fun e w'=>e= .returned (.tuple #[.bool v,.int .i64 x])/\Below w.heap.size w w':=by
 have X:=Tryz.underlying24;have E:=zA y;have F:=zA z;clear y z;have G:=zA B;have I:=zA D;clear B D;have a:=zA (ao w.heap.size w);unfold gP.f at h;have H:=h;clear h;obtain⟨⟨J,K,u⟩,L,H⟩:=zo H;dsimp only at H;by_cases o:u=0
 ·rw[if_pos o] at H
  obtain⟨O,P⟩:=bF o;clear o;simp only[Option.some.injEq,Prod.mk.injEq] at H;obtain⟨rfl,rfl⟩:=H;go_enter Tryz.func201,Tryz.ntmps201
  go_wp2_with (first|((with_reducible refine aJ (N:=3) rfl ?_);(try(refine dR (by rfl) ?_;dsimp only));refine zX 3 #[.int .i64 g,.slice l b.length m] 24 ?_;intro Q i Y p hb;have j:=zA (p);have R:=zG a i;have S:=zG a i;replace a:=zS a hb;clear hb p i;obtain⟨Z,aa,ab,ad⟩:=ax j)|((with_reducible refine aC (f:=213) rfl ?_);refine zL (some 15) Tryz.func213 #[.agg #[.int .i64 g,.slice l b.length m],.int .i64 n,.slice s l2.length c2] ?_;(with_reducible refine(iD.calls k g _ _ b n _ _ l2 J K u _ ?af ?ah ?aX ?aW L.out).mono ?_);(case af=>exact Kd.au E.out zB);(case ah=>exact F.out);(case aX=>exact Kd.au G.out zB);(case aW=>exact I.out);rintro e w8 ⟨T,U,rfl,q,r,hb⟩;refine⟨_,rfl,?_⟩;have V:=zA (Kd.ba q (bp zB));have M:=zA (Kd.ba r (bp zB));replace j:=zb j hb;replace a:=zS a hb;(try clear hb);(try clear q);(try clear r);obtain⟨ak,am,W⟩:=Kd.bb M.out;subst W))
  go_ret2;exact⟨zE,zB⟩
 ·rw[if_neg o] at H
  obtain⟨O,P⟩:=bI o;simp only[Option.some.injEq,Prod.mk.injEq] at H;obtain⟨rfl,rfl⟩:=H;go_enter Tryz.func201,Tryz.ntmps201
  go_wp2_with (first|((with_reducible refine aJ (N:=3) rfl ?_);(try(refine dR (by rfl) ?_;dsimp only));refine zX 3 #[.int .i64 g,.slice l b.length m] 24 ?_;intro Q i an p hb;have j:=zA (p);have R:=zG a i;have S:=zG a i;replace a:=zS a hb;clear hb p i;obtain⟨ap,ar,av,aB⟩:=ax j)|((with_reducible refine aC (f:=213) rfl ?_);refine zL (some 15) Tryz.func213 #[.agg #[.int .i64 g,.slice l b.length m],.int .i64 n,.slice s l2.length c2] ?_;(with_reducible refine(iD.calls k g _ _ b n _ _ l2 J K u _ ?af ?ah ?aX ?aW L.out).mono ?_);(case af=>exact Kd.au E.out zB);(case ah=>exact F.out);(case aX=>exact Kd.au G.out zB);(case aW=>exact I.out);rintro e aF ⟨T,U,rfl,q,r,hb⟩;refine⟨_,rfl,?_⟩;have V:=zA (Kd.ba q (bp zB));have M:=zA (Kd.ba r (bp zB));replace j:=zb j hb;replace a:=zS a hb;(try clear hb);(try clear q);(try clear r)))
  go_ret2;exact⟨zE,zB⟩
def e9.f (k:Nat) (b:Int) (e:List (S83)) (g:Int) (l2:List Int):Option (Bool):=(gP.f k b e g l2).bind fun a=>(if a.1=true then(some (a.2==0)) else(some false))
theorem e9.mono:∀a0 a a2 a3 k,aj (e9.f k a0 a a2 a3) (e9.f (k+1) a0 a a2 a3):=by
 intro a0 a a2 a3 k;unfold e9.f;with_reducible repeat' first|exact gP.mono _ _ _ _ _|exact aj.refl _|exact aj.none _|refine aj.ite ?_ ?_|refine aj.bind ?_ (fun _=>?_)
theorem e9.calls (k:Nat) (g:Int) (l:Option Addr) (m:Nat) (b:List (S83)) (n:Int) (p:Option Addr) (c2:Nat) (l2:List Int) (r:Bool) (w:World) (s:Kd.C aT w l b.length b) (u:b.length<=m) (v:Kd.C (Kd.int .i64) w p l2.length l2) (x:l2.length<=c2) (h:e9.f k g b n l2=some r):
  Calls Tryz.prog 176 #[.agg #[.int .i64 g,.slice l b.length m],.int .i64 n,.slice p l2.length c2] w fun e w'=>e= .returned (.bool r)/\Below w.heap.size w w':=by
 have L:=Tryz.underlying24;have y:=zA s;have z:=zA u;clear s u;have B:=zA v;have D:=zA x;clear v x;have a:=zA (ao w.heap.size w);unfold e9.f at h;have H:=h;clear h;obtain⟨⟨G,E⟩,F,H⟩:=zo H;dsimp only at H;by_cases q:G=true
 ·subst q
  replace H:=zi H;obtain rfl:=aH H;go_enter Tryz.func176,Tryz.ntmps176
  go_wp2_with (first|((with_reducible refine aJ (N:=3) rfl ?_);refine zX 3 #[.int .i64 g,.slice l b.length m] 24 ?_;intro I i M o hb;have j:=zA (o);have J:=zG a i;have K:=zG a i;replace a:=zS a hb;clear hb o i;obtain⟨O,P,Q,R⟩:=ax j)|((with_reducible refine aC (f:=201) rfl ?_);refine zL (some 13) Tryz.func201 #[.agg #[.int .i64 g,.slice l b.length m],.int .i64 n,.slice p l2.length c2] ?_;(with_reducible refine(gP.calls k g _ _ b n _ _ l2 true E _ ?af ?ah ?aX ?aW F.out).mono ?_);(case af=>exact Kd.au y.out zB);(case ah=>exact z.out);(case aX=>exact Kd.au B.out zB);(case aW=>exact D.out);rintro e S ⟨rfl,hb⟩;refine⟨_,rfl,?_⟩;replace j:=zb j hb;replace a:=zS a hb;(try clear hb)))
  go_ret;exact⟨zE,zB⟩
 ·replace q:=Bool.eq_false_iff.mpr q
  subst q;replace H:=zj H;obtain rfl:=aH H;go_enter Tryz.func176,Tryz.ntmps176
  go_wp2_with (first|((with_reducible refine aJ (N:=3) rfl ?_);refine zX 3 #[.int .i64 g,.slice l b.length m] 24 ?_;intro I i T o hb;have j:=zA (o);have J:=zG a i;have K:=zG a i;replace a:=zS a hb;clear hb o i;obtain⟨U,V,W,X⟩:=ax j)|((with_reducible refine aC (f:=201) rfl ?_);refine zL (some 13) Tryz.func201 #[.agg #[.int .i64 g,.slice l b.length m],.int .i64 n,.slice p l2.length c2] ?_;(with_reducible refine(gP.calls k g _ _ b n _ _ l2 false E _ ?af ?ah ?aX ?aW F.out).mono ?_);(case af=>exact Kd.au y.out zB);(case ah=>exact z.out);(case aX=>exact Kd.au B.out zB);(case aW=>exact D.out);rintro e ie ⟨rfl,hb⟩;refine⟨_,rfl,?_⟩;replace j:=zb j hb;replace a:=zS a hb;(try clear hb)))
  go_ret;exact⟨zE,zB⟩
section
attribute [local go_sem] Oper.semAt_some
def jM {α:Type} (P:Nat->Bool) (F:Nat->List α):Nat->Nat->List α
 |0,_=>[]
 |f+1,x=>if P x then F x++jM P F f (x+1) else[]
theorem ve {α:Type} (P:Nat->Bool) (F:Nat->List α):∀f x,jM P F f x=((List.range' x f).takeWhile P).flatMap F
 |0,x=>by simp[jM]
 |f+1,x=>by
  rw[jM,List.range'_succ,List.takeWhile_cons];cases P x with
  |true=>simp[ve P F f (x+1)]
  |false=>simp
theorem CL (q B:Nat) (calm:List Int->Bool) (k:Nat) (p:List Int) (h:p.length≠q):dV q B calm (k+1) p=jM (fun (x:Nat)=>calm (p++(x:Int)::List.replicate k 0)) (fun (x:Nat)=>dV q B calm k (p++[(x:Int)])) B 0:=by
 rw[dV,if_neg h,ve,List.range_eq_range']
def iJ (n q:Nat) (c:List Int):Prop:=c.length=n/\(∀i:Nat,0<=rd c i/\rd c i<=1000)/\rd c q=0
structure CS (w0:World) (n:Nat) (A0:Option Addr) (c0:Nat) (E:List S83) (q gx qx s l:Nat) (W:World) (c:List Int):Prop where
 g:W.heap[gx]? =some (.cells #[.int .i64 n,.slice A0 E.length c0] 24 (0,0))
 q:W.heap[qx]? =some (.cells #[.int .i64 q] 3 (0,0))
 y:W.heap[s]? =some (.cells #[.func (.yield l) #[] #[]] 141 (0,0))
 c:(Kd.int .i64).R 3 W w0.heap.size (fun k=>k=s+1) (.slice (some ⟨s+1,0,none⟩) n n) c
 cb:W.heap[s+2]? =some (.cells #[.slice (some ⟨s+1,0,none⟩) n n] 26 (0,0))
 f:W.heap[s+3]? =some (.cells #[.func (.func 200) #[] #[.pointer (some ⟨gx,0,none⟩),.pointer (some ⟨s,0,none⟩),.pointer (some ⟨s+2,0,none⟩),.pointer (some ⟨qx,0,none⟩),.pointer (some ⟨s+3,0,none⟩)]] 121 (0,0))
 below:Below w0.heap.size w0 W
namespace CS
variable {w0:World} {n:Nat} {A0:Option Addr} {c0:Nat} {E:List S83} {q gx qx s l:Nat} {W W':World} {c:List Int}
theorem iE (h:CS w0 n A0 c0 E q gx qx s l W c) (hk:∀k,(k=gx\/k=qx\/s<=k/\k<s+4)->W'.heap[k]? =W.heap[k]?) (hb:Below w0.heap.size w0 W'):CS w0 n A0 c0 E q gx qx s l W' c:=
 ⟨(hk gx (.inl rfl)).trans h.g,(hk qx (.inr (.inl rfl))).trans h.q,(hk s (.inr (.inr ⟨by omega,by omega⟩))).trans h.y,Kd.ff h.c (fun k e=>hk k (.inr (.inr (by subst e;omega)))),(hk (s+2) (.inr (.inr ⟨by omega,by omega⟩))).trans h.cb,(hk (s+3) (.inr (.inr ⟨by omega,by omega⟩))).trans h.f,hb⟩
theorem lt (h:CS w0 n A0 c0 E q gx qx s l W c):s+3<W.heap.size/\gx<W.heap.size/\qx<W.heap.size:=⟨aE h.f,aE h.g,aE h.q⟩
theorem stay (h:CS w0 n A0 c0 E q gx qx s l W c) (hb:Below W.heap.size W W'):CS w0 n A0 c0 E q gx qx s l W' c:=
 h.iE (fun k hk=>hb.block k (by have:=h.lt;rcases hk with rfl|rfl|hk<;>omega)) (h.below.trans (hb.mono h.below.size))
theorem size (h:CS w0 n A0 c0 E q gx qx s l W c):w0.heap.size<=W.heap.size:=h.below.size
end CS
def qS (s:Nat) (x:List Int×Value) (A B:World):Prop:=A.grownBy B (some (s+1))/\(Kd.int .i64).R 3 B A.heap.size (fun _=>True) x.2 x.1/\s+4<=A.heap.size
def qT (w0:World) (gx qx s:Nat) (X Y:World):Prop:=(w0.heap.size<=X.heap.size->Below w0.heap.size X Y)/\∀k,(k=gx\/k=qx\/s<=k/\k<s+4)->k<X.heap.size->Y.heap[k]? =X.heap[k]?
def qU (w0:World) (B n:Nat) (A0:Option Addr) (c0:Nat) (E:List S83) (q gx qx s l:Nat) (calm:List Int->Bool) (J Jx:List (List Int×Value)->World->Prop) (a:Nat) (p:List Int) (pre:List (List Int×Value)) (e:Ending) (W':World):Prop:=
 (∃b,e= .returned (.bool true)/\J (pre++b) W'/\b.map Prod.fst=dV q B calm a p/\CS w0 n A0 c0 E q gx qx s l W' (p++List.replicate a 0))\/(e= .returned (.bool false)/\∃g,Jx g W')
theorem CM {e:Ending} {A B:Prop} (h:(e= .returned (.bool true)/\A)\/(e= .returned (.bool false)/\B)):∃b:Bool,e= .returned (.bool b)/\Aside0 ((b=true/\A)\/(b=false/\B)):=by
 rcases h with⟨h,a⟩|⟨h,hb⟩
 ·exact⟨true,h,⟨.inl ⟨rfl,a⟩⟩⟩
 ·exact⟨false,h,⟨.inr ⟨rfl,hb⟩⟩⟩
theorem CN {w0:World} {B n:Nat} {A0:Option Addr} {c0:Nat} {E:List S83} {q gx qx s l:Nat} {calm:List Int->Bool} {J Jx:List (List Int×Value)->World->Prop} {g:Nat} {p:List Int} {pre:List (List Int×Value)} {e:Ending} {W':World} (h:qU w0 B n A0 c0 E q gx qx s l calm J Jx g p pre e W'):
  ∃b:Bool,e= .returned (.bool b)/\Aside0 ((b=true/\∃a,J (pre++a) W'/\a.map Prod.fst=dV q B calm g p/\CS w0 n A0 c0 E q gx qx s l W' (p++List.replicate g 0))\/(b=false/\∃i,Jx i W')):=by
 rcases h with⟨a,h,j⟩|⟨h,hb⟩
 ·exact⟨true,h,⟨.inl ⟨rfl,a,j⟩⟩⟩
 ·exact⟨false,h,⟨.inr ⟨rfl,hb⟩⟩⟩
theorem CO {w0:World} {B n:Nat} {A0:Option Addr} {c0:Nat} {E:List S83} {q gx qx s l:Nat} {calm:List Int->Bool} {J Jx:List (List Int×Value)->World->Prop} (hn:n<=12)
  (m:∀pre x A C,J pre A->qS s x A C->pre.length<16384->YieldAt Fence.wide 8 Tryz.prog l #[x.2] C fun e W'=>(e= .returned (.bool true)/\J (pre++[x]) W'/\qT w0 gx qx s C W')\/(e= .returned (.bool false)/\Jx (pre++[x]) W'))
  (p:List Int) (pre:List (List Int×Value)) (W:World) (hp:p.length=n) (hC:CS w0 n A0 c0 E q gx qx s l W p) (o:J pre W) (hlen:pre.length<16384):
  CallsIn Fence.wide 9 Tryz.prog 200 #[.int .i64 n,.pointer (some ⟨gx,0,none⟩),.pointer (some ⟨s,0,none⟩),.pointer (some ⟨s+2,0,none⟩),.pointer (some ⟨qx,0,none⟩),.pointer (some ⟨s+3,0,none⟩)] W (qU w0 B n A0 c0 E q gx qx s l calm J Jx 0 p pre):=by
 have G:=zA m;have H:=zA o;have j:=zA hC;have N:W.cell? ⟨gx,0,none⟩=some (.int .i64 n):=(al hC.g 0).trans rfl;have O:W.cell? ⟨s,0,none⟩=some (.func (.yield l) #[] #[]):=(al hC.y 0).trans rfl;have P:W.cell? ⟨s+2,0,none⟩=some (.slice (some ⟨s+1,0,none⟩) n n):=(al hC.cb 0).trans rfl;have Q:=zA hp;obtain⟨-, -,r⟩:=Kd.aD hC.c;have S:=hC.below.size;have I:=zA (show CallsIn Fence.wide 8 Tryz.prog 57 #[.slice (some ⟨s+1,0,none⟩) n n] W.drew (fun e w'=>∃u:Value,e= .returned (u)/\Kd.R (Kd.int .i64) 3 w' W.heap.size (fun _=>True) u p/\Below W.heap.size W w'/\Below W.heap.size W.drew w') from callsIn_wide.2 (by
  subst hp;refine(fL.calls (some ⟨s+1,0,none⟩) p.length p p W.drew (Kd.fg r) (aI _) (by unfold fL.f clone.f;rw[if_pos (by omega)])).mono ?_;rintro e w' ⟨v,rfl,h1,w⟩;exact⟨v,rfl,h1,(gS (ao _ _)).trans w,w⟩))
 clear m o hC r hp;refine callsIn_of_wp Tryz.func200 rfl trivial ?_ rfl;simp only[Tryz.ntmps200,List.size_toArray,List.length_cons,List.length_nil,Nat.reduceAdd,Nat.reduceSub,Array.replicate_succ,Array.replicate_zero,List.push_toArray,List.append_toArray,List.nil_append,List.cons_append];gi_wp2;gi_region_with (first|(refine⟨trivial,?_⟩;gi_at_call 57;refine I.out.mono ?_;rintro e w1 ⟨v,rfl,z,h,K⟩;have T:w1.cell? ⟨s,0,none⟩=some (.func (.yield l) #[] #[]):=(al (aM j.out.y h) 0).trans rfl;have i:=zA (j.out.stay h);obtain⟨fn,tmps,U,V,X,D⟩:=G.out pre (p,v) W w1 H.out ⟨jl h _,z,j.out.lt.1⟩ hlen;have L:=zA D;clear D z h K)|(refine L.out.mono ?_;rintro e w3 a;obtain⟨b,rfl,M⟩:=CM a;clear a))
 all_goals gi_wp2
 all_goals go_ret
 all_goals
  rcases M.out with⟨rfl,a,F⟩|⟨rfl,a⟩
  ·exact .inl ⟨[(p,v)],rfl,a,rfl,by simpa using i.out.iE (fun k hk=>F.2 k hk (by have:=i.out.lt;rcases hk with rfl|rfl|hk<;>omega)) (i.out.below.trans (F.1 i.out.size))⟩
  ·exact .inr ⟨rfl,_,a⟩
theorem CP {n q a:Nat} {p:List Int} {x:Nat} (h:iJ n q (p++List.replicate (a+1) 0)) (b:p.length≠q) (g:x<=1000):iJ n q (p++(x:Int)::List.replicate a 0):=by
 have e:p++(x:Int)::List.replicate a 0=(p++List.replicate (a+1) 0).set p.length x:=by
  rw[List.replicate_succ,List.set_append_right _ _ (aI _),Nat.sub_self];rfl
 rw[e];refine⟨by rw[List.length_set];exact h.1,fun i=>?_,?_⟩
 ·have hi:=h.2.1 i
  simp only[rd,aQ,bh,List.getElem?_set] at hi⊢;split
  ·split<;>simp<;>omega
  ·exact hi
 ·have hi:=h.2.2
  simp only[rd,aQ,bh,List.getElem?_set] at hi⊢;rw[if_neg b];exact hi
theorem CS.set {w0:World} {n:Nat} {A0:Option Addr} {c0:Nat} {E:List S83} {q gx qx s l:Nat} {W:World} {p:List Int} {a:Nat} {x:Int} (h:CS w0 n A0 c0 E q gx qx s l W (p++x::List.replicate a 0)) (b:gx<s) (i:qx<s) (j:w0.heap.size<=s) (y:Int):
  CS w0 n A0 c0 E q gx qx s l (W.setCell ⟨s+1,p.length,none⟩ (.int .i64 y)) (p++y::List.replicate a 0)/\W.grownBy (W.setCell ⟨s+1,p.length,none⟩ (.int .i64 y)) (some (s+1)):=by
 have hp:=Kd.de h.c (p.length:Int) y;rw[aQ] at hp;have g_:∀k,k≠s+1->(W.setCell ⟨s+1,p.length,none⟩ (.int .i64 y)).heap[k]? =W.heap[k]? :=fun k hk=>Below.heap_setCell _ _ _ _ (by simpa using hk)
 refine⟨⟨(g_ gx (by omega)).trans h.g,(g_ qx (by omega)).trans h.q,(g_ s (by omega)).trans h.y,?_,(g_ (s+2) (by omega)).trans h.cb,(g_ (s+3) (by omega)).trans h.f,h.below.setCell (by show w0.heap.size<=s+1;omega) _⟩,hp.2⟩;have e:(p++x::List.replicate a 0).set p.length y=p++y::List.replicate a 0:=by
  rw[List.set_append_right _ _ (aI _),Nat.sub_self];rfl
 rw[<-e];exact hp.1
theorem CS.cell {w0:World} {n:Nat} {A0:Option Addr} {c0:Nat} {E:List S83} {q gx qx s l:Nat} {W:World} {p:List Int} {b:Nat} {x:Int} (h:CS w0 n A0 c0 E q gx qx s l W (p++x::List.replicate b 0)) (hn:p.length<n):
  W.cell? ⟨s+1,p.length,none⟩=some (.int .i64 x)/\W.frozen? ⟨s+1,p.length,none⟩=false:=by
 obtain⟨h1,a⟩:=Kd.bP (0:Int) h.c (p.length:Int) (by omega) (by omega);rw[aQ] at h1 a;refine⟨?_,a⟩;rw[h1];simp[bO,bh]
theorem CQ (k m:Nat) (b:Int) (g:Option Addr) (i:Nat) (a:List (S83)) (j:Int) (l:Option Addr) (c2:Nat) (l2:List Int) (r:Bool) (w:World) (n:Kd.C aT w g a.length a) (o:a.length<=i) (p:l2.length=m) (q:Kd.C (Kd.int .i64) w l m l2) (s:m<=c2) (h:e9.f k b a j l2=some r):
  Calls Tryz.prog 176 #[.agg #[.int .i64 b,.slice g a.length i],.int .i64 j,.slice l m c2] w fun e w'=>e= .returned (.bool r)/\Below w.heap.size w w':=by
 subst p;exact e9.calls k b g i a j l c2 l2 r w n o q s h
theorem CT {w0:World} {B K n:Nat} {A0:Option Addr} {c0:Nat} {E:List S83} {q gx qx s l:Nat} {calm:List Int->Bool} {J Jx:List (List Int×Value)->World->Prop} (hn:n<=12) (aL:Kd.C aT w0 A0 E.length E) (aO:E.length<=c0) (X:gx<s) (Y:qx<s) (Z:w0.heap.size<=s)
  (aa:∀c,iJ n q c->e9.f K n E q c=some (calm c)) (ab:∀(p:List Int) (x a:Nat),calm (p++(x:Int)::List.replicate a 0)=true->p.length+1+a=n->p.length≠q->x+1<B) (hB:B<=1000) (aP:0<B)
  (ad:∀pre A C,J pre A->A.grownBy C (some (s+1))->J pre C)
  (hY:∀pre x A C,J pre A->qS s x A C->pre.length<16384->YieldAt Fence.wide 8 Tryz.prog l #[x.2] C fun e W'=>(e= .returned (.bool true)/\J (pre++[x]) W'/\qT w0 gx qx s C W')\/(e= .returned (.bool false)/\Jx (pre++[x]) W')):
  ∀(a v:Nat) (p:List Int) (pre:List (List Int×Value)) (W:World),p.length=v->v+a=n->CS w0 n A0 c0 E q gx qx s l W (p++List.replicate a 0)->iJ n q (p++List.replicate a 0)->J pre W->pre.length+(dV q B calm a p).length<=16384->
  CallsIn Fence.wide 9 Tryz.prog 200 #[.int .i64 v,.pointer (some ⟨gx,0,none⟩),.pointer (some ⟨s,0,none⟩),.pointer (some ⟨s+2,0,none⟩),.pointer (some ⟨qx,0,none⟩),.pointer (some ⟨s+3,0,none⟩)] W (qU w0 B n A0 c0 E q gx qx s l calm J Jx a p pre):=by
 intro a;induction a with
 |zero=>
  intro v p pre W hp hv hC hO H hlen;obtain rfl:v=n:=by omega
  exact CO hn hY p pre W hp (by simpa using hC) H (by simp[dV] at hlen;omega)
 |succ a ih=>
  intro v p pre W hp hv hC hO H hlen;have I:W.cell? ⟨gx,0,none⟩=some (.int .i64 n):=(al hC.g 0).trans rfl;have L:W.cell? ⟨qx,0,none⟩=some (.int .i64 q):=(al hC.q 0).trans rfl;have aS:W.cell? ⟨s+3,0,none⟩=some (.func (.func 200) #[] #[.pointer (some ⟨gx,0,none⟩),.pointer (some ⟨s,0,none⟩),.pointer (some ⟨s+2,0,none⟩),.pointer (some ⟨qx,0,none⟩),.pointer (some ⟨s+3,0,none⟩)]):=(al hC.f 0).trans rfl;have a0:((v:Int)==(n:Int))=false:=by simp;omega
  have hu:=Tryz.underlying24;have am:=zA ih;have i:=zA hC;have HO:=zA hO;have w:=zA H;have HL:=zA hlen;have k:=zA hp;have R:=zA ad;have a1:=zA aa;have a2:=zA ab;have b2:v<12:=by omega
  clear ih hC hO H hlen hY ad aa ab hp;refine callsIn_of_wp Tryz.func200 rfl trivial ?_ rfl;simp only[Tryz.ntmps200,List.size_toArray,List.length_cons,List.length_nil,Nat.reduceAdd,Nat.reduceSub,Array.replicate_succ,Array.replicate_zero,List.push_toArray,List.append_toArray,List.nil_append,List.cons_append];by_cases F:v=q
  ·have r:=am.out (v+1) (p++[0]) pre W (by simp[k.out]) (by omega) (by rw[List.append_assoc];exact i.out) (by rw[List.append_assoc];exact HO.out) w.out (by have h:=HL.out;rw[dV,if_pos (by rw[k.out];exact F)] at h;exact h)
   rw[Int.natCast_add,Int.natCast_one] at r;have S:=zA ((callsIn_wide (n:=8)).2 (callsIn_wide.1 r));clear r;have y:=zA F;clear F;have b3:((v:Int)==(q:Int))=true:=by simp[y.out]
   gi_wp2_with (refine⟨trivial,?_⟩;gi_at_call 200;refine S.out.mono ?_;rintro e w3 j;obtain⟨b,rfl,T⟩:=CN j;clear j)
   go_ret;rcases T.out with⟨rfl,m,j,M,z⟩|⟨rfl,j⟩
   ·exact .inl ⟨m,rfl,j,by rw[dV,if_pos (by rw[k.out];exact y.out)];exact M,by rw[List.append_assoc] at z;exact z⟩
   ·exact .inr ⟨rfl,j⟩
  ·have a3:((v:Int)==(q:Int))=false:=by simp;omega
   have y:=zA (show p.length≠q by rw[k.out];exact F);have a4:=zA (CL q B calm a p y.out);clear F;gi_wp2;clear I L aS a0 a3;gi_loopg [] (B) (fun kq wr=>∃(x:Nat) (m:List (List Int×Value)),x<B/\Aside0 (J (pre++m) wr)/\Aside0 (CS w0 n A0 c0 E q gx qx s l wr (p++(x:Int)::List.replicate a 0))/\Aside0 (dV q B calm (a+1) p=m.map Prod.fst++jM (fun (x:Nat)=>calm (p++(x:Int)::List.replicate a 0)) (fun (x:Nat)=>dV q B calm a (p++[(x:Int)])) (B-x) x)/\Aside0 (kq=B-x))
   case atStart=>exact⟨0,[],aP,⟨by simpa using w.out⟩,i,⟨by rw[a4.out];rfl⟩,⟨rfl⟩⟩
   case round=>
    clear w i;obtain⟨x,m,hx,w,i,HT,HK⟩:=hrel;have N:=zA (CP (x:=x) HO.out y.out (by omega));obtain⟨-, -,U⟩:=Kd.aD i.out.c;rw[N.out.1] at U;have O:=zA ((callsIn_wide (n:=8)).2 (CQ K n n A0 c0 E q (some ⟨s+1,0,none⟩) n _ _ wr (Kd.au aL i.out.below) aO N.out.1 U (aI _) (a1.out _ N.out)));have av:=zA (show jM (fun (x:Nat)=>calm (p++(x:Int)::List.replicate a 0)) (fun (x:Nat)=>dV q B calm a (p++[(x:Int)])) (B-x) x=if calm (p++(x:Int)::List.replicate a 0)=true then dV q B calm a (p++[(x:Int)])++jM (fun (x:Nat)=>calm (p++(x:Int)::List.replicate a 0)) (fun (x:Nat)=>dV q B calm a (p++[(x:Int)])) (B- (x+1)) (x+1) else[] from by rw[show B-x=(B- (x+1))+1 by omega];rfl);have I:wr.cell? ⟨gx,0,none⟩=some (.int .i64 n):=(al i.out.g 0).trans rfl;have aB:wr.cell? ⟨gx,1,none⟩=some (.slice A0 E.length c0):=(al i.out.g 1).trans rfl;have L:wr.cell? ⟨qx,0,none⟩=some (.int .i64 q):=(al i.out.q 0).trans rfl;have aF:wr.cell? ⟨s+2,0,none⟩=some (.slice (some ⟨s+1,0,none⟩) n n):=(al i.out.cb 0).trans rfl;have b5:(0:Int)<=(v:Int):=by omega
    have b6:(v:Int)<(n:Int):=by omega
    clear U;cases hb:calm (p++(x:Int)::List.replicate a 0) with
    |false=>
     rw[hb] at O;have P:=zA (show dV q B calm (a+1) p=m.map Prod.fst from by rw[HT.out,av.out,if_neg (by rw[hb];decide),List.append_nil]);clear hb;gi_wp2_with (refine⟨trivial,?_⟩;gi_at_call 176;refine O.out.mono ?_;rintro e w1 ⟨rfl,u⟩;have D:=zA (i.out.stay u);have Q:w1.cell? ⟨s+2,0,none⟩=some (.slice (some ⟨s+1,0,none⟩) n n):=(al D.out.cb 0).trans rfl;have G:=D.out.cell (by rw[k.out];omega);rw[k.out] at G;obtain⟨q2,q3⟩:=G;have bg:=zA u;clear u)
     go_ret;have o:=D.out.set X Y Z 0;rw[k.out] at o;exact .inl ⟨m,rfl,R.out _ _ _ w.out (World.grownBy.trans (jl bg.out _) o.2),P.out.symm,o.1⟩
    |true=>
     rw[hb] at O;have HX:=zA (a2.out p x a hb (by rw[k.out];omega) y.out);have P:=zA (show dV q B calm (a+1) p=m.map Prod.fst++(dV q B calm a (p++[(x:Int)])++jM (fun (x:Nat)=>calm (p++(x:Int)::List.replicate a 0)) (fun (x:Nat)=>dV q B calm a (p++[(x:Int)])) (B- (x+1)) (x+1)) from by rw[HT.out,av.out,if_pos hb]);have bk:=zA (show (pre++m).length+(dV q B calm a (p++[(x:Int)])).length<=16384 from by have h1:=HL.out;rw[P.out] at h1;simp only[List.length_append,List.length_map] at h1⊢;omega);clear hb;gi_wp2_with (refine⟨trivial,?_⟩;gi_at_call 176;refine O.out.mono ?_;rintro e w1 ⟨rfl,u⟩;have D:=zA (i.out.stay u);have Q:w1.cell? ⟨s+3,0,none⟩=some (.func (.func 200) #[] #[.pointer (some ⟨gx,0,none⟩),.pointer (some ⟨s,0,none⟩),.pointer (some ⟨s+2,0,none⟩),.pointer (some ⟨qx,0,none⟩),.pointer (some ⟨s+3,0,none⟩)]):=(al D.out.f 0).trans rfl;have r:=am.out (v+1) (p++[(x:Int)]) (pre++m) w1 (by simp[k.out]) (by omega) (by rw[List.append_assoc];exact D.out) (by rw[List.append_assoc];exact N.out) (R.out _ _ _ w.out (jl u _)) bk.out;rw[Int.natCast_add,Int.natCast_one] at r;have S:=zA ((callsIn_wide (n:=8)).2 (callsIn_wide.1 r));clear u r)
     refine⟨trivial,?_⟩;refine S.out.mono ?_;rintro e w3 (⟨bn,rfl,j,M,z⟩|⟨rfl,bo,j⟩)
     ·rw[List.append_assoc] at z
      have V:=zA (show CS w0 n A0 c0 E q gx qx s l w3 (p++(x:Int)::List.replicate a 0) from z);have bv:=zA j;have H4:=zA M;clear j M z Q I aB L aF;have Q:w3.cell? ⟨s+2,0,none⟩=some (.slice (some ⟨s+1,0,none⟩) n n):=(al V.out.cb 0).trans rfl;have G:=V.out.cell (by rw[k.out];omega);have o:=V.out.set X Y Z ((x:Int)+1);rw[k.out] at G o;obtain⟨q2,q3⟩:=G;have bx:=zA o.1;have b0:=zA (R.out _ _ _ bv.out o.2);clear o;have b_:(x:Int)<=1000:=by omega
      gi_wp2;gi_roundg (B- (x+1))
      case measure=>rw[HK.out];omega
      case rel=>exact⟨x+1,m++bn,HX.out,⟨by rw[<-List.append_assoc];exact b0.out⟩,bx,⟨by rw[P.out,List.map_append,H4.out,List.append_assoc]⟩,⟨rfl⟩⟩
     ·have T:=zA j
      clear j Q I aB L aF;gi_wp2;go_ret;exact .inr ⟨rfl,bo,T.out⟩
end
theorem vf {α:Type} {f:Nat->Option α} (h:∀k,aj (f k) (f (k+1))) {k:Nat} {r:α} (hk:f k=some r):∀m,f (k+m)=some r
 |0=>hk
 |m+1=>h _ _ (vf h hk m)
theorem vg {i:Nat} (h:i<=1000):wrap64 ((i:Int)+1)=((i+1:Nat):Int):=by
 rw[show wrap64 ((i:Int)+1)=(i:Int)+1 from by unfold wrap64;omega];omega
theorem CU {x:Int} (h: -1048576<=x/\x<=1048576):gI.f x=some true:=by
 unfold gI.f;rw[if_pos (show x>= -1048576 from h.1)];simp[h.2]
theorem vh (c:List Int) (b:c.length<=12) (h:∀i:Nat, -1048576<=rd c i/\rd c i<=1048576):∀(m K i:Nat),i+m=c.length->m<K->bt.l0 K c c.length i=some 0
 |0,0,i,_,a=>by omega
 |0,K+1,i,hi,_=>by
  rw[bt.l0,if_neg (by omega)]
 |m+1,0,i,_,a=>by omega
 |m+1,K+1,i,hi,a=>by
  rw[bt.l0,if_pos (by omega),if_pos (by omega),if_pos (by omega),CU (h i),Option.bind_some,if_pos rfl,vg (by omega)];exact vh c b h m K (i+1) (by omega) (by omega)
theorem vi (q:Int) (c:List Int) (b:c.length<=12) (h:∀i:Nat,0<=rd c i):∀(m K i:Nat),i+m=c.length->m<K->c_.l0 K q c c.length i=some 0
 |0,0,i,_,a=>by omega
 |0,K+1,i,hi,_=>by
  rw[c_.l0,if_neg (by omega)]
 |m+1,0,i,_,a=>by omega
 |m+1,K+1,i,hi,a=>by
  have e:=h i;rw[c_.l0,if_pos (by omega),if_pos (by omega),if_pos (by omega),if_neg (show ¬rd c i<0 by omega),vg (by omega),vi q c b h m K (i+1) (by omega) (by omega)];split<;>rfl
theorem vj (b:Nat->Bool):∀n,(gH b n).length=0↔(List.range n).all b=true
 |0=>by simp[gH]
 |n+1=>by
  have a:=vj b n;rw[List.range_succ,List.all_append];simp only[gH];cases hb:b n with
  |true=>simp[hb] at a⊢;exact a
  |false=>simp[hb]
theorem CV {k n:Nat} {E:List S83} {q:Nat} {c:List Int} (b:dt.f k n E q=some 0) (a:iJ n q c):c_.f (k+20) n E q c=some 0:=by
 obtain⟨_,⟨_,hn⟩,_,g,h⟩:=kP b;have j:=a.1;have h1:=vf (fun k=>dt.mono n E q k) b 20;have e:bt.f (k+20) c n=some 0:=by
  unfold bt.f jd.f;rw[if_neg (by omega),if_neg (by omega),Option.bind_some,if_pos rfl,if_pos (by omega)];exact vh c (by omega) (fun i=>by have:=a.2.1 i;omega) c.length (k+20) 0 (by omega) (by omega)
 unfold c_.f;rw[h1,Option.bind_some,if_pos rfl,e,Option.bind_some,if_pos rfl];exact vi q c (by omega) (fun i=>(a.2.1 i).1) c.length (k+20) 0 (by omega) (by omega)
theorem CW {k n:Nat} {E:List S83} {q:Nat} {c:List Int} (b:dt.f k n E q=some 0) (a:iJ n q c):gJ.f (k+20) n E q c=some 0:=by
 obtain⟨_,⟨_,hn⟩,_,e,g⟩:=kP b;have h:=a.1;unfold gJ.f;rw[CV b a,Option.bind_some,if_pos rfl,if_pos e,if_pos (by omega),if_pos a.2.2]
theorem CX {k n:Nat} {E:List S83} {q:Nat} {c:List Int} (a:dt.f k n E q=some 0) (e:ja n E=true) (b:iJ n q c):gP.f (k+20) n E q c=some (ga n (ai E) q c,0):=by
 obtain⟨_,⟨_,hn⟩,_,g,i⟩:=kP a;have j:=b.1;unfold gP.f iD.f;rw[CW a b,Option.bind_some,if_pos rfl,if_pos (by simp only[oC,Bool.and_eq_true,decide_eq_true_eq];exact⟨by omega,e⟩),Option.bind_some,if_pos rfl];congr 2
 rw[aQ,aQ];have h:=vj (cO (cP q) (oD n E q c)) n;rw[Bool.eq_iff_iff];unfold ga;rw[show eL n (cw n (ai E) c) (cP q)=oD n E q c from rfl,<-h];simp
theorem CY {k n:Nat} {E:List S83} {q:Nat} {c:List Int} (a:dt.f k n E q=some 0) (b:ja n E=true) (e:iJ n q c):e9.f (k+20) n E q c=some (ga n (ai E) q c):=by
 unfold e9.f;rw[CX a b e,Option.bind_some];cases ga n (ai E) q c<;>simp
theorem CZ {t:Nat->Nat->Int} (a:∀i j,0<=t i j/\t i j<=50) (b:Nat->Bool) (v:Nat) (n:Nat) (hn:n<=12):dJ t b v n<=600:=by
 have:=(qk (burnt:=b) a v n).2;omega
theorem C0 {n:Nat} {E:List S83} {q:Nat} (b:ja n E=true) (hn:n<=12) {l:List Int} {v:Nat} (e:v<n) (g:v≠q) (h:ga n (ai E) q l=true):rd l v<valOf n (ai E) v/\valOf n (ai E) v<=600:=by
 have a:=(kG b).times;exact⟨((qB (fun i j=>(a i j).1) q l).1 h).lt e g,CZ a _ v n hn⟩
section
attribute [local go_sem] Oper.semAt_some
theorem C1 {w0:World} {B K n:Nat} {A0:Option Addr} {c0:Nat} {E:List S83} {q gx qx:Nat} {calm:List Int->Bool} (W:World) (m:Nat) (hS:W.heap.size=m) (hn:n<=12) (ad:Kd.C aT w0 A0 E.length E) (ag:E.length<=c0)
  (G:∀c,iJ n q c->e9.f K n E q c=some (calm c)) (H:∀(p:List Int) (x I:Nat),calm (p++(x:Int)::List.replicate I 0)=true->p.length+1+I=n->p.length≠q->x+1<B) (hB:B<=1000) (am:0<B)
  (L:(dV q B calm n []).length<=16384)
  (r:W.heap[gx]? =some (.cells #[.int .i64 n,.slice A0 E.length c0] 24 (0,0))) (w:W.heap[qx]? =some (.cells #[.int .i64 q] 3 (0,0))) (hw:Below w0.heap.size w0 W):
  jb (σ:=Unit) Fence.wide 9 Tryz.prog 199 #[.pointer (some ⟨gx,0,none⟩),.pointer (some ⟨qx,0,none⟩)] (fun x:List Int×Value=>#[x.2]) (fun _ W W1=>W1=W) (fun _ A C=>A.grownBy C (some (m+1))) (fun _ x A C=>qS m x A C)
   (fun _ X Y=>qT w0 gx qx m X Y) (fun _ xs W'=>xs.map Prod.fst=dV q B calm n []) (fun _ _ _=>True) (fun pre=>pre.length<16384) W:=by
 intro u J Jx y an M N;subst hS;have O:=M () W rfl;have ap:=zA (fun W' h1 z g=>CT (w0:=w0) (B:=B) (K:=K) (s:=W.heap.size) (l:=u) (J:=J ()) (Jx:=Jx ()) hn ad ag (aE r) (aE w) hw.size G H hB am (fun pre A C h hA=>y _ _ _ _ h hA) (fun pre x A C h1 z g=>N _ _ _ _ _ h1 z g) n 0 [] [] W' rfl (by omega) h1 z g (by simpa using L));have av:=zA y;have aB:=zA O;obtain⟨zs,P,Q⟩:=lS 26 Tryz.underlying26 n (by omega);have HZ:=zA Q;have R:=zA r;have S:=zA w;have T:=zA hw;have bi:(W.alloc (.cells #[.func (.yield u) #[] #[]] 141)).cell? ⟨gx,0,none⟩=some (.int .i64 n):=(al (ay r _) 0).trans rfl;have aL:=zA (show iJ n q (List.replicate n 0) from⟨by simp,fun i=>by simp[rd,bh,List.getElem?_replicate];split<;>simp,by simp[rd,bh,List.getElem?_replicate];split<;>simp⟩);have aO:=aE R.out;have aP:=aE S.out;have aR:=T.out.size;obtain⟨a,U⟩:∃o:Obj,o= .cells #[.func (.yield u) #[] #[]] 141:=⟨_,rfl⟩;obtain⟨j,V⟩:∃o:Obj,o= .cells zs 3:=⟨_,rfl⟩;obtain⟨b,Z⟩:∃o:Obj,o= .cells #[.slice (some ⟨W.heap.size+1,0,none⟩) n n] 26:=⟨_,rfl⟩;obtain⟨fo,aa⟩:∃o:Obj,o= .cells #[.func (.func 200) #[] #[.pointer (some ⟨gx,0,none⟩),.pointer (some ⟨W.heap.size,0,none⟩),.pointer (some ⟨W.heap.size+1+1,0,none⟩),.pointer (some ⟨qx,0,none⟩),.pointer (some ⟨W.heap.size+1+1+1,0,none⟩)]] 121:=⟨_,rfl⟩;have v:=zA (aq (aq (aq (aq (ao W.heap.size W) a) j) b) fo);have E0:=zA (show ((((W.alloc a).alloc j).alloc b).alloc fo).heap[W.heap.size]? =some a from by rw[Below.heap_alloc _ _ _ (by simp;omega),Below.heap_alloc _ _ _ (by simp;omega),Below.heap_alloc _ _ _ (by simp)];exact bm W a);have D:=HZ.out (W.alloc a) (fun k=>k=W.heap.size+1) (by simp);rw[World.size_alloc,<-V] at D;have E1:=zA (Kd.aK (Kd.aK (Kd.ba D (show w0.heap.size<=W.heap.size+1 by omega)) b) fo);have E2:=zA (show ((((W.alloc a).alloc j).alloc b).alloc fo).heap[W.heap.size+2]? =some b from by rw[Below.heap_alloc _ _ _ (by simp)];have h:=bm ((W.alloc a).alloc j) b;simpa using h);have E3:=zA (show ((((W.alloc a).alloc j).alloc b).alloc fo).heap[W.heap.size+3]? =some fo from by have h:=bm (((W.alloc a).alloc j).alloc b) fo;simpa using h);have a3:Aside0 (CS w0 n A0 c0 E q gx qx W.heap.size u ((((W.alloc a).alloc j).alloc b).alloc fo) (List.replicate n 0)):=
  ⟨⟨(v.out.block gx aO).trans R.out,(v.out.block qx aP).trans S.out,E0.out.trans (by rw[U]),E1.out,E2.out.trans (by rw[Z]),E3.out.trans (by rw[aa]),T.out.trans (v.out.mono aR)⟩⟩
 have a4:Aside0 (J () [] ((((W.alloc a).alloc j).alloc b).alloc fo)):=⟨av.out _ _ _ _ aB.out (jl v.out _)⟩;have a5:=zA ((callsIn_wide (n:=8)).2 (callsIn_wide.1 (ap.out _ (by simpa using a3.out) (by simpa using aL.out) a4.out)));subst U V Z aa;clear y an M N O G H L Q r w hw D;refine callsIn_of_wp Tryz.func199 rfl trivial ?_ rfl;simp only[Tryz.ntmps199,List.size_toArray,List.length_cons,List.length_nil,Nat.reduceAdd,Nat.reduceSub,Array.replicate_succ,Array.replicate_zero,List.push_toArray,List.append_toArray,List.nil_append,List.cons_append];gi_wp2;refine⟨trivial,?_⟩;refine a5.out.mono ?_;rintro e w3 (⟨vs,rfl,g,h4,h5⟩|⟨rfl,bf,g⟩)
 ·have F:=zA g
  have H4:=zA h4;clear g h4 h5 P;gi_wp2;go_end0;exact⟨⟨_,rfl⟩,.inl ⟨_,vs,H4.out,F.out⟩⟩
 ·have F:=zA g
  clear g P;gi_wp2;go_end0;exact⟨⟨_,rfl⟩,.inr ⟨_,bf,trivial,F.out⟩⟩
end
def gQ (val:List Int) (q:Int) (n j:Nat):List Int:=(List.range n).map fun v=>if v<j/\(v:Int)≠q then rd val v-1 else 0
theorem C2 (val:List Int) (q:Int) (n:Nat):gQ val q n 0=List.replicate n 0:=by
 unfold gQ;refine List.ext_getElem (by simp) fun i h1 a=>?_
 simp
theorem C3 {val:List Int} {q:Int} {n j:Nat} (h:(j:Int)=q):gQ val q n (j+1)=gQ val q n j:=by
 unfold gQ;refine List.map_congr_left fun v _=>?_
 by_cases e:v=j
 ·subst e;simp[h]
 ·have:(v<j+1/\(v:Int)≠q)↔(v<j/\(v:Int)≠q):=by omega
  simp only[this]
theorem C4 {val:List Int} {q:Int} {n j:Nat} (h:(j:Int)≠q) (a:j<n):gQ val q n (j+1)=(gQ val q n j).set j (rd val j-1):=by
 refine List.ext_getElem (by simp[gQ]) fun i h1 b=>?_
 rw[List.getElem_set];simp only[gQ,List.getElem_map,List.getElem_range];by_cases e:j=i
 ·subst e;simp[h]
 ·rw[if_neg e]
  have:(i<j+1/\(i:Int)≠q)↔(i<j/\(i:Int)≠q):=by omega
  simp only[this]
theorem C5 (n:Nat) (E:List S83):(gO n E).length=n:=uY n _ _
theorem C6 {n:Nat} {E:List S83} (h:e8 E=true) (i:Nat):0<=rd (gO n E) i/\rd (gO n E) i<=4000:=by
 have h1:=u_ n (dj E E.length) (dj E E.length).length i;have a:=uW h;unfold gO;omega
theorem C7 (k n:Nat) (A0:Option Addr) (c0:Nat) (E:List S83) (q:Int) (a:Option Addr) (cd:Nat) (dl:List Int) (w:World) (h:Kd.C aT w A0 E.length E) (i:E.length<=c0) (hd:Kd.C (Kd.int .i64) w a n dl) (j:n<=cd)
  (hn:n<=12) (l:dl.length=n) (m:bj.f k n E=some 0) (o:e8 E=true) (p:ep n E):
  Calls Tryz.prog 212 #[.agg #[.int .i64 n,.slice A0 E.length c0],.int .i64 q,.slice a n cd] w fun e w'=>∃(gp:Nat) (r b:Option Addr) (s g:Nat) (u:Value),e= .returned (.tuple #[.pointer (some ⟨gp,0,none⟩),.int .i64 0])/\cL w' gp (.slice r n s) q u (.slice b n g) (fun x=>if x<n then iG q (gO n E) dl x else false)/\(Kd.int .i64).R 3 w' w.heap.size (fun _=>True) (.slice b n g) (gO n E)/\Below w.heap.size w w':=by
 subst l;exact CK k dl.length A0 c0 E q a cd dl w h i hd j hn rfl m o p
def ia.f (k:Nat) (N:Int) (E:List S83) (q:Int):Option (List Int×Int):=
 (dt.f k N E q).bind fun t=>if t=0 then(if mU N E=true then some (gQ (gO N.toNat E) q N.toNat N.toNat,0) else none) else some ([],t)
theorem ia.mono:∀a b e k,aj (ia.f k a b e) (ia.f (k+1) a b e):=by
 intro a b e k;unfold ia.f;exact aj.bind (dt.mono _ _ _ _) (fun _=>aj.refl _)
theorem C8 (k:Nat) (N:Int) (A0:Option Addr) (c0:Nat) (E:List S83) (q:Int) (t:Int) (w:World) (g:Kd.C aT w A0 E.length E) (h:E.length<=c0)
  (a:dt.f k N E q=some t) (b:t≠0):
  Calls Tryz.prog 198 #[.agg #[.int .i64 N,.slice A0 E.length c0],.int .i64 q] w fun e w'=>e= .returned (.tuple #[.slice none 0 0,.int .i64 t])/\Below w.heap.size w w':=by
 have hu:=Tryz.underlying24;have i:=zA a;have l:(t != 0)=true:=by simpa using b
 clear a b;go_enter Tryz.func198,Tryz.ntmps198
 go_wp2_with (go_at_call 211;refine(dt.calls k N A0 c0 E q t _ (Kd.bE g _) h i.out).mono ?_;rintro e w1 ⟨rfl,hb⟩;have j:=zA (a8 (aq (ao w.heap.size w) _) hb);clear hb)
 go_ret2;exact⟨rfl,j.out⟩
theorem C9 (k n:Nat) (A0:Option Addr) (c0:Nat) (E:List S83) (q:Int) (w:World) (L:Kd.C aT w A0 E.length E) (M:E.length<=c0)
  (u:dt.f k n E q=some 0) (N:e8 E=true) (O:ep n E):
  Calls Tryz.prog 198 #[.agg #[.int .i64 n,.slice A0 E.length c0],.int .i64 q] w fun e w'=>∃v,e= .returned (.tuple #[v,.int .i64 0])/\(Kd.int .i64).R 3 w' w.heap.size (fun _=>True) v (gQ (gO n E) q n n)/\Below w.heap.size w w':=by
 have hu:=Tryz.underlying24;have bo:=Tryz.underlying236;obtain⟨P,⟨_,hn⟩,_,bv,bw⟩:=kP u;obtain⟨zs,aF,Q⟩:=lS 25 Tryz.underlying25 n (by omega);obtain⟨ys,aL,S⟩:=lS 26 Tryz.underlying26 n (by omega);have HZ:=zA Q;have HY:=zA S;have aR:=zA u;have Hg:=zA P;have T:=zA N;have HI:=zA O;have a0:n<=12:=by omega
 clear Q S u P N O hn;have y:=zA (bm w (.cells #[.int .i64 n,.slice A0 E.length c0] 24));go_enter Tryz.func198,Tryz.ntmps198
 go_wp2_with (go_at_call 211;refine(dt.calls k n A0 c0 E q 0 _ (Kd.bE L _) M aR.out).mono ?_;rintro e w1 ⟨rfl,hb⟩;have b:=zA (a8 (aq (ao w.heap.size w) _) hb);have a:=zA (aM y.out hb);clear hb)
 generalize z:w.heap.size=gb at y b a⊢;have a1:=aE a.out;have a2:w1.cell? ⟨gb,0,none⟩=some (.int .i64 n):=(al a.out 0).trans rfl;have a3:w1.cell? ⟨gb,1,none⟩=some (.slice A0 E.length c0):=(al a.out 1).trans rfl;have a4:(w1.alloc (.cells zs 3)).drew.cell? ⟨gb,0,none⟩=some (.int .i64 n):=(al (ay a.out _) 0).trans rfl;have a5:(w1.alloc (.cells zs 3)).drew.cell? ⟨gb,1,none⟩=some (.slice A0 E.length c0):=(al (ay a.out _) 1).trans rfl;have U:=zA (C7 k n A0 c0 E q (some ⟨w1.heap.size,0,none⟩) n (List.replicate n 0) (w1.alloc (.cells zs 3)).drew (Kd.fg (Kd.bE (Kd.au L (by rw[z];exact b.out)) _)) M (by have h:=(Kd.aD (Kd.bd (HZ.out w1 (fun _=>True) trivial))).2.2;rw[List.length_replicate] at h;exact h) (aI _) a0 (by simp) Hg.out T.out HI.out);have B:Aside0 (gb<=(w1.alloc (.cells zs 3)).drew.heap.size):=⟨by have h:(w1.alloc (.cells zs 3)).drew.heap.size=w1.heap.size+1:=World.size_alloc w1 _;omega⟩;have V:=zA (bV (b.out.alloc (Nat.le_of_lt a1) (.cells zs 3)));have W:=zA (show (w1.alloc (.cells zs 3)).drew.heap[gb]? =some (.cells #[.int .i64 n,.slice A0 E.length c0] 24 (0,0)) from ay a.out _);go_wp2;go_region_with ((go_at_call 212;refine U.out.mono ?_;rintro e w2 ⟨gp,bx,X,b0,Y,rv,rfl,Z,hR,hb⟩;have ab:=zA (V.out.trans (hb.mono B.out));have D:=zA (aM W.out hb);have ag:=zA Z;have F:=zA (Kd.ba hR B.out);clear Z hR hb))
 all_goals have a9:w2.cell? ⟨gb,0,none⟩=some (.int .i64 n):=(al D.out 0).trans rfl
 all_goals have G:=aE D.out
 all_goals have ak:=zA (ag.out.below (aq (ao w2.heap.size w2) (.cells ys 3)))
 all_goals have r:=zA (Kd.aK F.out (.cells ys 3))
 all_goals have H:=zA (ab.out.alloc (Nat.le_of_lt G) (.cells ys 3))
 all_goals have g:=zA (Kd.ba (HY.out w2 (fun k=>k=w2.heap.size) rfl) (Nat.le_of_lt G))
 all_goals have be:=ak.out.oN
 all_goals have am:Aside0 (some w2.heap.size≠(Value.slice X n Y).ownBlock):=⟨fun e=>by have:=Kd.a7 F.out _ e.symm;omega⟩
 all_goals clear y b a V W B U ab D ag F a2 a3 a4 a5 aF
 all_goals go_wp2
 all_goals clear a9 aL G be ak
 all_goals generalize w2.alloc (.cells ys 3)=w3 at r H g⊢
 all_goals generalize w2.heap.size=l at g am⊢
 all_goals
  have an:=zA (C6 (n:=n) T.out);have ap:=zA (C5 n E);obtain⟨vl,I⟩:∃vl,vl=gO n E:=⟨_,rfl⟩;rw[<-I] at r an ap;have bf:=zA I;clear I;rw[<-C2 vl q n] at g;go_loopw [38] (fun i wr=>∃(j:Nat),j<=n/\i= .int .i64 j/\Aside0 ((Kd.int .i64).R 3 wr gb (fun _=>True) (.slice X n Y) vl)/\Aside0 ((Kd.int .i64).R 3 wr gb (fun k=>k=l) (.slice (some ⟨l,0,none⟩) n n) (gQ vl q n j))/\Aside0 (Below gb w wr)) (fun i _=>n- (intOf i).toNat)
  case atStart=>exact⟨0,by omega,rfl,r,g,H⟩
  case round=>
   clear r g H;obtain⟨j,hj,rfl,J,m,K⟩:=hrel;by_cases bg:j<n
   ·obtain⟨-, -,hC⟩:=Kd.aD J.out
    rw[ap.out] at hC;obtain⟨ad,rfl,hx⟩:=Kd.bL hC j (by omega) (by omega);rw[aQ] at hx;clear hC;have bi:=an.out j;have b3:(0:Int)<=(j:Int):=by omega
    have b4:(j:Int)<(n:Int):=by omega
    by_cases o:(j:Int)=q
    ·have s:=zA (C3 (val:=vl) (n:=n) o)
     subst o;go_wp2;go_roundw
     case rel=>exact⟨j+1,by omega,by go_num,J,⟨by rw[s.out];exact m.out⟩,K⟩
     case measure=>exact(show n- ((j:Int)+1).toNat<n- ((j:Int)).toNat by omega)
    ·have s:=zA (C4 (val:=vl) o bg)
     have b5:((j:Int) != q)=true:=by simpa using o
     obtain⟨bk,bn⟩:=Kd.bP (0:Int) m.out (j:Int) (by omega) (by omega);have hp:=Kd.de m.out (j:Int) (rd vl j-1);rw[aQ] at bk bn hp;have av:=zA hp.1;have aB:=zA (Kd.iu J.out rfl hp.2 am.out);have b:=zA (Below.setCell (p:=⟨l,j,none⟩) K.out (Kd.dD m.out l rfl) (.int .i64 (rd vl j-1)));clear hp o;generalize rd vl j=x at hx bi av aB b s;go_wp2;go_roundw
     case rel=>exact⟨j+1,by omega,by go_num,aB,⟨by rw[s.out];exact av.out⟩,b⟩
     case measure=>exact(show n- ((j:Int)+1).toNat<n- ((j:Int)).toNat by omega)
   ·obtain rfl:j=n:=by omega
    go_wp2;go_ret2;exact⟨.slice (some ⟨l,0,none⟩) _ _,rfl,by rw[z,<-bf.out];exact Kd.a_ m.out (fun _ _=>trivial),by rw[z];exact K.out⟩
theorem ia.calls (k:Nat) (g:Int) (i:Option Addr) (j:Nat) (a:List (S83)) (l:Int) (p:List Int) (q:Int) (w:World) (r:Kd.C aT w i a.length a) (s:a.length<=j) (h:ia.f k g a l=some (p,q)):
  Calls Tryz.prog 198 #[.agg #[.int .i64 g,.slice i a.length j],.int .i64 l] w fun e w'=>∃u:Value,e= .returned (.tuple #[u,.int .i64 q])/\Kd.R (Kd.int .i64) 3 w' w.heap.size (fun _=>True) u p/\Below w.heap.size w w':=by
 unfold ia.f at h;obtain⟨t,m,H⟩:=Option.bind_eq_some_iff.mp h;by_cases o:t=0
 ·subst o
  rw[if_pos rfl] at H;by_cases b:mU g a=true
  ·rw[if_pos b] at H
   simp only[Option.some.injEq,Prod.mk.injEq] at H;obtain⟨rfl,rfl⟩:=H;obtain⟨_,⟨v,x⟩,_,_⟩:=kP m;obtain⟨n,rfl⟩:=Int.eq_ofNat_of_zero_le v;simp only[mU,Bool.and_eq_true] at b;rw[aQ];exact C9 k n i j a l w r s m b.1 (kG b.2)
  ·rw[if_neg b] at H;cases H
 ·rw[if_neg o] at H
  simp only[Option.some.injEq,Prod.mk.injEq] at H;obtain⟨rfl,rfl⟩:=H;refine(C8 k g i j a l t w r s m o).mono ?_;rintro e w' ⟨rfl,hb⟩;exact⟨_,rfl,Kd.cW _ _ _ _ _,hb⟩
def gj.f (k:Nat) (b:Int) (e:List (S83)) (g:Int):Option (List Int×Int):=(ia.f k b e g).bind fun a=>(some (a.1,a.2))
theorem gj.mono:∀a0 a a2 k,aj (gj.f k a0 a a2) (gj.f (k+1) a0 a a2):=by
 intro a0 a a2 k;unfold gj.f;with_reducible repeat' first|exact ia.mono _ _ _ _|exact aj.refl _|exact aj.none _|refine aj.ite ?_ ?_|refine aj.bind ?_ (fun _=>?_)
theorem gj.calls (k:Nat) (b:Int) (j:Option Addr) (l:Nat) (a:List (S83)) (i:Int) (m:List Int) (n:Int) (w:World) (q:Kd.C aT w j a.length a) (r:a.length<=l) (h:gj.f k b a i=some (m,n)):
  Calls Tryz.prog 173 #[.agg #[.int .i64 b,.slice j a.length l],.int .i64 i] w fun e w'=>∃s:Value,e= .returned (.tuple #[s,.int .i64 n])/\Kd.R (Kd.int .i64) 3 w' w.heap.size (fun _=>True) s m/\Below w.heap.size w w':=by
 have G:=Tryz.underlying24;have y:=zA q;have z:=zA r;clear q r;have g:=zA (ao w.heap.size w);have H:((ia.f k b a i).bind fun u=>(some (u.1,u.2)))=some (m,n):=h;clear h;obtain⟨⟨B,D⟩,E,H⟩:=zo H;dsimp only at H;simp only[Option.some.injEq,Prod.mk.injEq] at H;obtain⟨rfl,rfl⟩:=H;go_enter Tryz.func173,Tryz.ntmps173
 go_wp2_with (first|((with_reducible refine aJ (N:=2) rfl ?_);refine zX 2 #[.int .i64 b,.slice j a.length l] 24 ?_;intro I o J v hb;have p:=zA (v);have K:=zG g o;have L:=zG g o;replace g:=zS g hb;clear hb v o;obtain⟨M,O,P,Q⟩:=ax p)|((with_reducible refine aC (f:=198) rfl ?_);refine zL (some 8) Tryz.func198 #[.agg #[.int .i64 b,.slice j a.length l],.int .i64 i] ?_;(with_reducible refine(ia.calls k b _ _ a i B D _ ?af ?ah E.out).mono ?_);(case af=>exact Kd.au y.out zB);(case ah=>exact z.out);rintro e S ⟨T,rfl,x,hb⟩;refine⟨_,rfl,?_⟩;have F:=zA (Kd.ba x (bp zB));replace p:=zb p hb;replace g:=zS g hb;(try clear hb);(try clear x)))
 go_ret2;exact⟨_,zE,by(with_reducible repeat(first|apply Kd.aK|apply Kd.bq|apply Kd.bd));exact F.out,zB⟩
end Go.Proofs.YtffdiakgjakngaaGreat.P


namespace Go.Proofs.YtffdiakgjakngaaGreat.P
open Go.RowKit Go.Proofs.YtffdiakgjakngaaGreatW.PrintWords Go.Proofs.YtffdiakgjakngaaGreatW.PrintLast Go.Proofs.YtffdiakgjakngaaGreatW.PrintMore
set_option linter.unusedVariables false
set_option linter.unusedSimpArgs false
set_option maxHeartbeats 8000000
set_option maxRecDepth 100000
section
attribute [local go_sem] Oper.semAt_some
theorem vk {P:Program} {ty:TypeId} {d:TypeDesc} (w:World) (a:Addr) (v:Value) (h:P.underlying ty=some d) (k:(match d with| .struct _| .array _ _=>true|_=>false)=false) (c:w.cell? a=some v):(loadVar ty a).run P w= .ok v w:=by
 have e:(isAgg ty).run P w= .ok false w:=by
  unfold isAgg;rw[Sem.run_bind];have hu:(underlying ty).run P w= .ok d w:=by simp[underlying,Sem.run_bind,Result.andThen,h]
  rw[hu];cases d<;>first|(simp at k;done)|rfl
 unfold loadVar;rw[Sem.run_bind,e];simp[Result.andThen,go_sem,c]
theorem qV {P:Program} {fn:Func} {p u:Tmp} {t1 t2:TypeId} {d1 d2:TypeDesc} (h:fn.results=#[.cell p t1,.cell u t2]) (tmps:Array Value) (w:World) (a b:Addr) (v1 v2:Value) (hp:tmps.getD p undef= .pointer (some a)) (hu:tmps.getD u undef= .pointer (some b))
  (h1:P.underlying t1=some d1) (e:P.underlying t2=some d2) (g:(match d1 with| .struct _| .array _ _=>true|_=>false)=false) (i:(match d2 with| .struct _| .array _ _=>true|_=>false)=false) (c1:w.cell? a=some v1) (c2:w.cell? b=some v2):
  (results fn tmps).run P w= .ok (.tuple #[v1,v2]) w:=by
 have j:tmps[p]?.getD undef= .pointer (some a):=by simpa using hp
 have k:tmps[u]?.getD undef= .pointer (some b):=by simpa using hu
 simp[results,h,j,k,asAddr,Sem.run_bind,Result.andThen,vk w a v1 h1 g c1,vk w b v2 e i c2]
theorem C_ (N:Int) (A0:Option Addr) (c0:Nat) (E:List S83) (q:Int) (w:World):Calls Tryz.prog 174 #[.agg #[.int .i64 N,.slice A0 E.length c0],.int .i64 q] w fun e w'=>e= .returned (.func (.func 199) #[] #[.pointer (some ⟨w.heap.size,0,none⟩),.pointer (some ⟨w.heap.size+1,0,none⟩)])/\w'=(w.alloc (.cells #[.int .i64 N,.slice A0 E.length c0] 24)).alloc (.cells #[.int .i64 q] 3):=by
 go_enter Tryz.func174,Tryz.ntmps174
 go_wp2;go_ret;exact⟨rfl,rfl⟩
def qW:Nat:=1000
def lV (n:Nat) (E:List S83) (q:Nat):List (List Int):=dV q qW (ga n (ai E) q) n []
def fa.f (k:Nat) (N:Int) (E:List S83) (q:Int):Option (List (List Int)×Int):=
 (gj.f k N E q).bind fun t=>if t.2=0 then(if(lV N.toNat E q.toNat).length<=16384 then some (lV N.toNat E q.toNat,0) else none) else some ([],t.2)
theorem fa.mono:∀a b e k,aj (fa.f k a b e) (fa.f (k+1) a b e):=by
 intro a b e k;unfold fa.f;exact aj.bind (gj.mono _ _ _ _) (fun _=>aj.refl _)
theorem vm {k:Nat} {N:Int} {E:List S83} {q:Int} {l:List Int} (h:gj.f k N E q=some (l,0)):dt.f k N E q=some 0/\e8 E=true/\ja N E=true/\l=gQ (gO N.toNat E) q N.toNat N.toNat:=by
 unfold gj.f ia.f at h;simp only[Option.bind_assoc] at h;obtain⟨t,b,h⟩:=Option.bind_eq_some_iff.1 h;by_cases a:t=0
 ·subst a
  rw[if_pos rfl] at h;by_cases hk:mU N E=true
  ·rw[if_pos hk] at h
   simp only[mU,Bool.and_eq_true] at hk;simp only[Option.bind_some,Option.some.injEq,Prod.mk.injEq] at h;exact⟨b,hk.1,hk.2,h.1.symm⟩
  ·rw[if_neg hk] at h;cases h
 ·rw[if_neg a] at h
  simp only[Option.bind_some,Option.some.injEq,Prod.mk.injEq] at h;exact absurd h.2 a
theorem Da {F:Fence} {n:Nat} {P:Program} {fn:Func} {R:Ending->World->Prop} {a:Act} {w:World} {v:Value} (hd:a.defers=[]) (b:(results fn a.tmps).run P w= .ok v w) (e:R (.returned v) w):bodyPostM F n P fn R .ret a w:=by
 show LeavesInM F n P fn a.tmps R a.defers .returning w
 rw[hd];exact⟨_,b,e⟩
theorem Db {w1:World} {r:Nat} {t1 t2:TypeId} {u1 u2:Value} (v1 v2:Value) (a:w1.heap[r]? =some (.cells #[u1] t1 (0,0))) (b:w1.heap[r+1]? =some (.cells #[u2] t2 (0,0))):
  ((w1.setCell ⟨r,0,none⟩ v1).setCell ⟨r+1,0,none⟩ v2).cell? ⟨r,0,none⟩=some v1/\((w1.setCell ⟨r,0,none⟩ v1).setCell ⟨r+1,0,none⟩ v2).cell? ⟨r+1,0,none⟩=some v2:=by
 have h1:=bR a 0 v1;have e:=aG (p:=⟨r+1,0,none⟩) h1 (by show r≠r+1;omega) v2;have g:=aG (p:=⟨r,0,none⟩) b (by show r+1≠r;omega) v1;have h:=bR g 0 v2;exact⟨(al e 0).trans (by simp),(al h 0).trans (by simp)⟩
theorem mV (w:World) (a b e:Obj):(((w.alloc a).alloc b).alloc e).heap[w.heap.size]? =some a/\(((w.alloc a).alloc b).alloc e).heap[w.heap.size+1]? =some b/\(((w.alloc a).alloc b).alloc e).heap[w.heap.size+1+1]? =some e:=by
 refine⟨?_,?_,?_⟩
 ·rw[Below.heap_alloc _ _ _ (by simp;omega),Below.heap_alloc _ _ _ (by simp)];exact bm w a
 ·rw[Below.heap_alloc _ _ _ (by simp)];have h:=bm (w.alloc a) b;simpa using h
 ·have h:=bm ((w.alloc a).alloc b) e;simpa using h
theorem Dc (k:Nat) (N:Int) (A0:Option Addr) (c0:Nat) (E:List S83) (q:Int) (l:List Int) (t:Int) (w:World) (j:Kd.C aT w A0 E.length E) (m:E.length<=c0) (hf:gj.f k N E q=some (l,t)) (g:t≠0):
  Calls Tryz.prog 114 #[.agg #[.int .i64 N,.slice A0 E.length c0],.int .i64 q] w fun e w'=>e= .returned (.tuple #[.slice none 0 0,.int .i64 t])/\Below w.heap.size w w':=by
 have hu:=Tryz.underlying24;have o:=zA hf;have x:(t != 0)=true:=by simpa using g
 have a:=zA (mV w (.cells #[.int .i64 N,.slice A0 E.length c0] 24) (.cells #[.slice none 0 0] 33) (.cells #[.int .i64 0] 30));have y:(((w.alloc (.cells #[.int .i64 N,.slice A0 E.length c0] 24)).alloc (.cells #[.slice none 0 0] 33)).alloc (.cells #[.int .i64 0] 30)).cell? ⟨w.heap.size,0,none⟩=some (.int .i64 N):=(al a.out.1 0).trans rfl;have z:(((w.alloc (.cells #[.int .i64 N,.slice A0 E.length c0] 24)).alloc (.cells #[.slice none 0 0] 33)).alloc (.cells #[.int .i64 0] 30)).cell? ⟨w.heap.size,1,none⟩=some (.slice A0 E.length c0):=(al a.out.1 1).trans rfl;clear hf g;refine(callsIn_wide (n:=10)).1 ?_;refine callsIn_of_wp_marks Tryz.func114 rfl trivial ?_ rfl;simp only[Tryz.ntmps114,List.size_toArray,List.length_cons,List.length_nil,Nat.reduceAdd,Nat.reduceSub,Array.replicate_succ,Array.replicate_zero,List.push_toArray,List.append_toArray,List.nil_append,List.cons_append];gi_wp2_with (refine⟨trivial,?_⟩;gi_at_call 173;refine(callsIn_wide.2 (gj.calls k N A0 c0 E q l t _ (Kd.bE (Kd.bE (Kd.bE j _) _) _) m o.out)).mono ?_;rintro e w1 ⟨v,rfl,r,hb⟩;have s:=zA ((aq (aq (aq (ao w.heap.size w) _) _) _).trans (hb.mono (by simp;omega)));have b:=zA (aM a.out.2.1 hb);have h:=zA (aM a.out.2.2 hb);have B:w1.cell? ⟨w.heap.size+1,0,none⟩=some (.slice none 0 0):=(al b.out 0).trans rfl;have D:w1.frozen? ⟨w.heap.size+1,0,none⟩=false:=bD b.out 0;have i:=zA (aG (p:=⟨w.heap.size+1,0,none⟩) h.out (by show w.heap.size+1+1≠w.heap.size+1;omega) (.slice none 0 0));have F:(w1.setCell ⟨w.heap.size+1,0,none⟩ (.slice none 0 0)).cell? ⟨w.heap.size+1+1,0,none⟩=some (.int .i64 0):=(al i.out 0).trans rfl;have G:=bD i.out 0;clear r hb)
 obtain⟨c1,c2⟩:=Db (.slice none 0 0) (.int .i64 t) b.out h.out;exact Da rfl (qV (p:=4) (u:=5) rfl _ _ ⟨w.heap.size+1,0,none⟩ ⟨w.heap.size+1+1,0,none⟩ _ _ rfl rfl Tryz.underlying33 Tryz.underlying30 rfl rfl c1 c2) ⟨rfl,(s.out.setCell (p:=⟨w.heap.size+1,0,none⟩) (by show w.heap.size<=w.heap.size+1;omega) _).setCell (p:=⟨w.heap.size+1+1,0,none⟩) (by show w.heap.size<=w.heap.size+1+1;omega) _⟩
end
section
attribute [local go_sem] Oper.semAt_some
theorem Dd (k n:Nat) (A0:Option Addr) (c0:Nat) (E:List S83) (q:Nat) (l:List Int) (w:World) (aP:Kd.C aT w A0 E.length E) (aR:E.length<=c0) (hf:gj.f k n E q=some (l,0)) (aS:(lV n E q).length<=16384):
  Calls Tryz.prog 114 #[.agg #[.int .i64 n,.slice A0 E.length c0],.int .i64 q] w fun e w'=>∃v,e= .returned (.tuple #[v,.int .i64 0])/\(Kd.slice 3 (Kd.int .i64)).R 26 w' w.heap.size (fun _=>True) v (lV n E q)/\Below w.heap.size w w':=by
 have hu:=Tryz.underlying24;obtain⟨hr,hm,an, -⟩:=vm hf;obtain⟨_,⟨_,hn⟩,_,ce,cf⟩:=kP hr;have a0:n<=12:=by omega
 have ch:=zA (fun c (hc:iJ n q c)=>CY hr an hc);have ci:Aside0 (∀(p:List Int) (x Q:Nat),ga n (ai E) q (p++(x:Int)::List.replicate Q 0)=true->p.length+1+Q=n->p.length≠q->x+1<qW):=⟨fun p x Q h hp cj=>by
  have h1:=C0 an a0 (v:=p.length) (by omega) cj h;have hx:rd (p++(x:Int)::List.replicate Q 0) p.length=x:=by simp[rd,bh]
  rw[hx] at h1;show x+1<1000
  omega⟩
 have cl:=zA aS;have Hf:=zA hf;have m:=zA (mV w (.cells #[.int .i64 n,.slice A0 E.length c0] 24) (.cells #[.slice none 0 0] 33) (.cells #[.int .i64 0] 30));have cq:(((w.alloc (.cells #[.int .i64 n,.slice A0 E.length c0] 24)).alloc (.cells #[.slice none 0 0] 33)).alloc (.cells #[.int .i64 0] 30)).cell? ⟨w.heap.size,0,none⟩=some (.int .i64 n):=(al m.out.1 0).trans rfl;have cs:(((w.alloc (.cells #[.int .i64 n,.slice A0 E.length c0] 24)).alloc (.cells #[.slice none 0 0] 33)).alloc (.cells #[.int .i64 0] 30)).cell? ⟨w.heap.size,1,none⟩=some (.slice A0 E.length c0):=(al m.out.1 1).trans rfl;clear hf hr hm an aS ce cf hn;refine(callsIn_wide (n:=10)).1 ?_;refine callsIn_of_wp_marks Tryz.func114 rfl trivial ?_ rfl;simp only[Tryz.ntmps114,List.size_toArray,List.length_cons,List.length_nil,Nat.reduceAdd,Nat.reduceSub,Array.replicate_succ,Array.replicate_zero,List.push_toArray,List.append_toArray,List.nil_append,List.cons_append];gi_wp2_with (first|(refine⟨trivial,?_⟩;gi_at_call 173;refine(callsIn_wide.2 (gj.calls k n A0 c0 E q l 0 _ (Kd.bE (Kd.bE (Kd.bE aP _) _) _) aR Hf.out)).mono ?_;rintro e w1 ⟨v,rfl,c2,hb⟩;have HB:=zA ((aq (aq (aq (ao w.heap.size w) _) _) _).trans (hb.mono (by simp;omega)));have X0:=zA (aM m.out.1 hb);have z:=zA (aM m.out.2.1 hb);have L:=zA (aM m.out.2.2 hb);have y0:(w1.alloc (.cells #[.slice none 0 0] 33)).cell? ⟨w.heap.size,0,none⟩=some (.int .i64 n):=(al (ay X0.out _) 0).trans rfl;have y1:(w1.alloc (.cells #[.slice none 0 0] 33)).cell? ⟨w.heap.size,1,none⟩=some (.slice A0 E.length c0):=(al (ay X0.out _) 1).trans rfl;clear c2 hb)|(refine⟨trivial,?_⟩;gi_at_call 174;refine(callsIn_wide.2 (C_ n A0 c0 E q _)).mono ?_;rintro e w3 ⟨rfl,rfl⟩))
 have c5:w.heap.size+1+1<w1.heap.size:=aE L.out;have c6:=HB.out.size;obtain⟨S,a2⟩:∃o:Obj,o= .cells #[.int .i64 n,.slice A0 E.length c0] 24:=⟨_,rfl⟩;obtain⟨T,a3⟩:∃o:Obj,o= .cells #[.int .i64 q] 3:=⟨_,rfl⟩;obtain⟨U,a4⟩:∃o:Obj,o= .cells #[.slice none 0 0] 33:=⟨_,rfl⟩;obtain⟨Z0,Z1,Z2⟩:=mV w1 U S T;have M:=zA (Z0.trans (by rw[a4]:_=some (.cells #[.slice none 0 0] 33 (0,0))));have V:=zA (Z1.trans (by rw[a2]:_=some (.cells #[.int .i64 n,.slice A0 E.length c0] 24 (0,0))));have X:=zA (Z2.trans (by rw[a3]:_=some (.cells #[.int .i64 q] 3 (0,0))));have Y:=zA (aq (aq (aq HB.out U) S) T);have bf:=zA (ay (ay (ay z.out U) S) T);have bg:=zA (ay (ay (ay L.out U) S) T);clear Z0 Z1 Z2;subst a2 a3 a4;clear y0 y1 cq cs X0 z L HB m;generalize (((w1.alloc (.cells #[.slice none 0 0] 33)).alloc (.cells #[.int .i64 n,.slice A0 E.length c0] 24)).alloc (.cells #[.int .i64 q] 3))=a at M V X Y bf bg⊢;have c7:=aE M.out;have c8:=aE V.out;have c9:=aE X.out;generalize c':w1.heap.size+1+1=qx at X c9⊢;generalize dd:w1.heap.size+1=gx at V c8 c'⊢;generalize w1.heap.size=bo at M c5 c6 c7 dd⊢;have el:=Y.out.size;refine iC (σ:=Unit) (α:=List Int×Value) (F:=Fence.wide) (n:=10) rfl (by decide) (gf:=199) (lb:=#[.pointer (some ⟨gx,0,none⟩),.pointer (some ⟨qx,0,none⟩)]) rfl trivial (enters_of Tryz.func199 (by kernel_rfl) rfl)
  (fun o=>C1 (w0:=w) (B:=qW) (K:=k+20) (n:=n) (A0:=A0) (c0:=c0) (E:=E) (q:=q) (gx:=gx) (qx:=qx) (calm:=ga n (ai E) q) _ (a.heap.size+2) (by simp) a0 aP aR ch.out ci.out (by decide) (by decide) cl.out (ay (ay V.out _) _) (ay (ay X.out _) _) (aq (aq Y.out _) _)) (fun _=>rfl)
  (fun _=>True) ?eF ?st ?ar
  (fun _ pre W=>a.heap.size+2<=W.heap.size/\∃v,W.heap[bo]? =some (.cells #[v] 33 (0,0))/\W.heap[w.heap.size+1]? =some (.cells #[.slice none 0 0] 33 (0,0))/\W.heap[w.heap.size+1+1]? =some (.cells #[.int .i64 0] 30 (0,0))/\(Kd.slice 3 (Kd.int .i64)).R 26 W w.heap.size (fun k=>¬(k=gx\/k=qx\/a.heap.size+2<=k/\k<a.heap.size+2+4)) v (pre.map Prod.fst)/\Below w.heap.size w W) (fun _ _ _ _=>False)
  ?is (fun _ _ _ _ _ _ h _=>h) ?ib (fun _ _ _ _ _ h _=>h) ?kt ?h0 ?a1 ?assign ?body ?done (fun _ _ _ _ _ _ _ h=>h.elim)
 case assign=>
  intro l x W K hK;gi_wp2;exact hK
 case eF=>
  intro o s W1 h;exact⟨trivial,by rw[h];exact cn.refl _ _⟩
 case st=>intro s A B _ h k o h1 H g _;exact(h.block k (Array.getElem?_eq_some_iff.1 g).1 (fun e=>by injection e;omega)).trans g
 case ar=>intro s x A B _ h k o h1 H g _;exact(h.1.block k (Array.getElem?_eq_some_iff.1 g).1 (fun e=>by injection e;omega)).trans g
 case is=>
  rintro s pre A B _ ⟨N,v,h1,H,g,h4,Z⟩ I;exact⟨Nat.le_trans N I.size,v,(I.block bo (aE h1) (fun e=>by injection e;omega)).trans h1,(I.block _ (aE H) (fun e=>by injection e;omega)).trans H,(I.block _ (aE g) (fun e=>by injection e;omega)).trans g,Kd.lq h4 I (fun k hk e=>hk (.inr (.inr (by injection e;omega)))),jU Z _ Z.size I (fun k e=>by injection e;omega)⟩
 case ib=>
  rintro s pre A B ⟨N,v,h1,H,g,h4,Z⟩ hb;exact⟨by rw[hb.size];exact N,v,hb.cells h1,hb.cells H,hb.cells g,du h4 hb,Z.trans (hb.below w.heap.size (by omega))⟩
 case kt=>
  intro s A B C D aa bi bk;refine⟨fun aY=>((aa.below w.heap.size (by omega)).trans (bi.1 (by rw[aa.size];exact aY))).trans (bk.below w.heap.size (by omega)),fun k hk aY=>?_⟩;have bn:k≠a.heap.size+1:=by rcases hk with rfl|rfl|hk<;>omega
  exact(bk.heap k bn).trans ((bi.2 k hk (by rw[aa.size];exact aY)).trans (aa.heap k bn))
 case h0=>
  rintro o s W1 rfl;exact⟨by simp,_,ay (ay M.out _) _,ay (ay bf.out _) _,ay (ay bg.out _) _,Kd.cW _ _ _ _ _,aq (aq Y.out _) _⟩
 case body=>
  rintro l s pre ⟨xl,xv⟩ O W1 W _ ⟨N,v,i1,i2,i3,i4,i5⟩ ⟨G,ab,er⟩ bw b;simp only at ab;obtain⟨Ax,cx,rfl⟩:=Kd.bb ab;have es:O.heap.size<=W.heap.size:=by have:=b.size;have:=G.size;omega
  have r:=zA (b.cells ((G.block bo (aE i1) (fun e=>by injection e;omega)).trans i1));have y:=zA (b.cells ((G.block _ (aE i2) (fun e=>by injection e;omega)).trans i2));have b3:=zA (b.cells ((G.block _ (aE i3) (fun e=>by injection e;omega)).trans i3));have b4:=zA (du (Kd.lq i4 G (fun k hk e=>hk (.inr (.inr (by injection e;omega))))) b);have b5:=zA ((jU i5 _ i5.size G (fun k e=>by injection e;omega)).trans (b.below w.heap.size (by omega)));have bx:=zA (Kd.l8 (Kd.ba (Kd.a_ (ok':=fun k=>O.heap.size<=k) (Kd.eH (du ab b)) (fun k hk=>hk.2.1)) i5.size));have b0:∀k,v.ownBlock=some k->k<O.heap.size:=fun k hk=>Kd.a7 i4 k hk
  have b6:=zA b0;have d0:=zA (Kd.fT i4);clear i1 i2 i3 i4 i5 G ab b b0;obtain⟨Ar,cr,rfl⟩:=Kd.bb b4.out;have b':(pre.map Prod.fst).length=pre.length:=by simp
  rw[b'] at r b4 b6 d0;have hc:=dK r.out;have hf:=bD r.out 0;have ev:(((pre.length:Nat):Int)==16384)=false:=by simp;omega
  have LN:Aside0 (((pre.map Prod.fst).length+1)*24<=140737488355328):=⟨by rw[b'];omega⟩;have d2:Aside0 (∀k,O.heap.size<=k->¬(k=gx\/k=qx\/a.heap.size+2<=k/\k<a.heap.size+2+4)/\some k≠(Value.slice Ar pre.length cr).ownBlock):=⟨fun k hk=>⟨by omega,fun e=>by have:=b6.out k e.symm;omega⟩⟩;have d3:Aside0 (∀k,W.heap.size<=k->¬(k=gx\/k=qx\/a.heap.size+2<=k/\k<a.heap.size+2+4)):=⟨fun k hk=>by omega⟩;gi_wp2_with (gi_at_builtin;go_loud (refine oA (Kd.slice 3 (Kd.int .i64)) (w0:=w) w.heap.size rfl (.tmp 26) (.tmp 28) 33 26 (.slice none 0 0) 24 rfl Tryz.underlying33 pO rfl (by decide) (by omega) (.slice Ar pre.length cr) (pre.map Prod.fst) xl [.slice Ax xl.length cx] (fun k=>¬(k=gx\/k=qx\/a.heap.size+2<=k/\k<a.heap.size+2+4)) (fun k=>O.heap.size<=k) rfl rfl bx.out d2.out d3.out b4.out b5.out b5.out.size LN.out ?_;intro v1 ew aL hb P d4;obtain⟨A1,c1,rfl⟩:=Kd.bb aL;have z:=zA ((P.block bo (aE r.out) (Kd.db b4.out r.out (by decide))).trans r.out);have L:=zA ((P.block _ (aE y.out) (Kd.db b4.out y.out (by decide))).trans y.out);have J:=zA ((P.block _ (aE b3.out) (Kd.db b4.out b3.out (by decide))).trans b3.out);have ex:=dK z.out;have ey:=bD z.out 0;have d5:=zA aL;have d6:=zA hb;have ag:=zA P;clear aL hb P d4))
  refine⟨(oB b4.out ag.out).trans (fp _ _ (aE M.out)),⟨fun aY=>Below.setCell ((ao w.heap.size W).grown ag.out aY (Kd.dD b4.out)) (by show w.heap.size<=bo;omega) _,fun k hk d7=>?_⟩,by have:=ag.out.size;simp;omega,.slice A1 (pre.length+1) c1,by simpa using bR z.out 0 (.slice A1 (pre.length+1) c1),aG L.out (by show w.heap.size+1≠bo;omega) _,aG J.out (by show w.heap.size+1+1≠bo;omega) _,?_,dx d6.out (by show w.heap.size<=bo;omega)⟩
  ·have d8:k≠bo:=by rcases hk with rfl|rfl|hk<;>omega
   rw[Below.heap_setCell _ _ _ _ d8];exact ag.out.block k d7 (fun e=>(b4.out.1 k e.symm) hk)
  ·have h:=Kd.eU d5.out z.out (by decide) 0 (.slice A1 (pre.length+1) c1)
   simpa using h
 case done=>
  rintro s xs W W' _ ca ⟨N,v,i1,i2,i3,i4,i5⟩ b cb;obtain⟨i,j,hv⟩:=Kd.bb i4;rw[List.length_map] at hv;subst hv;have r:=zA (b.cells i1);have y:=zA (b.cells i2);have b3:=zA (b.cells i3);have b4:=zA (du i4 b);have b5:=zA (i5.trans (b.below w.heap.size (by omega)));have d9:=zA cb;have m:=zA (show xs.map Prod.fst=lV n E q from ca);clear i1 i2 i3 i4 i5 cb ca b;have hc:=dK r.out;have q1:W'.cell? ⟨w.heap.size+1,0,none⟩=some (.slice none 0 0):=(al y.out 0).trans rfl;have q2:W'.frozen? ⟨w.heap.size+1,0,none⟩=false:=bD y.out 0;have J:=zA (aG (p:=⟨w.heap.size+1,0,none⟩) b3.out (by show w.heap.size+1+1≠w.heap.size+1;omega) (.slice i xs.length j));have q3:(W'.setCell ⟨w.heap.size+1,0,none⟩ (.slice i xs.length j)).cell? ⟨w.heap.size+1+1,0,none⟩=some (.int .i64 0):=(al J.out 0).trans rfl;have q4:=bD J.out 0;have Y1:=zA (aG (p:=⟨w.heap.size+1+1,0,none⟩) (bR y.out 0 (.slice i xs.length j)) (by show w.heap.size+1≠w.heap.size+1+1;omega) (.int .i64 0));have Y2:=zA (bR J.out 0 (.int .i64 0));have bw:w.heap.size+1≠a.heap.size:=by omega
  have ed:w.heap.size+1+1≠a.heap.size:=by omega
  have Y3:=zA (show ((W'.setCell ⟨w.heap.size+1,0,none⟩ (.slice i xs.length j)).setCell ⟨w.heap.size+1+1,0,none⟩ (.int .i64 0)).heap[a.heap.size]? =some (.deferred (some [])) from by rw[Below.heap_setCell _ _ _ _ (fun e=>ed e.symm),Below.heap_setCell _ _ _ _ (fun e=>bw e.symm)];exact d9.out);have Y4:=zA (Kd.eU (Kd.eU b4.out y.out (by decide) 0 (.slice i xs.length j)) J.out (by decide) 0 (.int .i64 0));have Y5:=zA ((b5.out.setCell (p:=⟨w.heap.size+1,0,none⟩) (by show w.heap.size<=w.heap.size+1;omega) (.slice i xs.length j)).setCell (p:=⟨w.heap.size+1+1,0,none⟩) (by show w.heap.size<=w.heap.size+1+1;omega) (.int .i64 0));gi_wp2_with fail
  have ak:Bk a.heap.size ((W'.setCell ⟨w.heap.size+1,0,none⟩ (.slice i xs.length j)).setCell ⟨w.heap.size+1+1,0,none⟩ (.int .i64 0)) (((W'.setCell ⟨w.heap.size+1,0,none⟩ (.slice i xs.length j)).setCell ⟨w.heap.size+1+1,0,none⟩ (.int .i64 0)).putObj a.heap.size (.deferred none)):=⟨_,_,Y3.out,rfl,rfl⟩;refine jc (D:=a.heap.size) rfl Y3.out (qV (p:=4) (u:=5) rfl _ _ ⟨w.heap.size+1,0,none⟩ ⟨w.heap.size+1+1,0,none⟩ (.slice i xs.length j) (.int .i64 0) rfl rfl Tryz.underlying33 Tryz.underlying30 rfl rfl ((al (ak.cells Y1.out) 0).trans (by simp)) ((al (ak.cells Y2.out) 0).trans (by simp))) ⟨_,rfl,?_,Y5.out.trans (ak.below w.heap.size (by omega))⟩;rw[<-m.out];exact Kd.a_ (du Y4.out ak) (fun _ _=>trivial)
theorem fa.calls (k:Nat) (b:Int) (g:Option Addr) (i:Nat) (a:List (S83)) (j:Int) (r:List (List Int)) (s:Int) (w:World) (u:Kd.C aT w g a.length a) (x:a.length<=i) (h:fa.f k b a j=some (r,s)):
  Calls Tryz.prog 114 #[.agg #[.int .i64 b,.slice g a.length i],.int .i64 j] w fun e w'=>∃y:Value,e= .returned (.tuple #[y,.int .i64 s])/\Kd.N (Kd.slice 3 (Kd.int .i64)) 26 w' w.heap.size (fun z=>(w.heap.size<=z)) y r/\Below w.heap.size w w':=by
 unfold fa.f at h;obtain⟨⟨l,t⟩,o,H⟩:=Option.bind_eq_some_iff.mp h;simp only at H;by_cases p:t=0
 ·subst p
  rw[if_pos rfl] at H;by_cases m:(lV b.toNat a j.toNat).length<=16384
  ·rw[if_pos m] at H
   simp only[Option.some.injEq,Prod.mk.injEq] at H;obtain⟨rfl,rfl⟩:=H;obtain⟨B, -, -, -⟩:=vm o;obtain⟨_,⟨D,G⟩,_,E,_⟩:=kP B;obtain⟨n,rfl⟩:=Int.eq_ofNat_of_zero_le D;obtain⟨q,rfl⟩:=Int.eq_ofNat_of_zero_le E;rw[aQ,aQ] at m⊢;refine(Dd k n g i a q l w u x o m).mono ?_;rintro e w' ⟨v,rfl,h1,F⟩;exact⟨v,rfl,Kd.nG (Kd.a_ (Kd.eH h1) (fun k hk=>hk.2.1)),F⟩
  ·rw[if_neg m] at H;cases H
 ·rw[if_neg p] at H
  simp only[Option.some.injEq,Prod.mk.injEq] at H;obtain⟨rfl,rfl⟩:=H;refine(Dc k b g i a j l t w u x o p).mono ?_;rintro e w' ⟨rfl,hb⟩;exact⟨_,rfl,Kd.nG (Kd.cW _ _ _ _ _),hb⟩
end
def oO (qx gx:Nat) (row:Option Nat) (a:World) (l:List (List Int)) (del:List Int->Bool):Prop:=
 ∀(W':World) (A0:Option Addr) (c0:Nat) (x:List Int),a.grownBy W' row->x∈l->x.length<=c0->Kd.C (Kd.int .i64) W' A0 x.length x->
  Calls Tryz.prog 116 #[.slice A0 x.length c0,.pointer (some ⟨qx,0,none⟩),.pointer (some ⟨gx,0,none⟩)] W' fun e w'=>e= .returned (.bool (del x))/\Below W'.heap.size W' w'
theorem vn {l:List (List Int)} {i:Nat} (h:i<l.length):a6 l i∈l:=by
 have e:a6 l i=l[i]:=by simp[a6,bh,bX h]
 rw[e];exact List.getElem_mem h
theorem vo (qx gx base:Nat) (row:Option Nat) (A:Option Addr) (cap:Nat) (ok:Nat->Prop) (l:List (List Int)) (del:List Int->Bool) (o W:World) (p:Kd.N (Kd.slice 3 (Kd.int .i64)) 26 W base ok (.slice A l.length cap) l) (q:o.grownBy W row) (s:oO qx gx row o l del):
  Calls Tryz.prog 175 #[.slice A l.length cap,.func (.func 116) #[] #[.pointer (some ⟨qx,0,none⟩),.pointer (some ⟨gx,0,none⟩)]] W fun e w'=>∃r:Int,e= .returned (.int .i64 r)/\((r= -1/\∀j:Nat,j<l.length->del (a6 l j)=false)\/∃i:Nat,r=i/\i<l.length/\del (a6 l i)=true/\∀j:Nat,j<i->del (a6 l j)=false)/\Below W.heap.size W w':=by
 have x:=zA p;have y:=zA q;have z:=zA s;clear p q s;go_enter Tryz.func175,Tryz.ntmps175
 go_wp2;go_loopw [8] (fun i wr=>∃k:Nat,k<=l.length/\i= .int .i64 k/\Aside0 (∀j:Nat,j<k->del (a6 l j)=false)/\Aside0 (Below W.heap.size W wr)) (fun i _=>l.length- (intOf i).toNat)
 case atStart=>exact⟨0,by omega,rfl,⟨fun j B=>by omega⟩,⟨ao _ _⟩⟩
 case round=>
  obtain⟨k,hk,rfl,h,a⟩:=hrel;by_cases u:k<l.length
  ·obtain⟨-,C,hC⟩:=Kd.iV (Kd.gD x.out a.out)
   obtain⟨ad,D,cc,rfl,E,v,w⟩:=fX hC k (by omega) (by omega);rw[aQ] at E;have g:=zA (z.out wr D cc (a6 l k) (y.out.trans (jl a.out _)) (vn u) v w);have F:=zA (rfl:a6 l k=a6 l k);have G:(0:Int)<=(k:Int):=by omega
   have H:(k:Int)<(l.length:Int):=by omega
   have I:l.length<=9223372036854775807:=Kd.l9 hC;clear hC w v C;cases hb:del (a6 l k) with
   |true=>
    rw[hb] at g;have m:=zA hb;clear hb;go_wp2_with (go_at_call 116;refine g.out.mono ?_;rintro e w1 ⟨rfl,b⟩;have n:=zA b;clear b)
    go_ret;exact⟨k,rfl,.inr ⟨k,rfl,u,m.out,h.out⟩,a.out.trans (n.out.mono a.out.size)⟩
   |false=>
    rw[hb] at g;have m:=zA hb;clear hb;go_wp2_with (go_at_call 116;refine g.out.mono ?_;rintro e w1 ⟨rfl,b⟩;have n:=zA b;clear b)
    go_roundw
    case rel=>exact⟨k+1,by omega,by go_num,⟨fun j B=>by
     by_cases e:j=k
     ·subst e;exact m.out
     ·exact h.out j (by omega)⟩,⟨a.out.trans (n.out.mono a.out.size)⟩⟩
    case measure=>exact(show l.length- ((k:Int)+1).toNat<l.length- ((k:Int)).toNat by omega)
  ·obtain rfl:k=l.length:=by omega
   go_wp2;go_ret;exact⟨-1,rfl,.inl ⟨rfl,h.out⟩,a.out⟩
theorem De {ys:List (List Int)} {i m:Nat} (h:i≠m) (x:List Int):a6 (ys.set i x) m=a6 ys m:=by
 simp[a6,bh,List.getElem?_set,h]
theorem Df (i:Nat):((i:Int)== -1)=false:=by
 rw[beq_eq_false_iff_ne];omega
theorem vp {l:List (List Int)} {j:Nat} (h:j<l.length):l.take (j+1)=l.take j++[a6 l j]:=by
 rw[List.take_succ_eq_append_getElem h];simp[a6,bh,bX h]
theorem Dg {ys:List (List Int)} {i:Nat} (h:i<ys.length) (x:List Int):(ys.set i x).take (i+1)=ys.take i++[x]:=by
 rw[List.take_succ_eq_append_getElem (by simpa using h)];simp[List.take_set_of_le]
theorem Dh {l:List (List Int)} {del:List Int->Bool} {j:Nat} (h:j<l.length):(l.take (j+1)).filter (fun x=> !del x)=(l.take j).filter (fun x=> !del x)++(if del (a6 l j) then[] else[a6 l j]):=by
 rw[vp h,List.filter_append];cases hd:del (a6 l j)<;>simp[hd]
theorem Di (w:World):(zeroValue 26).run Tryz.prog w= .ok (.slice none 0 0) w:=by kernel_rfl
theorem Dj {l:List (List Int)} {del:List Int->Bool} {i:Nat} (h1:del (a6 l i)=true) (b:∀j:Nat,j<i->del (a6 l j)=false) (h:i<l.length):l.take i=(l.take (i+1)).filter fun x=> !del x:=by
 rw[vp h,List.filter_append];rw[show[a6 l i].filter (fun x=> !del x)=[] by simp[h1],List.append_nil];symm
 rw[List.filter_eq_self];intro x g;obtain⟨j,k,rfl⟩:=List.mem_take_iff_getElem.1 g;have a:=b j (by omega);have e:a6 l j=l[j]'(by omega):=by simp[a6,bh,bX (by omega:j<l.length)]
 rw[e] at a;simp[a]
theorem oP {W:World} {base g0 n cap:Nat} {ok:Nat->Prop} {ys:List (List Int)} {x:List Int} {v:Value} {i:Nat} (h:Kd.N (Kd.slice 3 (Kd.int .i64)) 26 W base ok (.slice (some ⟨g0,0,none⟩) n cap) ys) (l:Kd.FK (Kd.slice 3 (Kd.int .i64)) W (fun k=>ok k/\k≠g0) x [v]) (hi:i<n):
  (∃u,W.cell? ⟨g0,i,none⟩=some u)/\W.frozen? ⟨g0,i,none⟩=false/\Kd.N (Kd.slice 3 (Kd.int .i64)) 26 (W.setCell ⟨g0,i,none⟩ v) base ok (.slice (some ⟨g0,0,none⟩) n cap) (ys.set i x)/\W.grownBy (W.setCell ⟨g0,i,none⟩ v) (some g0):=by
 obtain⟨c,b, -,a,m⟩:=Kd.pG h [] (i:Int) (by omega) (by omega);obtain⟨u,rfl⟩:∃u,c=[u]:=List.length_eq_one_iff.1 b;have e:=Kd.yX h (i:Int) (by omega) (by omega) (c:=[u]) (seg:=[v]) (j:=0) (x':=x) (okp:=fun k=>ok k/\k≠g0) b a (by simp[Kd.slice]) (by simpa using l) (fun k hk=>hk);rw[aQ] at a e;have o:=a 0 u rfl;have g:=m 0;rw[aQ] at g;refine⟨⟨u,by simpa [Kd.slice] using o⟩,by simpa [Kd.slice] using g,?_⟩;simpa [Kd.slice,World.setCells] using e
theorem Dk {base g0 n cap:Nat} {ok:Nat->Prop}:∀(m i:Nat) (W:World) (ys:List (List Int)),i+m=n->ys.length=n->Kd.N (Kd.slice 3 (Kd.int .i64)) 26 W base ok (.slice (some ⟨g0,0,none⟩) n cap) ys->
  ∃zs:List (List Int),zs.length=n/\zs.take i=ys.take i/\Kd.N (Kd.slice 3 (Kd.int .i64)) 26 (W.setCells g0 i (List.replicate m (.slice none 0 0))) base ok (.slice (some ⟨g0,0,none⟩) n cap) zs/\W.grownBy (W.setCells g0 i (List.replicate m (.slice none 0 0))) (some g0):=by
 intro m;induction m with
 |zero=>intro i W ys _ a h;exact⟨ys,a,rfl,h,⟨rfl,rfl,rfl,aI _,fun _ _ _=>rfl⟩⟩
 |succ m e=>
  intro i W ys hi a h;obtain⟨-, -,h1,g⟩:=oP (x:=[]) (v:=.slice none 0 0) (i:=i) h (fun W' _=>⟨none,0,rfl,aI _,Kd.nm _ _⟩) (by omega);obtain⟨zs,z1,z2,z3,z4⟩:=e (i+1) _ (ys.set i []) (by omega) (by rw[List.length_set];exact a) h1;refine⟨zs,z1,?_,by rw[List.replicate_succ,World.setCells];exact z3,by rw[List.replicate_succ,World.setCells];exact g.trans z4⟩;have b:=congrArg (List.take i) z2;rw[List.take_take,List.take_take,show min i (i+1)=i by omega] at b;rw[b,List.take_set_of_le (aI i)]
theorem Dl (qx gx base g0 cap:Nat) (ok:Nat->Prop) (l:List (List Int)) (del:List Int->Bool) (y W:World) (g:Kd.N (Kd.slice 3 (Kd.int .i64)) 26 W base ok (.slice (some ⟨g0,0,none⟩) l.length cap) l) (z:y.grownBy W (some g0)) (B:oO qx gx (some g0) y l del) (hex:∃j:Nat,j<l.length/\del (a6 l j)=true):
  Calls Tryz.prog 115 #[.slice (some ⟨g0,0,none⟩) l.length cap,.func (.func 116) #[] #[.pointer (some ⟨qx,0,none⟩),.pointer (some ⟨gx,0,none⟩)]] W fun e w'=>∃m:Nat,e= .returned (.slice (some ⟨g0,0,none⟩) m cap)/\m=(l.filter fun x=> !del x).length/\Kd.N (Kd.slice 3 (Kd.int .i64)) 26 w' base ok (.slice (some ⟨g0,0,none⟩) m cap) (l.filter fun x=> !del x)/\W.grownBy w' (some g0):=by
 have HN:=zA g;have an:=zA z;have HD:=zA B;have ar:=zA hex;have J:Aside0 (Calls Tryz.prog 175 #[.slice (some ⟨g0,0,none⟩) l.length cap,.func (.func 116) #[] #[.pointer (some ⟨qx,0,none⟩),.pointer (some ⟨gx,0,none⟩)]] W fun e w'=>∃i:Nat,e= .returned (.int .i64 i)/\i<l.length/\del (a6 l i)=true/\(∀j:Nat,j<i->del (a6 l j)=false)/\Below W.heap.size W w'):=⟨(vo qx gx base (some g0) (some ⟨g0,0,none⟩) cap ok l del y W g z B).mono (by
  rintro e w' ⟨r,rfl,h|⟨i,rfl,h1,h2,h3⟩,hb⟩
  ·obtain⟨j,k,K⟩:=hex
   rw[h.2 j k] at K;cases K
  ·exact⟨i,rfl,h1,h2,h3,hb⟩)⟩
 obtain⟨-,a1,L⟩:=Kd.iV g;have a2:l.length<=9223372036854775807:=Kd.l9 L;clear g z B hex L;go_enter Tryz.func115,Tryz.ntmps115
 go_wp2_with (go_at_call 175;refine J.out.mono ?_;rintro e w1 ⟨i0,rfl,M,O,Q,hb⟩;have R:=zA O;have S:=zA Q;have C:=zA hb;have aF:=Df i0;clear O Q hb)
 have T:=zA (Dj R.out S.out M);have U:=zA (jl C.out (some g0));have V:=zA (Kd.gD HN.out C.out);clear J R S C ar aF;go_loopw [5,6] (fun ii D wr=>∃(i j:Nat) (ys:List (List Int)),i<j/\j<=l.length/\ii= .int .i64 i/\D= .int .i64 j/\Aside0 (ys.length=l.length)/\Aside0 (ys.take i=(l.take j).filter fun x=> !del x)/\Aside0 (∀m:Nat,j<=m->a6 ys m=a6 l m)/\Aside0 (Kd.N (Kd.slice 3 (Kd.int .i64)) 26 wr base ok (.slice (some ⟨g0,0,none⟩) l.length cap) ys)/\Aside0 (W.grownBy wr (some g0))) (fun _ D _=>l.length- (intOf D).toNat)
 case atStart=>exact⟨i0,i0+1,l,by omega,by omega,rfl,by go_num,⟨rfl⟩,T,⟨fun _ _=>rfl⟩,V,U⟩
 case round=>
  clear T U V;obtain⟨i,j,ys,a3,k,rfl,rfl,n,E,F,b,o⟩:=hrel;by_cases X:j<l.length
  ·obtain⟨c,G,p,H, -⟩:=Kd.pG b.out [] (j:Int) (by omega) (by omega)
   rw[show ys.getD (j:Int).toNat []=a6 l j from F.out j (aI _)] at p;rw[aQ] at H;obtain⟨Y,Z,rfl,hle,hF⟩:=Kd.kC p;have a4:wr.cell? ⟨g0,j,none⟩=some (.slice Y (a6 l j).length Z):=by have h:=H 0 _ rfl;simpa [Kd.slice] using h
   have q:=zA (HD.out wr Y Z (a6 l j) (an.out.trans o.out) (vn X) hle (Kd.jX hF));have aL:=zA p;have a5:(0:Int)<=(j:Int):=by omega
   have a9:(j:Int)<(l.length:Int):=by omega
   have be:(0:Int)<=(i:Int):=by omega
   have aO:(i:Int)<(l.length:Int):=by omega
   have s:=zA (show (l.take (j+1)).filter (fun x=> !del x)=(l.take j).filter (fun x=> !del x)++(if del (a6 l j) then[] else[a6 l j]) from Dh X);have bf:=zA (show ∃x,x=a6 l j from⟨_,rfl⟩);clear G p H hle hF;cases hb:del (a6 l j) with
   |true=>
    rw[hb] at q s;clear hb;go_wp2_with (go_at_call 116;refine q.out.mono ?_;rintro e w2 ⟨rfl,a⟩;have w:=zA a;clear a)
    go_roundw
    case rel=>exact⟨i,j+1,ys,by omega,by omega,rfl,by go_num,n,⟨by rw[s.out,E.out];simp⟩,⟨fun m hm=>F.out m (by omega)⟩,⟨Kd.gD b.out w.out⟩,⟨o.out.trans (jl w.out _)⟩⟩
    case measure=>exact(show l.length- ((j:Int)+1).toNat<l.length- ((j:Int)).toNat by omega)
   |false=>
    rw[hb] at q s;clear hb;go_wp2_with (go_at_call 116;refine q.out.mono ?_;rintro e w2 ⟨rfl,a⟩;obtain⟨q1,q2,I⟩:=oP (Kd.gD b.out a) (Kd.yK aL.out a) (show i<l.length by omega);have w:=zA a;have aP:=zA I.1;have aR:=zA I.2;obtain⟨q0,q1⟩:=q1;clear I a)
    go_roundw
    case rel=>exact⟨i+1,j+1,ys.set i (a6 l j),by omega,by omega,by go_num,by go_num,⟨by rw[List.length_set];exact n.out⟩,⟨by rw[Dg (by rw[n.out];omega),s.out,E.out];simp⟩,⟨fun m hm=>by rw[De (by omega)];exact F.out m (by omega)⟩,aP,⟨(o.out.trans (jl w.out _)).trans aR.out⟩⟩
    case measure=>exact(show l.length- ((j:Int)+1).toNat<l.length- ((j:Int)).toNat by omega)
  ·obtain rfl:j=l.length:=by omega
   have G:=Lib.run_clear_slice (P:=Tryz.prog) wr 33 26 0 (.slice none 0 0) Tryz.underlying33 Di rfl rfl g0 i (l.length-i) (cap-i) (by omega) (fun j k=>by
    obtain⟨⟨u,hu⟩, -⟩:=oP (x:=[]) (v:=.slice none 0 0) (i:=i+j) b.out (fun W' _=>⟨none,0,rfl,aI _,Kd.nm _ _⟩) (by omega);rw[hu];rfl) (fun j k=>(oP (x:=[]) (v:=.slice none 0 0) (i:=i+j) b.out (fun W' _=>⟨none,0,rfl,aI _,Kd.nm _ _⟩) (by omega)).2.1)
   obtain⟨zs,z1,z2,z3,z4⟩:=Dk (l.length-i) i wr ys (by omega) n.out b.out;have ab:=zA z1;have aS:=zA z2;have ad:=zA z3;have ag:=zA z4;have M:(0:Int)<=(i:Int):=by omega
   have aO:(i:Int)<=(l.length:Int):=by omega
   have bi:(i:Int)<=(cap:Int):=by omega
   have bk:¬cap=i:=by omega
   clear z1 z2 z3 z4;generalize wr.setCells g0 i (List.replicate (l.length-i) (.slice none 0 0))=w9 at G ad ag;go_wp2;go_ret;have ak:(l.filter fun x=> !del x)=zs.take i:=by
    have h:=E.out;rw[List.take_length] at h;rw[<-h,aS.out]
   have a0:i=(l.filter fun x=> !del x).length:=by rw[ak,List.length_take,ab.out];omega
   refine⟨i,rfl,a0,?_,o.out.trans ag.out⟩;rw[ak];exact Kd.yW ad.out (by rw[ab.out];omega)
theorem filter_none {l:List (List Int)} {del:List Int->Bool} (h:∀j:Nat,j<l.length->del (a6 l j)=false):(l.filter fun x=> !del x)=l:=by
 rw[List.filter_eq_self];intro x g;obtain⟨j,a,rfl⟩:=List.mem_iff_getElem.1 g;have b:=h j a;have e:a6 l j=l[j]:=by simp[a6,bh,bX a]
 rw[e] at b;simp[b]
theorem Dm (qx gx base:Nat) (row:Option Nat) (A:Option Addr) (cap:Nat) (ok:Nat->Prop) (l:List (List Int)) (del:List Int->Bool) (a W:World) (b:Kd.N (Kd.slice 3 (Kd.int .i64)) 26 W base ok (.slice A l.length cap) l) (g:a.grownBy W row) (k:oO qx gx row a l del) (hex:∀j:Nat,j<l.length->del (a6 l j)=false):
  Calls Tryz.prog 115 #[.slice A l.length cap,.func (.func 116) #[] #[.pointer (some ⟨qx,0,none⟩),.pointer (some ⟨gx,0,none⟩)]] W fun e w'=>e= .returned (.slice A l.length cap)/\Below W.heap.size W w':=by
 have n:Aside0 (Calls Tryz.prog 175 #[.slice A l.length cap,.func (.func 116) #[] #[.pointer (some ⟨qx,0,none⟩),.pointer (some ⟨gx,0,none⟩)]] W fun e w'=>e= .returned (.int .i64 (-1))/\Below W.heap.size W w'):=⟨(vo qx gx base row A cap ok l del a W b g k).mono (by
  rintro e w' ⟨r,rfl,⟨rfl,h⟩|⟨i,rfl,h1,m,p⟩,hb⟩
  ·exact⟨rfl,hb⟩
  ·rw[hex i h1] at m;cases m)⟩
 clear b g k hex;go_enter Tryz.func115,Tryz.ntmps115
 go_wp2_with (go_at_call 175;refine n.out.mono ?_;rintro e w1 ⟨rfl,hb⟩;have o:=zA hb;clear hb)
 go_ret;exact⟨rfl,o.out⟩
def da.l0:Nat->Int->List Int->Int->Int->List (S83)->Option (List Int)
 |0,_,_,_,_,_=>none
 |k+1,x1,x2,x3,a,b=>(e9.f k a b x1 x2).bind fun e=>(if e=true then(if 0<=x3 then(if x3<(x2.length:Int) then(da.l0 k x1 (x2.set (x3:Int).toNat (wrap64 ((rd x2 x3)+1))) x3 a b) else(none)) else(none)) else(if 0<=x3 then(if x3<(x2.length:Int) then(some (x2.set (x3:Int).toNat (wrap64 ((rd x2 x3)-1)))) else(none)) else(none)))
def da.f (k:Nat) (b:Int) (e:List (S83)) (g:Int) (l2:List Int) (a3:Int):Option (List Int):=(fL.f l2).bind fun a=>(if 0<=a3 then(if a3<(a.length:Int) then(da.l0 k g (a.set (a3:Int).toNat (wrap64 ((rd a a3)+1))) a3 b e) else(none)) else(none))
theorem da.cm:∀k,(∀a b e g i,aj (da.l0 k a b e g i) (da.l0 (k+1) a b e g i))
 |0=>fun _ _ _ _ _ r h=>by simp[da.l0] at h
 |k+1=>by
  have j:=da.cm k
  ·intro a b e g i
   unfold da.l0;with_reducible repeat' first|exact j _ _ _ _ _|exact e9.mono _ _ _ _ _|exact aj.refl _|exact aj.none _|refine aj.ite ?_ ?_|refine aj.bind ?_ (fun _=>?_)
theorem da.mono:∀a0 a a2 a3 a4 k,aj (da.f k a0 a a2 a3 a4) (da.f (k+1) a0 a a2 a3 a4):=by
 intro a0 a a2 a3 a4 k;have b:=da.cm k;unfold da.f;with_reducible repeat' first|exact b _ _ _ _ _|exact e9.mono _ _ _ _ _|exact aj.refl _|exact aj.none _|refine aj.ite ?_ ?_|refine aj.bind ?_ (fun _=>?_)
theorem da.calls (k:Nat) (m:Int) (u:Option Addr) (x:Nat) (j:List (S83)) (o:Int) (U:Option Addr) (c2:Nat) (l2:List Int) (a3:Int) (r:List Int) (w:World) (a2:Kd.C aT w u j.length j) (a4:j.length<=x) (a5:Kd.C (Kd.int .i64) w U l2.length l2) (a9:l2.length<=c2) (h:da.f k m j o l2 a3=some r):
  Calls Tryz.prog 117 #[.agg #[.int .i64 m,.slice u j.length x],.int .i64 o,.slice U l2.length c2,.int .i64 a3] w fun e w'=>∃be:Value,e= .returned (be)/\Kd.R (Kd.int .i64) 3 w' w.heap.size (fun _=>True) be r/\Below w.heap.size w w':=by
 have c0:=Tryz.underlying24;have bf:=zA a2;have bg:=zA a4;clear a2 a4;have b6:=zA a5;have b_:=zA a9;clear a5 a9;have i:=zA (ao w.heap.size w);unfold da.f at h;have H:=h;clear h;obtain⟨n,A5,H⟩:=zo H;by_cases D:0<=a3
 ·rw[if_pos D] at H
  have ca:=az D;clear D;by_cases E:a3<(n.length:Int)
  ·rw[if_pos E] at H
   have cb:=az E;clear E;obtain⟨V,W⟩:∃B:List Int,B=(n.set (a3:Int).toNat (wrap64 ((rd n a3)+1))):=⟨_,rfl⟩;replace H:(da.l0 k o V a3 m j)=some r:=zh W H;have cc:=zA W;clear W;have F:=zA H;clear H;go_enter Tryz.func117,Tryz.ntmps117
   go_wp2_with (first|((with_reducible refine aJ (N:=4) rfl ?_);refine zX 4 #[.int .i64 m,.slice u j.length x] 24 ?_;intro cd hg w9 bi hb;have g:=zA (bi);have c3:=zG i hg;have c4:=zG i hg;replace i:=zS i hb;clear hb bi hg)|((with_reducible refine aC (f:=57) rfl ?_);refine zL (some 10) Tryz.func57 #[.slice U l2.length c2] ?_;(with_reducible refine(fL.calls _ _ l2 n _ ?af ?ah A5.out).mono ?_);(case af=>exact Kd.au b6.out zB);(case ah=>exact b_.out);rintro e bk ⟨c5,rfl,bn,hb⟩;refine⟨_,rfl,?_⟩;have q:=zA (Kd.ba bn (bp zB));replace g:=zb g hb;replace i:=zS i hb;(try clear hb);(try clear bn);obtain⟨c8,y,ce⟩:=Kd.bb q.out;subst ce;have G:0<=(a3:Int):=aw ‹_›;have I:a3<(n.length:Int):=aw ‹_›;obtain⟨c9,cf,bo⟩:=Kd.bL (Kd.aD q.out).2.2 a3 G I;cases cf;replace G:=eq_true G;replace I:=eq_true I;have J:0<=(a3:Int):=aw ‹_›;have K:(a3:Int)<((n.length:Int):Int):=aw ‹_›;obtain⟨l,c',bv,bw,ch,dd,bx⟩:=Kd.eV q.out (by omega);(first|cases bv|(injection bv with L ci cj;(first|subst L|(injection L with L;subst L));subst cj;clear ci));have X:=zA bw;have dk:=zA bx;clear bw ch bx;(first|simp only[add_plain] at bo|skip);obtain⟨ck,dl⟩:=Kd.bP 0 q.out (a3:Int) J K;replace J:=eq_true J;replace K:=eq_true K;obtain⟨ds,dv⟩:=Kd.bP 0 q.out (a3:Int) (aw ‹_›) (aw ‹_›);have Y:=Kd.de q.out (a3:Int) (wrap64 ((rd n a3)+1)))|((with_reducible refine jq (t:=3) (p:=16) rfl ?_);refine jo (t:=3) (p:=16) (v:=?Gd) (w1:=(bk.setCell ⟨l,(a3:Int).toNat,none⟩ (.int .i64 (wrap64 ((rd n a3)+1))))) ?hg ?ho ?hn ?hr ?_;(case ho=>rfl);(case hg=>rfl);(case hn=>rfl);(case hr=>first|(go_simp;done)|(go_simp;rfl));intro Z hw;have hg:bk.grownBy Z (some l):=(by rw[hw];exact Y.2);have s:Kd.R (Kd.int .i64) 3 Z w.heap.size (fun _=>True) (.slice (some ⟨l,0,none⟩) n.length y) V:=(by rw[hw,cc.out];exact Y.1);clear Y;replace g:=zA (cR (zK g) hg (Kd.db q.out g.out (by decide)));replace q:=zA (s);replace i:=zA ((by rw[hw];exact dx (i.out) X.out:Below w.heap.size w Z));clear hg hw s))
   go_loopg [] k (fun kq w'=>∃(b:List Int),Aside0 (da.l0 kq o b a3 m j=some r)/\Aside0 (kq<=k)/\Aside0 (Kd.R (Kd.int .i64) 3 w' w.heap.size (fun _=>True) (.slice (some ⟨l,0,none⟩) n.length y) b)/\Aside0 (w'.heap[cd]? =some (.cells #[.int .i64 m,(.slice u j.length x)] 24 (0,0)))/\Aside0 (Below w.heap.size w w'))
   case atStart=>exact⟨(V),F,⟨aI _⟩,⟨zR q⟩,⟨zK g⟩,⟨zB⟩⟩
   case round=>
    clear F;clear ca cb J K bo ck G I;obtain⟨b,HA,b1,a,g,i⟩:=hrel;have z:=(Kd.aD a.out).1;rw[z] at a
    (try simp only[z])
    (try simp only[z] at g)
    cases gk with
    |zero=>exact absurd HA.out (by simp[da.l0])
    |succ M=>
     have H:=HA.out;clear HA;simp only[da.l0] at H;obtain⟨cl,b2,H⟩:=zo H;by_cases O:cl=true
     ·subst O
      replace H:=zi H;by_cases P:0<=a3
      ·rw[if_pos P] at H
       have d0:=az P;clear P;by_cases Q:a3<(b.length:Int)
       ·rw[if_pos Q] at H
        have d1:=az Q;clear Q;obtain⟨ab,ad⟩:∃B:List Int,B=(b.set (a3:Int).toNat (wrap64 ((rd b a3)+1))):=⟨_,rfl⟩;replace H:(da.l0 M o ab a3 m j)=some r:=zh ad H;have co:=zA ad;clear ad;have F:=zA H;clear H;obtain⟨d2,d3,d4,d5⟩:=ax g;go_wp2_with (first|((with_reducible refine aC (f:=176) rfl ?_);refine zL (some 20) Tryz.func176 #[.agg #[.int .i64 m,.slice u j.length x],.int .i64 o,.slice (some ⟨l,0,none⟩) b.length y] ?_;(with_reducible refine(e9.calls M m _ _ j o _ _ b true _ ?af ?ah ?aX ?aW b2.out).mono ?_);(case af=>exact Kd.au bf.out zB);(case ah=>exact bg.out);(case aX=>exact zC (Kd.aD a.out).2.2);(case aW=>exact(Kd.aD a.out).2.1);rintro e b3 ⟨rfl,hb⟩;refine⟨_,rfl,?_⟩;replace a:=br a hb;replace g:=zb g hb;replace i:=zS i hb;(try clear hb);have ag:0<=(a3:Int):=aw ‹_›;have ak:a3<(b.length:Int):=aw ‹_›;obtain⟨cq,cr,am⟩:=Kd.bL (Kd.aD a.out).2.2 a3 ag ak;obtain rfl:(⟨l,0,none⟩:Addr)=cq:=(by injection cr);(first|simp only[add_plain] at am|simp only[gT] at am|simp only[Addr.add,Nat.zero_add] at am|skip);replace ag:=eq_true ag;replace ak:=eq_true ak;have an:0<=(a3:Int):=aw ‹_›;have ap:(a3:Int)<((b.length:Int):Int):=aw ‹_›;obtain⟨d6,d7⟩:=Kd.bP 0 a.out (a3:Int) an ap;replace an:=eq_true an;replace ap:=eq_true ap;obtain⟨d8,d9⟩:=Kd.bP 0 a.out (a3:Int) (aw ‹_›) (aw ‹_›);have ar:=Kd.de a.out (a3:Int) (wrap64 ((rd b a3)+1)))|((with_reducible refine jq (t:=3) (p:=26) rfl ?_);refine jo (t:=3) (p:=26) (v:=?Jr) (w1:=(b3.setCell ⟨l,(a3:Int).toNat,none⟩ (.int .i64 (wrap64 ((rd b a3)+1))))) ?hg ?ho ?hn ?hr ?_;(case ho=>rfl);(case hg=>rfl);(case hn=>rfl);(case hr=>first|(go_simp;done)|(go_simp;rfl));intro av hw;have hg:b3.grownBy av (some l):=(by rw[hw];exact ar.2);have s:Kd.R (Kd.int .i64) 3 av w.heap.size (fun _=>True) (.slice (some ⟨l,0,none⟩) b.length y) ab:=(by rw[hw,co.out];exact ar.1);clear ar;replace g:=zA (cR (zK g) hg (Kd.db a.out g.out (by decide)));replace a:=zA (s);replace i:=zA ((by rw[hw];exact dx (i.out) X.out:Below w.heap.size w av));clear hg hw s))
        (try simp only[<-z])
        go_roundg M
        case measure=>have:=b1.out;omega
        case rel=>exact⟨(ab),F,⟨by have:=b1.out;omega⟩,⟨by(try simp only[z]);(with_reducible repeat(first|apply Kd.aK|apply Kd.bq|apply Kd.bd));exact a.out⟩,⟨by(try simp only[z]);exact zK g⟩,⟨zB⟩⟩
       ·rw[if_neg Q] at H
        exact absurd H (by simp)
      ·rw[if_neg P] at H
       exact absurd H (by simp)
     ·replace O:=Bool.eq_false_iff.mpr O
      subst O;replace H:=zj H;by_cases S:0<=a3
      ·rw[if_pos S] at H
       have ea:=az S;clear S;by_cases T:a3<(b.length:Int)
       ·rw[if_pos T] at H
        have eb:=az T;clear T;obtain⟨b4,aB⟩:∃B:List Int,B=(b.set (a3:Int).toNat (wrap64 ((rd b a3)-1))):=⟨_,rfl⟩;replace H:(some b4)=some r:=zh aB H;have cs:=zA aB;clear aB;obtain rfl:=aH H;obtain⟨ed,eg,ek,el⟩:=ax g;go_wp2_with (first|((with_reducible refine aC (f:=176) rfl ?_);refine zL (some 20) Tryz.func176 #[.agg #[.int .i64 m,.slice u j.length x],.int .i64 o,.slice (some ⟨l,0,none⟩) b.length y] ?_;(with_reducible refine(e9.calls M m _ _ j o _ _ b false _ ?af ?ah ?aX ?aW b2.out).mono ?_);(case af=>exact Kd.au bf.out zB);(case ah=>exact bg.out);(case aX=>exact zC (Kd.aD a.out).2.2);(case aW=>exact(Kd.aD a.out).2.1);rintro e b5 ⟨rfl,hb⟩;refine⟨_,rfl,?_⟩;replace a:=br a hb;replace g:=zb g hb;replace i:=zS i hb;(try clear hb);have aF:0<=(a3:Int):=aw ‹_›;have aL:a3<(b.length:Int):=aw ‹_›;obtain⟨cv,cx,aO⟩:=Kd.bL (Kd.aD a.out).2.2 a3 aF aL;obtain rfl:(⟨l,0,none⟩:Addr)=cv:=(by injection cx);(first|simp only[add_plain] at aO|simp only[gT] at aO|simp only[Addr.add,Nat.zero_add] at aO|skip);replace aF:=eq_true aF;replace aL:=eq_true aL;have aP:0<=(a3:Int):=aw ‹_›;have aR:(a3:Int)<((b.length:Int):Int):=aw ‹_›;obtain⟨em,er⟩:=Kd.bP 0 a.out (a3:Int) aP aR;replace aP:=eq_true aP;replace aR:=eq_true aR;obtain⟨es,ev⟩:=Kd.bP 0 a.out (a3:Int) (aw ‹_›) (aw ‹_›);have aS:=Kd.de a.out (a3:Int) (wrap64 ((rd b a3)-1)))|((with_reducible refine jq (t:=3) (p:=32) rfl ?_);refine jo (t:=3) (p:=32) (v:=?Js) (w1:=(b5.setCell ⟨l,(a3:Int).toNat,none⟩ (.int .i64 (wrap64 ((rd b a3)-1))))) ?hg ?ho ?hn ?hr ?_;(case ho=>rfl);(case hg=>rfl);(case hn=>rfl);(case hr=>first|(go_simp;done)|(go_simp;rfl));intro a0 hw;have hg:b5.grownBy a0 (some l):=(by rw[hw];exact aS.2);have s:Kd.R (Kd.int .i64) 3 a0 w.heap.size (fun _=>True) (.slice (some ⟨l,0,none⟩) b.length y) b4:=(by rw[hw,cs.out];exact aS.1);clear aS;replace g:=zA (cR (zK g) hg (Kd.db a.out g.out (by decide)));replace a:=zA (s);replace i:=zA ((by rw[hw];exact dx (i.out) X.out:Below w.heap.size w a0));clear hg hw s))
        go_ret;exact⟨_,zE,by(with_reducible repeat(first|apply Kd.aK|apply Kd.bq|apply Kd.bd));exact a.out,zB⟩
       ·rw[if_neg T] at H
        exact absurd H (by simp)
      ·rw[if_neg S] at H
       exact absurd H (by simp)
  ·rw[if_neg E] at H
   exact absurd H (by simp)
 ·rw[if_neg D] at H
  exact absurd H (by simp)
def fc (x:List Int) (q:Int) (r:Nat->List Int) (k:Nat):Bool:=(List.range k).any fun v=>decide ((v:Int)≠q)&&decide (rd x v<rd (r v) v)
theorem oQ (x:List Int) (q:Int) (r:Nat->List Int) (k:Nat):fc x q r (k+1)=(fc x q r k||(decide ((k:Int)≠q)&&decide (rd x k<rd (r k) k))):=by simp[fc,List.range_succ,List.any_append]
theorem Dn {x:List Int} {q:Int} {r:Nat->List Int} {k n:Nat} (hk:k<n) (a:(k:Int)≠q) (h:rd x k<rd (r k) k):fc x q r n=true:=by
 unfold fc;rw[List.any_eq_true];exact⟨k,List.mem_range.2 hk,by simp[a,h]⟩
theorem Dp (K:Nat) (N:Int) (A0:Option Addr) (c0:Nat) (E:List S83) (q:Int) (qx gx:Nat) (A:Option Addr) (c:Nat) (x:List Int) (r:Nat->List Int) (W:World) (w:Kd.C aT W A0 E.length E) (J:E.length<=c0) (y:W.heap[gx]? =some (.cells #[.int .i64 N,.slice A0 E.length c0] 24 (0,0))) (z:W.heap[qx]? =some (.cells #[.int .i64 q] 3 (0,0)))
  (l:Kd.C (Kd.int .i64) W A x.length x) (L:x.length<=c) (B:∀v:Nat,v<x.length->(v:Int)≠q->da.f K N E q x v=some (r v)/\v<(r v).length):
  Calls Tryz.prog 116 #[.slice A x.length c,.pointer (some ⟨qx,0,none⟩),.pointer (some ⟨gx,0,none⟩)] W fun e w'=>e= .returned (.bool (fc x q r x.length))/\Below W.heap.size W w':=by
 have M:=zA w;have D:=zA y;have O:=zA z;have P:=zA l;have Q:=zA B;have Z:x.length<=9223372036854775807:=Kd.l9 l;clear w y z l B;go_enter Tryz.func116,Tryz.ntmps116
 go_wp2;go_loopw [10] (fun i wr=>∃k:Nat,k<=x.length/\i= .int .i64 k/\Aside0 (fc x q r k=false)/\Aside0 (Below W.heap.size W wr)) (fun i _=>x.length- (intOf i).toNat)
 case atStart=>exact⟨0,by omega,rfl,⟨rfl⟩,⟨ao _ _⟩⟩
 case round=>
  obtain⟨k,hk,rfl,m,a⟩:=hrel;have aa:wr.cell? ⟨qx,0,none⟩=some (.int .i64 q):=(al (aM O.out a.out) 0).trans rfl;have ab:wr.cell? ⟨gx,0,none⟩=some (.int .i64 N):=(al (aM D.out a.out) 0).trans rfl;have ag:wr.cell? ⟨gx,1,none⟩=some (.slice A0 E.length c0):=(al (aM D.out a.out) 1).trans rfl;have hu:=Tryz.underlying24;by_cases F:k<x.length
  ·have hC:=Kd.au P.out a.out
   have R:=zA hC;obtain⟨ad,rfl,S⟩:=Kd.bL hC k (by omega) (by omega);rw[aQ] at S;have ak:(0:Int)<=(k:Int):=by omega
   have am:(k:Int)<(x.length:Int):=by omega
   clear hC;by_cases b:(k:Int)=q
   ·have o:=zA (show fc x q r (k+1)=false from by rw[oQ,m.out];simp[b])
    have T:((k:Int)==q)=true:=by simpa using b
    have G:=zA b;clear b;go_wp2;go_roundw
    case rel=>exact⟨k+1,by omega,by go_num,o,a⟩
    case measure=>exact(show x.length- ((k:Int)+1).toNat<x.length- ((k:Int)).toNat by omega)
   ·have T:((k:Int)==q)=false:=by simpa using b
    obtain⟨H,an⟩:=Q.out k F b;have I:=zA (da.calls K N A0 c0 E q (some ad) c x k (r k) wr (Kd.au M.out a.out) J R.out L H);have G:=zA b;clear b H;by_cases p:rd x k<rd (r k) k
    ·have U:=zA (Dn (n:=x.length) F G.out p)
     have V:(k:Int)<((r k).length:Int):=by omega
     go_wp2_with (go_at_call 117;refine I.out.mono ?_;rintro e w1 ⟨v1,rfl,g,h⟩;obtain⟨X,cr,rfl⟩:=Kd.bb g;obtain⟨-, -,j⟩:=Kd.aD g;obtain⟨Y,rfl,s⟩:=Kd.bL j k (by omega) (by omega);rw[aQ] at s;have u:=zA h;clear g h j)
     go_ret;exact⟨by rw[U.out];rfl,a.out.trans (u.out.mono a.out.size)⟩
    ·have o:=zA (show fc x q r (k+1)=false from by rw[oQ,m.out];simp[p])
     have ap:¬rd (r k) k>rd x k:=p;have V:(k:Int)<((r k).length:Int):=by omega
     go_wp2_with (go_at_call 117;refine I.out.mono ?_;rintro e w1 ⟨v1,rfl,g,h⟩;obtain⟨X,cr,rfl⟩:=Kd.bb g;obtain⟨-, -,j⟩:=Kd.aD g;obtain⟨Y,rfl,s⟩:=Kd.bL j k (by omega) (by omega);rw[aQ] at s;have u:=zA h;clear g h j)
     go_roundw
     case rel=>exact⟨k+1,by omega,by go_num,o,⟨a.out.trans (u.out.mono a.out.size)⟩⟩
     case measure=>exact(show x.length- ((k:Int)+1).toNat<x.length- ((k:Int)).toNat by omega)
  ·obtain rfl:k=x.length:=by omega
   go_wp2;go_ret;exact⟨by rw[m.out];rfl,a.out⟩
theorem Dq (k:Nat) (N:Int) (A0:Option Addr) (c0:Nat) (E:List S83) (q:Int) (l:List (List Int)) (t:Int) (w:World) (g:Kd.C aT w A0 E.length E) (h:E.length<=c0) (hf:fa.f k N E q=some (l,t)) (a:t≠0):
  Calls Tryz.prog 56 #[.agg #[.int .i64 N,.slice A0 E.length c0],.int .i64 q] w fun e w'=>e= .returned (.tuple #[.slice none 0 0,.int .i64 t])/\Below w.heap.size w w':=by
 have hu:=Tryz.underlying24;have i:=zA hf;have n:(t != 0)=true:=by simpa using a
 have b:=zA (ay (bm w (.cells #[.int .i64 N,.slice A0 E.length c0] 24)) (.cells #[.int .i64 q] 3));have o:((w.alloc (.cells #[.int .i64 N,.slice A0 E.length c0] 24)).alloc (.cells #[.int .i64 q] 3)).cell? ⟨w.heap.size,0,none⟩=some (.int .i64 N):=(al b.out 0).trans rfl;have p:((w.alloc (.cells #[.int .i64 N,.slice A0 E.length c0] 24)).alloc (.cells #[.int .i64 q] 3)).cell? ⟨w.heap.size,1,none⟩=some (.slice A0 E.length c0):=(al b.out 1).trans rfl;clear hf a;go_enter Tryz.func56,Tryz.ntmps56
 go_wp2_with (go_at_call 114;refine(fa.calls k N A0 c0 E q l t _ (Kd.bE (Kd.bE g _) _) h i.out).mono ?_;rintro e w1 ⟨v,rfl,j,hb⟩;have m:=zA (a8 (aq (aq (ao w.heap.size w) _) _) hb);clear j hb)
 go_ret2;exact⟨rfl,m.out⟩
theorem Dr (k K:Nat) (N:Int) (A0:Option Addr) (c0:Nat) (E:List S83) (q:Int) (l:List (List Int)) (r:List Int->Nat->List Int) (w:World) (F:Kd.C aT w A0 E.length E) (G:E.length<=c0) (hf:fa.f k N E q=some (l,0)) (H:∀x∈l,∀v:Nat,v<x.length->(v:Int)≠q->da.f K N E q x v=some (r x v)/\v<(r x v).length):
  Calls Tryz.prog 56 #[.agg #[.int .i64 N,.slice A0 E.length c0],.int .i64 q] w fun e w'=>∃v,e= .returned (.tuple #[v,.int .i64 0])/\Kd.N (Kd.slice 3 (Kd.int .i64)) 26 w' w.heap.size (fun R=>(w.heap.size<=R)) v (l.filter fun x=> !fc x q (r x) x.length)/\Below w.heap.size w w':=by
 have hu:=Tryz.underlying24;have S:=zA hf;have i:=zA (ay (bm w (.cells #[.int .i64 N,.slice A0 E.length c0] 24)) (.cells #[.int .i64 q] 3));have T:=zA (heap_alloc2_new w (.cells #[.int .i64 N,.slice A0 E.length c0] 24) (.cells #[.int .i64 q] 3));have ag:((w.alloc (.cells #[.int .i64 N,.slice A0 E.length c0] 24)).alloc (.cells #[.int .i64 q] 3)).cell? ⟨w.heap.size,0,none⟩=some (.int .i64 N):=(al i.out 0).trans rfl;have ak:((w.alloc (.cells #[.int .i64 N,.slice A0 E.length c0] 24)).alloc (.cells #[.int .i64 q] 3)).cell? ⟨w.heap.size,1,none⟩=some (.slice A0 E.length c0):=(al i.out 1).trans rfl;have U:=zA H;clear hf H;go_enter Tryz.func56,Tryz.ntmps56
 go_wp2_with (go_at_call 114;refine(fa.calls k N A0 c0 E q l 0 _ (Kd.bE (Kd.bE F _) _) G S.out).mono ?_;rintro e w1 ⟨v,rfl,n,hb⟩;obtain⟨I,o,rfl⟩:=Kd.mj n;have a:=zA (a8 (aq (aq (ao w.heap.size w) _) _) hb);have J:=zA (aM i.out hb);have L:=zA (aM T.out hb);have b:=zA n;clear n hb)
 have p:w.heap.size+2=((w.alloc (.cells #[.int .i64 N,.slice A0 E.length c0] 24)).alloc (.cells #[.int .i64 q] 3)).heap.size:=by simp
 rw[<-p] at b;have M:Aside0 (∀row,(∀g,row=some g->w.heap.size+2<=g)->oO (w.heap.size+1) w.heap.size row w1 l (fun x=>fc x q (r x) x.length)):=⟨fun row s W' A c x u V W X=>by
  have Y:Below w.heap.size w W':=jU a.out row a.out.size u (fun g e=>by have:=s g e;omega);refine Dp K N A0 c0 E q (w.heap.size+1) w.heap.size A c x (r x) W' (Kd.au F Y) G ((u.block _ (aE J.out) (fun e=>by have:=s _ e.symm;omega)).trans J.out) ((u.block _ (aE L.out) (fun e=>by have:=s _ e.symm;omega)).trans L.out) X W (U.out x V)⟩
 have aY:=a.out.size;by_cases hex:∃j:Nat,j<l.length/\(fun x=>fc x q (r x) x.length) (a6 l j)=true
 ·obtain⟨g0,cap,Z,am, -, -⟩:=Kd.yR b.out (by obtain⟨j,O,_⟩:=hex;omega)
  injection Z with aa an ab
  subst aa ab;refine(Dl (w.heap.size+1) w.heap.size (w.heap.size+2) g0 o (fun k=>w.heap.size+2<=k) l _ w1 w1 b.out ⟨rfl,rfl,rfl,aI _,fun _ _ _=>rfl⟩ (M.out (some g0) (fun g e=>by injection e with e;omega)) hex).mono ?_;rintro e w2 ⟨m,rfl,hm,P,Q⟩;have y:=zA (Kd.eI (Kd.mh (base':=w.heap.size) P (by omega)) (ok':=fun k=>w.heap.size<=k) (fun k hk=>by omega));have z:=zA (jU a.out (some g0) a.out.size Q (fun k e=>by injection e with e;omega));clear hm P Q hex p;go_wp2;go_ret2;exact⟨_,rfl,y.out,z.out⟩
 ·have B:∀j:Nat,j<l.length->(fun x=>fc x q (r x) x.length) (a6 l j)=false:=fun j O=>by
   cases h:(fun x=>fc x q (r x) x.length) (a6 l j) with
   |false=>rfl
   |true=>exact absurd ⟨j,O,h⟩ hex
  have ad:=zA (filter_none (l:=l) (del:=fun x=>fc x q (r x) x.length) B);refine(Dm (w.heap.size+1) w.heap.size (w.heap.size+2) none I o (fun k=>w.heap.size+2<=k) l _ w1 w1 b.out ⟨rfl,rfl,rfl,aI _,fun _ _ _=>rfl⟩ (M.out none (fun g e=>by cases e)) B).mono ?_;rintro e w2 ⟨rfl,D⟩;have y:=zA (Kd.gD (Kd.eI (Kd.mh (base':=w.heap.size) b.out (by omega)) (ok':=fun k=>w.heap.size<=k) (fun k hk=>by omega)) D);have z:=zA (a.out.trans (D.mono a.out.size));clear D hex B p;go_wp2;go_ret2;exact⟨.slice I l.length o,rfl,by rw[ad.out];exact y.out,z.out⟩
def mW (k:Nat) (N:Int) (E:List S83) (q:Int) (l:List (List Int)):Bool:=l.all fun c=>(List.range c.length).all fun v=>decide ((v:Int)=q)||match da.f k N E q c v with|some r=>decide (v<r.length)|none=>false
def jN (k:Nat) (N:Int) (E:List S83) (q:Int) (c:List Int) (v:Nat):List Int:=(da.f k N E q c v).getD []
theorem vq {k:Nat} {N:Int} {E:List S83} {q:Int} {l:List (List Int)} (h:mW k N E q l=true):∀x∈l,∀v:Nat,v<x.length->(v:Int)≠q->da.f k N E q x v=some (jN k N E q x v)/\v<(jN k N E q x v).length:=by
 intro x b v e g;have h1:=List.all_eq_true.1 (List.all_eq_true.1 h x b) v (List.mem_range.2 e);rw[aZ g,Bool.false_or] at h1;unfold jN;cases a:da.f k N E q x v with
 |none=>rw[a] at h1;cases h1
 |some r=>rw[a] at h1;exact⟨rfl,by simpa using h1⟩
def gR.f (k:Nat) (N:Int) (E:List S83) (q:Int):Option (List (List Int)×Int):=
 (fa.f k N E q).bind fun t=>if t.2=0 then(if mW k N E q t.1=true then some (t.1.filter fun x=> !fc x q (jN k N E q x) x.length,0) else none) else some ([],t.2)
theorem vr {x:List Int} {q:Int} {r a:Nat->List Int}:∀k,(∀v:Nat,v<k->(v:Int)≠q->r v=a v)->fc x q r k=fc x q a k
 |0,_=>rfl
 |k+1,h=>by
  rw[oQ,oQ,vr k (fun v e=>h v (by omega))];by_cases b:(k:Int)=q
  ·simp[b]
  ·rw[h k (by omega) b]
theorem gR.mono:∀h i j k,aj (gR.f k h i j) (gR.f (k+1) h i j):=by
 intro N E q k;unfold gR.f;refine aj.bind (fa.mono _ _ _ _) (fun t=>?_);refine aj.ite ?_ (aj.refl _);intro r g;by_cases hk:mW k N E q t.1=true
 ·rw[if_pos hk] at g
  have l:=vq hk;have m:∀x∈t.1,∀v:Nat,v<x.length->(v:Int)≠q->da.f (k+1) N E q x v=some (jN k N E q x v):=fun x e v a b=>da.mono _ _ _ _ _ _ _ (l x e v a b).1
  have n:∀x∈t.1,∀v:Nat,v<x.length->(v:Int)≠q->jN k N E q x v=jN (k+1) N E q x v:=fun x e v a b=>by
   have h1:=m x e v a b;generalize jN k N E q x v=y at h1;unfold jN;rw[h1];rfl
  have o:mW (k+1) N E q t.1=true:=by
   refine List.all_eq_true.2 fun x e=>List.all_eq_true.2 fun v a=>?_
   have a:=List.mem_range.1 a;by_cases b:(v:Int)=q
   ·simp[b]
   ·rw[m x e v a b]
    simp[(l x e v a b).2]
  rw[if_pos o,<-g];congr 2
  refine List.filter_congr fun x e=>?_
  rw[vr x.length (fun v a b=>(n x e v a b).symm)]
 ·rw[if_neg hk] at g;cases g
theorem gR.calls (k:Nat) (b:Int) (i:Option Addr) (j:Nat) (a:List (S83)) (g:Int) (o:List (List Int)) (p:Int) (w:World) (q:Kd.C aT w i a.length a) (r:a.length<=j) (h:gR.f k b a g=some (o,p)):
  Calls Tryz.prog 56 #[.agg #[.int .i64 b,.slice i a.length j],.int .i64 g] w fun e w'=>∃s:Value,e= .returned (.tuple #[s,.int .i64 p])/\Kd.N (Kd.slice 3 (Kd.int .i64)) 26 w' w.heap.size (fun v=>(w.heap.size<=v)) s o/\Below w.heap.size w w':=by
 unfold gR.f at h;obtain⟨⟨l,t⟩,u,H⟩:=Option.bind_eq_some_iff.mp h;simp only at H;by_cases m:t=0
 ·subst m
  rw[if_pos rfl] at H;by_cases n:mW k b a g l=true
  ·rw[if_pos n] at H
   simp only[Option.some.injEq,Prod.mk.injEq] at H;obtain⟨rfl,rfl⟩:=H;exact Dr k k b i j a g l _ w q r u (vq n)
  ·rw[if_neg n] at H;cases H
 ·rw[if_neg m] at H
  simp only[Option.some.injEq,Prod.mk.injEq] at H;obtain⟨rfl,rfl⟩:=H;refine(Dq k b i j a g l t w q r u m).mono ?_;rintro e w' ⟨rfl,hb⟩;exact⟨_,rfl,Kd.fx _ _ _ _ _,hb⟩
def kQ.f (a0:Int):Option (Bool):=if a0>=(-1048576) then(some (decide (a0<=1048576))) else(some false)
theorem kQ.calls (a0:Int) (r:Bool) (w:World) (h:kQ.f a0=some r):
  Calls Tryz.prog 96 #[.int .i64 a0] w fun e w'=>e= .returned (.bool r)/\aA w w':=by
 have H:(if a0>=(-1048576) then(some (decide (a0<=1048576))) else(some false))=some r:=h;clear h;by_cases c2:a0>=(-1048576)
 ·rw[if_pos c2] at H
  have a:=az c2;clear c2;obtain rfl:=aH H;go_enter Tryz.func96,Tryz.ntmps96
  go_wp2;go_ret;exact⟨zT,by repeat(first|exact aA.refl _|apply aA.step)⟩
 ·rw[if_neg c2] at H
  have a:=aZ c2;clear c2;obtain rfl:=aH H;go_enter Tryz.func96,Tryz.ntmps96
  go_wp2;go_ret;exact⟨zT,by repeat(first|exact aA.refl _|apply aA.step)⟩
mutual
def dn.j0:Nat->List Int->Int->Bool->Option (Int)
 |0,_,_,_=>none
 |k+1,a,x1,b=>if b=true then(some 2) else(if(a.length:Int)=x1 then(dn.l0 k a x1 0) else(some 8))
def dn.l0:Nat->List Int->Int->Int->Option (Int)
 |0,_,_,_=>none
 |k+1,b,x1,a=>if a<x1 then(if 0<=a then(if a<(b.length:Int) then((kQ.f (rd b a)).bind fun t103=>(if t103=true then(dn.l0 k b x1 (wrap64 (a+1))) else(some 2))) else(none)) else(none)) else(some 0)
end
def dn.f (k:Nat) (l0:List Int) (a:Int):Option (Int):=if a<1 then(dn.j0 k l0 a true) else(dn.j0 k l0 a (decide (a>12)))
theorem dn.calls (k:Nat) (A0:Option Addr) (c0:Nat) (l0:List Int) (b:Int) (r:Int) (w:World) (B:Kd.C (Kd.int .i64) w A0 l0.length l0) (D:l0.length<=c0) (h:dn.f k l0 b=some r):
  Calls Tryz.prog 42 #[.slice A0 l0.length c0,.int .i64 b] w fun e w'=>e= .returned (.int .i64 r)/\aA w w':=by
 have E:=zA B;have R:=zA D;clear B D;unfold dn.f at h;have H:=h;clear h;have y:=zA H;clear H;go_enter Tryz.func42,Tryz.ntmps42
 go_upto_region 1 with (fail)
 go_cut [11] (fun v11 wc=>∃(i:Nat) (q:Bool),v11= .bool q/\Aside0 (dn.j0 i l0 b q=some r)/\Aside0 (i<=k)/\aA w wc)
 case first=>
  have H:=y.out;clear y;by_cases c4:b<1
  ·rw[if_pos c4] at H
   have o:=az c4;clear c4
   (first|rw[o]|(simp only[bT,bW];rw[o])|skip)
   have g:=zA H;clear H;go_wp2;go_meet
   case rel=>exact⟨_,(true),zT,g,⟨by first|omega|exact aI _⟩,by repeat(first|exact aA.refl _|apply aA.step)⟩
  ·rw[if_neg c4] at H
   have o:=aZ c4;clear c4
   (first|rw[o]|(simp only[bT,bW];rw[o])|skip)
   have g:=zA H;clear H;go_wp2;go_meet
   case rel=>exact⟨_,(decide (b>12)),zT,g,⟨by first|omega|exact aI _⟩,by repeat(first|exact aA.refl _|apply aA.step)⟩
 case rest=>
  clear y;obtain⟨i,q,rfl,j,F,⟨S,rfl⟩⟩:=hcut;cases i with
  |zero=>exact absurd j.out (by simp[dn.j0])
  |succ G=>
   have H:=j.out;clear j;simp only[dn.j0] at H;by_cases s:q=true
   ·subst s
    replace H:=zi H;obtain rfl:=aH H;go_wp2;go_ret;exact⟨zT,by repeat(first|exact aA.refl _|apply aA.step)⟩
   ·replace s:=Bool.eq_false_iff.mpr s
    subst s;replace H:=zj H;by_cases p:(l0.length:Int)=b
    ·rw[if_pos p] at H
     obtain⟨I,J⟩:=bF p;clear p;have g:=zA H;clear H;go_wp2;go_loopg [5] G (fun i v5 w'=>∃(a:Int),v5= .int .i64 a/\Aside0 (dn.l0 i l0 b a=some r)/\Aside0 (i<=G)/\aA w w')
     case atStart=>exact⟨(0),zT,g,⟨aI _⟩,by repeat(first|exact aA.refl _|apply aA.step)⟩
     case round=>
      clear g;clear I J;obtain⟨a,rfl,j,K,⟨m2,rfl⟩⟩:=hrel;cases gk with
      |zero=>exact absurd j.out (by simp[dn.l0])
      |succ M=>
       have H:=j.out;clear j;simp only[dn.l0] at H;by_cases n:a<b
       ·rw[if_pos n] at H
        have N:=az n;clear n;by_cases u:0<=a
        ·rw[if_pos u] at H
         have T:=az u;clear u;by_cases v:a<(l0.length:Int)
         ·rw[if_pos v] at H
          have U:=az v;clear v;obtain⟨t103,L,H⟩:=zo H;by_cases x:t103=true
          ·subst x
           replace H:=zi H;have g:=zA H;clear H;have l:0<=(a:Int):=aw ‹_›;have m:a<(l0.length:Int):=aw ‹_›;obtain⟨O,z,P⟩:=Kd.bL E.out a l m;cases z;replace l:=eq_true l;replace m:=eq_true m;go_wp2_with (first|((with_reducible refine aC (f:=96) rfl ?_);refine zL (some 25) Tryz.func96 #[.int .i64 (rd l0 a)] ?_;(with_reducible refine(kQ.calls (rd l0 a) true _ L.out).mono ?_);rintro e w' ⟨rfl,⟨Q,rfl⟩⟩;refine⟨_,rfl,?_⟩))
           go_roundg M
           case measure=>have:=F.out;have:=K.out;omega
           case rel=>exact⟨(wrap64 (a+1)),zT,g,⟨by have:=F.out;have:=K.out;omega⟩,by repeat(first|exact aA.refl _|apply aA.step)⟩
          ·replace x:=Bool.eq_false_iff.mpr x
           subst x;replace H:=zj H;obtain rfl:=aH H;have l:0<=(a:Int):=aw ‹_›;have m:a<(l0.length:Int):=aw ‹_›;obtain⟨O,z,P⟩:=Kd.bL E.out a l m;cases z;replace l:=eq_true l;replace m:=eq_true m;go_wp2_with (first|((with_reducible refine aC (f:=96) rfl ?_);refine zL (some 25) Tryz.func96 #[.int .i64 (rd l0 a)] ?_;(with_reducible refine(kQ.calls (rd l0 a) false _ L.out).mono ?_);rintro e w' ⟨rfl,⟨Q,rfl⟩⟩;refine⟨_,rfl,?_⟩))
           go_ret;exact⟨zT,by repeat(first|exact aA.refl _|apply aA.step)⟩
         ·rw[if_neg v] at H
          exact absurd H (by simp)
        ·rw[if_neg u] at H
         exact absurd H (by simp)
       ·rw[if_neg n] at H
        have N:=aZ n;clear n;obtain rfl:=aH H;go_wp2;go_ret;exact⟨zT,by repeat(first|exact aA.refl _|apply aA.step)⟩
    ·rw[if_neg p] at H
     obtain⟨I,J⟩:=bI p;obtain rfl:=aH H;go_wp2;go_ret;exact⟨zT,by repeat(first|exact aA.refl _|apply aA.step)⟩
theorem bM.Dt {N:Int} {E:List S83} (h:bM N E) (a:E.length<=40):e8 E=true:=by
 unfold e8;rw[az a,Bool.true_and];refine List.all_eq_true.2 fun x b=>?_
 have:=h.ok x b;simp[cM] at this⊢;omega
theorem qX {l:List Int} {i:Nat} (h:i<l.length):l.drop i=rd l i::l.drop (i+1):=by
 rw[List.drop_eq_getElem_cons h];simp[rd,bh,bX h]
end Go.Proofs.YtffdiakgjakngaaGreat.P
namespace Go.Proofs.YtffdiakgjakngaaGreat.P
open Go.RowKit Go.Proofs.YtffdiakgjakngaaGreatW.PrintWords Go.Proofs.YtffdiakgjakngaaGreatW.PrintLast Go.Proofs.YtffdiakgjakngaaGreatW.PrintMore
set_option linter.unusedVariables false
set_option linter.unusedSimpArgs false
def ic:List S83->Int
 |[]=>0
 |x::E=>x.f2+ic E
theorem vt:∀(A B:List S83),ic (A++B)=ic A+ic B
 |[],B=>by simp[ic]
 |x::A,B=>by rw[List.cons_append,ic,ic,vt A B];omega
theorem vu {N:Int} {E:List S83} (a:bM N E):∀k,k<=E.length->((cK E k:Nat):Int)=ic (E.take k)
 |0,_=>rfl
 |k+1,hk=>by
  have e:ae E k=E[k]:=by simp[ae,bh,bX (by omega:k<E.length)]
  have:=a.ok E[k] (List.getElem_mem _);simp[cM] at this;rw[List.take_succ_eq_append_getElem (by omega),vt,<-vu a k (by omega),cK,e];simp only[ic];omega
namespace Small
variable {n q:Nat} {E:List S83}
end Small
namespace Small
variable {n q:Nat} {E:List S83}
end Small
def jO (x:Int):Bool:=decide (-1048576<=x)&&decide (x<=1048576)
def gu:List Int->Int
 |[]=>0
 |x::l=>if jO x=true then gu l else 2
theorem Du (x:Int):gI.f x=some (jO x):=by
 unfold gI.f jO;by_cases h:x>= -1048576
 ·rw[if_pos h,az (show -1048576<=x from h),Bool.true_and]
 ·rw[if_neg h,aZ (show ¬ -1048576<=x from h),Bool.false_and]
theorem Dv (x:Int):kQ.f x=some (jO x):=by
 unfold kQ.f jO;by_cases h:x>= -1048576
 ·rw[if_pos h,az (show -1048576<=x from h),Bool.true_and]
 ·rw[if_neg h,aZ (show ¬ -1048576<=x from h),Bool.false_and]
theorem vw (c:List Int) (a:c.length<=1000):∀(m i:Nat),i+m=c.length->Ev (fun k=>bt.l0 k c c.length i) (gu (c.drop i))
 |0,i,hi=>by
  refine Ev.of_succ ?_;simp only[bt.l0,if_neg (show ¬(i:Int)<c.length by omega),List.drop_eq_nil_of_le (show c.length<=i by omega),gu];exact Ev.const _
 |m+1,i,hi=>by
  refine Ev.of_succ ?_;simp only[bt.l0,if_pos (show (i:Int)<c.length by omega),if_pos (show (0:Int)<=i by omega),Du,Option.bind_some,dF (show i<=1000000 by omega)];rw[qX (by omega),gu];by_cases h:jO (rd c i)=true
  ·simp only[if_pos h];exact vw c a m (i+1) (by omega)
  ·simp only[if_neg h];exact Ev.const _
theorem vx (c:List Int) (a:c.length<=1000):∀(m i:Nat),i+m=c.length->Ev (fun k=>dn.l0 k c c.length i) (gu (c.drop i))
 |0,i,hi=>by
  refine Ev.of_succ ?_;simp only[dn.l0,if_neg (show ¬(i:Int)<c.length by omega),List.drop_eq_nil_of_le (show c.length<=i by omega),gu];exact Ev.const _
 |m+1,i,hi=>by
  refine Ev.of_succ ?_;simp only[dn.l0,if_pos (show (i:Int)<c.length by omega),if_pos (show (0:Int)<=i by omega),Dv,Option.bind_some,dF (show i<=1000000 by omega)];rw[qX (by omega),gu];by_cases h:jO (rd c i)=true
  ·simp only[if_pos h];exact vx c a m (i+1) (by omega)
  ·simp only[if_neg h];exact Ev.const _
theorem Dw (c:List Int) (N:Int) (a:1<=N/\N<=12):Ev (fun k=>bt.f k c N) (if(c.length:Int)=N then gu c else 8):=by
 unfold bt.f jd.f;simp only[if_neg (show ¬N<1 by omega),if_neg (show ¬N>12 by omega),Option.bind_some,if_true];by_cases h:(c.length:Int)=N
 ·simp only[if_pos h]
  exact vw c (by omega) c.length 0 (by omega)
 ·simp only[if_neg h];exact Ev.const _
theorem qY (c:List Int) (N:Int) (a:1<=N/\N<=12):Ev (fun k=>dn.f k c N) (if(c.length:Int)=N then gu c else 8):=by
 unfold dn.f;simp only[if_neg (show ¬N<1 by omega)];refine Ev.of_succ ?_;simp only[dn.j0,aZ (show ¬N>12 by omega),Bool.false_eq_true,if_false];by_cases h:(c.length:Int)=N
 ·simp only[if_pos h]
  subst h;exact vx c (by omega) c.length 0 (by omega)
 ·simp only[if_neg h];exact Ev.const _
theorem vy:∀{c:List Int},gu c=0->∀x∈c, -1048576<=x/\x<=1048576
 |[],_,x,a=>absurd a (by simp)
 |y::c,h,x,a=>by
  rw[gu] at h;by_cases b:jO y=true
  ·rw[if_pos b] at h
   simp[jO] at b;rcases List.mem_cons.1 a with rfl|a
   ·exact b
   ·exact vy h x a
  ·rw[if_neg b] at h;exact absurd h (by decide)
namespace Small
variable {n q:Nat} {E:List S83}
end Small
namespace Small
variable {n q:Nat} {E:List S83}
end Small
namespace Small
variable {n q:Nat} {E:List S83}
end Small
def iK.f (k:Nat) (a:Int) (b:List (S83)):Option (Int):=(dc.f k a b).bind fun t149=>(if t149=0 then((lK.f k a b).bind fun t150=>(if t150=true then(some 0) else(some 13))) else(some t149))
theorem iK.calls (k:Nat) (i:Int) (l:Option Addr) (m:Nat) (b:List (S83)) (r:Int) (w:World) (u:Kd.C aT w l b.length b) (v:b.length<=m) (h:iK.f k i b=some r):
  Calls Tryz.prog 48 #[.agg #[.int .i64 i,.slice l b.length m]] w fun e w'=>e= .returned (.int .i64 r)/\Below w.heap.size w w':=by
 have F:=Tryz.underlying24;have o:=zA u;have p:=zA v;clear u v;have a:=zA (ao w.heap.size w);unfold iK.f at h;have H:=h;clear h;obtain⟨t149,s,H⟩:=zo H;by_cases c3:t149=0
 ·rw[if_pos c3] at H
  obtain⟨D,E⟩:=bF c3;clear c3;obtain⟨t150,x,H⟩:=zo H;by_cases q:t150=true
  ·subst q
   replace H:=zi H;obtain rfl:=aH H;go_enter Tryz.func48,Tryz.ntmps48
   go_wp2_with (first|((with_reducible refine aJ (N:=1) rfl ?_);refine zX 1 #[.int .i64 i,.slice l b.length m] 24 ?_;intro y j G n hb;have g:=zA (n);have z:=zG a j;have B:=zG a j;replace a:=zS a hb;clear hb n j;obtain⟨I,J,K,L⟩:=ax g)|((with_reducible refine aC (f:=103) rfl ?_);refine zL (some 5) Tryz.func103 #[.agg #[.int .i64 i,.slice l b.length m]] ?_;(with_reducible refine(dc.calls k i _ _ b t149 _ ?af ?ah s.out).mono ?_);(case af=>exact Kd.au o.out zB);(case ah=>exact p.out);rintro e M ⟨rfl,hb⟩;refine⟨_,rfl,?_⟩;replace g:=zb g hb;replace a:=zS a hb;(try clear hb);obtain⟨O,P,Q,R⟩:=ax g)|((with_reducible refine aC (f:=104) rfl ?_);refine zL (some 10) Tryz.func104 #[.agg #[.int .i64 i,.slice l b.length m]] ?_;(with_reducible refine(lK.calls k i _ _ b true _ ?af ?ah x.out).mono ?_);(case af=>exact Kd.au o.out zB);(case ah=>exact p.out);rintro e S ⟨rfl,hb⟩;refine⟨_,rfl,?_⟩;replace g:=zb g hb;replace a:=zS a hb;(try clear hb)))
   go_ret;exact⟨zE,zB⟩
  ·replace q:=Bool.eq_false_iff.mpr q
   subst q;replace H:=zj H;obtain rfl:=aH H;go_enter Tryz.func48,Tryz.ntmps48
   go_wp2_with (first|((with_reducible refine aJ (N:=1) rfl ?_);refine zX 1 #[.int .i64 i,.slice l b.length m] 24 ?_;intro y j ie n hb;have g:=zA (n);have z:=zG a j;have B:=zG a j;replace a:=zS a hb;clear hb n j;obtain⟨T,U,V,W⟩:=ax g)|((with_reducible refine aC (f:=103) rfl ?_);refine zL (some 5) Tryz.func103 #[.agg #[.int .i64 i,.slice l b.length m]] ?_;(with_reducible refine(dc.calls k i _ _ b t149 _ ?af ?ah s.out).mono ?_);(case af=>exact Kd.au o.out zB);(case ah=>exact p.out);rintro e X ⟨rfl,hb⟩;refine⟨_,rfl,?_⟩;replace g:=zb g hb;replace a:=zS a hb;(try clear hb);obtain⟨Y,Z,aa,ab⟩:=ax g)|((with_reducible refine aC (f:=104) rfl ?_);refine zL (some 10) Tryz.func104 #[.agg #[.int .i64 i,.slice l b.length m]] ?_;(with_reducible refine(lK.calls k i _ _ b false _ ?af ?ah x.out).mono ?_);(case af=>exact Kd.au o.out zB);(case ah=>exact p.out);rintro e ad ⟨rfl,hb⟩;refine⟨_,rfl,?_⟩;replace g:=zb g hb;replace a:=zS a hb;(try clear hb)))
   go_ret;exact⟨zE,zB⟩
 ·rw[if_neg c3] at H
  obtain⟨D,E⟩:=bI c3;obtain rfl:=aH H;go_enter Tryz.func48,Tryz.ntmps48
  go_wp2_with (first|((with_reducible refine aJ (N:=1) rfl ?_);refine zX 1 #[.int .i64 i,.slice l b.length m] 24 ?_;intro y j ag n hb;have g:=zA (n);have z:=zG a j;have B:=zG a j;replace a:=zS a hb;clear hb n j;obtain⟨ak,am,an,ap⟩:=ax g)|((with_reducible refine aC (f:=103) rfl ?_);refine zL (some 5) Tryz.func103 #[.agg #[.int .i64 i,.slice l b.length m]] ?_;(with_reducible refine(dc.calls k i _ _ b t149 _ ?af ?ah s.out).mono ?_);(case af=>exact Kd.au o.out zB);(case ah=>exact p.out);rintro e ar ⟨rfl,hb⟩;refine⟨_,rfl,?_⟩;replace g:=zb g hb;replace a:=zS a hb;(try clear hb)))
  go_ret;exact⟨zE,zB⟩
def iL.f (k:Nat) (a:Int) (b:List (S83)) (l1:List Int):Option (Int):=(iK.f k a b).bind fun t152=>(if t152=0 then((dn.f k l1 a).bind fun t153=>(some t153)) else(some t152))
theorem iL.calls (k:Nat) (g:Int) (l:Option Addr) (m:Nat) (b:List (S83)) (o:Option Addr) (c1:Nat) (l1:List Int) (r:Int) (w:World) (p:Kd.C aT w l b.length b) (q:b.length<=m) (s:Kd.C (Kd.int .i64) w o l1.length l1) (u:l1.length<=c1) (h:iL.f k g b l1=some r):
  Calls Tryz.prog 80 #[.agg #[.int .i64 g,.slice l b.length m],.slice o l1.length c1] w fun e w'=>e= .returned (.int .i64 r)/\Below w.heap.size w w':=by
 have K:=Tryz.underlying24;have v:=zA p;have x:=zA q;clear p q;have z:=zA s;have B:=zA u;clear s u;have a:=zA (ao w.heap.size w);unfold iL.f at h;have H:=h;clear h;obtain⟨t152,y,H⟩:=zo H;by_cases c4:t152=0
 ·rw[if_pos c4] at H
  obtain⟨D,E⟩:=bF c4;clear c4;obtain⟨t153,F,H⟩:=zo H;obtain rfl:=aH H;go_enter Tryz.func80,Tryz.ntmps80
  go_wp2_with (first|((with_reducible refine aJ (N:=2) rfl ?_);refine zX 2 #[.int .i64 g,.slice l b.length m] 24 ?_;intro G j L n hb;have i:=zA (n);have I:=zG a j;have J:=zG a j;replace a:=zS a hb;clear hb n j;obtain⟨M,O,P,Q⟩:=ax i)|((with_reducible refine aC (f:=48) rfl ?_);refine zL (some 7) Tryz.func48 #[.agg #[.int .i64 g,.slice l b.length m]] ?_;(with_reducible refine(iK.calls k g _ _ b t152 _ ?af ?ah y.out).mono ?_);(case af=>exact Kd.au v.out zB);(case ah=>exact x.out);rintro e R ⟨rfl,hb⟩;refine⟨_,rfl,?_⟩;replace i:=zb i hb;replace a:=zS a hb;(try clear hb);obtain⟨S,T,U,V⟩:=ax i)|((with_reducible refine aC (f:=42) rfl ?_);refine zL (some 14) Tryz.func42 #[.slice o l1.length c1,.int .i64 g] ?_;(with_reducible refine(dn.calls k _ _ l1 g t153 _ ?af ?ah F.out).mono ?_);(case af=>exact Kd.au z.out zB);(case ah=>exact B.out);rintro e w' ⟨rfl,⟨W,rfl⟩⟩;refine⟨_,rfl,?_⟩))
  go_ret;exact⟨zE,zB⟩
 ·rw[if_neg c4] at H
  obtain⟨D,E⟩:=bI c4;obtain rfl:=aH H;go_enter Tryz.func80,Tryz.ntmps80
  go_wp2_with (first|((with_reducible refine aJ (N:=2) rfl ?_);refine zX 2 #[.int .i64 g,.slice l b.length m] 24 ?_;intro G j X n hb;have i:=zA (n);have I:=zG a j;have J:=zG a j;replace a:=zS a hb;clear hb n j;obtain⟨Y,Z,aa,ab⟩:=ax i)|((with_reducible refine aC (f:=48) rfl ?_);refine zL (some 7) Tryz.func48 #[.agg #[.int .i64 g,.slice l b.length m]] ?_;(with_reducible refine(iK.calls k g _ _ b t152 _ ?af ?ah y.out).mono ?_);(case af=>exact Kd.au v.out zB);(case ah=>exact x.out);rintro e ad ⟨rfl,hb⟩;refine⟨_,rfl,?_⟩;replace i:=zb i hb;replace a:=zS a hb;(try clear hb)))
  go_ret;exact⟨zE,zB⟩
def fs.l0:Nat->List Int->Int->Int->Option (Int)
 |0,_,_,_=>none
 |k+1,a,x3,x4=>if x4<(a.length:Int) then(if 0<=x4 then(fs.l0 k a (wrap64 (x3+(rd a x4))) (wrap64 (x4+1))) else(none)) else(some x3)
def fs.f (k:Nat) (l0:List Int):Option (Int):=fs.l0 k l0 0 0
theorem fs.calls (k:Nat) (A0:Option Addr) (c0:Nat) (l0:List Int) (r:Int) (w:World) (m:Kd.C (Kd.int .i64) w A0 l0.length l0) (n:l0.length<=c0) (h:fs.f k l0=some r):
  Calls Tryz.prog 22 #[.slice A0 l0.length c0] w fun e w'=>e= .returned (.int .i64 r)/\aA w w':=by
 have q:=zA m;have x:=zA n;clear m n;have H:(fs.l0 k l0 0 0)=some r:=h;clear h;have b:=zA H;clear H;go_enter Tryz.func22,Tryz.ntmps22
 go_wp2;go_loopg [3,4] k (fun o v3 v4 w'=>∃(g:Int) (a:Int),v3= .int .i64 g/\v4= .int .i64 a/\Aside0 (fs.l0 o l0 g a=some r)/\Aside0 (o<=k)/\aA w w')
 case atStart=>exact⟨(0),(0),zT,zT,b,⟨aI _⟩,by repeat(first|exact aA.refl _|apply aA.step)⟩
 case round=>
  clear b;obtain⟨g,a,rfl,rfl,i,p,⟨m1,rfl⟩⟩:=hrel;cases gk with
  |zero=>exact absurd i.out (by simp[fs.l0])
  |succ s=>
   have H:=i.out;clear i;simp only[fs.l0] at H;by_cases c2:a<(l0.length:Int)
   ·rw[if_pos c2] at H
    have u:=az c2;clear c2;by_cases c3:0<=a
    ·rw[if_pos c3] at H
     have y:=az c3;clear c3;have b:=zA H;clear H;have j:0<=(a:Int):=aw ‹_›;have l:a<(l0.length:Int):=aw ‹_›;obtain⟨z,v,B⟩:=Kd.bL q.out a j l;cases v;replace j:=eq_true j;replace l:=eq_true l;go_wp2;go_roundg s
     case measure=>have:=p.out;omega
     case rel=>exact⟨(wrap64 (g+(rd l0 a))),(wrap64 (a+1)),zT,zT,b,⟨by have:=p.out;omega⟩,by repeat(first|exact aA.refl _|apply aA.step)⟩
    ·rw[if_neg c3] at H
     exact absurd H (by simp)
   ·rw[if_neg c2] at H
    have u:=aZ c2;clear c2;obtain rfl:=aH H;go_wp2;go_ret;exact⟨zT,by repeat(first|exact aA.refl _|apply aA.step)⟩
end Go.Proofs.YtffdiakgjakngaaGreat.P


namespace Go.Proofs.YtffdiakgjakngaaGreat.P
open Go.RowKit Go.Proofs.YtffdiakgjakngaaGreatW.PrintWords Go.Proofs.YtffdiakgjakngaaGreatW.PrintLast Go.Proofs.YtffdiakgjakngaaGreatW.PrintMore
set_option linter.unusedVariables false
set_option linter.unusedSimpArgs false
set_option maxHeartbeats 8000000
set_option maxRecDepth 100000
def dP.l0:Nat->List Int->Int->Option (Bool)
 |0,_,_=>none
 |k+1,x1,a=>if a<(x1.length:Int) then(if 0<=a then(if(rd x1 a)<(-100) then(some false) else(if(rd x1 a)>100 then(some false) else(dP.l0 k x1 (wrap64 (a+1))))) else(none)) else(some true)
def dP.f (k:Nat) (a:Int) (b:List (S83)) (l1:List Int):Option (Bool):=if(l1.length:Int)>100 then(some false) else((dn.f k l1 a).bind fun t105=>(if t105=0 then(dP.l0 k l1 0) else(some true)))
theorem dP.calls (k:Nat) (m:Int) (x:Option Addr) (y:Nat) (n:List (S83)) (G:Option Addr) (c1:Nat) (l1:List Int) (r:Bool) (w:World) (Q:Kd.C aT w x n.length n) (R:n.length<=y) (S:Kd.C (Kd.int .i64) w G l1.length l1) (T:l1.length<=c1) (h:dP.f k m n l1=some r):
  Calls Tryz.prog 38 #[.agg #[.int .i64 m,.slice x n.length y],.slice G l1.length c1] w fun e w'=>e= .returned (.bool r)/\Below w.heap.size w w':=by
 have aO:=Tryz.underlying24;have aP:=zA Q;have aR:=zA R;clear Q R;have p:=zA S;have U:=zA T;clear S T;have b:=zA (ao w.heap.size w);unfold dP.f at h;have H:=h;clear h;by_cases c3:(l1.length:Int)>100
 ·rw[if_pos c3] at H
  have V:=az c3;have W:decide (100<l1.length)=true:=az (by omega);clear c3;obtain rfl:=aH H;go_enter Tryz.func38,Tryz.ntmps38
  go_wp2_with (first|((with_reducible refine aJ (N:=2) rfl ?_);refine zX 2 #[.int .i64 m,.slice x n.length y] 24 ?_;intro L g w4 o hb;have q:=zA (o);have X:=zG b g;have Y:=zG b g;replace b:=zS b hb;clear hb o g))
  go_ret;exact⟨zE,zB⟩
 ·rw[if_neg c3] at H
  have V:=aZ c3;have W:decide (100<l1.length)=false:=aZ (by omega);clear c3;obtain⟨t105,Z,H⟩:=zo H;by_cases E:t105=0
  ·rw[if_pos E] at H
   obtain⟨aa,ab⟩:=bF E;clear E;have I:=zA H;clear H;go_enter Tryz.func38,Tryz.ntmps38
   go_wp2_with (first|((with_reducible refine aJ (N:=2) rfl ?_);refine zX 2 #[.int .i64 m,.slice x n.length y] 24 ?_;intro L g w7 o hb;have q:=zA (o);have X:=zG b g;have Y:=zG b g;replace b:=zS b hb;clear hb o g;obtain⟨ak,am,an,ap⟩:=ax q)|((with_reducible refine aC (f:=42) rfl ?_);refine zL (some 12) Tryz.func42 #[.slice G l1.length c1,.int .i64 m] ?_;(with_reducible refine(dn.calls k _ _ l1 m t105 _ ?af ?ah Z.out).mono ?_);(case af=>exact Kd.au p.out zB);(case ah=>exact U.out);rintro e w' ⟨rfl,⟨nd,rfl⟩⟩;refine⟨_,rfl,?_⟩))
   go_loopg [5] k (fun kq v5 w'=>∃(a:Int),v5= .int .i64 a/\Aside0 (dP.l0 kq l1 a=some r)/\Aside0 (kq<=k)/\Aside0 (w'.heap[L]? =some (.cells #[.int .i64 m,(.slice x n.length y)] 24 (0,0)))/\Aside0 (Below w.heap.size w w'))
   case atStart=>exact⟨(0),zT,I,⟨aI _⟩,⟨zK q⟩,⟨zB⟩⟩
   case round=>
    clear I;clear V W aa ab ak am an ap;obtain⟨a,rfl,M,ag,q,b⟩:=hrel;cases gk with
    |zero=>exact absurd M.out (by simp[dP.l0])
    |succ k1=>
     have H:=M.out;clear M;simp only[dP.l0] at H;by_cases z:a<(l1.length:Int)
     ·rw[if_pos z] at H
      have aB:=az z;clear z;by_cases J:0<=a
      ·rw[if_pos J] at H
       have a1:=az J;clear J;by_cases B:(rd l1 a)<(-100)
       ·rw[if_pos B] at H
        have aF:=az B;clear B;obtain rfl:=aH H;have i:0<=(a:Int):=aw ‹_›;have j:a<(l1.length:Int):=aw ‹_›;obtain⟨K,F,l⟩:=Kd.bL p.out a i j;cases F;replace l:=(b.out.cell (bs w _ l)).trans l;replace i:=eq_true i;replace j:=eq_true j;go_wp2;go_ret;exact⟨zE,zB⟩
       ·rw[if_neg B] at H
        have aF:=aZ B;clear B;by_cases D:(rd l1 a)>100
        ·rw[if_pos D] at H
         have aL:=az D;clear D;obtain rfl:=aH H;have i:0<=(a:Int):=aw ‹_›;have j:a<(l1.length:Int):=aw ‹_›;obtain⟨K,F,l⟩:=Kd.bL p.out a i j;cases F;replace l:=(b.out.cell (bs w _ l)).trans l;replace i:=eq_true i;replace j:=eq_true j;have s:0<=(a:Int):=aw ‹_›;have u:a<(l1.length:Int):=aw ‹_›;obtain⟨O,P,v⟩:=Kd.bL p.out a s u;obtain rfl:K=O:=(by injection P);replace v:=(b.out.cell (bs w _ v)).trans v;replace s:=eq_true s;replace u:=eq_true u;go_wp2;go_ret;exact⟨zE,zB⟩
        ·rw[if_neg D] at H
         have aL:=aZ D;clear D;have I:=zA H;clear H;have i:0<=(a:Int):=aw ‹_›;have j:a<(l1.length:Int):=aw ‹_›;obtain⟨K,F,l⟩:=Kd.bL p.out a i j;cases F;replace l:=(b.out.cell (bs w _ l)).trans l;replace i:=eq_true i;replace j:=eq_true j;have s:0<=(a:Int):=aw ‹_›;have u:a<(l1.length:Int):=aw ‹_›;obtain⟨O,P,v⟩:=Kd.bL p.out a s u;obtain rfl:K=O:=(by injection P);replace v:=(b.out.cell (bs w _ v)).trans v;replace s:=eq_true s;replace u:=eq_true u;go_wp2;go_roundg k1
         case measure=>have:=ag.out;omega
         case rel=>exact⟨(wrap64 (a+1)),zT,I,⟨by have:=ag.out;omega⟩,⟨zK q⟩,⟨zB⟩⟩
      ·rw[if_neg J] at H
       exact absurd H (by simp)
     ·rw[if_neg z] at H
      have aB:=aZ z;clear z;obtain rfl:=aH H;go_wp2;go_ret;exact⟨zE,zB⟩
  ·rw[if_neg E] at H
   obtain⟨aa,ab⟩:=bI E;obtain rfl:=aH H;go_enter Tryz.func38,Tryz.ntmps38
   go_wp2_with (first|((with_reducible refine aJ (N:=2) rfl ?_);refine zX 2 #[.int .i64 m,.slice x n.length y] 24 ?_;intro L g a2 o hb;have q:=zA (o);have X:=zG b g;have Y:=zG b g;replace b:=zS b hb;clear hb o g;obtain⟨a3,a4,a5,a9⟩:=ax q)|((with_reducible refine aC (f:=42) rfl ?_);refine zL (some 12) Tryz.func42 #[.slice G l1.length c1,.int .i64 m] ?_;(with_reducible refine(dn.calls k _ _ l1 m t105 _ ?af ?ah Z.out).mono ?_);(case af=>exact Kd.au p.out zB);(case ah=>exact U.out);rintro e w' ⟨rfl,⟨nd,rfl⟩⟩;refine⟨_,rfl,?_⟩))
   go_ret;exact⟨zE,zB⟩
def kR.f (k:Nat) (a:Int) (b:List (S83)) (e:Int) (a2:Int):Option (Bool):=if(b.length:Int)>40 then(some false) else((dc.f k a b).bind fun t119=>(if t119=0 then(if a<=e then((lO.f a b).bind fun t120=>(some (decide (t120<=a2)))) else(some false)) else(some true)))
theorem kR.calls (k:Nat) (j:Int) (m:Option Addr) (n:Nat) (b:List (S83)) (u:Int) (a2:Int) (r:Bool) (w:World) (B:Kd.C aT w m b.length b) (D:b.length<=n) (h:kR.f k j b u a2=some r):
  Calls Tryz.prog 97 #[.agg #[.int .i64 j,.slice m b.length n],.int .i64 u,.int .i64 a2] w fun e w'=>e= .returned (.bool r)/\Below w.heap.size w w':=by
 have L:=Tryz.underlying24;have q:=zA B;have s:=zA D;clear B D;have a:=zA (ao w.heap.size w);unfold kR.f at h;have H:=h;clear h;by_cases c4:(b.length:Int)>40
 ·rw[if_pos c4] at H
  have E:=az c4;have F:decide (40<b.length)=true:=az (by omega);clear c4;obtain rfl:=aH H;go_enter Tryz.func97,Tryz.ntmps97
  go_wp2_with (first|((with_reducible refine aJ (N:=3) rfl ?_);refine zX 3 #[.int .i64 j,.slice m b.length n] 24 ?_;intro v i M l hb;have g:=zA (l);have x:=zG a i;have y:=zG a i;replace a:=zS a hb;clear hb l i;obtain⟨O,P,Q,R⟩:=ax g))
  go_ret;exact⟨zE,zB⟩
 ·rw[if_neg c4] at H
  have E:=aZ c4;have F:decide (40<b.length)=false:=aZ (by omega);clear c4;obtain⟨t119,z,H⟩:=zo H;by_cases p:t119=0
  ·rw[if_pos p] at H
   obtain⟨G,I⟩:=bF p;clear p;by_cases o:j<=u
   ·rw[if_pos o] at H
    have J:=az o;clear o;obtain⟨t120,K,H⟩:=zo H;obtain rfl:=aH H;go_enter Tryz.func97,Tryz.ntmps97
    go_wp2_with (first|((with_reducible refine aJ (N:=3) rfl ?_);refine zX 3 #[.int .i64 j,.slice m b.length n] 24 ?_;intro v i ie l hb;have g:=zA (l);have x:=zG a i;have y:=zG a i;replace a:=zS a hb;clear hb l i;obtain⟨S,T,U,V⟩:=ax g)|((with_reducible refine aC (f:=103) rfl ?_);refine zL (some 12) Tryz.func103 #[.agg #[.int .i64 j,.slice m b.length n]] ?_;(with_reducible refine(dc.calls k j _ _ b t119 _ ?af ?ah z.out).mono ?_);(case af=>exact Kd.au q.out zB);(case ah=>exact s.out);rintro e W ⟨rfl,hb⟩;refine⟨_,rfl,?_⟩;replace g:=zb g hb;replace a:=zS a hb;(try clear hb);obtain⟨X,Y,Z,aa⟩:=ax g)|(go_at_call 73;(with_reducible refine(lO.calls j _ _ b t120 _ ?af ?ah K.out).mono ?_);(case af=>exact Kd.au q.out zB);(case ah=>exact s.out);rintro e ab ⟨rfl,hb⟩;replace g:=zb g hb;replace a:=zS a hb;(try clear hb)))
    go_ret;exact⟨zE,zB⟩
   ·rw[if_neg o] at H
    have J:=aZ o;clear o;obtain rfl:=aH H;go_enter Tryz.func97,Tryz.ntmps97
    go_wp2_with (first|((with_reducible refine aJ (N:=3) rfl ?_);refine zX 3 #[.int .i64 j,.slice m b.length n] 24 ?_;intro v i ad l hb;have g:=zA (l);have x:=zG a i;have y:=zG a i;replace a:=zS a hb;clear hb l i;obtain⟨ag,ak,am,an⟩:=ax g)|((with_reducible refine aC (f:=103) rfl ?_);refine zL (some 12) Tryz.func103 #[.agg #[.int .i64 j,.slice m b.length n]] ?_;(with_reducible refine(dc.calls k j _ _ b t119 _ ?af ?ah z.out).mono ?_);(case af=>exact Kd.au q.out zB);(case ah=>exact s.out);rintro e ap ⟨rfl,hb⟩;refine⟨_,rfl,?_⟩;replace g:=zb g hb;replace a:=zS a hb;(try clear hb);obtain⟨ar,av,aB,aF⟩:=ax g))
    go_ret;exact⟨zE,zB⟩
  ·rw[if_neg p] at H
   obtain⟨G,I⟩:=bI p;obtain rfl:=aH H;go_enter Tryz.func97,Tryz.ntmps97
   go_wp2_with (first|((with_reducible refine aJ (N:=3) rfl ?_);refine zX 3 #[.int .i64 j,.slice m b.length n] 24 ?_;intro v i aL l hb;have g:=zA (l);have x:=zG a i;have y:=zG a i;replace a:=zS a hb;clear hb l i;obtain⟨aO,aP,aR,aS⟩:=ax g)|((with_reducible refine aC (f:=103) rfl ?_);refine zL (some 12) Tryz.func103 #[.agg #[.int .i64 j,.slice m b.length n]] ?_;(with_reducible refine(dc.calls k j _ _ b t119 _ ?af ?ah z.out).mono ?_);(case af=>exact Kd.au q.out zB);(case ah=>exact s.out);rintro e a0 ⟨rfl,hb⟩;refine⟨_,rfl,?_⟩;replace g:=zb g hb;replace a:=zS a hb;(try clear hb)))
   go_ret;exact⟨zE,zB⟩
def fu.l0:Nat->Int->Int->Int->Int->List (S83)->Option (Int)
 |0,_,_,_,_,_=>none
 |k+1,x1,e,a,b,g=>if a<b then(if a=x1 then(fu.l0 k x1 e (wrap64 (a+1)) b g) else((di.f k b g a x1).bind fun t160=>(fu.l0 k x1 (wrap64 (e+t160)) (wrap64 (a+1)) b g))) else(some e)
def fu.f (k:Nat) (a:Int) (b:List (S83)) (e:Int):Option (Int):=fu.l0 k e 0 0 a b
theorem fu.calls (k:Nat) (b:Int) (n:Option Addr) (o:Nat) (a:List (S83)) (j:Int) (r:Int) (w:World) (y:Kd.C aT w n a.length a) (z:a.length<=o) (h:fu.f k b a j=some r):
  Calls Tryz.prog 144 #[.agg #[.int .i64 b,.slice n a.length o],.int .i64 j] w fun e w'=>e= .returned (.int .i64 r)/\Below w.heap.size w w':=by
 have M:=Tryz.underlying24;have E:=zA y;have F:=zA z;clear y z;have l:=zA (ao w.heap.size w);have H:(fu.l0 k j 0 0 b a)=some r:=h;clear h;have m:=zA H;clear H;go_enter Tryz.func144,Tryz.ntmps144
 go_wp2_with (first|((with_reducible refine aJ (N:=2) rfl ?_);refine zX 2 #[.int .i64 b,.slice n a.length o] 24 ?_;intro G u w3 B hb;have g:=zA (B);have O:=zG l u;have P:=zG l u;replace l:=zS l hb;clear hb B u))
 go_loopg [5,6] k (fun D v5 v6 w'=>∃(p:Int) (i:Int),v5= .int .i64 p/\v6= .int .i64 i/\Aside0 (fu.l0 D j p i b a=some r)/\Aside0 (D<=k)/\Aside0 (w'.heap[G]? =some (.cells #[.int .i64 b,(.slice n a.length o)] 24 (0,0)))/\Aside0 (Below w.heap.size w w'))
 case atStart=>exact⟨(0),(0),zT,zT,m,⟨aI _⟩,⟨zK g⟩,⟨zB⟩⟩
 case round=>
  clear m;obtain⟨p,i,rfl,rfl,v,s,g,l⟩:=hrel;cases gk with
  |zero=>exact absurd v.out (by simp[fu.l0])
  |succ x=>
   have H:=v.out;clear v;simp only[fu.l0] at H;by_cases c4:i<b
   ·rw[if_pos c4] at H
    have I:=az c4;clear c4;by_cases q:i=j
    ·rw[if_pos q] at H
     obtain⟨J,K⟩:=bF q;clear q;have m:=zA H;clear H;obtain⟨Q,R,S,T⟩:=ax g;go_wp2;go_roundg x
     case measure=>have:=s.out;omega
     case rel=>exact⟨(p),(wrap64 (i+1)),zT,zT,m,⟨by have:=s.out;omega⟩,⟨zK g⟩,⟨zB⟩⟩
    ·rw[if_neg q] at H
     obtain⟨J,K⟩:=bI q;obtain⟨t160,L,H⟩:=zo H;have m:=zA H;clear H;obtain⟨U,V,W,X⟩:=ax g;go_wp2_with (first|((with_reducible refine aC (f:=147) rfl ?_);refine zL (some 20) Tryz.func147 #[.agg #[.int .i64 b,.slice n a.length o],.int .i64 i,.int .i64 j] ?_;(with_reducible refine(di.calls x b _ _ a i j t160 _ ?af ?ah L.out).mono ?_);(case af=>exact Kd.au E.out zB);(case ah=>exact F.out);rintro e Y ⟨rfl,hb⟩;refine⟨_,rfl,?_⟩;replace g:=zb g hb;replace l:=zS l hb;(try clear hb)))
     go_roundg x
     case measure=>have:=s.out;omega
     case rel=>exact⟨(wrap64 (p+t160)),(wrap64 (i+1)),zT,zT,m,⟨by have:=s.out;omega⟩,⟨zK g⟩,⟨zB⟩⟩
   ·rw[if_neg c4] at H
    have I:=aZ c4;clear c4;obtain rfl:=aH H;obtain⟨Z,aa,ab,ad⟩:=ax g;go_wp2;go_ret;exact⟨zE,zB⟩
def eR.l0:Nat->List Int->Int->Int->List (S83)->Option (List Int)
 |0,_,_,_,_=>none
 |k+1,x3,x4,a,b=>if x4<a then((fu.f k a b x4).bind fun t162=>(if x3.length<17592186044416 then(eR.l0 k (x3++[wrap64 (t162-2)]) (wrap64 (x4+1)) a b) else(none))) else(some x3)
def eR.f (k:Nat) (a:Int) (b:List (S83)):Option (List Int):=eR.l0 k ([]:List Int) 0 a b
theorem eR.calls (k:Nat) (g:Int) (p:Option Addr) (q:Nat) (a:List (S83)) (r:List Int) (w:World) (B:Kd.C aT w p a.length a) (D:a.length<=q) (h:eR.f k g a=some r):
  Calls Tryz.prog 90 #[.agg #[.int .i64 g,.slice p a.length q]] w fun e w'=>∃E:Value,e= .returned (E)/\Kd.R (Kd.int .i64) 3 w' w.heap.size (fun _=>True) E r/\Below w.heap.size w w':=by
 have W:=Tryz.underlying24;have K:=zA B;have L:=zA D;clear B D;have j:=zA (ao w.heap.size w);have H:(eR.l0 k ([]:List Int) 0 g a)=some r:=h;clear h;have s:=zA H;clear H;go_enter Tryz.func90,Tryz.ntmps90
 go_wp2_with (first|((with_reducible refine aJ (N:=1) rfl ?_);refine zX 1 #[.int .i64 g,.slice p a.length q] 24 ?_;intro M m w2 F hb;have i:=zA (F);have X:=zG j m;have Y:=zG j m;replace j:=zS j hb;clear hb F m))
 go_loopg [3,4] k (fun G v3 v4 w'=>∃(n:List Int) (l:Int),v4= .int .i64 l/\Aside0 (eR.l0 G n l g a=some r)/\Aside0 (G<=k)/\Aside0 (Kd.R (Kd.int .i64) 3 w' w.heap.size (fun _=>True) v3 n)/\Aside0 (w'.heap[M]? =some (.cells #[.int .i64 g,(.slice p a.length q)] 24 (0,0)))/\Aside0 (Below w.heap.size w w'))
 case atStart=>exact⟨(([]:List Int)),(0),zT,s,⟨aI _⟩,⟨by first|exact Kd.cW _ _ _ _ _|exact Kd.fx _ _ _ _ _|exact Kd.V_nil _ _ _ _ _|exact Kd.Q_nil _ _ _ _ _|exact Kd.fh _ _ _ _ _⟩,⟨zK i⟩,⟨zB⟩⟩
 case round=>
  clear s;obtain⟨n,l,rfl,v,I,o,i,j⟩:=hrel;cases gk with
  |zero=>exact absurd v.out (by simp[eR.l0])
  |succ x=>
   have H:=v.out;clear v;simp only[eR.l0] at H;by_cases c3:l<g
   ·rw[if_pos c3] at H
    have O:=az c3;clear c3;obtain⟨t162,P,H⟩:=zo H;by_cases u:n.length<17592186044416
    ·rw[if_pos u] at H
     have Q:=zA u;clear u;obtain⟨J,y⟩:∃S:List Int,S=(n++[wrap64 (t162-2)]):=⟨_,rfl⟩;replace H:(eR.l0 x J (wrap64 (l+1)) g a)=some r:=zh y H;have T:=zA y;clear y;have s:=zA H;clear H;obtain⟨Z,aa,ab,ad⟩:=ax i;go_wp2_with (first|((with_reducible refine aC (f:=144) rfl ?_);refine zL (some 14) Tryz.func144 #[.agg #[.int .i64 g,.slice p a.length q],.int .i64 l] ?_;(with_reducible refine(fu.calls x g _ _ a l t162 _ ?af ?ah P.out).mono ?_);(case af=>exact Kd.au K.out zB);(case ah=>exact L.out);rintro e w7 ⟨rfl,hb⟩;refine⟨_,rfl,?_⟩;replace o:=br o hb;replace i:=zb i hb;replace j:=zS j hb;(try clear hb))|((with_reducible refine nJ (b:=.append) (xs:=#[.tmp 11,.tmp 16]) rfl ?_);at_builtin;refine Kd.l6 (Kd.int .i64) (w0:=w) w.heap.size rfl (.tmp 11) (.tmp 16) 25 3 (.int .i64 0) 8 rfl Tryz.underlying25 fW rfl (by decide) (by omega) u3 n (wrap64 (t162-2)) [.int .i64 (wrap64 (t162-2))] (fun _=>True) (fun _=>False) rfl rfl ?aP (fun _ hk=>hk.elim) ?aF ?aO ?aB ?aS ?aL ?_;(case aP=>exact rfl);(case aB=>exact zB);(case aF=>exact(fun _ _=>trivial));(case aO=>exact(zR o));(case aS=>exact(bp zB));(case aL=>have:=Q.out;omega);intro v164 w8 z hb m U;rw[<-T.out] at z;replace i:=zA (cR (zK i) m (Kd.db o.out i.out (by decide)));replace j:=zA (hb);have V:=zA (z);clear o;clear z hb m U))
     go_roundg x
     case measure=>have:=I.out;omega
     case rel=>exact⟨(J),(wrap64 (l+1)),zT,s,⟨by have:=I.out;omega⟩,⟨zR V⟩,⟨zK i⟩,⟨zB⟩⟩
    ·rw[if_neg u] at H
     exact absurd H (by simp)
   ·rw[if_neg c3] at H
    have O:=aZ c3;clear c3;obtain rfl:=aH H;obtain⟨am,an,ap,ar⟩:=ax i;go_wp2;go_ret;exact⟨_,zE,by(with_reducible repeat(first|apply Kd.aK|apply Kd.bq|apply Kd.bd));exact o.out,zB⟩
def dw.l0:Nat->List Int->List Int->Int->List Int->Int->Option (List Int)
 |0,_,_,_,_,_=>none
 |k+1,b,x1,x2,e,a=>if a<(b.length:Int) then(if 0<=a then(if a<(x1.length:Int) then(if a<(e.length:Int) then(dw.l0 k b x1 x2 (e.set (a:Int).toNat (wrap64 ((rd b a)+(wrap64 (x2*(rd x1 a)))))) (wrap64 (a+1))) else(none)) else(none)) else(none)) else(some e)
def dw.f (k:Nat) (l0:List Int) (l1:List Int) (a2:Int):Option (List Int):=if 0<=(l0.length:Int) then(if((l0.length:Int):Int).toNat<=35184372088832 then(dw.l0 k l0 l1 a2 (List.replicate ((l0.length:Int):Int).toNat 0) 0) else(none)) else(none)
def dw.T5:Bool×List (List Nat×List Nat):=(true,[([],[]),([],[]),([],[]),([],[]),([2,3],[2,3]),([4],[4]),([],[]),([],[]),([],[]),([7,8],[7,8]),([9],[9]),([6,10],[6,10]),([5,11],[5,11]),([0,1,0,1,2,3,4,5,6,7,8,9,10,11,12],[0,1]),([13,12,0,1,2,3,4,5,6,7,8,9,10,11,12],[12,13])])
def dw.B5:List Nat:=[0,0,0,0,12,28,0,0,0,384,896,1984,4092,8191,16383]
theorem dw.Dx:dE .any (opsOf Tryz.f134 5)=dw.T5:=by kernel_rfl
theorem dw.Dy:jZ dw.T5.2 dw.B5=true:=by kernel_rfl
theorem dw.calls (k:Nat) (A0:Option Addr) (c0:Nat) (l0:List Int) (T:Option Addr) (c1:Nat) (l1:List Int) (a2:Int) (r:List Int) (w:World) (U:Kd.C (Kd.int .i64) w A0 l0.length l0) (V:l0.length<=c0) (W:Kd.C (Kd.int .i64) w T l1.length l1) (X:l1.length<=c1) (h:dw.f k l0 l1 a2=some r):
  Calls Tryz.prog 134 #[.slice A0 l0.length c0,.slice T l1.length c1,.int .i64 a2] w fun e w'=>∃Y:Value,e= .returned (Y)/\Kd.R (Kd.int .i64) 3 w' w.heap.size (fun _=>True) Y r/\Below w.heap.size w w':=by
 have aO:=zA U;have b3:=zA V;clear U V;have aP:=zA W;have b4:=zA X;clear W X;have b:=zA (ao w.heap.size w);unfold dw.f at h;have H:=h;clear h;by_cases c4:0<=(l0.length:Int)
 ·rw[if_pos c4] at H
  have aR:=eq_true c4;have aS:=az c4;clear c4;by_cases o:((l0.length:Int):Int).toNat<=35184372088832
  ·rw[if_pos o] at H
   have a0:=eq_true o;have a1:=az o;clear o;obtain⟨Z,D⟩:∃E:List Int,E=(List.replicate ((l0.length:Int):Int).toNat 0):=⟨_,rfl⟩;replace H:(dw.l0 k l0 l1 a2 Z 0)=some r:=zh D H;have aa:=zA D;clear D;have u:=zA H;clear H;go_enter Tryz.func134,Tryz.ntmps134
   go_wp2_with (first|((with_reducible refine aJ (N:=11) rfl ?_);refine Kd.jn (Kd.int .i64) _ 3 rfl (N:=11) rfl 25 _ _ rfl (l0.length:Int) rfl rfl Tryz.underlying25 (.int .i64 0) 8 fW rfl (by decide) (by omega) 0 (ok:=fun _=>True) (okp:=fun _=>True) rfl (fun _ hk=>hk) trivial (aw ‹_›) (Nat.le_trans (Nat.mul_le_mul_right _ (aw ‹_› :(l0.length:Int).toNat<=35184372088832)) (by omega)) (ao _ _) (aI _) ?_;intro v167 w6 p hb a3 a4;clear a3 a4;(first|rw[<-aa.out] at p|(simp only[Int.reduceToNat] at p;rw[<-aa.out] at p));have a5:=zA (Kd.ba p (bp zB));replace b:=zS b hb;clear hb p))
   go_loopg [8] k (fun kq v8 w'=>∃(l:List Int) (a:Int),v8= .int .i64 a/\Aside0 (dw.l0 kq l0 l1 a2 l a=some r)/\Aside0 (kq<=k)/\Aside0 (Kd.R (Kd.int .i64) 3 w' w.heap.size (fun _=>True) v167 l)/\Aside0 (Below w.heap.size w w'))
   case atStart=>exact⟨(Z),(0),zT,u,⟨aI _⟩,⟨zR a5⟩,⟨zB⟩⟩
   case round=>
    clear u;clear aR aS a0 a1;obtain⟨l,a,rfl,F,ad,g,b⟩:=hrel;cases gk with
    |zero=>exact absurd F.out (by simp[dw.l0])
    |succ k1=>
     have H:=F.out;clear F;simp only[dw.l0] at H;by_cases m:a<(l0.length:Int)
     ·rw[if_pos m] at H
      have be:=az m;clear m;by_cases x:0<=a
      ·rw[if_pos x] at H
       have b6:=az x;clear x;by_cases y:a<(l1.length:Int)
       ·rw[if_pos y] at H
        have b_:=az y;clear y;by_cases z:a<(l.length:Int)
        ·rw[if_pos z] at H
         have b':=az z;clear z;obtain⟨ak,G⟩:∃E:List Int,E=(l.set (a:Int).toNat (wrap64 ((rd l0 a)+(wrap64 (a2*(rd l1 a)))))):=⟨_,rfl⟩;replace H:(dw.l0 k1 l0 l1 a2 ak (wrap64 (a+1)))=some r:=zh G H;have bf:=zA G;clear G;have u:=zA H;clear H;try go_wp2
         replace g:=zA (Kd.bd g.out);replace b:=zA (bV b.out);have I:0<=(a:Int):=aw ‹_›;have J:a<(l0.length:Int):=aw ‹_›;obtain⟨bg,bi,q⟩:=Kd.bL aO.out a I J;have am:=q;cases bi;replace q:=(b.out.cell (bs w _ q)).trans q;replace I:=eq_true I;replace J:=eq_true J;have L:0<=(a:Int):=aw ‹_›;have M:a<(l1.length:Int):=aw ‹_›;obtain⟨bk,bn,s⟩:=Kd.bL aP.out a L M;have an:=s;cases bn;replace s:=(b.out.cell (bs w _ s)).trans s;replace L:=eq_true L;replace M:=eq_true M;have O:0<=(a:Int):=aw ‹_›;have P:(a:Int)<((l.length:Int):Int):=aw ‹_›;obtain⟨ca,cb,ap,ar,bo,cc,av⟩:=Kd.eV g.out (by omega)
         (first|cases ap|(injection ap with B bv bw;(first|subst B|(injection B with B;subst B));subst bw;clear bv))
         have bx:=zA ar;have b0:=zA av;clear ar bo av;obtain⟨b1,b2⟩:=Kd.bP 0 g.out (a:Int) O P;replace O:=eq_true O;replace P:=eq_true P;have Q:=Kd.pv g.out (a:Int) (wrap64 ((rd l0 a)+(wrap64 (a2*(rd l1 a)))));rw[<-bf.out] at Q;have aB:=zA Q;clear Q;refine nz (n:=15) (S:=fun w'=>w'.cell? (bg.add (a).toNat)=some (.int .i64 (rd l0 a))/\w'.cell? (bk.add (a).toNat)=some (.int .i64 (rd l1 a))) (ds:=[14]) #[false,false,false,false,false,false,false,false,false,false,false,false,false,false,false] (by kernel_rfl) rfl rfl ⟨((b.out.cell (bs w _ am)).trans am),((b.out.cell (bs w _ an)).trans an)⟩ (fun hHeld=>?_);refine nS dw.Dx dw.Dy (fun j aF=>?_);generalize wr.drew=cd at g b b0 aB b2 b1 q s hHeld⊢;refine zs 15 0 0 (by kernel_rfl) ?_;iterate 5 (refine zn (v:=?_) (a':=?_) (by simp only[Nat.reduceAdd];rfl) j rfl rfl (by kernel_rfl) (Or.inl ⟨by rfl,?_⟩) ?_ ?_;rotate_left;(focus (intro w';go_simp;with_reducible rfl));rotate_left;(focus (simp only[Act.put,List.setIfInBounds_toArray,List.set_cons_zero,List.set_cons_succ,bT,bW];rfl)))
         refine zs 15 31 6 (by kernel_rfl) ?_;iterate 4 (refine zn (v:=?_) (a':=?_) (by simp only[Nat.reduceAdd];rfl) j rfl rfl (by kernel_rfl) (Or.inl ⟨by rfl,?_⟩) ?_ ?_;rotate_left;(focus (intro w';go_simp;with_reducible rfl));rotate_left;(focus (simp only[Act.put,List.setIfInBounds_toArray,List.set_cons_zero,List.set_cons_succ,bT,bW];rfl)))
         refine iU (i:=5) (N:=some 23) (v:=?_) (a':=?_) #[true,true,true,true,true,true,true,true,true,true,false,false,false,false,false] rfl rfl (iW j.out aF.out (by kernel_rfl)) (fun _ _ _ h=>h) (Or.inl ⟨by rfl,?_⟩) hHeld ?_ ?_;rotate_left
         ·rintro w' ⟨s0,s1⟩
          go_simp
          with_reducible rfl
         rotate_left
         ·simp only[Act.put,List.setIfInBounds_toArray,List.set_cons_zero,List.set_cons_succ,bT,bW]
          rfl
         refine iU (i:=10) (N:=some 28) (v:=?_) (a':=?_) #[true,true,true,true,true,true,true,true,true,true,true,false,false,false,false] rfl rfl (iW j.out aF.out (by kernel_rfl)) (fun _ _ _ h=>h) (Or.inl ⟨by rfl,?_⟩) hHeld ?_ ?_;rotate_left
         ·rintro w' ⟨s0,s1⟩
          go_simp
          with_reducible rfl
         rotate_left
         ·simp only[Act.put,List.setIfInBounds_toArray,List.set_cons_zero,List.set_cons_succ,bT,bW]
          rfl
         refine zs 15 2047 11 (by kernel_rfl) ?_;iterate 3 (refine zn (v:=?_) (a':=?_) (by simp only[Nat.reduceAdd];rfl) j rfl rfl (by kernel_rfl) (Or.inl ⟨by rfl,?_⟩) ?_ ?_;rotate_left;(focus (intro w';go_simp;with_reducible rfl));rotate_left;(focus (simp only[Act.put,List.setIfInBounds_toArray,List.set_cons_zero,List.set_cons_succ,bT,bW];rfl)))
         refine pw (i:=14) (N:=none) #[true,true,true,true,true,true,true,true,true,true,true,true,true,true,true] rfl rfl (jv j.out (by kernel_rfl)) (by decide) (fun K hK=>?_);refine px (w1:=?_) (by rfl) rfl ?_ ?_;rotate_left
         ·go_simp
          rfl
         refine hK.out _ _ ?_;clear hK K;refine nB (nR j.out (by kernel_rfl)) ?_;try go_wp2
         go_roundg k1
         case measure=>have:=ad.out;omega
         case rel=>exact⟨(ak),(wrap64 (a+1)),zT,u,⟨by have:=ad.out;omega⟩,⟨zR aB⟩,⟨by repeat(first|(with_reducible first|exact b.out|apply aq|apply bY|apply bV|refine dx ?_ bx.out)|exact b.out)⟩⟩
        ·rw[if_neg z] at H
         exact absurd H (by simp)
       ·rw[if_neg y] at H
        exact absurd H (by simp)
      ·rw[if_neg x] at H
       exact absurd H (by simp)
     ·rw[if_neg m] at H
      have be:=aZ m;clear m;obtain rfl:=aH H;go_wp2;go_ret;exact⟨_,zE,by(with_reducible repeat(first|apply Kd.aK|apply Kd.bq|apply Kd.bd));exact g.out,zB⟩
  ·rw[if_neg o] at H
   exact absurd H (by simp)
 ·rw[if_neg c4] at H
  exact absurd H (by simp)
def kS.f (k:Nat) (a:Int) (b:List (S83)) (l1:List Int):Option (List Int):=(eR.f k a b).bind fun t173=>((dw.f k t173 l1 (-1)).bind fun t176=>(some t176))
theorem kS.calls (k:Nat) (j:Int) (m:Option Addr) (n:Nat) (a:List (S83)) (o:Option Addr) (c1:Nat) (l1:List Int) (r:List Int) (w:World) (q:Kd.C aT w m a.length a) (s:a.length<=n) (u:Kd.C (Kd.int .i64) w o l1.length l1) (v:l1.length<=c1) (h:kS.f k j a l1=some r):
  Calls Tryz.prog 81 #[.agg #[.int .i64 j,.slice m a.length n],.slice o l1.length c1] w fun e w'=>∃x:Value,e= .returned (x)/\Kd.R (Kd.int .i64) 3 w' w.heap.size (fun _=>True) x r/\Below w.heap.size w w':=by
 have M:=Tryz.underlying24;have z:=zA q;have B:=zA s;clear q s;have D:=zA u;have E:=zA v;clear u v;have b:=zA (ao w.heap.size w);unfold kS.f at h;have H:=h;clear h;obtain⟨t173,F,H⟩:=zo H;obtain⟨t176,G,H⟩:=zo H;obtain rfl:=aH H;go_enter Tryz.func81,Tryz.ntmps81
 go_wp2_with (first|((with_reducible refine aJ (N:=2) rfl ?_);refine zX 2 #[.int .i64 j,.slice m a.length n] 24 ?_;intro O p P y hb;have l:=zA (y);have Q:=zG b p;have S:=zG b p;replace b:=zS b hb;clear hb y p;obtain⟨T,U,V,W⟩:=ax l)|((with_reducible refine aC (f:=90) rfl ?_);refine zL (some 6) Tryz.func90 #[.agg #[.int .i64 j,.slice m a.length n]] ?_;(with_reducible refine(eR.calls k j _ _ a t173 _ ?af ?ah F.out).mono ?_);(case af=>exact Kd.au z.out zB);(case ah=>exact B.out);rintro e X ⟨Y,rfl,g,hb⟩;refine⟨_,rfl,?_⟩;have i:=zA (Kd.ba g (bp zB));replace l:=zb l hb;replace b:=zS b hb;(try clear hb);(try clear g);obtain⟨I,J,K⟩:=Kd.bb i.out;subst K)|((with_reducible refine aC (f:=134) rfl ?_);refine zL (some 8) Tryz.func134 #[.slice I t173.length J,.slice o l1.length c1,.int .i64 (-1)] ?_;(with_reducible refine(dw.calls k _ _ t173 _ _ l1 (-1) t176 _ ?af ?ah ?aX ?aW G.out).mono ?_);(case af=>exact zC (Kd.aD i.out).2.2);(case ah=>exact(Kd.aD i.out).2.1);(case aX=>exact Kd.au D.out zB);(case aW=>exact E.out);rintro e Z ⟨aa,rfl,g,hb⟩;refine⟨_,rfl,?_⟩;have L:=zA (Kd.ba (Kd.bB g (Kd.a7 (zR i))) (bp zB));replace i:=bH i g hb;replace l:=zb l hb;replace b:=zS b hb;(try clear hb);(try clear g)))
 go_ret;exact⟨_,zE,by(with_reducible repeat(first|apply Kd.aK|apply Kd.bq|apply Kd.bd));exact Kd.a_ L.out (fun _ hk=>trivial),zB⟩
def Dz:List (Int×Int):=(List.range 12).flatMap fun a=>(List.range 12).map fun b:Nat=>(((a:Nat):Int),(b:Int))
theorem DA {N:Int} {E:List S83} (g:N<=12) (h:bM N E):E.length<=144:=by
 have h1:(E.map fun x=>(x.f0,x.f1)).length<=Dz.length:=by
  refine qP ?_ (fun p hp=>?_)
  ·rw[List.pairwise_map]
   refine h.order.imp fun {x y} a e=>?_
   injection e with i e2
   unfold jB at a;omega
  ·obtain⟨x,b,rfl⟩:=List.mem_map.1 hp
   have:=h.ok x b;simp[cM] at this;refine List.mem_flatMap.2 ⟨x.f0.toNat,List.mem_range.2 (by omega),List.mem_map.2 ⟨x.f1.toNat,List.mem_range.2 (by omega),?_⟩⟩;rw[Int.toNat_of_nonneg (by omega),Int.toNat_of_nonneg (by omega)]
 rw[List.length_map] at h1;exact h1
theorem DB {n:Nat} {f:Nat->Nat->Int} (hf:∀u v,0<=f u v) {x:S83} (o:0<=x.f0/\x.f0<n) (h1:0<=x.f1/\x.f1<n) (p:1<=x.f2):
  (∀u v,0<=dh f x u v)/\T.sN (T.val n (dh f x)) n<=T.sN (T.val n f) n+2*x.f2:=by
 unfold dh;by_cases e:x.f0=x.f1
 ·simp only[if_pos e]
  exact⟨hf,by omega⟩
 ·simp only[if_neg e]
  refine⟨fun u v=>?_,?_⟩
  ·split
   ·omega
   ·split
    ·omega
    ·exact hf u v
  ·have i:x.f0.toNat<n:=by omega
   have hb:x.f1.toNat<n:=by omega
   have h:∀a u,0<=T.one a u:=fun a u=>by unfold T.one;split<;>omega
   have hle:∀u,u<n->T.val n (fun a b=>if a=x.f1.toNat/\b=x.f0.toNat then x.f2 else if a=x.f0.toNat/\b=x.f1.toNat then x.f2 else f a b) u<=T.val n f u+(T.one x.f1.toNat u*x.f2+T.one x.f0.toNat u*x.f2):=fun u hu=>by
    unfold T.val;have k:T.one x.f1.toNat u*x.f2=T.sN (fun v=>(T.one x.f1.toNat u*x.f2)*T.one x.f0.toNat v) n:=by rw[T.eY,T.fB i,Int.mul_one]
    have e2:T.one x.f0.toNat u*x.f2=T.sN (fun v=>(T.one x.f0.toNat u*x.f2)*T.one x.f1.toNat v) n:=by rw[T.eY,T.fB hb,Int.mul_one]
    rw[k,e2,<-T.dS,<-T.dS];refine T.cN fun v q=>?_
    have r:=hf u v;have s:0<=T.one x.f1.toNat u*x.f2*T.one x.f0.toNat v:=Int.mul_nonneg (Int.mul_nonneg (h _ _) (by omega)) (h _ _);have w:0<=T.one x.f0.toNat u*x.f2*T.one x.f1.toNat v:=Int.mul_nonneg (Int.mul_nonneg (h _ _) (by omega)) (h _ _);show (if u=x.f1.toNat/\v=x.f0.toNat then x.f2 else if u=x.f0.toNat/\v=x.f1.toNat then x.f2 else f u v)<=_
    split
    ·rename_i c
     have:T.one x.f1.toNat u*x.f2*T.one x.f0.toNat v=x.f2:=by unfold T.one;rw[if_pos c.1,if_pos c.2];omega
     omega
    ·split
     ·rename_i c
      have:T.one x.f0.toNat u*x.f2*T.one x.f1.toNat v=x.f2:=by unfold T.one;rw[if_pos c.1,if_pos c.2];omega
      omega
     ·omega
   have j:=T.cN hle;rw[T.dS,T.dS] at j;have l:T.sN (fun u=>T.one x.f1.toNat u*x.f2) n=x.f2:=by
    rw[T.bQ (g:=fun u=>x.f2*T.one x.f1.toNat u) (fun u _=>Int.mul_comm _ _),T.eY,T.fB hb,Int.mul_one]
   have m:T.sN (fun u=>T.one x.f0.toNat u*x.f2) n=x.f2:=by
    rw[T.bQ (g:=fun u=>x.f2*T.one x.f0.toNat u) (fun u _=>Int.mul_comm _ _),T.eY,T.fB i,Int.mul_one]
   rw[l,m] at j;omega
theorem vz {n:Nat}:∀(E:List S83) (f:Nat->Nat->Int),(∀u v,0<=f u v)->(∀x∈E,cM n x=true)->T.sN (T.val n (E.foldl dh f)) n<=T.sN (T.val n f) n+2*ic E
 |[],f,_,_=>by simp[ic]
 |x::E,f,hf,h=>by
  have e:=h x (List.mem_cons_self ..);simp[cM] at e;obtain⟨a,b⟩:=DB (n:=n) hf (x:=x) (by omega) (by omega) (by omega);have i:=vz E (dh f x) a (fun y g=>h y (List.mem_cons_of_mem _ g));rw[List.foldl_cons,ic];omega
theorem DC {n:Nat} {E:List S83} (h:bM n E):T.sN (T.val n (ai E)) n<=2*(cK E E.length:Nat):=by
 have h1:=vz (n:=n) E (fun _ _=>0) (fun _ _=>Int.le_refl _) h.ok;have b:T.sN (T.val n fun _ _=>0) n=0:=T.gX fun u _=>T.jw n
 have a:=vu h E.length (aI _);rw[List.take_length] at a;unfold ai;omega
def dW (N:Int) (E:List S83):Int:=if cT N E=0 then(if partsOf E N.toNat=1 then 0 else 13) else cT N E
theorem oR (N:Int) (E:List S83) (e:E.length<=9223372036854775807):Ev (fun k=>iK.f k N E) (dW N E):=by
 unfold iK.f dW;refine Ev.bind (pP N E e) ?_;by_cases b:cT N E=0
 ·obtain⟨h1,g,h⟩:=j6 b
  obtain⟨n,rfl⟩:=Int.eq_ofNat_of_zero_le (show 0<=N by omega);have i:=DA g h;simp only[if_pos b,aQ];refine Ev.bind (a:=decide (partsOf E n=1)) ?_ ?_
  ·unfold lK.f
   refine Ev.bind (AG E (by omega) n (by omega)) ?_;rw[show (((partsOf E n:Nat):Int)==1)=decide (partsOf E n=1) by rw[Bool.eq_iff_iff];simp;omega];exact Ev.const _
  ·by_cases hp:partsOf E n=1
   ·simp only[az hp,if_true,if_pos hp];exact Ev.const _
   ·simp only[aZ hp,Bool.false_eq_true,if_false,if_neg hp];exact Ev.const _
 ·simp only[if_neg b];exact Ev.const _
theorem vA {N:Int} {E:List S83} (h:dW N E=0):cT N E=0/\partsOf E N.toNat=1:=by
 unfold dW at h;by_cases a:cT N E=0
 ·rw[if_pos a] at h
  by_cases hp:partsOf E N.toNat=1
  ·exact⟨a,hp⟩
  ·rw[if_neg hp] at h;cases h
 ·rw[if_neg a] at h;exact absurd h a
def fO (N:Int) (c:List Int):Int:=if(c.length:Int)=N then gu c else 8
theorem DD {N:Int} {E:List S83} (h:dW N E=0) (b:E.length<=9223372036854775807) (c:List Int):Ev (fun k=>iL.f k N E c) (fO N c):=by
 unfold iL.f;have a:=j6 (vA h).1;have h1:=oR N E b;rw[h] at h1;refine Ev.bind h1 ?_;simp only[if_true];exact Ev.bind (qY c N ⟨a.1,a.2.1⟩) (Ev.const _)
def qZ (c:List Int):Bool:=c.all fun x=>decide (-100<=x/\x<=100)
theorem q6 (c:List Int) (e:c.length<=1000):∀(m i:Nat),i+m=c.length->Ev (fun k=>dP.l0 k c i) (qZ (c.drop i))
 |0,i,hi=>by
  refine Ev.of_succ ?_;simp only[dP.l0,if_neg (show ¬((i:Int)<(c.length:Int)) by omega)];rw[List.drop_eq_nil_of_le (by omega)];exact Ev.const _
 |m+1,i,hi=>by
  have a:=q6 c e m (i+1) (by omega);refine Ev.of_succ ?_;simp only[dP.l0,if_pos (show (i:Int)<(c.length:Int) by omega),if_pos (show (0:Int)<=(i:Int) by omega),dF (show i<=1000000 by omega)];rw[qX (by omega)];unfold qZ at a⊢;rw[List.all_cons];by_cases h1:rd c i< -100
  ·simp only[if_pos h1]
   rw[aZ (fun h=>by omega),Bool.false_and];exact Ev.const _
  ·simp only[if_neg h1]
   by_cases b:rd c i>100
   ·simp only[if_pos b]
    rw[aZ (fun h=>by omega),Bool.false_and];exact Ev.const _
   ·simp only[if_neg b]
    rw[az (⟨by omega,by omega⟩: -100<=rd c i/\rd c i<=100),Bool.true_and];exact a
section
def eu (w:World) (g:Nat) (p:Nat->Nat):Prop:=∃cs:Array Value,w.heap[g]? =some (.cells cs 111 (0,0))/\cs.size=12/\∀i,i<12->cs[i]? =some (.int .i64 (p i:Nat))
namespace eu
variable {w w':World} {g:Nat} {p:Nat->Nat}
theorem lt (h:eu w g p):g<w.heap.size:=by
 obtain⟨cs,hb,_⟩:=h;exact aE hb
theorem cell (h:eu w g p) (i:Nat) (hi:i<12):w.cell? ⟨g,i,none⟩=some (.int .i64 (p i:Nat)):=by
 obtain⟨cs,hb,_,a⟩:=h;exact(al hb i).trans (a i hi)
theorem frozen (h:eu w g p) (k:Nat):w.frozen? ⟨g,k,none⟩=false:=by
 obtain⟨cs,hb,_⟩:=h;exact bD hb k
theorem grown {row:Option Nat} (h:eu w g p) (a:w.grownBy w' row) (b:some g≠row):eu w' g p:=by
 obtain⟨cs,e,i⟩:=h;exact⟨cs,cR e a b,i⟩
theorem below (h:eu w g p) (hb:Below w.heap.size w w'):eu w' g p:=by
 obtain⟨cs,a,b⟩:=h;exact⟨cs,aM a hb,b⟩
theorem alloc (h:eu w g p) (o:Obj):eu (w.alloc o) g p:=h.below (aq (ao _ _) o)
theorem set (h:eu w g p) (i:Nat) (hi:i<12) (x:Nat):eu (w.setCell ⟨g,i,none⟩ (.int .i64 x)) g (fun j=>if j=i then x else p j):=by
 obtain⟨cs,a,b,l⟩:=h;refine⟨cs.setIfInBounds i (.int .i64 x),by simpa using bR a i (.int .i64 x),by simp[b],?_⟩;intro k hk;by_cases e:k=i
 ·subst e
  rw[Array.getElem?_setIfInBounds_self_of_lt (by omega)];simp
 ·rw[Array.getElem?_setIfInBounds_ne (by omega),l k hk];simp[e]
theorem congr {q:Nat->Nat} (h:eu w g p) (he:∀i,i<12->q i=p i):eu w g q:=by
 obtain⟨cs,a,b,e⟩:=h;exact⟨cs,a,b,fun i hi=>by rw[he i hi];exact e i hi⟩
end eu
theorem vB (g v:Nat) (p:Nat->Nat) (w:World) (hf:gY p) (m:v<12) (hw:eu w g p):
  Calls Tryz.prog 86 #[.pointer (some ⟨g,0,none⟩),.int .i64 v] w fun e w'=>e= .returned (.int .i64 (rootOf p v:Nat))/\w=w':=by
 go_enter Tryz.func86,Tryz.ntmps86
 go_wp2;go_loop [1] (fun u=>∃k:Nat,k<12/\u= .int .i64 k/\rootOf p k=rootOf p v) (fun u=>(intOf u).toNat)
 case atStart=>exact⟨v,m,rfl,rfl⟩
 case round=>
  obtain⟨k,hk,rfl,h⟩:=hrel;have i:=Lib.hid h;clear h;have n:=hw.cell k hk;have o:(0:Int)<=(k:Int):=by omega
  have q:(k:Int)<12:=by omega
  have hle:=hf k;by_cases j:p k<k
  ·have a:rootOf p k=rootOf p (p k):=by rw[rootOf,dif_pos j]
   have b:=Lib.hid a;clear a;have r:((p k:Nat):Int)≠(k:Int):=by omega
   go_wp2;go_round
   case rel=>exact⟨p k,by omega,rfl,by rw[<-i.out,b.out]⟩
   case measure=>simp[intOf];omega
  ·have a:rootOf p k=k:=by rw[rootOf,dif_neg j]
   have b:=Lib.hid a;clear a;have l:p k=k:=by omega
   rw[l] at n;clear l;go_wp2;go_ret;exact⟨tq (by rw[<-i.out,b.out]),rfl⟩
end
section
attribute [local go_sem] Oper.semAt_some jr js jt ju
theorem DE (l f:Nat):(Fence.wide.inRound l).fn f=True:=rfl
attribute [local simp] DE
def kh (s:(Nat->Nat)×Nat) (x:Nat×Int×Int):(Nat->Nat)×Nat:=(et s.1 x.2.1.toNat x.2.2.toNat,if rootOf s.1 x.2.1.toNat=rootOf s.1 x.2.2.toNat then s.2+1 else s.2)
def cF (xs:List (Nat×Int×Int)):(Nat->Nat)×Nat:=xs.foldl kh (id,0)
theorem DF (xs:List (Nat×Int×Int)) (x:Nat×Int×Int):cF (xs++[x])=kh (cF xs) x:=by simp[cF,List.foldl_append]
theorem vC (xs:List (Nat×Int×Int)):gY (cF xs).1/\(cF xs).2<=xs.length:=by
 have:∀(xs:List (Nat×Int×Int)) (s:(Nat->Nat)×Nat),gY s.1->gY (xs.foldl kh s).1/\(xs.foldl kh s).2<=s.2+xs.length:=by
  intro xs;induction xs with
  |nil=>intro s h;exact⟨h,by simp⟩
  |cons x xs a=>
   intro s h;obtain⟨h1,b⟩:=a (kh s x) (tn h _ _);refine⟨h1,Nat.le_trans b ?_⟩;have:(kh s x).2<=s.2+1:=by unfold kh;dsimp only;split<;>omega
   simp only[List.length_cons];omega
 have:=this xs (id,0) (fun i=>aI _);exact⟨this.1,by simpa [cF] using this.2⟩
theorem DG (k:Nat) (N:Int) (A0:Option Addr) (c0:Nat) (E:List S83) (t:Int) (w:World) (g:Kd.C aT w A0 E.length E) (h:E.length<=c0) (a:bj.f k N E=some t) (b:t≠0):
  Calls Tryz.prog 31 #[.agg #[.int .i64 N,.slice A0 E.length c0]] w fun e w'=>e= .returned (.tuple #[.int .i64 0,.int .i64 t])/\Below w.heap.size w w':=by
 have hu:=Tryz.underlying24;have i:=zA a;have l:(t != 0)=true:=by simpa using b
 clear a b;go_enter Tryz.func31,Tryz.ntmps31
 go_wp2_with (go_at_call 64;refine(bj.calls k N A0 c0 E t _ (Kd.bE g _) h i.out).mono ?_;rintro e w1 ⟨rfl,hb⟩;have j:=zA (a8 (aq (ao w.heap.size w) _) hb);clear hb)
 go_ret2;exact⟨rfl,j.out⟩
theorem DH (k n:Nat) (A0:Option Addr) (c0:Nat) (E:List S83) (w:World) (bk:Kd.C aT w A0 E.length E) (c3:E.length<=c0) (r:bj.f k n E=some 0) (hE:e8 E=true) (aa:ep n E) (hn:n<=12):
  Calls Tryz.prog 31 #[.agg #[.int .i64 n,.slice A0 E.length c0]] w fun e w'=>e= .returned (.tuple #[.int .i64 (cF (dj E E.length)).2,.int .i64 0])/\Below w.heap.size w w':=by
 have hu:=Tryz.underlying24;have Ht:=zA r;have HE:=zA hE;have HI:=zA aa;clear r hE aa;refine(callsIn_wide (n:=10)).1 ?_;refine callsIn_of_wp_marks Tryz.func31 rfl trivial ?_ rfl;simp only[Tryz.ntmps31,List.size_toArray,List.length_cons,List.length_nil,Nat.reduceAdd,Nat.reduceSub,Array.replicate_succ,Array.replicate_zero,List.push_toArray,List.append_toArray,List.nil_append,List.cons_append];gi_wp2_with (refine⟨trivial,?_⟩;gi_at_call 64;refine(callsIn_wide.2 (bj.calls k n A0 c0 E 0 _ (Kd.bE bk _) c3 Ht.out)).mono ?_;rintro e w1 ⟨rfl,hb⟩;have G:=zA (aM (bm w (.cells #[.int .i64 n,.slice A0 E.length c0] 24)) hb);have J:=zA (a8 (aq (ao w.heap.size w) _) hb);clear hb)
 have ab:Aside0 (eu (w1.alloc (.cells #[.int .i64 0,.int .i64 0,.int .i64 0,.int .i64 0,.int .i64 0,.int .i64 0,.int .i64 0,.int .i64 0,.int .i64 0,.int .i64 0,.int .i64 0,.int .i64 0] 111)) w1.heap.size (fun i=>if i<0 then i else 0)):=⟨⟨_,bm _ _,rfl,fun i hi=>by
  rw[show (#[.int .i64 0,.int .i64 0,.int .i64 0,.int .i64 0,.int .i64 0,.int .i64 0,.int .i64 0,.int .i64 0,.int .i64 0,.int .i64 0,.int .i64 0,.int .i64 0]:Array Value)=Array.replicate 12 (.int .i64 0) from rfl,Array.getElem?_replicate,if_pos hi];rfl⟩⟩
 have aL:=zA (ay G.out (.cells #[.int .i64 0,.int .i64 0,.int .i64 0,.int .i64 0,.int .i64 0,.int .i64 0,.int .i64 0,.int .i64 0,.int .i64 0,.int .i64 0,.int .i64 0,.int .i64 0] 111));have aO:=zA (aq J.out (.cells #[.int .i64 0,.int .i64 0,.int .i64 0,.int .i64 0,.int .i64 0,.int .i64 0,.int .i64 0,.int .i64 0,.int .i64 0,.int .i64 0,.int .i64 0,.int .i64 0] 111));have c7:w.heap.size<w1.heap.size:=aE G.out;clear G J;generalize w1.alloc (.cells #[.int .i64 0,.int .i64 0,.int .i64 0,.int .i64 0,.int .i64 0,.int .i64 0,.int .i64 0,.int .i64 0,.int .i64 0,.int .i64 0,.int .i64 0,.int .i64 0] 111)=W1 at ab aL aO⊢;generalize w1.heap.size=gf at ab c7⊢;gi_loopg [17] (12) (fun kq vv wr=>∃v:Nat,v<=12/\vv= .int .i64 v/\Aside0 (eu wr gf (fun i=>if i<v then i else 0))/\Aside0 (wr.heap[w.heap.size]? =some (.cells #[.int .i64 n,.slice A0 E.length c0] 24 (0,0)))/\Aside0 (Below w.heap.size w wr)/\Aside0 (kq=12-v))
 case atStart=>exact⟨0,by omega,rfl,ab,aL,aO,⟨rfl⟩⟩
 case round=>
  clear ab aL aO;obtain⟨v,hv,rfl,O,G,J,HK⟩:=hrel;by_cases bv:v<12
  ·have e2:(0:Int)<=(v:Int):=by omega
   have e3:(v:Int)<12:=by omega
   have z1:=O.out.cell v bv;have z2:=O.out.frozen v;generalize (if v<v then v else 0)=z at z1;have dd:=zA ((O.out.set v bv v).congr (q:=fun i=>if i<v+1 then i else 0) (fun i hi=>by
    by_cases e:i=v
    ·subst e;simp
    ·simp only[if_neg e]
     by_cases h:i<v
     ·rw[if_pos h,if_pos (by omega)]
     ·rw[if_neg h,if_neg (by omega)]))
   have dk:=zA (aG (p:=⟨gf,v,none⟩) G.out (by show w.heap.size≠gf;omega) (.int .i64 v));have dl:=zA (Below.setCell (p:=⟨gf,v,none⟩) J.out (by show w.heap.size<=gf;omega) (.int .i64 v));clear O G J;gi_wp2;gi_roundg (12- (v+1))
   case measure=>rw[HK.out];omega
   case rel=>exact⟨v+1,by omega,by go_num,dd,dk,dl,⟨rfl⟩⟩
  ·obtain rfl:v=12:=by omega
   have aP:=zA (O.out.congr (q:=(cF []).1) (fun i hi=>by simp[cF,hi]));have y0:(wr.alloc (.cells #[.int .i64 0] 3)).cell? ⟨w.heap.size,0,none⟩=some (.int .i64 n):=(al (ay G.out _) 0).trans rfl;have y1:(wr.alloc (.cells #[.int .i64 0] 3)).cell? ⟨w.heap.size,1,none⟩=some (.slice A0 E.length c0):=(al (ay G.out _) 1).trans rfl;gi_wp2_with (refine⟨trivial,?_⟩;gi_at_call 85;refine(callsIn_wide.2 (tT n A0 c0 E _)).mono ?_;rintro e w3 ⟨rfl,rfl⟩)
   have S:=zA (show ((wr.alloc (.cells #[.int .i64 0] 3)).alloc (.cells #[.int .i64 n,.slice A0 E.length c0] 24)).heap[wr.heap.size]? =some (.cells #[.int .i64 ((cF []).2:Nat)] 3 (0,0)) from ay (bm wr _) _);have T:=zA (show ((wr.alloc (.cells #[.int .i64 0] 3)).alloc (.cells #[.int .i64 n,.slice A0 E.length c0] 24)).heap[wr.heap.size+1]? =some (.cells #[.int .i64 n,.slice A0 E.length c0] 24 (0,0)) from heap_alloc2_new wr _ _);have I:=zA (aq (aq J.out (.cells #[.int .i64 0] 3)) (.cells #[.int .i64 n,.slice A0 E.length c0] 24));have aR:=zA ((aP.out.alloc (.cells #[.int .i64 0] 3)).alloc (.cells #[.int .i64 n,.slice A0 E.length c0] 24));have d0:=aP.out.lt;clear y0 y1 O aP G J;generalize ((wr.alloc (.cells #[.int .i64 0] 3)).alloc (.cells #[.int .i64 n,.slice A0 E.length c0] 24))=g at S T I aR⊢;have bw:=aE S.out;have d1:=aE T.out;generalize aS:wr.heap.size+1=bx at T d1⊢;generalize wr.heap.size=bo at S d0 bw aS⊢;have e4:=Nat.le_of_eq aS;clear aS;refine uS (σ:=Unit) (α:=Nat×Int×Int) (F:=Fence.wide) (n:=10) rfl (by decide) (gf:=140) (lb:=#[.pointer (some ⟨bx,0,none⟩)]) rfl trivial (enters_of Tryz.func140 (by kernel_rfl) rfl)
    (fun o=>tY bx n A0 c0 E w _ bk HE.out (aq (aq I.out _) _) (ay (ay T.out _) _)) (fun _=>rfl)
    (fun _=>True) ?eF ?st ?ar
    (fun _ pre W=>g.heap.size<=W.heap.size/\eu W gf (cF pre).1/\W.heap[bo]? =some (.cells #[.int .i64 ((cF pre).2:Nat)] 3 (0,0))/\Below w.heap.size w W) (fun _ _ _ _=>False)
    ?is (fun _ _ _ _ _ _ h _=>h) ?ib (fun _ _ _ _ _ h _=>h) ?kt ?h0 ?a1 (fun x W=>W.alloc (.cells #[.int .i64 x.2.1,.int .i64 x.2.2] 116)) ?hw ?rI ?assign ?body ?done (fun _ _ _ _ _ _ _ h=>h.elim)
   case assign=>
    intro l x W K hK;gi_wp2;exact hK
   case eF=>
    intro o s W1 h;exact⟨trivial,by rw[h];exact cn.refl _ _⟩
   case st=>intro s A B _ h;exact cZ h
   case ar=>intro s x A B _ h;exact cZ h.2
   case hw=>intro x W k o h1 h2 U _;exact ay U _
   case rI=>
    intro s x A D h;exact⟨fun aY=>((ao w.heap.size A).alloc aY _).trans (h.1 (by simp;omega)),fun k cs t r hk=>h.2 k cs t r (ay hk _)⟩
   case is=>
    rintro s pre A B _ ⟨L,h1,h2,U⟩ ag;exact⟨Nat.le_trans L ag.size,h1.below ag,aM h2 ag,a8 U ag⟩
   case ib=>
    rintro s pre A B ⟨L,⟨cs,h1,ak⟩,h2,U⟩ hb;exact⟨by rw[hb.size];exact L,⟨cs,hb.cells h1,ak⟩,hb.cells h2,U.trans (hb.below w.heap.size (by have:=I.out.size;omega))⟩
   case kt=>
    intro s A B C D a0 b0 b5;have:=I.out.size;exact⟨fun aY=>((a0.below w.heap.size (by omega)).trans (b0.1 (by rw[a0.size];exact aY))).trans (b5.below w.heap.size (by omega)),fun k cs t r hk=>b5.cells (b0.2 k cs t r (a0.cells hk))⟩
   case h0=>
    rintro o s W1 rfl;exact⟨by simp;omega,(aR.out.alloc _).alloc _,ay (ay S.out _) _,aq (aq I.out _) _⟩
   case body=>
    rintro l s pre ⟨i,a,b⟩ Wb W1 W _ ⟨L,i1,i2,i3⟩ ⟨b6,V⟩ b_ H;obtain⟨ed,b',ca,cb⟩:=tX E E.length (aI _) _ b6;have aa:=HI.out ed b';simp only at ca cb;obtain⟨a,rfl⟩:=Int.eq_ofNat_of_zero_le (show 0<=a by omega);obtain⟨b,rfl⟩:=Int.eq_ofNat_of_zero_le (show 0<=b by omega);have ha:a<12:=by omega
    have hb:b<12:=by omega
    have d5:=I.out.size;have d6:g.heap.size<=W1.heap.size:=Nat.le_trans L V.size;have cc:=(vC pre).1;have d7:=(vC pre).2;have HS:=zA (DF pre (i,(a:Int),(b:Int)));have b_:pre.length<2000:=b_;obtain⟨cs,h1,ak⟩:=(i1.below V).alloc (.cells #[.int .i64 a,.int .i64 b] 116);have M:Aside0 (eu W gf (cF pre).1):=⟨cs,H.cells h1,ak⟩;have b2:=zA (H.cells (ay (aM i2 V) (.cells #[.int .i64 a,.int .i64 b] 116)));have b3:=zA ((aq (a8 i3 V) (.cells #[.int .i64 a,.int .i64 b] 116)).trans (H.below w.heap.size (by omega)));have b4:=zA (H.cells (bm W1 (.cells #[.int .i64 a,.int .i64 b] 116)));have aY:W.heap.size=W1.heap.size+1:=by rw[H.size];simp
    have ce:g.heap.size<=W.heap.size:=by omega
    clear i1 i2 i3 V H h1 ak aY d6 L b6 b' ca cb aa;generalize W1.heap.size=pb at b4⊢;have d8:W.cell? ⟨pb,0,none⟩=some (.int .i64 a):=(al b4.out 0).trans rfl;have d9:W.cell? ⟨pb,1,none⟩=some (.int .i64 b):=(al b4.out 1).trans rfl;have e6:=Tryz.underlying116;have a2:=zA (fun m=>vB gf a (cF pre).1 (W.drewN m) cc ha (M.out.below (bY (ao _ _) m)));have a3:=zA (fun m=>vB gf b (cF pre).1 (W.drewN m) cc hb (M.out.below (bY (ao _ _) m)));have ea:=j8 (cF pre).1 a;have eb:=j8 (cF pre).1 b;have P:Aside0 (kh (cF pre) (i,(a:Int),(b:Int))=(et (cF pre).1 a b,if rootOf (cF pre).1 a=rootOf (cF pre).1 b then(cF pre).2+1 else(cF pre).2)):=⟨rfl⟩;have Q:Aside0 (et (cF pre).1 a b=fun j=>if j=max (rootOf (cF pre).1 a) (rootOf (cF pre).1 b) then min (rootOf (cF pre).1 a) (rootOf (cF pre).1 b) else(cF pre).1 j):=⟨rfl⟩;generalize et (cF pre).1 a b=pj at P Q;generalize rootOf (cF pre).1 a=x at a2 P Q ea;generalize rootOf (cF pre).1 b=y at a3 P Q eb;generalize ci:(cF pre).2=gc at b2 d7 P;clear ci;have e_:(0:Int)<=(x:Int):=by omega
    have e':(0:Int)<=(y:Int):=by omega
    have fb:(x:Int)<12:=by omega
    have fd:(y:Int)<12:=by omega
    gi_wp2;refine BL rfl (by kernel_rfl) (by kernel_rfl) ?_;repeat(gi_big_quiet_step (fail))
    gi_big_quiet_want
    gi_big_quiet_op
    gi_big_quiet_call ((gi_at_call 86;exact CallsIn.quiet_of_same (callsIn_wide.2 ((a2.out _).mono (fun e w' h=>⟨h.1,h.2.symm⟩)))))
    repeat(gi_big_quiet_step (fail))
    gi_big_quiet_want
    gi_big_quiet_op
    gi_big_quiet_call ((gi_at_call 86;exact CallsIn.quiet_of_same (callsIn_wide.2 ((a3.out _).mono (fun e w' h=>⟨h.1,h.2.symm⟩)))))
    repeat(gi_big_quiet_step (fail))
    refine wpQuietIn_nil ?_;rintro _ ⟨nq,rfl⟩;have u:=zA (M.out.below (bY (ao _ _) nq));have R:=zA (ir b2.out nq);have I3:=zA (bY b3.out nq);have ap:=zA (cZ (nw:=g.heap.size) (bY (ao W.heap.size W) nq));have av:=zA (bY (ao w.heap.size W) nq);have aB:Aside0 (∀k:Nat,(W.drewN nq).heap[k]? =W.heap[k]?):=⟨fun k=>by simp⟩;have aF:g.heap.size<=(W.drewN nq).heap.size:=by simpa using ce
    have ek:Aside0 (∀(k:Nat) (cs:Array Value) (t:TypeId),(t=24\/t=83)->W.heap[k]? =some (Obj.cells cs t (0,0))->k≠gf/\k≠bo):=⟨fun k cs t r hk=>by
     obtain⟨cf,cj, -⟩:=M.out;refine⟨fun e=>?_,fun e=>?_⟩
     ·subst e;rw[hk] at cj;injection cj with h;injection h with _ h _;rcases r with rfl|rfl<;>exact absurd h (by decide)
     ·subst e;have h:=hk.symm.trans b2.out;injection h with h;injection h with _ h _;rcases r with rfl|rfl<;>exact absurd h (by decide)⟩
    have ck:gf≠bo:=by omega
    have cl:w.heap.size<=gf:=by omega
    have co:w.heap.size<=bo:=by omega
    have ci:(gc:Int)<=2000:=by omega
    have fo:(0:Int)<=(gc:Int):=by omega
    clear M b2 b3 b4 d8 d9 a2 a3 ce S T I aR;generalize W.drewN nq=N at u R I3 ap av aB aF⊢;have fq:=zA (fun j=>u.out.frozen j);have cq:∀(j v:Nat) (W1:World) (g':Nat),j<12->g.heap.size<=W1.heap.size->eu W1 gf (cF pre).1->W1.heap[bo]? =some (.cells #[.int .i64 (g':Nat)] 3 (0,0))->Below w.heap.size w W1->cn g.heap.size W W1->Below w.heap.size W W1->(∀k,k≠gf->k≠bo->W1.heap[k]? =W.heap[k]?)->
      (fun i=>if i=j then v else(cF pre).1 i)=pj->g'=(if x=y then gc+1 else gc)->ql (σ:=Unit) g.heap.size (fun X Y=>qp w.heap.size X Y) (fun pre W=>g.heap.size<=W.heap.size/\eu W gf (cF pre).1/\W.heap[bo]? =some (.cells #[.int .i64 ((cF pre).2:Nat)] 3 (0,0))/\Below w.heap.size w W) (fun (_:Code) (_:List (Nat×Int×Int)) (_:World)=>False) (pre++[(i,(a:Int),(b:Int))]) W Exit.normal {tmps:=#[],defers:=[]} (W1.setCell ⟨gf,j,none⟩ (.int .i64 v)):=by
     intro j v W1 g' hj a5 f1 f2 f3 f4 f5 f6 f7 f8;refine⟨f4.trans (fp _ _ (show gf<g.heap.size by omega)),⟨fun _=>Below.setCell (p:=⟨gf,j,none⟩) f5 cl _,fun k cs t r hk=>?_⟩,by simpa using a5,?_,?_,Below.setCell (p:=⟨gf,j,none⟩) f3 cl _⟩
     ·obtain⟨k1,k2⟩:=ek.out k cs t r hk
      exact(Below.heap_setCell _ _ _ _ k1).trans ((f6 k k1 k2).trans hk)
     ·rw[HS.out,P.out]
      have h:=f1.set j hj v;rw[f7] at h;exact h
     ·rw[HS.out,P.out]
      simp only;rw[<-f8];exact aG f2 (fun e=>ck e.symm) _
    have a9:=zA cq;clear cq;rcases Nat.lt_trichotomy x y with be|be|be
    ·have hl:(x:Int)<(y:Int):=by omega
     have he:((x:Int)==(y:Int))=false:=by simpa using (show ¬(x:Int)=(y:Int) by omega)
     have hm:max x y=y:=by omega
     have Z:min x y=x:=by omega
     have hz:=u.out.cell y (by omega);have hf:=u.out.frozen y;have HM:=zA hm;have bg:=zA Z;clear hm Z;gi_wp2;exact a9.out y x N gc (by omega) aF u.out R.out I3.out ap.out av.out (fun k _ _=>aB.out k) (by rw[Q.out,HM.out,bg.out]) (by rw[if_neg (by omega)])
    ·subst be
     have he:((x:Int)==(x:Int))=true:=by simp
     have hl:¬(x:Int)<(x:Int):=by omega
     have hz:=u.out.cell x (by omega);have hf:=u.out.frozen x;have z1:=dK R.out;have z2:=bD R.out 0;have er:bo<g.heap.size:=bw;have a5:=zA (show g.heap.size<=(N.setCell ⟨bo,0,none⟩ (.int .i64 ((gc:Int)+1))).heap.size by simpa using aF);have J1:=zA (u.out.grown (j7 N bo 0 (.int .i64 ((gc:Int)+1))) (fun e=>by injection e with e;exact ck e));have fr:=J1.out.cell x (by omega);have ft:=J1.out.frozen x;have J2:Aside0 ((N.setCell ⟨bo,0,none⟩ (.int .i64 ((gc:Int)+1))).heap[bo]? =some (.cells #[.int .i64 ((gc+1:Nat):Int)] 3 (0,0))):=⟨by simpa using bR R.out 0 (.int .i64 ((gc:Int)+1))⟩;have J3:=zA (Below.setCell (p:=⟨bo,0,none⟩) I3.out co (.int .i64 ((gc:Int)+1)));have J4:=zA (ap.out.trans (fp (bo:=bo) (j:=0) N (.int .i64 ((gc:Int)+1)) er));have J5:=zA (Below.setCell (p:=⟨bo,0,none⟩) av.out co (.int .i64 ((gc:Int)+1)));have J6:Aside0 (∀k,k≠gf->k≠bo->(N.setCell ⟨bo,0,none⟩ (.int .i64 ((gc:Int)+1))).heap[k]? =W.heap[k]?):=⟨fun k _ h=>(Below.heap_setCell _ _ _ _ h).trans (aB.out k)⟩;gi_wp2;exact a9.out x x _ (gc+1) (by omega) a5.out J1.out J2.out J3.out J4.out J5.out J6.out (by rw[Q.out,Nat.max_self,Nat.min_self]) (by simp)
    ·have hl:¬(x:Int)<(y:Int):=by omega
     have fv:(y:Int)<(x:Int):=by omega
     have he:((x:Int)==(y:Int))=false:=by simpa using (show ¬(x:Int)=(y:Int) by omega)
     have hm:max x y=x:=by omega
     have Z:min x y=y:=by omega
     have hz:=u.out.cell x (by omega);have hf:=u.out.frozen x;have HM:=zA hm;have bg:=zA Z;clear hm Z;gi_wp2;exact a9.out x y N gc (by omega) aF u.out R.out I3.out ap.out av.out (fun k _ _=>aB.out k) (by rw[Q.out,HM.out,bg.out]) (by rw[if_neg (by omega)])
   case done=>
    rintro s xs W W' _ rfl ⟨L,i1,i2,i3⟩ H c1;have d5:=I.out.size;have M:=zA (H.cells i2);have b3:=zA (i3.trans (H.below w.heap.size (by omega)));have c2:=zA c1;clear i1 i2 i3 c1;have hc:=dK M.out;gi_wp2_with fail
    have e0:Bk g.heap.size W' (W'.putObj g.heap.size (.deferred none)):=⟨_,_,c2.out,rfl,rfl⟩;exact jc (D:=g.heap.size) rfl c2.out (results_tmp2 rfl _ _ _) ⟨rfl,b3.out.trans (e0.below w.heap.size (by omega))⟩
def q9 (N:Int) (E:List S83):Bool:=decide (0<=N/\N<=12)&&e8 E&&ja N E
def fG.f (k:Nat) (N:Int) (E:List S83):Option (Int×Int):=
 (bj.f k N E).bind fun e=>if e=0 then(if q9 N E=true then some (((cF (dj E E.length)).2:Nat),0) else none) else some (0,e)
theorem fG.mono:∀a b k,aj (fG.f k a b) (fG.f (k+1) a b):=by
 intro N E k;unfold fG.f;exact aj.bind (bj.mono _ _ _) (fun _=>aj.refl _)
theorem fG.calls (k:Nat) (i:Int) (j:Option Addr) (l:Nat) (b:List (S83)) (o:Int) (p:Int) (w:World) (q:Kd.C aT w j b.length b) (r:b.length<=l) (h:fG.f k i b=some (o,p)):
  Calls Tryz.prog 31 #[.agg #[.int .i64 i,.slice j b.length l]] w fun e w'=>e= .returned (.tuple #[.int .i64 o,.int .i64 p])/\Below w.heap.size w w':=by
 unfold fG.f at h;obtain⟨e,he,a⟩:=Option.bind_eq_some_iff.1 h;clear h;by_cases m:e=0
 ·subst m
  rw[if_pos rfl] at a;by_cases g:q9 i b=true
  ·rw[if_pos g] at a
   simp only[Option.some.injEq,Prod.mk.injEq] at a;obtain⟨rfl,rfl⟩:=a;unfold q9 at g;simp only[Bool.and_eq_true,decide_eq_true_eq] at g;obtain⟨⟨⟨h1,v⟩,s⟩,u⟩:=g;obtain⟨n,rfl⟩:=Int.eq_ofNat_of_zero_le h1;exact DH k n j l b w q r he s (kG u) (by omega)
  ·rw[if_neg g] at a;cases a
 ·rw[if_neg m] at a
  simp only[Option.some.injEq,Prod.mk.injEq] at a;obtain⟨rfl,rfl⟩:=a;exact DG k i j l b e w q r he m
end
section
attribute [local go_sem] jr js jt ju mo mq mr mu
def dA.l0:Nat->Int->List (S83)->Int->Int->Int->List (S83)->Option (Int×(List (S83))×Int)
 |0,_,_,_,_,_,_=>none
 |k+1,x1,b,g,a,h,e=>if a<g then(if 0<=a then(if a<(b.length:Int) then(if((ae b a).f0)=((ae b a).f1) then(dA.l0 k x1 b g (wrap64 (a+1)) h e) else(if e.length<5864062014805 then(dA.l0 k x1 b g (wrap64 (a+1)) h (e++[(⟨(ae b a).f0,(ae b a).f1,mn ((ae b a).f2) x1⟩:S83)])) else(none))) else(none)) else(none)) else(some (h,e,0))
def dA.f (k:Nat) (b:Int) (a:List (S83)) (e:Int):Option (Int×(List (S83))×Int):=(bj.f k b a).bind fun t260=>(if t260=0 then(dA.l0 k e a (a.length:Int) 0 b ([]:List (S83))) else(some (0,([]:List (S83)),t260)))
theorem dA.cm:∀k,(∀a b e g i j,aj (dA.l0 k a b e g i j) (dA.l0 (k+1) a b e g i j))
 |0=>fun _ _ _ _ _ _ r h=>by simp[dA.l0] at h
 |k+1=>by
  have l:=dA.cm k
  ·intro a b e g i j
   unfold dA.l0;with_reducible repeat' first|exact l _ _ _ _ _ _|exact bj.mono _ _ _|exact aj.refl _|exact aj.none _|refine aj.ite ?_ ?_|refine aj.bind ?_ (fun _=>?_)
theorem dA.mono:∀a0 a a2 k,aj (dA.f k a0 a a2) (dA.f (k+1) a0 a a2):=by
 intro a0 a a2 k;have b:=dA.cm k;unfold dA.f;with_reducible repeat' first|exact b _ _ _ _ _ _|exact bj.mono _ _ _|exact aj.refl _|exact aj.none _|refine aj.ite ?_ ?_|refine aj.bind ?_ (fun _=>?_)
theorem dA.calls (k:Nat) (n:Int) (B:Option Addr) (y:Nat) (a:List (S83)) (K:Int) (Z:Int) (r2:List (S83)) (r3:Int) (w:World) (bn:Kd.C aT w B a.length a) (bo:a.length<=y) (h:dA.f k n a K=some (Z,r2,r3)):
  Calls Tryz.prog 84 #[.agg #[.int .i64 n,.slice B a.length y],.int .i64 K] w fun e w'=>∃bv:Value,e= .returned (.tuple #[.agg #[.int .i64 Z,bv],.int .i64 r3])/\Kd.R aT 83 w' w.heap.size (fun _=>True) bv r2/\Below w.heap.size w w':=by
 have d1:=Tryz.underlying24;have d2:=Tryz.underlying83;have ag:=zA bn;have bw:=zA bo;clear bn bo;have l:=zA (ao w.heap.size w);unfold dA.f at h;have H:=h;clear h;obtain⟨t260,A3,H⟩:=zo H;by_cases c4:t260=0
 ·rw[if_pos c4] at H
  obtain⟨b0,b1⟩:=bF c4;clear c4;have U:=zA H;clear H;go_enter Tryz.func84,Tryz.ntmps84
  go_wp2_with (first|((with_reducible refine aJ (N:=2) rfl ?_);refine zX 2 #[.int .i64 n,.slice B a.length y] 24 ?_;intro s j w5 v hb;have m:=zA (v);have b':=zG l j;have ca:=zG l j;replace l:=zS l hb;clear hb v j)|((with_reducible refine aJ (N:=4) rfl ?_);refine zX 4 #[.int .i64 0,.slice none 0 0] 24 ?_;intro u j w6 v hb;have r:=zA (v);have cb:=zG l j;have cc:=zG l j;replace l:=zS l hb;have ak:=zA ((by rw[j];exact Nat.ne_of_lt (aE (g:=s) (o:=.cells #[.int .i64 n,.slice B a.length y] 24 (0,0)) (zK m)):s≠u));have am:=zA ((by rw[j];exact Nat.ne_of_gt (aE (g:=s) (o:=.cells #[.int .i64 n,.slice B a.length y] 24 (0,0)) (zK m)):u≠s));replace m:=zb m hb;clear hb v j;have d5:=ak.out;have d6:=am.out;obtain⟨cd,ce,cf,ch⟩:=ax m)|((with_reducible refine aC (f:=64) rfl ?_);refine zL (some 11) Tryz.func64 #[.agg #[.int .i64 n,.slice B a.length y]] ?_;(with_reducible refine(bj.calls k n _ _ a t260 _ ?af ?ah A3.out).mono ?_);(case af=>exact Kd.au ag.out zB);(case ah=>exact bw.out);rintro e w9 ⟨rfl,hb⟩;refine⟨_,rfl,?_⟩;replace m:=zb m hb;replace r:=zb r hb;replace l:=zS l hb;(try clear hb);obtain⟨ci,cj,ck,cl⟩:=ax m)|((with_reducible refine aJ (N:=7) rfl ?_);refine zX 7 #[.int .i64 0,.slice none 0 0] 24 ?_;intro z j ie v hb;have x:=zA (v);have d8:=zG l j;have d9:=zG l j;replace l:=zS l hb;have V:=zA ((by rw[j];exact Nat.ne_of_lt (aE (g:=s) (o:=.cells #[.int .i64 n,.slice B a.length y] 24 (0,0)) (zK m)):s≠z));have a2:=zA ((by rw[j];exact Nat.ne_of_gt (aE (g:=s) (o:=.cells #[.int .i64 n,.slice B a.length y] 24 (0,0)) (zK m)):z≠s));replace m:=zb m hb;have W:=zA ((by rw[j];exact Nat.ne_of_lt (aE (g:=u) (o:=.cells #[.int .i64 0,.slice none 0 0] 24 (0,0)) (zK r)):u≠z));have a3:=zA ((by rw[j];exact Nat.ne_of_gt (aE (g:=u) (o:=.cells #[.int .i64 0,.slice none 0 0] 24 (0,0)) (zK r)):z≠u));replace r:=zb r hb;clear hb v j;have ea:=a2.out;have eb:=V.out;have ed:=a3.out;have eg:=W.out;obtain⟨co,cq,cr,cv⟩:=ax x;obtain⟨cx,c0,c1,c2⟩:=ax m))
  go_loopg [22] k (fun kq v22 w'=>∃(i:Int) (E:List (S83)) (u262001:Value),v22= .int .i64 i/\Aside0 (dA.l0 kq K a (a.length:Int) i n E=some (Z,r2,r3))/\Aside0 (kq<=k)/\Aside0 (Kd.R aT 83 w' w.heap.size (fun _=>True) u262001 E)/\Aside0 (w'.heap[s]? =some (.cells #[.int .i64 n,(.slice B a.length y)] 24 (0,0)))/\Aside0 (w'.heap[u]? =some (.cells #[.int .i64 0,(.slice none 0 0)] 24 (0,0)))/\Aside0 (w'.heap[z]? =some (.cells #[.int .i64 n,u262001] 24 (0,0)))/\Aside0 (Below w.heap.size w w'))
  case atStart=>exact⟨(0),(([]:List (S83))),(.slice none 0 0),zT,U,⟨aI _⟩,⟨by first|exact Kd.cW _ _ _ _ _|exact Kd.fx _ _ _ _ _|exact Kd.V_nil _ _ _ _ _|exact Kd.Q_nil _ _ _ _ _|exact Kd.fh _ _ _ _ _⟩,⟨by refine zk ?_;refine aG ?_ V.out _;refine zk ?_;refine aG ?_ V.out _;exact zK m⟩,⟨by refine zk ?_;refine aG ?_ W.out _;refine zk ?_;refine aG ?_ W.out _;exact zK r⟩,⟨by refine zk ?_;refine bC (cs:=#[.int .i64 n,.slice none 0 0]) ?_ 1 _ rfl;refine zk ?_;refine bC (cs:=#[.int .i64 0,.slice none 0 0]) ?_ 0 _ rfl;exact zK x⟩,⟨zB⟩⟩
  case round=>
   clear U;clear b0 b1 ci cj co cq cx c0 cd ce ck cl cr cv c1 c2 cf ch;obtain⟨i,E,u262001,rfl,HA,an,D,m,r,x,l⟩:=hrel;cases gk with
   |zero=>exact absurd HA.out (by simp[dA.l0])
   |succ k1=>
    have H:=HA.out;clear HA;simp only[dA.l0] at H;by_cases X:i<(a.length:Int)
    ·rw[if_pos X] at H
     have c3:=az X;clear X;by_cases ar:0<=i
     ·rw[if_pos ar] at H
      have ek:=az ar;clear ar;by_cases av:i<(a.length:Int)
      ·rw[if_pos av] at H
       have el:=az av;clear av;by_cases ad:((ae a i).f0)=((ae a i).f1)
       ·rw[if_pos ad] at H
        obtain⟨c5,c6⟩:=bF ad;clear ad;have U:=zA H;clear H;have L:0<=(i:Int):=aw ‹_›;have M:i<(a.length:Int):=aw ‹_›;obtain⟨Y,a5,O,P,Q⟩:=eJ ag.out i L M;cases a5;replace O:=(l.out.cell (bs w _ O)).trans O;replace P:=(l.out.cell (bs w _ P)).trans P;replace Q:=(l.out.cell (bs w _ Q)).trans Q;replace L:=eq_true L;replace M:=eq_true M;go_wp2_with (first|((with_reducible refine aJ (N:=9) rfl ?_);refine zX 9 #[.int .i64 0,.int .i64 0,.int .i64 0] 83 ?_;intro q j em v hb;replace D:=zA (Kd.cU (Kd.se (zR D) q (Nat.le_of_eq j.symm)) hb);have S:=zA (v);have c7:=zG l j;have c8:=zG l j;replace l:=zS l hb;have G:=zA ((by rw[j];exact Nat.ne_of_lt (aE (g:=s) (o:=.cells #[.int .i64 n,.slice (some Y) a.length y] 24 (0,0)) (zK m)):s≠q));have a9:=zA ((by rw[j];exact Nat.ne_of_gt (aE (g:=s) (o:=.cells #[.int .i64 n,.slice (some Y) a.length y] 24 (0,0)) (zK m)):q≠s));replace m:=zb m hb;have I:=zA ((by rw[j];exact Nat.ne_of_lt (aE (g:=u) (o:=.cells #[.int .i64 0,.slice none 0 0] 24 (0,0)) (zK r)):u≠q));have be:=zA ((by rw[j];exact Nat.ne_of_gt (aE (g:=u) (o:=.cells #[.int .i64 0,.slice none 0 0] 24 (0,0)) (zK r)):q≠u));replace r:=zb r hb;have J:=zA ((by rw[j];exact Nat.ne_of_lt (aE (g:=z) (o:=.cells #[.int .i64 n,u262001] 24 (0,0)) (zK x)):z≠q));have bf:=zA ((by rw[j];exact Nat.ne_of_gt (aE (g:=z) (o:=.cells #[.int .i64 n,u262001] 24 (0,0)) (zK x)):q≠z));replace x:=zb x hb;clear hb v j;have er:=a9.out;have es:=G.out;have ev:=be.out;have ew:=I.out;have ex:=bf.out;have ey:=J.out;obtain⟨e0,e1,e2,e3,e4,e5⟩:=cg S))
        go_roundg k1
        case measure=>have:=an.out;omega
        case rel=>exact⟨(wrap64 (i+1)),(E),(u262001),zT,U,⟨by have:=an.out;omega⟩,⟨by(with_reducible repeat(first|apply Kd.aK|apply Kd.bq|apply Kd.bd));exact Kd.a_ (Kd.dC (p:=⟨q,2,none⟩) (Kd.dC (p:=⟨q,1,none⟩) (Kd.dC (p:=⟨q,0,none⟩) (Kd.a_ D.out (fun T hk=>(⟨hk,hk.2⟩:_/\T≠q))) (fun _ hk=>hk.2) (.int .i64 ((ae a i).f0))) (fun _ hk=>hk.2) (.int .i64 ((ae a i).f1))) (fun _ hk=>hk.2) (.int .i64 ((ae a i).f2))) (fun _ hk=>trivial)⟩,⟨by refine zk ?_;refine aG ?_ G.out _;refine zk ?_;refine aG ?_ G.out _;refine zk ?_;refine aG ?_ G.out _;exact zK m⟩,⟨by refine zk ?_;refine aG ?_ I.out _;refine zk ?_;refine aG ?_ I.out _;refine zk ?_;refine aG ?_ I.out _;exact zK r⟩,⟨by refine zk ?_;refine aG ?_ J.out _;refine zk ?_;refine aG ?_ J.out _;refine zk ?_;refine aG ?_ J.out _;exact zK x⟩,⟨zB⟩⟩
       ·rw[if_neg ad] at H
        obtain⟨c5,c6⟩:=bI ad;obtain⟨F,bg⟩:∃j_:Int,(mn ((ae a i).f2) K)=j_:=⟨_,rfl⟩;replace H:(if E.length<5864062014805 then(dA.l0 k1 K a (a.length:Int) (wrap64 (i+1)) n (E++[(⟨(ae a i).f0,(ae a i).f1,F⟩:S83)])) else(none))=some (Z,r2,r3):=by first|(rw[bg] at H;exact H)|(simp only[bg] at H⊢;exact H)
        have e6:(if K<((ae a i).f2) then K else((ae a i).f2))=F:=bg;by_cases aR:E.length<5864062014805
        ·rw[if_pos aR] at H
         have c':=zA aR;clear aR;obtain⟨a0,bi⟩:∃y_:List (S83),y_=(E++[(⟨(ae a i).f0,(ae a i).f1,F⟩:S83)]):=⟨_,rfl⟩;replace H:(dA.l0 k1 K a (a.length:Int) (wrap64 (i+1)) n a0)=some (Z,r2,r3):=zh bi H;have dk:=zA bi;clear bi;have U:=zA H;clear H;have L:0<=(i:Int):=aw ‹_›;have M:i<(a.length:Int):=aw ‹_›;obtain⟨Y,a5,O,P,Q⟩:=eJ ag.out i L M;cases a5;replace O:=(l.out.cell (bs w _ O)).trans O;replace P:=(l.out.cell (bs w _ P)).trans P;replace Q:=(l.out.cell (bs w _ Q)).trans Q;replace L:=eq_true L;replace M:=eq_true M;go_wp2_with (first|((with_reducible refine aJ (N:=9) rfl ?_);refine zX 9 #[.int .i64 0,.int .i64 0,.int .i64 0] 83 ?_;intro q j dl v hb;replace D:=zA (Kd.cU (Kd.se (zR D) q (Nat.le_of_eq j.symm)) hb);have S:=zA (v);have c7:=zG l j;have c8:=zG l j;replace l:=zS l hb;have G:=zA ((by rw[j];exact Nat.ne_of_lt (aE (g:=s) (o:=.cells #[.int .i64 n,.slice (some Y) a.length y] 24 (0,0)) (zK m)):s≠q));have a9:=zA ((by rw[j];exact Nat.ne_of_gt (aE (g:=s) (o:=.cells #[.int .i64 n,.slice (some Y) a.length y] 24 (0,0)) (zK m)):q≠s));replace m:=zb m hb;have I:=zA ((by rw[j];exact Nat.ne_of_lt (aE (g:=u) (o:=.cells #[.int .i64 0,.slice none 0 0] 24 (0,0)) (zK r)):u≠q));have be:=zA ((by rw[j];exact Nat.ne_of_gt (aE (g:=u) (o:=.cells #[.int .i64 0,.slice none 0 0] 24 (0,0)) (zK r)):q≠u));replace r:=zb r hb;have J:=zA ((by rw[j];exact Nat.ne_of_lt (aE (g:=z) (o:=.cells #[.int .i64 n,u262001] 24 (0,0)) (zK x)):z≠q));have bf:=zA ((by rw[j];exact Nat.ne_of_gt (aE (g:=z) (o:=.cells #[.int .i64 n,u262001] 24 (0,0)) (zK x)):q≠z));replace x:=zb x hb;clear hb v j;have e_:=a9.out;have e':=G.out;have fb:=be.out;have fd:=I.out;have fn:=bf.out;have fo:=J.out;obtain⟨fq,fr,ft,fv,f3,f4⟩:=cg S;have f5:=a2.out;have f6:=V.out;have f7:=a3.out;have f8:=W.out;obtain⟨f9,f',gb,gc⟩:=ax x;have gd:((((dl.setCell ⟨q,0,none⟩ (.int .i64 (ae a i).f0)).setCell ⟨q,1,none⟩ (.int .i64 (ae a i).f1)).setCell ⟨q,2,none⟩ (.int .i64 (ae a i).f2)).setCell ⟨q,2,none⟩ (.int .i64 F)).cell? ⟨q,2,none⟩=some (.int .i64 F):=(al (bC (cs:=#[(.int .i64 (ae a i).f0),(.int .i64 (ae a i).f1),(.int .i64 (ae a i).f2)]) (bC (cs:=#[(.int .i64 (ae a i).f0),(.int .i64 (ae a i).f1),(.int .i64 0)]) (bC (cs:=#[(.int .i64 (ae a i).f0),(.int .i64 0),(.int .i64 0)]) (bC (cs:=#[(.int .i64 0),(.int .i64 0),(.int .i64 0)]) S.out 0 _ rfl) 1 _ rfl) 2 _ rfl) 2 _ rfl) 2).trans rfl)|((with_reducible refine nJ (b:=.append) (xs:=#[.tmp 37,.tmp 39]) rfl ?_);at_builtin;refine Kd.l6 aT (w0:=w) w.heap.size rfl (.tmp 37) (.tmp 39) 22 83 (.agg #[(.int .i64 0),(.int .i64 0),(.int .i64 0)]) 24 rfl Tryz.underlying22 zt rfl (by decide) (by omega) u262001 E (⟨(ae a i).f0,(ae a i).f1,F⟩:S83) [.int .i64 ((ae a i).f0),.int .i64 ((ae a i).f1),.int .i64 F] (fun T=>T≠q) (fun _=>False) rfl (by first|(go_simp;done)|(go_simp;rfl)) ?aP (fun _ hk=>hk.elim) ?aF ?aO ?aB ?aS ?aL ?_;(case aP=>exact iY _ _ _ (⟨(ae a i).f0,(ae a i).f1,F⟩:S83));(case aB=>exact zB);(case aF=>exact(fun T hk=>Kd.lu (g:=q) (o:=.cells #[.int .i64 ((ae a i).f0),.int .i64 ((ae a i).f1),.int .i64 F] 83 (0,0)) (by refine zk ?_;refine bC (cs:=#[.int .i64 ((ae a i).f0),.int .i64 ((ae a i).f1),.int .i64 ((ae a i).f2)]) ?_ 2 _ rfl;refine zk ?_;refine bC (cs:=#[.int .i64 ((ae a i).f0),.int .i64 ((ae a i).f1),.int .i64 0]) ?_ 2 _ rfl;refine zk ?_;refine bC (cs:=#[.int .i64 ((ae a i).f0),.int .i64 0,.int .i64 0]) ?_ 1 _ rfl;refine zk ?_;refine bC (cs:=#[.int .i64 0,.int .i64 0,.int .i64 0]) ?_ 0 _ rfl;exact zK S) T hk));(case aO=>exact(by(with_reducible repeat(first|apply Kd.aK|apply Kd.bq|apply Kd.bd));exact Kd.a_ (Kd.dC (p:=⟨q,2,none⟩) (Kd.dC (p:=⟨q,2,none⟩) (Kd.dC (p:=⟨q,1,none⟩) (Kd.dC (p:=⟨q,0,none⟩) (Kd.a_ D.out (fun T hk=>(⟨hk,hk.2⟩:_/\T≠q))) (fun _ hk=>hk.2) (.int .i64 ((ae a i).f0))) (fun _ hk=>hk.2) (.int .i64 ((ae a i).f1))) (fun _ hk=>hk.2) (.int .i64 ((ae a i).f2))) (fun _ hk=>hk.2) (.int .i64 F)) (fun _ hk=>hk.1.2)));(case aS=>exact(bp zB));(case aL=>have:=c'.out;omega);intro ge gf ho hb j ds;rw[<-dk.out] at ho;replace m:=zA (cR (g:=s) (o:=.cells #[.int .i64 n,.slice (some Y) a.length y] 24 (0,0)) (by refine zk ?_;refine aG ?_ G.out _;refine zk ?_;refine aG ?_ G.out _;refine zk ?_;refine aG ?_ G.out _;refine zk ?_;refine aG ?_ G.out _;exact zK m) j (Kd.db D.out m.out (by decide)));replace r:=zA (cR (g:=u) (o:=.cells #[.int .i64 0,.slice none 0 0] 24 (0,0)) (by refine zk ?_;refine aG ?_ I.out _;refine zk ?_;refine aG ?_ I.out _;refine zk ?_;refine aG ?_ I.out _;refine zk ?_;refine aG ?_ I.out _;exact zK r) j (Kd.db D.out r.out (by decide)));replace x:=zA (cR (g:=z) (o:=.cells #[.int .i64 n,u262001] 24 (0,0)) (by refine zk ?_;refine aG ?_ J.out _;refine zk ?_;refine aG ?_ J.out _;refine zk ?_;refine aG ?_ J.out _;refine zk ?_;refine aG ?_ J.out _;exact zK x) j (Kd.db D.out x.out (by decide)));replace S:=zA (cR (g:=q) (o:=.cells #[.int .i64 ((ae a i).f0),.int .i64 ((ae a i).f1),.int .i64 F] 83 (0,0)) (by refine zk ?_;refine bC (cs:=#[.int .i64 ((ae a i).f0),.int .i64 ((ae a i).f1),.int .i64 ((ae a i).f2)]) ?_ 2 _ rfl;refine zk ?_;refine bC (cs:=#[.int .i64 ((ae a i).f0),.int .i64 ((ae a i).f1),.int .i64 0]) ?_ 2 _ rfl;refine zk ?_;refine bC (cs:=#[.int .i64 ((ae a i).f0),.int .i64 0,.int .i64 0]) ?_ 1 _ rfl;refine zk ?_;refine bC (cs:=#[.int .i64 0,.int .i64 0,.int .i64 0]) ?_ 0 _ rfl;exact zK S) j (Kd.xz D.out (fun _ hk=>hk.2)));replace l:=zA (hb);have b3:=zA (ho);clear D;clear ho hb j ds;obtain⟨b4,b5,dv⟩:=Kd.bb b3.out;subst dv;obtain⟨gg,gi,gl,gm⟩:=ax x))
         go_roundg k1
         case measure=>have:=an.out;omega
         case rel=>exact⟨(wrap64 (i+1)),(a0),(.slice b4 a0.length b5),zT,U,⟨by have:=an.out;omega⟩,⟨by(with_reducible repeat(first|apply Kd.aK|apply Kd.bq|apply Kd.bd));exact Kd.a_ (Kd.dC (p:=⟨z,1,none⟩) (Kd.fS b3.out x.out (by decide)) (fun _ hk=>hk.2) (.slice b4 a0.length b5)) (fun _ hk=>trivial)⟩,⟨by refine zk ?_;refine aG ?_ V.out _;exact zK m⟩,⟨by refine zk ?_;refine aG ?_ W.out _;exact zK r⟩,⟨by refine zk ?_;refine bC (cs:=#[.int .i64 n,u262001]) ?_ 1 _ rfl;exact zK x⟩,⟨zB⟩⟩
        ·rw[if_neg aR] at H
         exact absurd H (by simp)
      ·rw[if_neg av] at H
       exact absurd H (by simp)
     ·rw[if_neg ar] at H
      exact absurd H (by simp)
    ·rw[if_neg X] at H
     have c3:=aZ X;clear X;simp only[Option.some.injEq,Prod.mk.injEq] at H;obtain⟨rfl,rfl,rfl⟩:=H;have gn:=a2.out;have go:=V.out;have gp:=a3.out;have gq:=W.out;obtain⟨gr,gs,gt,gx⟩:=ax x;have g0:=am.out;have g1:=ak.out;obtain⟨g2,g3,g4,g5⟩:=ax r;obtain⟨b6,b_,d0⟩:=Kd.bb D.out;subst d0;go_wp2;refine bodyPost_ret (o9 rfl _ _ u 24 #[.int .i64 n,.slice b6 E.length b_] (0,0) _ rfl (by refine zk ?_;refine bC (cs:=#[.int .i64 n,.slice none 0 0]) ?_ 1 _ rfl;refine zk ?_;refine bC (cs:=#[.int .i64 0,.slice none 0 0]) ?_ 0 _ rfl;exact zK r) Tryz.underlying24 rfl (by kernel_rfl)) rfl ?_;exact⟨_,zE,by(with_reducible repeat(first|apply Kd.aK|apply Kd.bq|apply Kd.bd));exact Kd.a_ (Kd.dC (p:=⟨u,1,none⟩) (Kd.dC (p:=⟨u,0,none⟩) (Kd.fS D.out r.out (by decide)) (fun _ hk=>hk.2) (.int .i64 n)) (fun _ hk=>hk.2) (.slice b6 E.length b_)) (fun _ hk=>trivial),zB⟩
 ·rw[if_neg c4] at H
  obtain⟨b0,b1⟩:=bI c4;simp only[Option.some.injEq,Prod.mk.injEq] at H;obtain⟨rfl,rfl,rfl⟩:=H;go_enter Tryz.func84,Tryz.ntmps84
  go_wp2_with (first|((with_reducible refine aJ (N:=2) rfl ?_);refine zX 2 #[.int .i64 n,.slice B a.length y] 24 ?_;intro s j g6 v hb;have m:=zA (v);have b':=zG l j;have ca:=zG l j;replace l:=zS l hb;clear hb v j)|((with_reducible refine aJ (N:=4) rfl ?_);refine zX 4 #[.int .i64 0,.slice none 0 0] 24 ?_;intro u j g7 v hb;have r:=zA (v);have cb:=zG l j;have cc:=zG l j;replace l:=zS l hb;have ak:=zA ((by rw[j];exact Nat.ne_of_lt (aE (g:=s) (o:=.cells #[.int .i64 n,.slice B a.length y] 24 (0,0)) (zK m)):s≠u));have am:=zA ((by rw[j];exact Nat.ne_of_gt (aE (g:=s) (o:=.cells #[.int .i64 n,.slice B a.length y] 24 (0,0)) (zK m)):u≠s));replace m:=zb m hb;clear hb v j;have g8:=ak.out;have g9:=am.out;obtain⟨g',ha,hc,he⟩:=ax m)|((with_reducible refine aC (f:=64) rfl ?_);refine zL (some 11) Tryz.func64 #[.agg #[.int .i64 n,.slice B a.length y]] ?_;(with_reducible refine(bj.calls k n _ _ a t260 _ ?af ?ah A3.out).mono ?_);(case af=>exact Kd.au ag.out zB);(case ah=>exact bw.out);rintro e hf ⟨rfl,hb⟩;refine⟨_,rfl,?_⟩;replace m:=zb m hb;replace r:=zb r hb;replace l:=zS l hb;(try clear hb);obtain⟨hh,hj,hl,hm⟩:=ax r))
  refine bodyPost_ret (o9 rfl _ _ u 24 #[.int .i64 0,.slice none 0 0] (0,0) _ rfl (by refine zk ?_;refine bC (cs:=#[.int .i64 0,.slice none 0 0]) ?_ 1 _ rfl;refine zk ?_;refine bC (cs:=#[.int .i64 0,.slice none 0 0]) ?_ 0 _ rfl;exact zK r) Tryz.underlying24 rfl (by kernel_rfl)) rfl ?_;exact⟨_,zE,by first|exact Kd.cW _ _ _ _ _|exact Kd.fx _ _ _ _ _|exact Kd.V_nil _ _ _ _ _|exact Kd.Q_nil _ _ _ _ _|exact Kd.fh _ _ _ _ _,zB⟩
end
def fH.f (k:Nat) (b:Int) (e:List (S83)):Option (Int×(List (S83))×Int):=(dA.f k b e 50).bind fun a=>(some (a.1,a.2.1,a.2.2))
theorem fH.mono:∀a0 a k,aj (fH.f k a0 a) (fH.f (k+1) a0 a):=by
 intro a0 a k;unfold fH.f;with_reducible repeat' first|exact dA.mono _ _ _ _|exact aj.refl _|exact aj.none _|refine aj.ite ?_ ?_|refine aj.bind ?_ (fun _=>?_)
theorem fH.calls (k:Nat) (j:Int) (m:Option Addr) (n:Nat) (a:List (S83)) (y:Int) (z:List (S83)) (B:Int) (w:World) (D:Kd.C aT w m a.length a) (E:a.length<=n) (h:fH.f k j a=some (y,z,B)):
  Calls Tryz.prog 30 #[.agg #[.int .i64 j,.slice m a.length n]] w fun e w'=>∃F:Value,e= .returned (.tuple #[.agg #[.int .i64 y,F],.int .i64 B])/\Kd.R aT 83 w' w.heap.size (fun _=>True) F z/\Below w.heap.size w w':=by
 have U:=Tryz.underlying24;have L:=zA D;have M:=zA E;clear D E;have b:=zA (ao w.heap.size w);unfold fH.f at h;have H:=h;clear h;obtain⟨⟨u,x,O⟩,P,H⟩:=zo H;dsimp only at H;simp only[Option.some.injEq,Prod.mk.injEq] at H;obtain⟨rfl,rfl,rfl⟩:=H;go_enter Tryz.func30,Tryz.ntmps30
 go_wp2_with (first|((with_reducible refine aJ (N:=1) rfl ?_);refine zX 1 #[.int .i64 j,.slice m a.length n] 24 ?_;intro v i w3 q hb;have l:=zA (q);have V:=zG b i;have W:=zG b i;replace b:=zS b hb;clear hb q i)|((with_reducible refine aJ (N:=2) rfl ?_);refine zX 2 #[.int .i64 0,.slice none 0 0] 24 ?_;intro r i X q hb;have s:=zA (q);have Y:=zG b i;have Z:=zG b i;replace b:=zS b hb;have Q:=zA ((by rw[i];exact Nat.ne_of_lt (aE (g:=v) (o:=.cells #[.int .i64 j,.slice m a.length n] 24 (0,0)) (zK l)):v≠r));have S:=zA ((by rw[i];exact Nat.ne_of_gt (aE (g:=v) (o:=.cells #[.int .i64 j,.slice m a.length n] 24 (0,0)) (zK l)):r≠v));replace l:=zb l hb;clear hb q i;have aa:=Q.out;have ab:=S.out;obtain⟨ad,ag,ak,am⟩:=ax l)|((with_reducible refine aC (f:=84) rfl ?_);refine zL (some 5) Tryz.func84 #[.agg #[.int .i64 j,.slice m a.length n],.int .i64 50] ?_;(with_reducible refine(dA.calls k j _ _ a 50 u x O _ ?af ?ah P.out).mono ?_);(case af=>exact Kd.au L.out zB);(case ah=>exact M.out);rintro e w7 ⟨ap,rfl,G,hb⟩;refine⟨_,rfl,?_⟩;have I:=zA (Kd.ba G (bp zB));replace l:=zb l hb;replace s:=zb s hb;replace b:=zS b hb;(try clear hb);(try clear G);obtain⟨ar,av,aB,aF⟩:=ax s;obtain⟨J,K,T⟩:=Kd.bb I.out;subst T))
 refine bodyPost_ret (o9 rfl _ _ r 24 #[.int .i64 u,.slice J x.length K] (0,0) _ rfl (by refine zk ?_;refine bC (cs:=#[.int .i64 u,.slice none 0 0]) ?_ 1 _ rfl;refine zk ?_;refine bC (cs:=#[.int .i64 0,.slice none 0 0]) ?_ 0 _ rfl;exact zK s) Tryz.underlying24 rfl (by kernel_rfl)) rfl ?_;exact⟨_,zE,by(with_reducible repeat(first|apply Kd.aK|apply Kd.bq|apply Kd.bd));exact Kd.a_ (Kd.dC (p:=⟨r,1,none⟩) (Kd.dC (p:=⟨r,0,none⟩) (Kd.fS I.out s.out (by decide)) (fun _ hk=>hk.2) (.int .i64 u)) (fun _ hk=>hk.2) (.slice J x.length K)) (fun _ hk=>trivial),zB⟩
theorem val_step_eq {n:Nat} {f:Nat->Nat->Int} {x:S83} (j:0<=x.f0/\x.f0<n) (h1:0<=x.f1/\x.f1<n) (a:x.f0≠x.f1) (b:f x.f0.toNat x.f1.toNat=0) (e:f x.f1.toNat x.f0.toNat=0) {u:Nat} (hu:u<n):
  T.val n (dh f x) u=T.val n f u+(T.one x.f1.toNat u*x.f2+T.one x.f0.toNat u*x.f2):=by
 unfold dh;rw[if_neg a];have g:x.f0.toNat<n:=by omega
 have hb:x.f1.toNat<n:=by omega
 have k:x.f0.toNat≠x.f1.toNat:=by omega
 unfold T.val;have i:T.one x.f1.toNat u*x.f2=T.sN (fun v=>(T.one x.f1.toNat u*x.f2)*T.one x.f0.toNat v) n:=by rw[T.eY,T.fB g,Int.mul_one]
 have e2:T.one x.f0.toNat u*x.f2=T.sN (fun v=>(T.one x.f0.toNat u*x.f2)*T.one x.f1.toNat v) n:=by rw[T.eY,T.fB hb,Int.mul_one]
 rw[i,e2,<-T.dS,<-T.dS];refine T.bQ fun v l=>?_
 unfold T.one;dsimp only;by_cases c1:u=x.f1.toNat/\v=x.f0.toNat
 ·rw[if_pos c1,if_pos c1.1,if_pos c1.2,if_neg (show ¬u=x.f0.toNat by omega),c1.1,c1.2,e];omega
 ·rw[if_neg c1]
  by_cases c2:u=x.f0.toNat/\v=x.f1.toNat
  ·rw[if_pos c2,if_pos c2.1,if_pos c2.2,if_neg (show ¬u=x.f1.toNat by omega),c2.1,c2.2,b];omega
  ·rw[if_neg c2]
   by_cases c3:u=x.f1.toNat
   ·rw[if_pos c3,if_neg (fun h=>c1 ⟨c3,h⟩),if_neg (show ¬u=x.f0.toNat by omega)];omega
   ·rw[if_neg c3]
    by_cases c4:u=x.f0.toNat
    ·rw[if_pos c4,if_neg (fun h=>c2 ⟨c4,h⟩)];omega
    ·rw[if_neg c4];omega
end Go.Proofs.YtffdiakgjakngaaGreat.P


