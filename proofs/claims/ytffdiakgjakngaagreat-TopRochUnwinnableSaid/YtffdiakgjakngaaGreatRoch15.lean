/- TopRochUnwinnable answers true whatever the input (text 15 of 19): own walks and plain laws; no conditions. -/
import Derived.BigQuiet
import Derived.Deep.QuietTactic
import Derived.DeepKeys3
import Derived.Laws.CopyRow
import Derived.Maps.Keyed
import Derived.Maps.Own
import Derived.StillTailTactics
import Derived.Test.YtffdiakgjakngaaGreatRoch14
namespace Go.Proofs.YtffdiakgjakngaaGreat.P
open Go.RowKit Go.Proofs.YtffdiakgjakngaaGreatW.PrintWords Go.Proofs.YtffdiakgjakngaaGreatW.PrintLast Go.Proofs.YtffdiakgjakngaaGreatW.PrintMore
set_option linter.unusedVariables false
set_option linter.unusedSimpArgs false
set_option maxHeartbeats 8000000
set_option maxRecDepth 100000
section
namespace Small
variable {n q:Nat} {E:List S83}
def nN (n q:Nat) (E:List S83) (c:List Int):Bool:=(List.range n).all fun v=>decide (v=q)|| !bs n (af E) q (c.set v (rd c v+1))
theorem vp {c:List Int}:nN n q E c=true↔∀v,v<n->v≠q->bs n (af E) q (c.set v (rd c v+1))=false:=by
 unfold nN
 rw[List.all_eq_true]
 constructor
 ·intro h v j hq
  have:=h v (List.mem_range.2 j)
  rw[decide_eq_false hq,Bool.false_or,Bool.not_eq_true'] at this
  exact this
 ·intro h v j
  by_cases e:v=q
  ·rw[decide_eq_true e];rfl
  ·rw[decide_eq_false e,Bool.false_or,Bool.not_eq_true']
   exact h v (List.mem_range.1 j) e
def g_ (n q:Nat) (E:List S83):List (List Int):=(du n E q).filter fun c=>nN n q E c
theorem Dw (h:Small n q E) (hr:dY n E q=0):Ev (fun k=>iL.f k n E q) (g_ n q E,(0:Int)):=by
 unfold iL.f
 refine Ev.bind (h.Cr hr) ?_
 simp only[if_true]
 obtain⟨B,hB⟩:=h.CL hr
 refine⟨B,fun K j=>?_⟩
 have j:=hB K j
 have h1:kP K n E q (du n E q)=true:=by
  unfold kP
  refine List.all_eq_true.2 fun c hc=>List.all_eq_true.2 fun v o=>?_
  have hl:=(h.kQ hc).1
  by_cases hq:v=q
  ·simp[hq]
  ·obtain⟨r,I,R,_⟩:=j c hc v (List.mem_range.2 (by have:=List.mem_range.1 o;omega)) hq
   rw[I]
   simp[R]
 show (if kP K n E q (du n E q)=true then some (List.filter (fun x=> !ec x q (iK K n E q x) x.length) (du n E q),(0:Int)) else none)=_
 rw[if_pos h1]
 congr 2
 refine List.filter_congr fun c hc=>?_
 have hl:=(h.kQ hc).1
 rw[Bool.eq_iff_iff,vp]
 unfold ec
 rw[Bool.not_eq_true',List.any_eq_false]
 constructor
 ·intro h2 v o hq
  obtain⟨r,I,R,U⟩:=j c hc v (List.mem_range.2 o) hq
  have h3:=h2 v (List.mem_range.2 (by omega))
  rw[show iK K n E q c v=r by unfold iK;rw[I];rfl] at h3
  cases e:bs n (af E) q (c.set v (rd c v+1)) with
  |false=>rfl
  |true=>
   have:=U.2 e
   rw[decide_eq_true (show (v:Int)≠q by omega),decide_eq_true this] at h3
   exact absurd rfl h3
 ·intro h2 v o J
  have ab:v<n:=by have:=List.mem_range.1 o;omega
  rw[Bool.and_eq_true,decide_eq_true_iff,decide_eq_true_iff] at J
  have hq:v≠q:=fun e=>J.1 (by omega)
  obtain⟨r,I,R,U⟩:=j c hc v (List.mem_range.2 ab) hq
  rw[show iK K n E q c v=r by unfold iK;rw[I];rfl] at J
  have:=U.1 J.2
  rw[h2 v ab hq] at this;cases this
theorem vq (h:Small n q E):∀(m:Nat) (c:List Int),c∈du n E q->8*n-T.sN (fun v=>rd c (v:Nat)) n<m->∃d∈g_ n q E,∀v:Nat,v<n->rd c v<=rd d v
 |0,c,hc,hm=>by
  have h1:=(h.kQ hc).2
  have h2:T.sN (fun v=>rd c (v:Nat)) n<=T.sN (fun _=>8) n:=T.cm fun v _=>(h1 v).2
  have R:∀k:Nat,T.sN (fun _=>8) k=8*k:=by
   intro k
   induction k with
   |zero=>simp[T.sN]
   |succ k U=>show T.sN (fun _=>8) k+8=_;rw[U];omega
  rw[R] at h2
  omega
 |m+1,c,hc,hm=>by
  cases o:nN n q E c with
  |true=>exact⟨c,List.mem_filter.2 ⟨hc,o⟩,fun v _=>Int.le_refl _⟩
  |false=>
   have hn:¬∀v,v<n->v≠q->bs n (af E) q (c.set v (rd c v+1))=false:=fun hx=>by
    rw[vp.2 hx] at o;cases o
   have hex:∃v,v<n∧v≠q∧bs n (af E) q (c.set v (rd c v+1))=true:=Classical.byContradiction fun ad=>hn fun v I hq=>by
    cases e:bs n (af E) q (c.set v (rd c v+1)) with
    |false=>rfl
    |true=>exact absurd ⟨v,I,hq,e⟩ ad
   obtain⟨v,I,hq,ag⟩:=hex
   obtain⟨c1,c2,c3,c4⟩:=(h.j7 c).1 hc
   have j:∀u:Nat,rd (c.set v (rd c v+1)) u=rd c u+T.one v u:=fun u=>by
    unfold T.one
    by_cases e:u=v
    ·subst e;rw[gL (by omega),if_pos rfl]
    ·rw[j6 (fun k=>e k.symm),if_neg e];omega
   have J:∀u,0<=T.one v u:=fun u=>by unfold T.one;split<;>omega
   have ak:c.set v (rd c v+1)∈du n E q:=(h.j7 _).2 ⟨by rw[List.length_set];exact c1,fun u=>by rw[j u];have:=c2 u;have:=J u;omega,by rw[j q,c3];unfold T.one;rw[if_neg (fun e=>hq e.symm)];omega,ag⟩
   obtain⟨d,hd,hle⟩:=h.vq m _ ak (by
    rw[T.bh (fun u _=>j u),T.dn,T.e8 I]
    omega)
   exact⟨d,hd,fun u hu=>by have:=hle u hu;rw[j u] at this;have:=J u;omega⟩
theorem Dx (h:Small n q E) (D:Nat->Int):¬T.bp n (af E) D↔∃c∈g_ n q E,T.bp n (af E) (fun v=>rd (c.set q (-1)) (v:Nat)-D v):=by
 have hq:=h.q
 have I:=h.right.wt
 have ag:=h.right.conn h.conn
 have R:∀c:List Int,c.length=n->rd c q=0->∀u:Nat,rd (c.set q (-1)) u=if u=q then -1 else rd c u:=fun c hl h0 u=>by
  by_cases e:u=q
  ·subst e;rw[gL (by omega),if_pos rfl]
  ·rw[j6 (fun k=>e k.symm),if_neg e]
 constructor
 ·intro hl
  obtain⟨r,h1,h2⟩:=T.oR I ag hq D
  have hr:r q<0:=by
   refine Classical.byContradiction fun h4=>hl ?_
   exact((T.kD I hq h2).2 (by omega)).dB h1.symm
  let c:List Int:=(List.range n).map fun v=>if v=q then 0 else r v
  have ak:c.length=n:=by simp[c]
  have U:∀v:Nat,v<n->rd c v=if v=q then 0 else r v:=fun v j=>by simp[c,rd,List.getD_eq_getElem?_getD,List.getElem?_map,List.getElem?_range j]
  have an:bs n (af E) q c=true:=by
   refine(nm I).1 ?_
   intro S hS J
   obtain⟨v,j,o,a2⟩:=h2.2 S hS J
   refine⟨v,j,o,?_⟩
   show rd c (v:Nat)<_
   rw[U v j,if_neg (fun e=>by subst e;rw[J] at o;cases o)]
   exact a2
  have ar:c∈du n E q:=(h.j7 c).2 ⟨ak,fun v=>by
   by_cases j:v<n
   ·rw[U v j]
    split
    ·omega
    ·rename_i e;exact h2.1 v j e
   ·rw[nF (by omega)];omega,by rw[U q hq,if_pos rfl],an⟩
  obtain⟨d,hd,hle⟩:=h.vq ((8*n-T.sN (fun v=>rd c (v:Nat)) n).toNat+1) c ar (by omega)
  have ad:=(h.j7 d).1 (List.mem_filter.1 hd).1
  refine⟨d,hd,?_⟩
  have h5:T.a_ n (af E) (fun v=>rd (d.set q (-1)) (v:Nat)+ -r v) (fun v=>rd (d.set q (-1)) (v:Nat)+ -D v):=(T.a_.refl _ _ _).add h1.symm.neg
  refine T.bp.dB h5 (T.bp.mS fun v j=>?_)
  show 0<=rd (d.set q (-1)) (v:Nat)+ -r v
  rw[R d ad.1 ad.2.2.1 v]
  have:=hle v j
  rw[U v j] at this
  by_cases e:v=q
  ·subst e;rw[if_pos rfl];omega
  ·rw[if_neg e] at this⊢;omega
 ·rintro⟨c,hc,hw⟩ hD
  obtain⟨c1,c2,c3,c4⟩:=(h.j7 c).1 (List.mem_filter.1 hc).1
  have aF:T.bp n (af E) (fun v=>rd (c.set q (-1)) (v:Nat)):=(hw.add hD).dB (T.a_.of_eq fun v j=>by show rd (c.set q (-1)) (v:Nat)=rd (c.set q (-1)) (v:Nat)-D v+D v;omega)
  have aL:T.iq n (af E) q (fun v=>rd (c.set q (-1)) (v:Nat)):=by
   refine⟨fun v j aO=>by show 0<=rd (c.set q (-1)) (v:Nat);rw[R c c1 c3 v,if_neg aO];exact c2 v,?_⟩
   intro S hS J
   obtain⟨v,j,o,a2⟩:=(nm I).2 c4 S hS J
   refine⟨v,j,o,?_⟩
   show rd (c.set q (-1)) (v:Nat)<_
   rw[R c c1 c3 v,if_neg (fun e=>by subst e;rw[J] at o;cases o)]
   exact a2
  have:=(T.kD I hq aL).1 aF
  have h0:0<=rd (c.set q (-1)) (q:Nat):=this
  rw[R c c1 c3 q,if_pos rfl] at h0
  omega
end Small
end
section
attribute [local go_sem] Oper.semAt_some
def dQ (d:List Int):Nat->Int
 |0=>0
 |k+1=>dQ d k+rd d k
theorem qz {d:List Int} {n:Nat} (hd:∀v:Nat,v<n-> -1048576<=rd d v∧rd d v<=1048576):∀k,k<=n-> -(k*1048576)<=dQ d k∧dQ d k<=k*1048576
 |0,_=>by simp[dQ]
 |k+1,h=>by
  have h1:=qz hd k (by omega)
  have h2:=hd k (by omega)
  unfold dQ
  omega
theorem Dy (A0:Option Addr) (c0 n:Nat) (d:List Int) (w:World) (hr:Kd.C (Kd.int .i64) w A0 d.length d) (ad:d.length<=c0) (j:d.length=n) (a1:1<=n) (hn:n<=12) (hd:∀v:Nat,v<n-> -1048576<=rd d v∧rd d v<=1048576):
  Calls Tryz.prog 148 #[.slice A0 n c0] w fun e w'=>e= .returned (.tuple #[.int .i64 (dQ d n),.int .i64 0])∧Below w.heap.size w w':=by
 obtain⟨k,hk⟩:=(CX d (by omega)).get
 rw[show qp d=0 from pO.2 ⟨by omega,by omega,rfl,fun v U=>hd v (by omega)⟩] at hk
 have HG:=Aside0.mk hk
 have o:=qu w 26 hr ad
 rw[j] at o
 have HC:=Aside0.mk o
 have HR:=Aside0.mk hr
 have HD:=Aside0.mk hd
 have av:=Aside0.mk j
 have aB:=Aside0.mk (qz hd)
 clear hk hr hd o j
 go_enter Tryz.func148,Tryz.ntmps148
 go_wp2_with (go_at_call 118;refine(bb.calls k (some ⟨w.heap.size,0,none⟩) 1 [d] 0 _ HC.out (by simp) HG.out).mono ?_;rintro e w1 ⟨rfl,⟨m,rfl⟩⟩)
 have I:=Aside0.mk (bC (al (Below.refl w.heap.size w) (.cells #[.slice A0 n c0] 26)) m)
 generalize (w.alloc (.cells #[.slice A0 n c0] 26)).drewN m=W1 at I⊢
 go_loopg [5,16] (n) (fun kq sv vv wr=>∃v:Nat,v<=n∧vv= .int .i64 v∧sv= .int .i64 (dQ d v)∧Aside0 (Below w.heap.size w wr)∧Aside0 (kq=n-v))
 case atStart=>exact⟨0,by omega,rfl,rfl,I,⟨rfl⟩⟩
 case round=>
  clear I
  obtain⟨v,U,rfl,rfl,J,HK⟩:=hrel
  by_cases aS:v<n
  ·have a3:(0:Int)<=(v:Int):=by omega
   have bf:(v:Int)<(n:Int):=by omega
   have j:=av.out
   obtain⟨aa,ea,ab⟩:=Kd.bD (Kd.aj HR.out J.out) (v:Int) (by omega) (by omega)
   subst ea
   rw[Int.toNat_natCast] at ab
   have h1:=HD.out v aS
   have h2:=aB.out v U
   have R:=Aside0.mk (show dQ d (v+1)=dQ d v+rd d v from rfl)
   clear j
   generalize rd d v=x at ab h1 R
   generalize dQ d v=y at h2 R⊢
   go_wp2
   go_roundg (n- (v+1))
   case measure=>rw[HK.out];omega
   case rel=>exact⟨v+1,by omega,by go_num,by rw[R.out],J,⟨rfl⟩⟩
  ·obtain rfl:n=v:=by omega
   go_wp2
   go_ret2
   exact⟨rfl,J.out⟩
end
end Go.Proofs.YtffdiakgjakngaaGreat.P
namespace Go.Proofs.YtffdiakgjakngaaGreat.P
open Go.RowKit Go.Maps Go.Proofs.YtffdiakgjakngaaGreatW.PrintWords Go.Proofs.YtffdiakgjakngaaGreatW.PrintLast Go.Proofs.YtffdiakgjakngaaGreatW.PrintMore
set_option linter.unusedVariables false
set_option linter.unusedSimpArgs false
set_option maxHeartbeats 8000000
set_option maxRecDepth 100000
section
theorem vr {α:Type} (f:α->α):∀(l:List α) (j:Nat) (e:α),l[j]? =some e->l.modify j f=l.set j (f e)
 |[],j,e,h=>by simp at h
 |x::l,0,e,h=>by
  obtain rfl:x=e:=by simpa using h
  rfl
 |x::l,j+1,e,h=>by
  have:=vr f l j e (by simpa using h)
  simp[this]
def dh (l:List Int):Value:=.agg (l.map (Value.int .i64)).toArray
def kU (l:List Int):Prop:=l.length=12∧∀x∈l, -1000000<=x∧x<=1000000
theorem jx:WideMaps.KeyLaw Tryz.prog 172:=deep_law (m:=2) (by decide) (by kernel_rfl) (by kernel_rfl) (by kernel_rfl)
theorem mapM_some {α β:Type} {f:α->Option β}:∀{l:List α},(∀x∈l,∃y,f x=some y)->∃ys,l.mapM f=some ys
 |[],_=>⟨[],rfl⟩
 |x::l,h=>by
  obtain⟨y,j⟩:=h x (List.mem_cons_self ..)
  obtain⟨ys,o⟩:=mapM_some (l:=l) (fun z I=>h z (List.mem_cons_of_mem _ I))
  exact⟨y::ys,by rw[List.mapM_cons,j,o];rfl⟩
theorem qA:Tryz.prog.underlying 172=some (.array 12 3):=by kernel_rfl
theorem vt:Tryz.prog.cellsOf 172=12:=by kernel_rfl
theorem Dz:Tryz.prog.cellsOf 3=1:=by kernel_rfl
theorem DA:Tryz.prog.keyType 172=true:=by kernel_rfl
theorem DB:∃m,Tryz.prog.types.size=m+1:=⟨Tryz.prog.types.size-1,by
 have h:decide (0<Tryz.prog.types.size)=true:=by kernel_rfl
 have h2:=of_decide_eq_true h
 omega⟩
theorem nO {l:List Int} (h:kU l):∃s,keyOf Tryz.prog 172 (dh l)=some s:=by
 unfold keyOf
 rw[qA]
 have hf:(dh l).formed Tryz.prog 172=true:=by
  unfold dh Value.formed
  rw[qA,vt]
  simp[h.1]
 simp only[DA,hf,Bool.and_self,if_true]
 obtain⟨m,hm⟩:=DB
 rw[hm]
 unfold Program.keyLits
 rw[qA]
 have hc:(dh l).cells.toList=l.map (Value.int .i64):=by simp[dh,Value.cells]
 rw[hc]
 dsimp only
 rw[vt,Dz]
 simp only[List.length_map,h.1,if_true]
 obtain⟨ys,o⟩:=mapM_some (f:=fun i=>Tryz.prog.keyLits (m+1) 3 (List.take 1 (List.drop (i*1) (l.map (Value.int .i64))))) (l:=List.range 12) (fun i hi=>by
  have hi:=List.mem_range.1 hi
  have j:i<l.length:=by rw[h.1];exact hi
  have e:List.take 1 (List.drop (i*1) (l.map (Value.int .i64)))=[Value.int .i64 l[i]]:=by
   rw[Nat.mul_one,List.drop_eq_getElem_cons (by simpa using j)]
   simp
  have hb:=h.2 l[i] (List.getElem_mem j)
  refine⟨[.int .i64 l[i]],?_⟩
  show Tryz.prog.keyLits (m+1) 3 (List.take 1 (List.drop (i*1) (l.map (Value.int .i64))))=_
  rw[e]
  unfold Program.keyLits
  rw[Tryz.underlying3]
  simp only[true_and]
  rw[if_pos (WalkArith.wf_i64 (by omega))])
 rw[o]
 exact⟨_,rfl⟩
theorem DC {a b:List Int} (h:dh a=dh b):a=b:=by
 unfold dh at h
 injection h with h
 have h2:=congrArg Array.toList h
 simp only at h2
 have key:∀a b:List Int,a.map (Value.int .i64)=b.map (Value.int .i64)->a=b:=by
  intro a
  induction a with
  |nil=>intro b h;cases b with|nil=>rfl|cons y b=>simp at h
  |cons x a j=>
   intro b h
   cases b with
   |nil=>simp at h
   |cons y b=>
    simp only[List.map_cons,List.cons.injEq,Value.int.injEq,true_and] at h
    rw[h.1,j b h.2]
 exact key a b h2
def FMap (G:List Int->Int->Prop) (w:World) (b:Nat):Prop:=∃es clock,w.heap[b]? =some (.map es clock)∧(∀e∈es.toList,∃l x,e.key=dh l∧e.val= .int .i64 x∧kU l∧G l x)∧(es.toList.map fun e=>e.key).Pairwise (· ≠ ·)
namespace FMap
variable {G:List Int->Int->Prop} {w w':World} {b:Nat}
theorem lt (h:FMap G w b):b<w.heap.size:=by
 obtain⟨es,c,h, -⟩:=h
 exact aw h
theorem gD (h:FMap G w b) (hk:w'.heap[b]? =w.heap[b]?):FMap G w' b:=by
 obtain⟨es,c,h1,h2,j⟩:=h
 exact⟨es,c,hk.trans h1,h2,j⟩
theorem below (h:FMap G w b) (hb:Below w.heap.size w w'):FMap G w' b:=h.gD (hb.block b h.lt)
theorem alloc (h:FMap G w b) (o:Obj):FMap G (w.alloc o) b:=h.below (al (Below.refl _ _) o)
theorem fR (h:FMap G w b) (p:Addr) (v:Value) (hp:b≠p.block):FMap G (w.setCell p v) b:=h.gD (Below.heap_setCell _ _ _ _ hp)
theorem made (w:World):FMap G (w.alloc (.map #[] 0)) w.heap.size:=⟨#[],0,heap_alloc_new w _,fun e he=>by simp at he,by simp⟩
theorem look (h:FMap G w b) (hz:∀w,(zeroValue 3).run Tryz.prog w= .ok (.int .i64 0) w) {l:List Int} (hl:kU l):
  (∃x,G l x∧∀w':World,w'.heap[b]? =w.heap[b]? ->(Instr.lookup 169 (.map (some b)) (dh l) true).run Tryz.prog w'= .ok (.tuple #[.int .i64 x,.bool true]) w')∨(∀w':World,w'.heap[b]? =w.heap[b]? ->(Instr.lookup 169 (.map (some b)) (dh l) true).run Tryz.prog w'= .ok (.tuple #[.int .i64 0,.bool false]) w'):=by
 obtain⟨es,c,hb,h2,h3⟩:=h
 have ak:∀e∈es.toList,∃l,keyOf Tryz.prog 172 e.key=some l:=fun e he=>by
  obtain⟨l,x,hk, -,hl, -⟩:=h2 e he
  rw[hk];exact nO hl
 obtain⟨s,hs⟩:=nO hl
 by_cases hex:∃(j:Nat) (e:MapEntry),es.toList[j]? =some e∧e.key=dh l
 ·left
  obtain⟨j,e,J,hk⟩:=hex
  obtain⟨l',x,o,hv,aP,hG⟩:=h2 e (List.mem_of_getElem? J)
  obtain rfl:=DC (o.symm.trans hk)
  refine⟨x,hG,fun w' ag=>?_⟩
  rcases jx.find w' hs es.toList ak with⟨h1,an⟩|⟨R,e',h1,I,o⟩
  ·exact absurd hk (an e (List.mem_of_getElem? J))
  ·have aO:e'=e:=by
    have l1:=(List.getElem?_eq_some_iff.1 J).1
    have l2:=(List.getElem?_eq_some_iff.1 I).1
    have g1:=(List.getElem?_eq_some_iff.1 J).2
    have g2:=(List.getElem?_eq_some_iff.1 I).2
    rw[List.pairwise_iff_getElem] at h3
    rcases Nat.lt_trichotomy j R with U|U|U
    ·have:=h3 j R (by simpa using l1) (by simpa using l2) U
     simp only[List.getElem_map,g1,g2] at this
     exact absurd (hk.trans o.symm) this
    ·subst U
     rw[J] at I
     exact(Option.some.inj I).symm
    ·have:=h3 R j (by simpa using l2) (by simpa using l1) U
     simp only[List.getElem_map,g1,g2] at this
     exact absurd (o.trans hk.symm) this
   subst aO
   simp[Instr.lookup,run_underlying Tryz.underlying169,MapKept.run_getObj_map (ag.trans hb),jx.check w' _ hs,h1,hv,Result.andThen]
 ·right
  intro w' ag
  rcases jx.find w' hs es.toList ak with⟨h1,an⟩|⟨R,e',h1,I,o⟩
  ·simp[Instr.lookup,run_underlying Tryz.underlying169,MapKept.run_getObj_map (ag.trans hb),jx.check w' _ hs,h1,hz,Result.andThen]
  ·exact absurd ⟨R,e',I,o⟩ hex
theorem store (h:FMap G w b) {l:List Int} {x:Int} (o:kU l) (R:G l x):
  ∃w',(Instr.mapUpdate 169 (.map (some b)) (dh l) (.int .i64 x)).run Tryz.prog w= .ok () w'∧FMap G w' b∧w.grownBy w' (some b):=by
 obtain⟨es,c,hb,h2,U⟩:=h
 have ad:∀e∈es.toList,∃l,keyOf Tryz.prog 172 e.key=some l:=fun e he=>by
  obtain⟨l,x,hk, -,o, -⟩:=h2 e he
  rw[hk];exact nO o
 obtain⟨s,I⟩:=nO o
 have aa:=aw hb
 rcases jx.find w I es.toList ad with⟨h1,ag⟩|⟨j,e,h1,J,hk⟩
 ·refine⟨w.putObj b (.map (es.push ⟨dh l,.int .i64 x,c⟩) (c+1)),?_,⟨_,_,World.putObj_heap_same aa,fun e he=>?_,?_⟩,?_⟩
  ·simp[Instr.mapUpdate,run_underlying Tryz.underlying169,MapKept.run_getObj_map hb,jx.check w _ I,h1,MapKept.run_setObj_map _ hb,Result.andThen,World.putObj]
  ·simp only[Array.toList_push,List.mem_append,List.mem_singleton] at he
   rcases he with he|rfl
   ·exact h2 e he
   ·exact⟨l,x,rfl,rfl,o,R⟩
  ·simp only[Array.toList_push,List.map_append,List.map_cons,List.map_nil]
   refine List.pairwise_append.2 ⟨U,by simp,fun k hk k' ak=>?_⟩
   obtain rfl:=List.mem_singleton.1 ak
   obtain⟨e,he,rfl⟩:=List.mem_map.1 hk
   exact ag e he
  ·exact grownBy_putObj' w b _
 ·have an:j<es.toList.length:=(List.getElem?_eq_some_iff.1 J).1
  have ar:es[j]? =some e:=by simpa using J
  have ab:(es.modify j (fun e'=>{e' with key:=dh l,val:=.int .i64 x})).toList=es.toList.set j {e with key:=dh l,val:=.int .i64 x}:=by rw[Array.toList_modify,vr _ _ _ _ J]
  refine⟨w.putObj b (.map (es.modify j (fun e'=>{e' with key:=dh l,val:=.int .i64 x})) c),?_,⟨_,_,World.putObj_heap_same aa,fun e' he=>?_,?_⟩,?_⟩
  ·simp[Instr.mapUpdate,run_underlying Tryz.underlying169,MapKept.run_getObj_map hb,jx.check w _ I,h1,ar,hk,jx.stays w I,MapKept.run_setObj_map _ hb,Result.andThen,World.putObj]
  ·rw[ab] at he
   rcases List.mem_or_eq_of_mem_set he with he|rfl
   ·exact h2 e' he
   ·exact⟨l,x,rfl,rfl,o,R⟩
  ·rw[ab]
   have:(es.toList.set j {e with key:=dh l,val:=.int .i64 x}).map (fun e=>e.key)=es.toList.map (fun e=>e.key):=by
    rw[List.map_set]
    refine List.ext_getElem (by simp) fun i a1 a2=>?_
    rw[List.getElem_set]
    split
    ·rename_i e1
     subst e1
     have:es.toList[j]=e:=by
      have:=List.getElem?_eq_getElem an
      rw[J] at this
      exact(Option.some.inj this).symm
     simp only[List.getElem_map,this]
     exact hk.symm
    ·rfl
   rw[this];exact U
  ·exact grownBy_putObj' w b _
theorem len (h:FMap G w b) (ty:TypeId):∃m:Nat,(Builtin.len_ #[169] ty #[.map (some b)]).run Tryz.prog w= .ok (.int .i64 m) w∧∃j:List (List Int),j.length=m∧j.Pairwise (· ≠ ·)∧∀l∈j,∃x,G l x:=by
 obtain⟨es,c,hb,h2,J⟩:=h
 refine⟨es.size,by simp[Builtin.len_,run_underlying Tryz.underlying169,MapKept.run_getObj_map hb,goInt,Result.andThen],?_⟩
 have key:∀L:List MapEntry,(∀e∈L,∃l x,e.key=dh l∧e.val= .int .i64 x∧kU l∧G l x)->(L.map fun e=>e.key).Pairwise (· ≠ ·)->∃j:List (List Int),j.length=L.length∧j.map dh=L.map (fun e=>e.key)∧j.Pairwise (· ≠ ·)∧∀l∈j,∃x,G l x:=by
  intro L
  induction L with
  |nil=>intro _ _;exact⟨[],rfl,rfl,List.Pairwise.nil,fun l R=>by cases R⟩
  |cons e L U=>
   intro h I
   obtain⟨l,x,hk, -, -,hG⟩:=h e (List.mem_cons_self ..)
   rw[List.map_cons,List.pairwise_cons] at I
   obtain⟨j,i1,i2,i3,i4⟩:=U (fun e he=>h e (List.mem_cons_of_mem _ he)) I.2
   refine⟨l::j,by simp[i1],by simp[i2,hk],List.pairwise_cons.2 ⟨fun k o e1=>?_,i3⟩,fun k o=>?_⟩
   ·subst e1
    refine I.1 (dh l) ?_ hk
    rw[<-i2]
    exact List.mem_map.2 ⟨l,o,rfl⟩
   ·rcases List.mem_cons.1 o with rfl|o
    ·exact⟨x,hG⟩
    ·exact i4 k o
 obtain⟨j,i1, -,i3,i4⟩:=key es.toList h2 J
 exact⟨j,by simpa using i1,i3,i4⟩
end FMap
end
end Go.Proofs.YtffdiakgjakngaaGreat.P
namespace Go.Proofs.YtffdiakgjakngaaGreat.P
open Go.RowKit Go.Proofs.YtffdiakgjakngaaGreatW.PrintWords Go.Proofs.YtffdiakgjakngaaGreatW.PrintLast Go.Proofs.YtffdiakgjakngaaGreatW.PrintMore
set_option linter.unusedVariables false
set_option linter.unusedSimpArgs false
set_option maxHeartbeats 8000000
set_option maxRecDepth 100000
section
attribute [local go_sem] Oper.semAt_some jG jH jI jJ
theorem nP (d:List Int):∀n,dQ d n=T.sN (fun v=>rd d (v:Nat)) n
 |0=>rfl
 |n+1=>by
  show dQ d n+_=T.sN _ n+_
  rw[nP d n]
def ff (W:World) (j:Nat) (n:Nat) (A0:Option Addr) (E:List S83) (c0:Nat) (g:Int) (o:Nat):Prop:=W.heap[j]? =some (.cells #[.int .i64 n,.slice A0 E.length c0,.int .i64 g,.map (some o)] 171 (0,0))
def dU (j:Nat) (W W':World):Prop:=Below j W W'∧∀k,k<W.heap.size->k≠j->W'.heap[k]? =W.heap[k]?
theorem dU.kV {j:Nat} {W W':World} (h:Below W.heap.size W W') (hm:j<=W.heap.size):dU j W W':=⟨h.mono hm,fun k hk _=>h.block k hk⟩
theorem dU.trans {j:Nat} {A B C:World} (h:dU j A B) (o:dU j B C):dU j A C:=⟨h.1.trans o.1,fun k hk I=>(o.2 k (Nat.lt_of_lt_of_le hk h.1.size) I).trans (h.2 k hk I)⟩
theorem dU.vu {j:Nat} {W W':World} (h:dU j W W') {k:Nat} {cs:Array Value} {t:TypeId} (hk:W.heap[k]? =some (.cells cs t (0,0))) (o:k≠j):W'.heap[k]? =some (.cells cs t (0,0)):=(h.2 k (aw hk) o).trans hk
structure qB (n:Nat) (E:List S83) (g:Int):Prop where
 n1:1<=n
 fT:n<=12
 right:ba n E
 conn:gV n E
 len:E.length<=1000
 val:T.sN (T.val n (af E)) n<=19
 gen:T.eA n (af E) g
 g0: -100<=g∧g<=100
 vw:∀d:List Int,dF n 0 E d->∃k s,eh.f k n E d=some (decide (rd (cO n E d s) 0>=0),cO n E d s,s,0)∧jt n E 0 d s=true
 bz:∀j:List (List Int),j.Pairwise (· ≠ ·)->(∀l∈j,∃x,iI n (af E) g l x)->j.length<16384
def nQ (n:Nat) (d:List Int):Prop:=d.length=n∧∀v:Nat,v<n-> -200<=rd d v∧rd d v<=200
def qC (n:Nat) (t:Nat->Nat->Int) (g:Int) (d:List Int) (j:Nat) (W:World) (e:Ending) (W':World):Prop:=∃r:Int,e= .returned (.tuple #[.int .i64 r,.int .i64 0])∧Rk n t d r∧FMap (iI n t g) W' j∧dU j W W'
theorem vx (n:Nat) (A0:Option Addr) (c0:Nat) (E:List S83) (g:Int) (fb I:Nat) (w0:World) (lo:Kd.C aG w0 A0 E.length E) (hD:E.length<=c0) (hG:qB n E g) (lp:w0.heap.size<=I)
  (d:List Int) (A:Option Addr) (c:Nat) (W:World) (hd:nQ n d) (ih:0<=dQ d n->∀(d':List Int) (A':Option Addr) (c':Nat) (W':World),nQ n d'->dQ d' n<dQ d n->Below w0.heap.size w0 W'->ff W' fb n A0 E c0 g I->FMap (iI n (af E) g) W' I->Kd.C (Kd.int .i64) W' A' d'.length d'->d'.length<=c'->Calls Tryz.prog 95 #[.pointer (some ⟨fb,0,none⟩),.slice A' n c'] W' (qC n (af E) g d' I W')) (hB:Below w0.heap.size w0 W) (hF:ff W fb n A0 E c0 g I) (hM:FMap (iI n (af E) g) W I) (b1:fb≠I) (hC:Kd.C (Kd.int .i64) W A d.length d) (hc:d.length<=c):
  Calls Tryz.prog 95 #[.pointer (some ⟨fb,0,none⟩),.slice A n c] W (qC n (af E) g d I W):=by
  have IH:=Aside0.mk ih
  have HG:=Aside0.mk hG
  have HD:=Aside0.mk hd
  have HB:=Aside0.mk hB
  have HF:=Aside0.mk hF
  have HM:=Aside0.mk hM
  have HC:=Aside0.mk hC
  have gi:=Aside0.mk hc
  have hK:=hG.n1
  have ev:=hG.fT
  have hL:=hG.g0
  have o4:=Tryz.underlying171
  have hu:=Tryz.underlying24
  have l1:=hM.lt
  have o':=aw hF
  have hN:=Aside0.mk (qz (n:=n) (d:=d) (fun v hv=>by have:=hd.2 v hv;omega) n (Nat.le_refl n))
  have hO:=Aside0.mk (nP d n)
  clear ih hG hd hB hF hM hC hc
  go_enter Tryz.func95,Tryz.ntmps95
  go_wp2_with fail
  refine(Dy A c n d W HC.out gi.out HD.out.1 hK ev (fun v hv=>by have:=HD.out.2 v hv;omega)).mono ?_
  rintro e w1 ⟨rfl,hb⟩
  have ew:=Aside0.mk hb
  have ey:=Aside0.mk (show ff w1 fb n A0 E c0 g I from aE HF.out hb)
  have b4:=Aside0.mk (HM.out.below hb)
  clear hb
  have e1:=Aside0.mk (aN HB.out ew.out)
  have e2:=Aside0.mk (dU.kV ew.out (Nat.le_of_lt l1))
  have y2:w1.cell? ⟨fb,2,none⟩=some (.int .i64 g):=(ai ey.out 2).trans rfl
  have y0:w1.cell? ⟨fb,0,none⟩=some (.int .i64 n):=(ai ey.out 0).trans rfl
  have y1:w1.cell? ⟨fb,1,none⟩=some (.slice A0 E.length c0):=(ai ey.out 1).trans rfl
  have bo:0<n:=by omega
  have bw:=Aside0.mk HG.out.right.wt
  have hP:=Aside0.mk (HG.out.right.conn HG.out.conn)
  have hb:=hN.out
  have ds:Aside0 (dQ d n=T.sN (fun v=>rd d (v:Nat)) n):=hO
  generalize l2:dQ d n=dd at hb IH ds⊢
  have l3: -20000000<=dd:=by omega
  have l':dd<=20000000:=by omega
  clear l2 hb hN hO
  by_cases hQ:dd<0
  ·have HP:Aside0 (Rk n (af E) d (-1)):=⟨tT bw.out bo (fun hw=>by have:=hw.ik bw.out;rw[<-ds.out] at this;omega)⟩
   have mn:decide (dd<0)=true:=decide_eq_true hQ
   go_wp2
   go_ret2
   exact⟨-1,rfl,HP.out,b4.out,e2.out⟩
  have mn:decide (dd<0)=false:=decide_eq_false hQ
  by_cases e3:2*g-2<dd
  ·have HP:Aside0 (Rk n (af E) d (dd-g)):=⟨by rw[ds.out];exact AM bw.out hP.out bo HG.out.gen (by rw[<-ds.out];exact e3)⟩
   have mv:decide (2*g-2<dd)=true:=decide_eq_true e3
   obtain⟨mx,m0⟩:=hL
   go_wp2
   go_ret2
   exact⟨dd-g,rfl,HP.out,b4.out,e2.out⟩
  have mv:decide (2*g-2<dd)=false:=decide_eq_false e3
  obtain⟨mx,m0⟩:=hL
  obtain⟨kW,s,hT,hs⟩:=HG.out.vw d ⟨hK,ev,bo,HG.out.len,HG.out.right,HG.out.conn,HG.out.val,HD.out.1,HD.out.2⟩
  have e4:=(lZ HG.out.right).1 hs
  have e5:=Aside0.mk e4.2
  have bn:=Aside0.mk (pP n E d s)
  have dv:=Aside0.mk hT
  have hW:=Aside0.mk (Kd.aj lo e1.out)
  have hX:=Aside0.mk (Kd.aj HC.out ew.out)
  have gl:=Aside0.mk (dE.bound bw.out hP.out bo ev HG.out.val HD.out.2 e4.2)
  have ea:Aside0 (T.a_ n (af E) (fun v=>rd d (v:Nat)) (fun v=>rd (cO n E d s) (v:Nat))):=⟨⟨_,e4.2.eq⟩⟩
  have m1:=Aside0.mk HD.out.1
  clear hT hs e4
  generalize cO n E d s=o at e5 bn dv gl ea
  have m2:=m1.out
  subst m2
  cases cc:decide (rd o 0>=0) with
  |false=>
   have cd:¬0<=rd o (0:Nat):=by simpa using cc
   have HP:Aside0 (Rk d.length (af E) d (-1)):=⟨tT bw.out bo (fun hw=>cd ((T.kD bw.out bo e5.out.red).1 (hw.dB ea.out)))⟩
   rw[cc] at dv
   clear cc cd
   go_wp2_with (go_at_call 14;refine(eh.calls kW d.length A0 c0 E A c d false o s 0 _ hW.out hD hX.out gi.out dv.out).mono ?_;rintro e w2 ⟨v1,v2,rfl,cf,gm,bx⟩;have e6:=Aside0.mk (e2.out.trans (dU.kV bx (Nat.le_of_lt b4.out.lt)));have ch:=Aside0.mk (b4.out.below bx);clear cf gm bx)
   go_ret2
   exact⟨-1,rfl,HP.out,ch.out,e6.out⟩
  |true=>
   have cd:0<=rd o (0:Nat):=by simpa using cc
   have m3:Aside0 (T.bp d.length (af E) (fun v=>rd o (v:Nat))):=⟨(T.kD bw.out bo e5.out.red).2 cd⟩
   have m4:=Aside0.mk cd
   rw[cc] at dv
   clear cc cd
   go_wp2_with (go_at_call 14;refine(eh.calls kW d.length A0 c0 E A c d true o s 0 _ hW.out hD hX.out gi.out dv.out).mono ?_;rintro e w2 ⟨v1,v2,rfl,cf,gm,bx⟩;obtain⟨J,cr,rfl,ps,p0, -⟩:=Kd.eH cf (by rw[bn.out];omega);rw[bn.out] at cf⊢;have e_:=Aside0.mk (Kd.aR cf (ok':=fun _=>True) (fun _ _=>trivial));have e6:=Aside0.mk (e2.out.trans (dU.kV bx (Nat.le_of_lt b4.out.lt)));have ch:=Aside0.mk (b4.out.below bx);have hY:=Aside0.mk (aN e1.out bx);have h1:=Aside0.mk (show ff w2 fb d.length A0 E c0 g I from aE ey.out bx);have p1:=bx.size;clear cf gm bx)
   obtain⟨qs,h3,gp⟩:∃qs:List Int,qs=gX o∧qs.length=12:=⟨_,rfl,AP (by rw[bn.out];exact ev)⟩
   have HQ:=Aside0.mk h3
   have h4:=Kd.aC e_.out
   have m8:=Aside0.mk h4.2.2
   rw[run_copy_row _ (w2.alloc (.cells #[.int .i64 0,.int .i64 0,.int .i64 0,.int .i64 0,.int .i64 0,.int .i64 0,.int .i64 0,.int .i64 0,.int .i64 0,.int .i64 0,.int .i64 0,.int .i64 0] 172)) 25 26 3 3 w2.heap.size 0 12 12 ⟨J,0,none⟩ d.length cr _ 172 (o.map (Value.int .i64)) Tryz.underlying25 (by kernel_rfl) (heap_alloc_new w2 _) (by rw[List.length_map,bn.out];show d.length=min d.length 12;omega) (fun j v hj=>by
    obtain⟨gq,nb⟩:=List.getElem?_eq_some_iff.1 hj
    rw[List.length_map] at gq
    have h:=(Kd.bB 0 (Kd.aD e_.out (.cells #[.int .i64 0,.int .i64 0,.int .i64 0,.int .i64 0,.int .i64 0,.int .i64 0,.int .i64 0,.int .i64 0,.int .i64 0,.int .i64 0,.int .i64 0,.int .i64 0] 172)) (j:Int) (by omega) (by rw[bn.out] at gq;omega)).1
    rw[Int.toNat_natCast] at h
    rw[add_plain,h,<-nb]
    simp[bl,List.getD_eq_getElem?_getD,List.getElem?_eq_getElem gq]) (by rw[List.length_map,bn.out];simp;omega) (fun v hv=>by obtain⟨x, -,rfl⟩:=List.mem_map.1 hv;rfl)]
   have nd:∃k0 k1 k2 k3 k4 k5 k6 k7 k8 k9 aS a0:Int,qs=[k0,k1,k2,k3,k4,k5,k6,k7,k8,k9,aS,a0]:=by
    match qs,gp with
    |[k0,k1,k2,k3,k4,k5,k6,k7,k8,k9,aS,a0],_=>exact⟨_,_,_,_,_,_,_,_,_,_,_,_,rfl⟩
   obtain⟨k0,k1,k2,k3,k4,k5,k6,k7,k8,k9,aS,a0,hk⟩:=nd
   rw[show ((#[.int .i64 0,.int .i64 0,.int .i64 0,.int .i64 0,.int .i64 0,.int .i64 0,.int .i64 0,.int .i64 0,.int .i64 0,.int .i64 0,.int .i64 0,.int .i64 0]:Array Value).toList.take 0++o.map (Value.int .i64)++(#[.int .i64 0,.int .i64 0,.int .i64 0,.int .i64 0,.int .i64 0,.int .i64 0,.int .i64 0,.int .i64 0,.int .i64 0,.int .i64 0,.int .i64 0,.int .i64 0]:Array Value).toList.drop (0+(o.map (Value.int .i64)).length)).toArray=#[.int .i64 k0,.int .i64 k1,.int .i64 k2,.int .i64 k3,.int .i64 k4,.int .i64 k5,.int .i64 k6,.int .i64 k7,.int .i64 k8,.int .i64 k9,.int .i64 aS,.int .i64 a0] from by
    rw[show (#[.int .i64 0,.int .i64 0,.int .i64 0,.int .i64 0,.int .i64 0,.int .i64 0,.int .i64 0,.int .i64 0,.int .i64 0,.int .i64 0,.int .i64 0,.int .i64 0]:Array Value).toList=List.replicate 12 (Value.int .i64 0) from rfl,List.take_zero,List.nil_append,List.length_map,Nat.zero_add,List.drop_replicate]
    have h:qs.map (Value.int .i64)=o.map (Value.int .i64)++List.replicate (12-o.length) (Value.int .i64 0):=by rw[HQ.out,gX,List.map_append,List.map_replicate]
    rw[<-h,hk];rfl]
   have gx:=Aside0.mk hk
   have bf:=Aside0.mk (setRow_heap (w2.alloc (.cells #[.int .i64 0,.int .i64 0,.int .i64 0,.int .i64 0,.int .i64 0,.int .i64 0,.int .i64 0,.int .i64 0,.int .i64 0,.int .i64 0,.int .i64 0,.int .i64 0] 172)) w2.heap.size _ #[.int .i64 k0,.int .i64 k1,.int .i64 k2,.int .i64 k3,.int .i64 k4,.int .i64 k5,.int .i64 k6,.int .i64 k7,.int .i64 k8,.int .i64 k9,.int .i64 aS,.int .i64 a0] _ _ (heap_alloc_new w2 _))
   have b5:=Aside0.mk (below_setRow (g:=w2.heap.size) (al (Below.refl w2.heap.size w2) (.cells #[.int .i64 0,.int .i64 0,.int .i64 0,.int .i64 0,.int .i64 0,.int .i64 0,.int .i64 0,.int .i64 0,.int .i64 0,.int .i64 0,.int .i64 0,.int .i64 0] 172)) (Nat.le_refl _) #[.int .i64 k0,.int .i64 k1,.int .i64 k2,.int .i64 k3,.int .i64 k4,.int .i64 k5,.int .i64 k6,.int .i64 k7,.int .i64 k8,.int .i64 k9,.int .i64 aS,.int .i64 a0])
   clear hk h3 h4
   rw[Result.andThen_ok]
   generalize (w2.alloc (.cells #[.int .i64 0,.int .i64 0,.int .i64 0,.int .i64 0,.int .i64 0,.int .i64 0,.int .i64 0,.int .i64 0,.int .i64 0,.int .i64 0,.int .i64 0,.int .i64 0] 172)).setRow w2.heap.size #[.int .i64 k0,.int .i64 k1,.int .i64 k2,.int .i64 k3,.int .i64 k4,.int .i64 k5,.int .i64 k6,.int .i64 k7,.int .i64 k8,.int .i64 k9,.int .i64 aS,.int .i64 a0]=W3 at bf b5⊢
   rw[Oper.upon_value]
   have h5:=Aside0.mk (aN hY.out b5.out)
   have g1:=Aside0.mk (show ff W3 fb d.length A0 E c0 g I from aE h1.out b5.out)
   have cj:=Aside0.mk (ch.out.below b5.out)
   have g2:=Aside0.mk (e6.out.trans (dU.kV b5.out (Nat.le_of_lt ch.out.lt)))
   have h6:=Aside0.mk (Kd.bY e_.out b5.out)
   have h7:J≠I:=by have:=b4.out.lt;omega
   have h8:w2.heap.size≠I:=by have:=ch.out.lt;omega
   have g3:J≠w2.heap.size:=by omega
   clear hY h1 ch e6 e_ b5 m8
   have h9:Aside0 (kU qs):=⟨⟨gp,fun x hx=>by
    rw[HQ.out,gX] at hx
    rcases List.mem_append.1 hx with hx|hx
    ·obtain⟨v,hv,rfl⟩:=List.getElem_of_mem hx
     have h:=gl.out v (by rw[<-bn.out];exact hv)
     have e:rd o (v:Int)=o[v]:=by simp[rd,List.getD_eq_getElem?_getD,List.getElem?_eq_getElem hv]
     rw[e] at h
     omega
    ·rw[List.eq_of_mem_replicate hx];omega⟩⟩
   have g4:=cj.out.look oZ h9.out
   rw[gx.out] at g4
   have x0:W3.cell? ⟨w2.heap.size,0,none⟩=some (.int .i64 k0):=(ai bf.out 0).trans rfl
   have x1:W3.cell? ⟨w2.heap.size,1,none⟩=some (.int .i64 k1):=(ai bf.out 1).trans rfl
   have x2:W3.cell? ⟨w2.heap.size,2,none⟩=some (.int .i64 k2):=(ai bf.out 2).trans rfl
   have x3:W3.cell? ⟨w2.heap.size,3,none⟩=some (.int .i64 k3):=(ai bf.out 3).trans rfl
   have x4:W3.cell? ⟨w2.heap.size,4,none⟩=some (.int .i64 k4):=(ai bf.out 4).trans rfl
   have x5:W3.cell? ⟨w2.heap.size,5,none⟩=some (.int .i64 k5):=(ai bf.out 5).trans rfl
   have x6:W3.cell? ⟨w2.heap.size,6,none⟩=some (.int .i64 k6):=(ai bf.out 6).trans rfl
   have x7:W3.cell? ⟨w2.heap.size,7,none⟩=some (.int .i64 k7):=(ai bf.out 7).trans rfl
   have x8:W3.cell? ⟨w2.heap.size,8,none⟩=some (.int .i64 k8):=(ai bf.out 8).trans rfl
   have x9:W3.cell? ⟨w2.heap.size,9,none⟩=some (.int .i64 k9):=(ai bf.out 9).trans rfl
   have c3:W3.cell? ⟨w2.heap.size,10,none⟩=some (.int .i64 aS):=(ai bf.out 10).trans rfl
   have c4:W3.cell? ⟨w2.heap.size,11,none⟩=some (.int .i64 a0):=(ai bf.out 11).trans rfl
   have f3:W3.cell? ⟨fb,3,none⟩=some (.map (some I)):=(ai g1.out 3).trans rfl
   have eb:dh [k0,k1,k2,k3,k4,k5,k6,k7,k8,k9,aS,a0]= .agg #[.int .i64 k0,.int .i64 k1,.int .i64 k2,.int .i64 k3,.int .i64 k4,.int .i64 k5,.int .i64 k6,.int .i64 k7,.int .i64 k8,.int .i64 k9,.int .i64 aS,.int .i64 a0]:=rfl
   rw[eb] at g4
   clear eb gp
   rcases g4 with⟨x,hx,ed⟩|ed
   ·have g':∀m,(Instr.lookup 169 (.map (some I)) (.agg #[.int .i64 k0,.int .i64 k1,.int .i64 k2,.int .i64 k3,.int .i64 k4,.int .i64 k5,.int .i64 k6,.int .i64 k7,.int .i64 k8,.int .i64 k9,.int .i64 aS,.int .i64 a0]) true).run Tryz.prog (W3.drewN m)= .ok (.tuple #[.int .i64 x,.bool true]) (W3.drewN m):=fun m=>ed _ rfl
    have nr:Aside0 (Rk d.length (af E) d x):=⟨by
     obtain⟨c',nu,h_,nv, -⟩:=hx
     rw[<-gx.out,HQ.out] at h_
     obtain rfl:=AQ bn.out nu h_
     exact T.bA.dB ea.out.symm nv⟩
    clear ed hx
    go_wp2_with fail
    go_quiet (fail)
    clear g' x0 x1 x2 x3 x4 x5 x6 x7 x8 x9 c3 c4 f3
    have c5:=Aside0.mk (cj.out.below (bC (Below.refl _ _) nq))
    have eg:=Aside0.mk (g2.out.trans (dU.kV (bC (Below.refl _ _) nq) (Nat.le_of_lt cj.out.lt)))
    go_wp2
    go_ret2
    exact⟨x,rfl,nr.out,c5.out,eg.out⟩
   ·have g':∀m,(Instr.lookup 169 (.map (some I)) (.agg #[.int .i64 k0,.int .i64 k1,.int .i64 k2,.int .i64 k3,.int .i64 k4,.int .i64 k5,.int .i64 k6,.int .i64 k7,.int .i64 k8,.int .i64 k9,.int .i64 aS,.int .i64 a0]) true).run Tryz.prog (W3.drewN m)= .ok (.tuple #[.int .i64 0,.bool false]) (W3.drewN m):=fun m=>ed _ rfl
    clear ed
    go_wp2_with fail
    go_quiet (fail)
    clear g' x0 x1 x2 x3 x4 x5 x6 x7 x8 x9 c3 c4 f3
    have b_:=bC (Below.refl W3.heap.size W3) nq
    have c5:=Aside0.mk (cj.out.below b_)
    have eg:=Aside0.mk (g2.out.trans (dU.kV b_ (Nat.le_of_lt cj.out.lt)))
    have fo:=Aside0.mk (show ff (W3.drewN nq) fb d.length A0 E c0 g I from aE g1.out b_)
    have ha:=Aside0.mk (Kd.bY h6.out b_)
    have hf:=Aside0.mk (aN h5.out b_)
    have fq:=Aside0.mk (aE bf.out b_)
    clear b_ cj g2 g1 h6 h5 bf
    generalize W3.drewN nq=W4 at c5 eg fo ha hf fq⊢
    obtain⟨ml,hlen,ks,n2,h',ib⟩:=c5.out.len 3
    have hml:=HG.out.bz ks h' ib
    have p2:((ml:Int)==16384)=false:=by simp;omega
    have f3:W4.cell? ⟨fb,3,none⟩=some (.map (some I)):=(ai fo.out 3).trans rfl
    clear n2 h' ib hml
    have im:T.sN (fun v=>rd o (v:Nat)) d.length=dd:=by rw[ds.out];exact T.a_.ik bw.out ea.out
    have fr:Aside0 (∀v:Nat,v<d.length->0<=rd o v):=⟨fun v hv=>by
     by_cases e:v=0
     ·subst e;exact m4.out
     ·exact(gl.out v hv).2.2.2.2 e |>.1⟩
    have iv:Aside0 (∀v:Nat,v<d.length->rd o v<=198):=⟨fun v hv=>by
     have h:=T.fP (f:=fun v=>rd o (v:Nat)) hv fr.out
     have h2:rd o (v:Nat)<=T.sN (fun v=>rd o (v:Nat)) d.length:=h
     omega⟩
    have hg:=Aside0.mk im
    clear im
    go_wp2
    clear hlen f3
    generalize hh:w2.heap.size=U at h8 g3 fq⊢
    have p3:=Nat.le_of_eq hh
    have p6:=Nat.le_of_eq hh.symm
    clear hh
    have p7:(d.length:Int)<=12:=by omega
    go_loopg [81,14] (d.length) (fun kq vv lv wr=>∃(v:Nat) (L:Int),v<=d.length∧vv= .int .i64 v∧lv= .int .i64 L∧ -20000000<=L∧L<=20000000∧Aside0 (∀u,u<v->∀k,T.bA d.length (af E) (fun w=>rd o (w:Nat)-T.one u w) k->L<=k+1)∧Aside0 (L=dd∨∃u,u<v∧∃k,T.bA d.length (af E) (fun w=>rd o (w:Nat)-T.one u w) k∧L=k+1)∧Aside0 ((Kd.int .i64).R 3 wr w1.heap.size (fun _=>True) (.slice (some ⟨J,0,none⟩) d.length cr) o)∧Aside0 (FMap (iI d.length (af E) g) wr I)∧Aside0 (dU I W wr)∧Aside0 (Below w0.heap.size w0 wr)∧Aside0 (ff wr fb d.length A0 E c0 g I)∧Aside0 (wr.heap[U]? =some (.cells #[.int .i64 k0,.int .i64 k1,.int .i64 k2,.int .i64 k3,.int .i64 k4,.int .i64 k5,.int .i64 k6,.int .i64 k7,.int .i64 k8,.int .i64 k9,.int .i64 aS,.int .i64 a0] 172 (0,0)))∧Aside0 (kq=d.length-v))
    case atStart=>exact⟨0,dd,by omega,rfl,rfl,l3,l',⟨fun u hu=>by omega⟩,⟨.inl rfl⟩,ha,c5,eg,hf,fo,fq,⟨rfl⟩⟩
    case round=>
     clear ha c5 eg hf fo fq
     obtain⟨v,L,hv,rfl,rfl,n_,n',hl,jj,HR,HM,HK,j0,HF,HX,ob⟩:=hrel
     by_cases ek:v<d.length
     ·have p8:(0:Int)<=(v:Int):=by omega
      have qn:(v:Int)<(d.length:Int):=by omega
      have hn:=bn.out
      obtain⟨z1,z2⟩:=Kd.bB 0 HR.out (v:Int) (by omega) (by omega)
      rw[Int.toNat_natCast] at z1 z2
      replace z1:wr.cell? ⟨J,v,none⟩=some (.int .i64 (rd o v)):=z1
      have oc:=fr.out v ek
      have og:=iv.out v ek
      have HP:=Kd.cL HR.out (v:Int) (rd o v-1)
      rw[Int.toNat_natCast] at HP
      have c7:=Aside0.mk HP.1
      have fv:=Aside0.mk (show ff (wr.setCell ⟨J,v,none⟩ (.int .i64 (rd o v-1))) fb d.length A0 E c0 g I from ay HF.out (by show fb≠J;have:=HF.out;intro e;subst e;have h2:=(Kd.fI HR.out fb rfl);obtain⟨cs,er⟩:=h2;rw[ff,er] at this;injection this with h;injection h with _ h _;exact absurd h (by decide)) _)
      have ho:=Aside0.mk (HM.out.fR ⟨J,v,none⟩ (.int .i64 (rd o v-1)) (fun e=>h7 e.symm))
      have hq:=Aside0.mk (ay (p:=⟨J,v,none⟩) HX.out (fun e=>g3 e.symm) (.int .i64 (rd o v-1)))
      have f':=Aside0.mk (Below.setCell (p:=⟨J,v,none⟩) j0.out (by show w0.heap.size<=J;have:=e1.out.size;omega) (.int .i64 (rd o v-1)))
      have qv:W.heap.size<=J:=by have:=ew.out.size;omega
      have hr:Aside0 (dU I W (wr.setCell ⟨J,v,none⟩ (.int .i64 (rd o v-1)))):=⟨Below.setCell (p:=⟨J,v,none⟩) HK.out.1 (by show I<=J;omega) _,fun k hk b1=>(Below.heap_setCell _ _ _ _ (by show k≠J;omega)).trans (HK.out.2 k hk b1)⟩
      have gb:∀u,u<d.length->rd (o.set v (rd o v-1)) (u:Nat)=rd o u-T.one v u:=AN hn ek
      have j1:dQ (o.set v (rd o v-1)) d.length=dd-1:=by
       rw[nP,T.bh gb,T.cM,hg.out,T.e8 ek]
      have j2:=Aside0.mk (IH.out (by omega) (o.set v (rd o v-1)) (some ⟨J,0,none⟩) cr _ ⟨by rw[List.length_set];exact hn,fun u hu=>by
       rw[gb u hu]
       have a:=fr.out u hu
       have b:=iv.out u hu
       unfold T.one
       split<;>omega⟩ (by omega) f'.out fv.out ho.out (Kd.aC c7.out).2.2 (by have h:=(Kd.aC c7.out);rw[<-h.1];exact h.2.1))
      have j3:=Aside0.mk gb
      have j_:=Aside0.mk (AO (c:=o) (v:=v) (by omega) (rd o v-1))
      have oi:=Aside0.mk (show (o.set v (rd o v-1)).length=o.length from by rw[List.length_set])
      clear HP gb hn HR HM HK j0 HF HX
      generalize j':rd o v=xv at z1 oc og j1 c7 fv ho hq f' hr j2 j_ oi j3
      have qx:=Aside0.mk j'
      clear j'
      go_wp2_with fail
      refine j2.out.mono ?_
      rintro e w6 ⟨r,rfl,gf,kd,c8⟩
      have q0: -1<=r:=gf.1
      have ht:Aside0 (T.bA d.length (af E) (fun w=>rd o (w:Nat)-T.one v w) r):=⟨pS (fun u hu=>(j3.out u hu).symm) gf⟩
      have q1:r<=dd:=by
       by_cases e0:0<=r
       ·have h:=T.bA.oV bw.out bo gf e0
        rw[<-nP,j1] at h
        omega
       ·omega
      clear gf
      have hy:=Aside0.mk (Kd.aR (ok':=fun _=>True) (Kd.en (Kd.fp rfl c7.out) (fun k hk=>c8.2 k (by obtain⟨cs,er⟩:=Kd.fI c7.out k hk.symm;exact aw er) (by have:=Option.some.inj (show some J=some k from hk.symm);omega))) (fun _ _=>trivial))
      have kk:=Aside0.mk (show ff w6 fb d.length A0 E c0 g I from c8.vu fv.out b1)
      have oo:=Aside0.mk (c8.vu hq.out h8)
      have oq:=Aside0.mk (show Below w0.heap.size w0 w6 from f'.out.trans (c8.1.mono lp))
      have km:=Aside0.mk (hr.out.trans c8)
      have ov:=Aside0.mk kd
      clear kd c8 c7 fv hq f' hr ho
      obtain⟨z3,z4⟩:=Kd.bB 0 hy.out (v:Int) (by omega) (by omega)
      rw[Int.toNat_natCast] at z3 z4
      have kv:bl 0 (o.set v (xv-1)) (v:Int)=xv-1:=iF _ _ _ (by rw[bn.out];exact ek)
      rw[kv] at z3
      have HP:=Kd.cL hy.out (v:Int) xv
      rw[Int.toNat_natCast,j_.out] at HP
      have k_:=Aside0.mk HP.1
      clear HP kv
      have la:=Aside0.mk (show ff (w6.setCell ⟨J,v,none⟩ (.int .i64 xv)) fb d.length A0 E c0 g I from ay kk.out (by show fb≠J;have:=kk.out;intro e;subst e;have h2:=(Kd.fI hy.out fb rfl);obtain⟨cs,er⟩:=h2;rw[ff,er] at this;injection this with h;injection h with _ h _;exact absurd h (by decide)) _)
      have lb:=Aside0.mk (ov.out.fR ⟨J,v,none⟩ (.int .i64 xv) (fun e=>h7 e.symm))
      have ld:=Aside0.mk (ay (p:=⟨J,v,none⟩) oo.out (fun e=>g3 e.symm) (.int .i64 xv))
      have lg:=Aside0.mk (Below.setCell (p:=⟨J,v,none⟩) oq.out (by show w0.heap.size<=J;have:=e1.out.size;omega) (.int .i64 xv))
      have lj:Aside0 (dU I W (w6.setCell ⟨J,v,none⟩ (.int .i64 xv))):=⟨Below.setCell (p:=⟨J,v,none⟩) km.out.1 (by show I<=J;omega) _,fun k hk b1=>(Below.heap_setCell _ _ _ _ (by show k≠J;omega)).trans (km.out.2 k hk b1)⟩
      go_wp2
      all_goals
       go_roundg (d.length- (v+1))
       case measure=>rw[ob.out];omega
      case rel=>exact⟨v+1,r+1,by omega,by go_num,rfl,by omega,by omega,⟨fun u hu k hk=>by
       by_cases e:u=v
       ·subst e
        have:=T.bA.unique bo hk ht.out
        omega
       ·have:=hl.out u (by omega) k hk
        omega⟩,⟨.inr ⟨v,by omega,r,ht.out,rfl⟩⟩,k_,lb,lj,lg,la,ld,⟨rfl⟩⟩
      exact⟨v+1,L,by omega,by go_num,rfl,n_,n',⟨fun u hu k hk=>by
       by_cases e:u=v
       ·subst e
        have:=T.bA.unique bo hk ht.out
        omega
       ·exact hl.out u (by omega) k hk⟩,⟨jj.out.imp id (fun⟨u,hu,h⟩=>⟨u,by omega,h⟩)⟩,k_,lb,lj,lg,la,ld,⟨rfl⟩⟩
     ·obtain rfl:v=d.length:=by omega
      have HP:Aside0 (Rk d.length (af E) o L):=⟨AL bw.out bo m3.out hl.out (by rw[hg.out];exact jj.out)⟩
      have oy:Aside0 (Rk d.length (af E) d L):=⟨T.bA.dB ea.out.symm HP.out⟩
      have oz:Aside0 (iI d.length (af E) g qs L):=⟨o,bn.out,HQ.out,HP.out,fr.out,fun v hv h0=>T.mY bw.out e5.out.red.2 hv h0,by rw[hg.out];simpa using e3⟩
      obtain⟨w9,hz,lk,hA⟩:=FMap.store (HM.out.gD (w':=wr.drew) rfl) h9.out oz.out
      have x0:wr.cell? ⟨U,0,none⟩=some (.int .i64 k0):=(ai HX.out 0).trans rfl
      have x1:wr.cell? ⟨U,1,none⟩=some (.int .i64 k1):=(ai HX.out 1).trans rfl
      have x2:wr.cell? ⟨U,2,none⟩=some (.int .i64 k2):=(ai HX.out 2).trans rfl
      have x3:wr.cell? ⟨U,3,none⟩=some (.int .i64 k3):=(ai HX.out 3).trans rfl
      have x4:wr.cell? ⟨U,4,none⟩=some (.int .i64 k4):=(ai HX.out 4).trans rfl
      have x5:wr.cell? ⟨U,5,none⟩=some (.int .i64 k5):=(ai HX.out 5).trans rfl
      have x6:wr.cell? ⟨U,6,none⟩=some (.int .i64 k6):=(ai HX.out 6).trans rfl
      have x7:wr.cell? ⟨U,7,none⟩=some (.int .i64 k7):=(ai HX.out 7).trans rfl
      have x8:wr.cell? ⟨U,8,none⟩=some (.int .i64 k8):=(ai HX.out 8).trans rfl
      have x9:wr.cell? ⟨U,9,none⟩=some (.int .i64 k9):=(ai HX.out 9).trans rfl
      have c3:wr.cell? ⟨U,10,none⟩=some (.int .i64 aS):=(ai HX.out 10).trans rfl
      have c4:wr.cell? ⟨U,11,none⟩=some (.int .i64 a0):=(ai HX.out 11).trans rfl
      have f3:wr.cell? ⟨fb,3,none⟩=some (.map (some I)):=(ai HF.out 3).trans rfl
      rw[gx.out] at hz
      have eb:dh [k0,k1,k2,k3,k4,k5,k6,k7,k8,k9,aS,a0]= .agg #[.int .i64 k0,.int .i64 k1,.int .i64 k2,.int .i64 k3,.int .i64 k4,.int .i64 k5,.int .i64 k6,.int .i64 k7,.int .i64 k8,.int .i64 k9,.int .i64 aS,.int .i64 a0]:=rfl
      rw[eb] at hz
      have o1:=Aside0.mk lk
      have o2:=HM.out.lt
      have o3:Aside0 (dU I W w9):=⟨⟨Below.grown (fH HK.out.1) hA (Nat.le_of_lt o2) (fun k e=>by cases e;exact Nat.le_refl _),fun k hk b1=>(hA.block k (Nat.lt_of_lt_of_le hk (HK.out.1.size)) (fun e=>b1 (Option.some.inj e))).trans (HK.out.2 k hk b1)⟩⟩
      clear lk hA eb
      go_wp2_with fail
      refine wp_region_still_tail 6 (by kernel_rfl) (by kernel_rfl) ?_
      simp only[List.take_succ_cons,List.take_zero,List.drop_succ_cons,List.drop_zero]
      repeat still_step
      refine wpStill_nil ?_
      change wpList _ _ _ _ _ wr.drew
      replace x0:wr.drew.cell? ⟨U,0,none⟩=some (.int .i64 k0):=x0
      replace x1:wr.drew.cell? ⟨U,1,none⟩=some (.int .i64 k1):=x1
      replace x2:wr.drew.cell? ⟨U,2,none⟩=some (.int .i64 k2):=x2
      replace x3:wr.drew.cell? ⟨U,3,none⟩=some (.int .i64 k3):=x3
      replace x4:wr.drew.cell? ⟨U,4,none⟩=some (.int .i64 k4):=x4
      replace x5:wr.drew.cell? ⟨U,5,none⟩=some (.int .i64 k5):=x5
      replace x6:wr.drew.cell? ⟨U,6,none⟩=some (.int .i64 k6):=x6
      replace x7:wr.drew.cell? ⟨U,7,none⟩=some (.int .i64 k7):=x7
      replace x8:wr.drew.cell? ⟨U,8,none⟩=some (.int .i64 k8):=x8
      replace x9:wr.drew.cell? ⟨U,9,none⟩=some (.int .i64 k9):=x9
      replace c3:wr.drew.cell? ⟨U,10,none⟩=some (.int .i64 aS):=c3
      replace c4:wr.drew.cell? ⟨U,11,none⟩=some (.int .i64 a0):=c4
      replace f3:wr.drew.cell? ⟨fb,3,none⟩=some (.map (some I)):=f3
      generalize wr.drew=wd at x0 x1 x2 x3 x4 x5 x6 x7 x8 x9 c3 c4 f3 hz⊢
      go_wp2
      go_ret2
      exact⟨L,rfl,oy.out,o1.out,o3.out⟩
theorem vy (n:Nat) (A0:Option Addr) (c0:Nat) (E:List S83) (g:Int) (o j:Nat) (w0:World) (I:Kd.C aG w0 A0 E.length E) (J:E.length<=c0) (R:qB n E g) (U:w0.heap.size<=j) (aa:o≠j):
  ∀(m:Nat) (d:List Int) (A:Option Addr) (c:Nat) (W:World),nQ n d->dQ d n<m->Below w0.heap.size w0 W->ff W o n A0 E c0 g j->FMap (iI n (af E) g) W j->Kd.C (Kd.int .i64) W A d.length d->d.length<=c->
   Calls Tryz.prog 95 #[.pointer (some ⟨o,0,none⟩),.slice A n c] W (qC n (af E) g d j W)
 |0,d,A,c,W,hd,ad,hB,hF,hM,hC,hc=>vx n A0 c0 E g o j w0 I J R U d A c W hd (fun h=>by omega) hB hF hM aa hC hc
 |m+1,d,A,c,W,hd,ad,hB,hF,hM,hC,hc=>vx n A0 c0 E g o j w0 I J R U d A c W hd (fun h d' A' c' W' ak aL an ar av aB aF=>vy n A0 c0 E g o j w0 I J R U aa m d' A' c' W' ak (by omega) an ar av aB aF) hB hF hM aa hC hc
end
section
def GForestAt (w:World) (g:Nat) (p:Nat->Nat):Prop:=∃cs:Array Value,w.heap[g]? =some (.cells cs 111 (0,0))∧cs.size=12∧∀i,i<12->cs[i]? =some (.int .i64 (p i:Nat))
namespace GForestAt
variable {w w':World} {g:Nat} {p:Nat->Nat}
theorem lt (h:GForestAt w g p):g<w.heap.size:=by
 obtain⟨cs,hb,_⟩:=h
 exact aw hb
theorem cell (h:GForestAt w g p) (i:Nat) (hi:i<12):w.cell? ⟨g,i,none⟩=some (.int .i64 (p i:Nat)):=by
 obtain⟨cs,hb,_,hc⟩:=h
 exact(ai hb i).trans (hc i hi)
theorem frozen (h:GForestAt w g p) (k:Nat):w.frozen? ⟨g,k,none⟩=false:=by
 obtain⟨cs,hb,_⟩:=h
 exact a9 hb k
theorem grown {row:Option Nat} (h:GForestAt w g p) (j:w.grownBy w' row) (o:some g≠row):GForestAt w' g p:=by
 obtain⟨cs,I,hc⟩:=h
 exact⟨cs,cg I j o,hc⟩
theorem below (h:GForestAt w g p) (hb:Below w.heap.size w w'):GForestAt w' g p:=by
 obtain⟨cs,j,hc⟩:=h
 exact⟨cs,aE j hb,hc⟩
theorem alloc (h:GForestAt w g p) (o:Obj):GForestAt (w.alloc o) g p:=h.below (al (Below.refl _ _) o)
theorem set (h:GForestAt w g p) (i:Nat) (hi:i<12) (x:Nat):GForestAt (w.setCell ⟨g,i,none⟩ (.int .i64 x)) g (fun j=>if j=i then x else p j):=by
 obtain⟨cs,o,I,hc⟩:=h
 refine⟨cs.setIfInBounds i (.int .i64 x),by simpa using bt o i (.int .i64 x),by simp[I],?_⟩
 intro k hk
 by_cases e:k=i
 ·subst e
  rw[Array.getElem?_setIfInBounds_self_of_lt (by omega)];simp
 ·rw[Array.getElem?_setIfInBounds_ne (by omega),hc k hk];simp[e]
theorem congr {q:Nat->Nat} (h:GForestAt w g p) (he:∀i,i<12->q i=p i):GForestAt w g q:=by
 obtain⟨cs,j,o,hc⟩:=h
 exact⟨cs,j,o,fun i hi=>by rw[he i hi];exact hc i hi⟩
end GForestAt
theorem vz (g v:Nat) (p:Nat->Nat) (w:World) (hf:fQ p) (R:v<12) (hw:GForestAt w g p):
  Calls Tryz.prog 86 #[.pointer (some ⟨g,0,none⟩),.int .i64 v] w fun e w'=>e= .returned (.int .i64 (rootOf p v:Nat))∧w=w':=by
 go_enter Tryz.func86,Tryz.ntmps86
 go_wp2
 go_loop [1] (fun u=>∃k:Nat,k<12∧u= .int .i64 k∧rootOf p k=rootOf p v) (fun u=>(intOf u).toNat)
 case atStart=>exact⟨v,R,rfl,rfl⟩
 case round=>
  obtain⟨k,hk,rfl,hr⟩:=hrel
  have I:=Lib.hid hr
  clear hr
  have hc:=hw.cell k hk
  have U:(0:Int)<=(k:Int):=by omega
  have aa:(k:Int)<12:=by omega
  have hle:=hf k
  by_cases J:p k<k
  ·have j:rootOf p k=rootOf p (p k):=by rw[rootOf,dif_pos J]
   have o:=Lib.hid j
   clear j
   have ab:((p k:Nat):Int)≠(k:Int):=by omega
   go_wp2
   go_round
   case rel=>exact⟨p k,by omega,rfl,by rw[<-I.out,o.out]⟩
   case measure=>simp[intOf];omega
  ·have j:rootOf p k=k:=by rw[rootOf,dif_neg J]
   have o:=Lib.hid j
   clear j
   have hq:p k=k:=by omega
   rw[hq] at hc
   clear hq
   go_wp2
   go_ret
   exact⟨sB (by rw[<-I.out,o.out]),rfl⟩
end
section
attribute [local go_sem] Oper.semAt_some jG jH jI jJ
theorem DD (l f:Nat):(Fence.wide.inRound l).fn f=True:=rfl
attribute [local simp] DD
def jy (s:(Nat->Nat)×Nat) (x:Nat×Int×Int):(Nat->Nat)×Nat:=(dq s.1 x.2.1.toNat x.2.2.toNat,if rootOf s.1 x.2.1.toNat=rootOf s.1 x.2.2.toNat then s.2+1 else s.2)
def bP (xs:List (Nat×Int×Int)):(Nat->Nat)×Nat:=xs.foldl jy (id,0)
theorem DE (xs:List (Nat×Int×Int)) (x:Nat×Int×Int):bP (xs++[x])=jy (bP xs) x:=by simp[bP,List.foldl_append]
theorem vA (xs:List (Nat×Int×Int)):fQ (bP xs).1∧(bP xs).2<=xs.length:=by
 have:∀(xs:List (Nat×Int×Int)) (s:(Nat->Nat)×Nat),fQ s.1->fQ (xs.foldl jy s).1∧(xs.foldl jy s).2<=s.2+xs.length:=by
  intro xs
  induction xs with
  |nil=>intro s h;exact⟨h,by simp⟩
  |cons x xs j=>
   intro s h
   obtain⟨h1,h2⟩:=j (jy s x) (sy h _ _)
   refine⟨h1,Nat.le_trans h2 ?_⟩
   have:(jy s x).2<=s.2+1:=by unfold jy;dsimp only;split<;>omega
   simp only[List.length_cons];omega
 have:=this xs (id,0) (fun i=>Nat.le_refl _)
 exact⟨this.1,by simpa [bP] using this.2⟩
theorem DF (k:Nat) (N:Int) (A0:Option Addr) (c0:Nat) (E:List S83) (t:Int) (w:World) (I:Kd.C aG w A0 E.length E) (J:E.length<=c0) (j:aJ.f k N E=some t) (o:t≠0):
  Calls Tryz.prog 31 #[.agg #[.int .i64 N,.slice A0 E.length c0]] w fun e w'=>e= .returned (.tuple #[.int .i64 0,.int .i64 t])∧Below w.heap.size w w':=by
 have hu:=Tryz.underlying24
 have R:=Aside0.mk j
 have aa:(t != 0)=true:=by simpa using o
 clear j o
 go_enter Tryz.func31,Tryz.ntmps31
 go_wp2_with (go_at_call 64;refine(aJ.calls k N A0 c0 E t _ (Kd.aY I _) J R.out).mono ?_;rintro e w1 ⟨rfl,hb⟩;have U:=Aside0.mk (aN (al (Below.refl w.heap.size w) _) hb);clear hb)
 go_ret2
 exact⟨rfl,U.out⟩
theorem DG (k n:Nat) (A0:Option Addr) (c0:Nat) (E:List S83) (w:World) (c3:Kd.C aG w A0 E.length E) (e':E.length<=c0) (J:aJ.f k n E=some 0) (hE:d_ E=true) (a2:dp n E) (hn:n<=12):
  Calls Tryz.prog 31 #[.agg #[.int .i64 n,.slice A0 E.length c0]] w fun e w'=>e= .returned (.tuple #[.int .i64 (bP (cB E E.length)).2,.int .i64 0])∧Below w.heap.size w w':=by
 have hu:=Tryz.underlying24
 have Ht:=Aside0.mk J
 have HE:=Aside0.mk hE
 have HI:=Aside0.mk a2
 clear J hE a2
 refine(callsIn_wide (n:=10)).1 ?_
 refine callsIn_of_wp_marks Tryz.func31 rfl trivial ?_ rfl
 simp only[Tryz.ntmps31,List.size_toArray,List.length_cons,List.length_nil,Nat.reduceAdd,Nat.reduceSub,Array.replicate_succ,Array.replicate_zero,List.push_toArray,List.append_toArray,List.nil_append,List.cons_append]
 gi_wp2_with (refine⟨trivial,?_⟩;gi_at_call 64;refine(callsIn_wide.2 (aJ.calls k n A0 c0 E 0 _ (Kd.aY c3 _) e' Ht.out)).mono ?_;rintro e w1 ⟨rfl,hb⟩;have U:=Aside0.mk (aE (heap_alloc_new w (.cells #[.int .i64 n,.slice A0 E.length c0] 24)) hb);have HB:=Aside0.mk (aN (al (Below.refl w.heap.size w) _) hb);clear hb)
 have a3:Aside0 (GForestAt (w1.alloc (.cells #[.int .i64 0,.int .i64 0,.int .i64 0,.int .i64 0,.int .i64 0,.int .i64 0,.int .i64 0,.int .i64 0,.int .i64 0,.int .i64 0,.int .i64 0,.int .i64 0] 111)) w1.heap.size (fun i=>if i<0 then i else 0)):=⟨⟨_,heap_alloc_new _ _,rfl,fun i hi=>by
  rw[show (#[.int .i64 0,.int .i64 0,.int .i64 0,.int .i64 0,.int .i64 0,.int .i64 0,.int .i64 0,.int .i64 0,.int .i64 0,.int .i64 0,.int .i64 0,.int .i64 0]:Array Value)=Array.replicate 12 (.int .i64 0) from rfl,Array.getElem?_replicate,if_pos hi]
  rfl⟩⟩
 have b':=Aside0.mk (aq U.out (.cells #[.int .i64 0,.int .i64 0,.int .i64 0,.int .i64 0,.int .i64 0,.int .i64 0,.int .i64 0,.int .i64 0,.int .i64 0,.int .i64 0,.int .i64 0,.int .i64 0] 111))
 have ca:=Aside0.mk (al HB.out (.cells #[.int .i64 0,.int .i64 0,.int .i64 0,.int .i64 0,.int .i64 0,.int .i64 0,.int .i64 0,.int .i64 0,.int .i64 0,.int .i64 0,.int .i64 0,.int .i64 0] 111))
 have fr:w.heap.size<w1.heap.size:=aw U.out
 clear U HB
 generalize w1.alloc (.cells #[.int .i64 0,.int .i64 0,.int .i64 0,.int .i64 0,.int .i64 0,.int .i64 0,.int .i64 0,.int .i64 0,.int .i64 0,.int .i64 0,.int .i64 0,.int .i64 0] 111)=W1 at a3 b' ca⊢
 generalize w1.heap.size=gf at a3 fr⊢
 gi_loopg [17] (12) (fun kq vv wr=>∃v:Nat,v<=12∧vv= .int .i64 v∧Aside0 (GForestAt wr gf (fun i=>if i<v then i else 0))∧Aside0 (wr.heap[w.heap.size]? =some (.cells #[.int .i64 n,.slice A0 E.length c0] 24 (0,0)))∧Aside0 (Below w.heap.size w wr)∧Aside0 (kq=12-v))
 case atStart=>exact⟨0,by omega,rfl,a3,b',ca,⟨rfl⟩⟩
 case round=>
  clear a3 b' ca
  obtain⟨v,hv,rfl,HF,U,HB,HK⟩:=hrel
  by_cases c5:v<12
  ·have hR:(0:Int)<=(v:Int):=by omega
   have hT:(v:Int)<12:=by omega
   have z1:=HF.out.cell v c5
   have z2:=HF.out.frozen v
   generalize (if v<v then v else 0)=z at z1
   have gb:=Aside0.mk ((HF.out.set v c5 v).congr (q:=fun i=>if i<v+1 then i else 0) (fun i hi=>by
    by_cases e:i=v
    ·subst e;simp
    ·simp only[if_neg e]
     by_cases h:i<v
     ·rw[if_pos h,if_pos (by omega)]
     ·rw[if_neg h,if_neg (by omega)]))
   have gd:=Aside0.mk (ay (p:=⟨gf,v,none⟩) U.out (by show w.heap.size≠gf;omega) (.int .i64 v))
   have gg:=Aside0.mk (Below.setCell (p:=⟨gf,v,none⟩) HB.out (by show w.heap.size<=gf;omega) (.int .i64 v))
   clear HF U HB
   gi_wp2
   gi_roundg (12- (v+1))
   case measure=>rw[HK.out];omega
   case rel=>exact⟨v+1,by omega,by go_num,gb,gd,gg,⟨rfl⟩⟩
  ·obtain rfl:v=12:=by omega
   have cb:=Aside0.mk (HF.out.congr (q:=(bP []).1) (fun i hi=>by simp[bP,hi]))
   have y0:(wr.alloc (.cells #[.int .i64 0] 3)).cell? ⟨w.heap.size,0,none⟩=some (.int .i64 n):=(ai (aq U.out _) 0).trans rfl
   have y1:(wr.alloc (.cells #[.int .i64 0] 3)).cell? ⟨w.heap.size,1,none⟩=some (.slice A0 E.length c0):=(ai (aq U.out _) 1).trans rfl
   gi_wp2_with (refine⟨trivial,?_⟩;gi_at_call 85;refine(callsIn_wide.2 (s_ n A0 c0 E _)).mono ?_;rintro e w3 ⟨rfl,rfl⟩)
   have aO:=Aside0.mk (show ((wr.alloc (.cells #[.int .i64 0] 3)).alloc (.cells #[.int .i64 n,.slice A0 E.length c0] 24)).heap[wr.heap.size]? =some (.cells #[.int .i64 ((bP []).2:Nat)] 3 (0,0)) from aq (heap_alloc_new wr _) _)
   have aP:=Aside0.mk (show ((wr.alloc (.cells #[.int .i64 0] 3)).alloc (.cells #[.int .i64 n,.slice A0 E.length c0] 24)).heap[wr.heap.size+1]? =some (.cells #[.int .i64 n,.slice A0 E.length c0] 24 (0,0)) from heap_alloc2_new wr _ _)
   have ab:=Aside0.mk (al (al HB.out (.cells #[.int .i64 0] 3)) (.cells #[.int .i64 n,.slice A0 E.length c0] 24))
   have cc:=Aside0.mk ((cb.out.alloc (.cells #[.int .i64 0] 3)).alloc (.cells #[.int .i64 n,.slice A0 E.length c0] 24))
   have gm:=cb.out.lt
   clear y0 y1 HF cb U HB
   generalize ((wr.alloc (.cells #[.int .i64 0] 3)).alloc (.cells #[.int .i64 n,.slice A0 E.length c0] 24))=I at aO aP ab cc⊢
   have c6:=aw aO.out
   have gp:=aw aP.out
   generalize cd:wr.heap.size+1=bx at aP gp⊢
   generalize wr.heap.size=bo at aO gm c6 cd⊢
   have hV:=Nat.le_of_eq cd
   clear cd
   refine tZ (σ:=Unit) (α:=Nat×Int×Int) (F:=Fence.wide) (n:=10) rfl (by decide) (gf:=140) (lb:=#[.pointer (some ⟨bx,0,none⟩)]) rfl trivial (enters_of Tryz.func140 (by kernel_rfl) rfl)
    (fun o=>te bx n A0 c0 E w _ c3 HE.out (al (al ab.out _) _) (aq (aq aP.out _) _)) (fun _=>rfl)
    (fun _=>True) ?gq ?st ?ar
    (fun _ pre W=>I.heap.size<=W.heap.size∧GForestAt W gf (bP pre).1∧W.heap[bo]? =some (.cells #[.int .i64 ((bP pre).2:Nat)] 3 (0,0))∧Below w.heap.size w W) (fun _ _ _ _=>False)
    ?is (fun _ _ _ _ _ _ h _=>h) ?ib (fun _ _ _ _ _ h _=>h) ?kt ?h0 ?a1 (fun x W=>W.alloc (.cells #[.int .i64 x.2.1,.int .i64 x.2.2] 116)) ?hw ?g1 ?assign ?body ?done (fun _ _ _ _ _ _ _ h=>h.elim)
   case assign=>
    intro l x W K hK
    gi_wp2
    exact hK
   case gq=>
    intro o s W1 h
    exact⟨trivial,by rw[h];exact bJ.refl _ _⟩
   case st=>intro s A B _ h;exact cH h
   case ar=>intro s x A B _ h;exact cH h.2
   case hw=>intro x W k o h1 h2 h3 _;exact aq h3 _
   case g1=>
    intro s x A D h
    exact⟨fun aK=>((Below.refl w.heap.size A).alloc aK _).trans (h.1 (by simp;omega)),fun k cs t J hk=>h.2 k cs t J (aq hk _)⟩
   case is=>
    rintro s pre A B _ ⟨hs,h1,h2,h3⟩ bf
    exact⟨Nat.le_trans hs bf.size,h1.below bf,aE h2 bf,aN h3 bf⟩
   case ib=>
    rintro s pre A B ⟨hs,⟨cs,h1,bg⟩,h2,h3⟩ hb
    exact⟨by rw[hb.size];exact hs,⟨cs,hb.cells h1,bg⟩,hb.cells h2,h3.trans (hb.below w.heap.size (by have:=ab.out.size;omega))⟩
   case kt=>
    intro s A B C D ch c8 c9
    have:=ab.out.size
    exact⟨fun aK=>((ch.below w.heap.size (by omega)).trans (c8.1 (by rw[ch.size];exact aK))).trans (c9.below w.heap.size (by omega)),fun k cs t J hk=>c9.cells (c8.2 k cs t J (ch.cells hk))⟩
   case h0=>
    rintro o s W1 rfl
    exact⟨by simp;omega,(cc.out.alloc _).alloc _,aq (aq aO.out _) _,al (al ab.out _) _⟩
   case body=>
    rintro l s pre ⟨i,a,b⟩ Wb W1 W _ ⟨hs,i1,i2,i3⟩ ⟨c',a0⟩ dd aa
    obtain⟨ed,ds,dv,ea⟩:=td E E.length (Nat.le_refl _) _ c'
    have a2:=HI.out ed ds
    simp only at dv ea
    obtain⟨a,rfl⟩:=Int.eq_ofNat_of_zero_le (show 0<=a by omega)
    obtain⟨b,rfl⟩:=Int.eq_ofNat_of_zero_le (show 0<=b by omega)
    have ha:a<12:=by omega
    have hb:b<12:=by omega
    have hg:=ab.out.size
    have hh:I.heap.size<=W1.heap.size:=Nat.le_trans hs a0.size
    have eb:=(vA pre).1
    have ho:=(vA pre).2
    have HS:=Aside0.mk (DE pre (i,(a:Int),(b:Int)))
    have dd:pre.length<2000:=dd
    obtain⟨cs,h1,bg⟩:=(i1.below a0).alloc (.cells #[.int .i64 a,.int .i64 b] 116)
    have b1:Aside0 (GForestAt W gf (bP pre).1):=⟨cs,aa.cells h1,bg⟩
    have b2:=Aside0.mk (aa.cells (aq (aE i2 a0) (.cells #[.int .i64 a,.int .i64 b] 116)))
    have b3:=Aside0.mk ((al (aN i3 a0) (.cells #[.int .i64 a,.int .i64 b] 116)).trans (aa.below w.heap.size (by omega)))
    have b4:=Aside0.mk (aa.cells (heap_alloc_new W1 (.cells #[.int .i64 a,.int .i64 b] 116)))
    have aK:W.heap.size=W1.heap.size+1:=by rw[aa.size];simp
    have ek:I.heap.size<=W.heap.size:=by omega
    clear i1 i2 i3 a0 aa h1 bg aK hh hs c' ds dv ea a2
    generalize W1.heap.size=pb at b4⊢
    have hq:W.cell? ⟨pb,0,none⟩=some (.int .i64 a):=(ai b4.out 0).trans rfl
    have hr:W.cell? ⟨pb,1,none⟩=some (.int .i64 b):=(ai b4.out 1).trans rfl
    have hY:=Tryz.underlying116
    have cj:=Aside0.mk (fun m=>vz gf a (bP pre).1 (W.drewN m) eb ha (b1.out.below (bC (Below.refl _ _) m)))
    have ck:=Aside0.mk (fun m=>vz gf b (bP pre).1 (W.drewN m) eb hb (b1.out.below (bC (Below.refl _ _) m)))
    have hx:=je (bP pre).1 a
    have hy:=je (bP pre).1 b
    have HJ:Aside0 (jy (bP pre) (i,(a:Int),(b:Int))=(dq (bP pre).1 a b,if rootOf (bP pre).1 a=rootOf (bP pre).1 b then(bP pre).2+1 else(bP pre).2)):=⟨rfl⟩
    have aF:Aside0 (dq (bP pre).1 a b=fun j=>if j=max (rootOf (bP pre).1 a) (rootOf (bP pre).1 b) then min (rootOf (bP pre).1 a) (rootOf (bP pre).1 b) else(bP pre).1 j):=⟨rfl⟩
    generalize dq (bP pre).1 a b=pj at HJ aF
    generalize rootOf (bP pre).1 a=x at cj HJ aF hx
    generalize rootOf (bP pre).1 b=y at ck HJ aF hy
    generalize ev:(bP pre).2=gc at b2 ho HJ
    clear ev
    have h4:(0:Int)<=(x:Int):=by omega
    have h5:(0:Int)<=(y:Int):=by omega
    have h6:(x:Int)<12:=by omega
    have h7:(y:Int)<12:=by omega
    gi_wp2
    refine Ak rfl (by kernel_rfl) (by kernel_rfl) ?_
    repeat(gi_big_quiet_step (fail))
    gi_big_quiet_want
    gi_big_quiet_op
    gi_big_quiet_call ((gi_at_call 86;exact CallsIn.quiet_of_same (callsIn_wide.2 ((cj.out _).mono (fun e w' h=>⟨h.1,h.2.symm⟩)))))
    repeat(gi_big_quiet_step (fail))
    gi_big_quiet_want
    gi_big_quiet_op
    gi_big_quiet_call ((gi_at_call 86;exact CallsIn.quiet_of_same (callsIn_wide.2 ((ck.out _).mono (fun e w' h=>⟨h.1,h.2.symm⟩)))))
    repeat(gi_big_quiet_step (fail))
    refine wpQuietIn_nil ?_
    rintro _ ⟨nq,rfl⟩
    have R:=Aside0.mk (b1.out.below (bC (Below.refl _ _) nq))
    have I2:=Aside0.mk (hZ b2.out nq)
    have I3:=Aside0.mk (bC b3.out nq)
    have bw:=Aside0.mk (cH (nw:=I.heap.size) (bC (Below.refl W.heap.size W) nq))
    have b0:=Aside0.mk (bC (Below.refl w.heap.size W) nq)
    have b5:Aside0 (∀k:Nat,(W.drewN nq).heap[k]? =W.heap[k]?):=⟨fun k=>by simp⟩
    have b_:I.heap.size<=(W.drewN nq).heap.size:=by simpa using ek
    have hB:Aside0 (∀(k:Nat) (cs:Array Value) (t:TypeId),(t=24∨t=83)->W.heap[k]? =some (Obj.cells cs t (0,0))->k≠gf∧k≠bo):=⟨fun k cs t J hk=>by
     obtain⟨cf,ew, -⟩:=b1.out
     refine⟨fun e=>?_,fun e=>?_⟩
     ·subst e;rw[hk] at ew;injection ew with h;injection h with _ h _;rcases J with rfl|rfl<;>exact absurd h (by decide)
     ·subst e;have h:=hk.symm.trans b2.out;injection h with h;injection h with _ h _;rcases J with rfl|rfl<;>exact absurd h (by decide)⟩
    have ey:gf≠bo:=by omega
    have e0:w.heap.size<=gf:=by omega
    have e1:w.heap.size<=bo:=by omega
    have ev:(gc:Int)<=2000:=by omega
    have h9:(0:Int)<=(gc:Int):=by omega
    clear b1 b2 b3 b4 hq hr cj ck ek aO aP ab cc
    generalize W.drewN nq=Wq at R I2 I3 bw b0 b5 b_⊢
    have h_:=Aside0.mk (fun j=>R.out.frozen j)
    have e2:∀(j v:Nat) (W1:World) (g':Nat),j<12->I.heap.size<=W1.heap.size->GForestAt W1 gf (bP pre).1->W1.heap[bo]? =some (.cells #[.int .i64 (g':Nat)] 3 (0,0))->Below w.heap.size w W1->bJ I.heap.size W W1->Below w.heap.size W W1->(∀k,k≠gf->k≠bo->W1.heap[k]? =W.heap[k]?)->
      (fun i=>if i=j then v else(bP pre).1 i)=pj->g'=(if x=y then gc+1 else gc)->pq (σ:=Unit) I.heap.size (fun X Y=>py w.heap.size X Y) (fun pre W=>I.heap.size<=W.heap.size∧GForestAt W gf (bP pre).1∧W.heap[bo]? =some (.cells #[.int .i64 ((bP pre).2:Nat)] 3 (0,0))∧Below w.heap.size w W) (fun (_:Code) (_:List (Nat×Int×Int)) (_:World)=>False) (pre++[(i,(a:Int),(b:Int))]) W Exit.normal {tmps:=#[],defers:=[]} (W1.setCell ⟨gf,j,none⟩ (.int .i64 v)):=by
     intro j v W1 g' hj cq f1 f2 f3 f4 f5 f6 f7 f8
     refine⟨f4.trans (eQ _ _ (show gf<I.heap.size by omega)),⟨fun _=>Below.setCell (p:=⟨gf,j,none⟩) f5 e0 _,fun k cs t J hk=>?_⟩,by simpa using cq,?_,?_,Below.setCell (p:=⟨gf,j,none⟩) f3 e0 _⟩
     ·obtain⟨k1,k2⟩:=hB.out k cs t J hk
      exact(Below.heap_setCell _ _ _ _ k1).trans ((f6 k k1 k2).trans hk)
     ·rw[HS.out,HJ.out]
      have h:=f1.set j hj v
      rw[f7] at h
      exact h
     ·rw[HS.out,HJ.out]
      simp only
      rw[<-f8]
      exact ay f2 (fun e=>ey e.symm) _
    have cr:=Aside0.mk e2
    clear e2
    rcases Nat.lt_trichotomy x y with cv|cv|cv
    ·have hl:(x:Int)<(y:Int):=by omega
     have he:((x:Int)==(y:Int))=false:=by simpa using (show ¬(x:Int)=(y:Int) by omega)
     have hm:max x y=y:=by omega
     have hmi:min x y=x:=by omega
     have hz:=R.out.cell y (by omega)
     have hf:=R.out.frozen y
     have HM:=Aside0.mk hm
     have c1:=Aside0.mk hmi
     clear hm hmi
     gi_wp2
     exact cr.out y x Wq gc (by omega) b_ R.out I2.out I3.out bw.out b0.out (fun k _ _=>b5.out k) (by rw[aF.out,HM.out,c1.out]) (by rw[if_neg (by omega)])
    ·subst cv
     have he:((x:Int)==(x:Int))=true:=by simp
     have hl:¬(x:Int)<(x:Int):=by omega
     have hz:=R.out.cell x (by omega)
     have hf:=R.out.frozen x
     have z1:=dN I2.out
     have z2:=a9 I2.out 0
     have hH:bo<I.heap.size:=c6
     have cq:=Aside0.mk (show I.heap.size<=(Wq.setCell ⟨bo,0,none⟩ (.int .i64 ((gc:Int)+1))).heap.size by simpa using b_)
     have J1:=Aside0.mk (R.out.grown (jd Wq bo 0 (.int .i64 ((gc:Int)+1))) (fun e=>by injection e with e;exact ey e))
     have h':=J1.out.cell x (by omega)
     have ih:=J1.out.frozen x
     have J2:Aside0 ((Wq.setCell ⟨bo,0,none⟩ (.int .i64 ((gc:Int)+1))).heap[bo]? =some (.cells #[.int .i64 ((gc+1:Nat):Int)] 3 (0,0))):=⟨by simpa using bt I2.out 0 (.int .i64 ((gc:Int)+1))⟩
     have J3:=Aside0.mk (Below.setCell (p:=⟨bo,0,none⟩) I3.out e1 (.int .i64 ((gc:Int)+1)))
     have J4:=Aside0.mk (bw.out.trans (eQ (bo:=bo) (j:=0) Wq (.int .i64 ((gc:Int)+1)) hH))
     have J5:=Aside0.mk (Below.setCell (p:=⟨bo,0,none⟩) b0.out e1 (.int .i64 ((gc:Int)+1)))
     have J6:Aside0 (∀k,k≠gf->k≠bo->(Wq.setCell ⟨bo,0,none⟩ (.int .i64 ((gc:Int)+1))).heap[k]? =W.heap[k]?):=⟨fun k _ h=>(Below.heap_setCell _ _ _ _ h).trans (b5.out k)⟩
     gi_wp2
     exact cr.out x x _ (gc+1) (by omega) cq.out J1.out J2.out J3.out J4.out J5.out J6.out (by rw[aF.out,Nat.max_self,Nat.min_self]) (by simp)
    ·have hl:¬(x:Int)<(y:Int):=by omega
     have im:(y:Int)<(x:Int):=by omega
     have he:((x:Int)==(y:Int))=false:=by simpa using (show ¬(x:Int)=(y:Int) by omega)
     have hm:max x y=x:=by omega
     have hmi:min x y=y:=by omega
     have hz:=R.out.cell x (by omega)
     have hf:=R.out.frozen x
     have HM:=Aside0.mk hm
     have c1:=Aside0.mk hmi
     clear hm hmi
     gi_wp2
     exact cr.out x y Wq gc (by omega) b_ R.out I2.out I3.out bw.out b0.out (fun k _ _=>b5.out k) (by rw[aF.out,HM.out,c1.out]) (by rw[if_neg (by omega)])
   case done=>
    rintro s xs W W' _ rfl ⟨hs,i1,i2,i3⟩ aa e6
    have hg:=ab.out.size
    have b1:=Aside0.mk (aa.cells i2)
    have b3:=Aside0.mk (i3.trans (aa.below w.heap.size (by omega)))
    have e_:=Aside0.mk e6
    clear i1 i2 i3 e6
    have hc:=dN b1.out
    gi_wp2_with fail
    have hO:Bk I.heap.size W' (W'.putObj I.heap.size (.deferred none)):=⟨_,_,e_.out,rfl,rfl⟩
    exact jk (D:=I.heap.size) rfl e_.out (results_tmp2 rfl _ _ _) ⟨rfl,b3.out.trans (hO.below w.heap.size (by omega))⟩
def qD (N:Int) (E:List S83):Bool:=decide (0<=N∧N<=12)&&d_ E&&gw N E
def fg.f (k:Nat) (N:Int) (E:List S83):Option (Int×Int):=
 (aJ.f k N E).bind fun e=>if e=0 then(if qD N E=true then some (((bP (cB E E.length)).2:Nat),0) else none) else some (0,e)
theorem fg.mono:∀j o k,ah (fg.f k j o) (fg.f (k+1) j o):=by
 intro N E k
 unfold fg.f
 exact ah.bind (aJ.mono _ _ _) (fun _=>ah.refl _)
theorem fg.calls (k:Nat) (I:Int) (J:Option Addr) (R:Nat) (o:List (S83)) (r1:Int) (r2:Int) (w:World) (ad:Kd.C aG w J o.length o) (ag:o.length<=R) (h:fg.f k I o=some (r1,r2)):
  Calls Tryz.prog 31 #[.agg #[.int .i64 I,.slice J o.length R]] w fun e w'=>e= .returned (.tuple #[.int .i64 r1,.int .i64 r2])∧Below w.heap.size w w':=by
 unfold fg.f at h
 obtain⟨e,he,j⟩:=Option.bind_eq_some_iff.1 h
 clear h
 by_cases U:e=0
 ·subst U
  rw[if_pos rfl] at j
  by_cases hok:qD I o=true
  ·rw[if_pos hok] at j
   simp only[Option.some.injEq,Prod.mk.injEq] at j
   obtain⟨rfl,rfl⟩:=j
   unfold qD at hok
   simp only[Bool.and_eq_true,decide_eq_true_eq] at hok
   obtain⟨⟨⟨h1,h2⟩,h3⟩,h4⟩:=hok
   obtain⟨n,rfl⟩:=Int.eq_ofNat_of_zero_le h1
   exact DG k n J R o w ad ag he h3 (gU h4) (by omega)
  ·rw[if_neg hok] at j;cases j
 ·rw[if_neg U] at j
  simp only[Option.some.injEq,Prod.mk.injEq] at j
  obtain⟨rfl,rfl⟩:=j
  exact DF k I J R o e w ad ag he U
end
section
attribute [local go_sem] jG jH jI jJ mF mG mH mI
def cD.l0:Nat->Int->List (S83)->Int->Int->Int->List (S83)->Option (Int×(List (S83))×Int)
 |0,_,_,_,_,_,_=>none
 |k+1,x1,o,J,j,R,I=>if j<J then(if 0<=j then(if j<(o.length:Int) then(if((ae o j).f0)=((ae o j).f1) then(cD.l0 k x1 o J (wrap64 (j+1)) R I) else(if I.length<5864062014805 then(cD.l0 k x1 o J (wrap64 (j+1)) R (I++[(⟨(ae o j).f0,(ae o j).f1,mn ((ae o j).f2) x1⟩:S83)])) else(none))) else(none)) else(none)) else(some (R,I,0))
def cD.f (k:Nat) (o:Int) (j:List (S83)) (I:Int):Option (Int×(List (S83))×Int):=(aJ.f k o j).bind fun t260=>(if t260=0 then(cD.l0 k I j (j.length:Int) 0 o ([]:List (S83))) else(some (0,([]:List (S83)),t260)))
theorem cD.db:∀k,(∀j o I J R U,ah (cD.l0 k j o I J R U) (cD.l0 (k+1) j o I J R U))
 |0=>fun _ _ _ _ _ _ r h=>by simp[cD.l0] at h
 |k+1=>by
  have aa:=cD.db k
  ·intro j o I J R U
   unfold cD.l0
   repeat' first
   |(with_reducible exact aa _ _ _ _ _ _)
   |(with_reducible exact aJ.mono _ _ _)
   |(with_reducible exact ah.refl _)
   |(with_reducible exact ah.none _)
   |(with_reducible refine ah.ite ?_ ?_)
   |(with_reducible refine ah.bind ?_ (fun _=>?_))
   |exact aa _ _ _ _ _ _
   |exact aJ.mono _ _ _
   |exact ah.none _
   |refine ah.ite ?_ ?_
   |refine ah.bind ?_ (fun _=>?_)
theorem cD.mono:∀j o I k,ah (cD.f k j o I) (cD.f (k+1) j o I):=by
 intro j o I k
 have J:=cD.db k
 unfold cD.f
 repeat' first
   |(with_reducible exact J _ _ _ _ _ _)
   |(with_reducible exact aJ.mono _ _ _)
   |(with_reducible exact ah.refl _)
   |(with_reducible exact ah.none _)
   |(with_reducible refine ah.ite ?_ ?_)
   |(with_reducible refine ah.bind ?_ (fun _=>?_))
   |exact J _ _ _ _ _ _
   |exact aJ.mono _ _ _
   |exact ah.none _
   |refine ah.ite ?_ ?_
   |refine ah.bind ?_ (fun _=>?_)
theorem cD.calls (k:Nat) (aa:Int) (a3:Option Addr) (a0:Nat) (j:List (S83)) (a1:Int) (r1:Int) (r2:List (S83)) (r3:Int) (w:World) (ey:Kd.C aG w a3 j.length j) (e0:j.length<=a0) (h:cD.f k aa j a1=some (r1,r2,r3)):
  Calls Tryz.prog 84 #[.agg #[.int .i64 aa,.slice a3 j.length a0],.int .i64 a1] w fun e w'=>∃e1:Value,e= .returned (.tuple #[.agg #[.int .i64 r1,e1],.int .i64 r3])∧Kd.R aG 83 w' w.heap.size (fun _=>True) e1 r2∧Below w.heap.size w w':=by
 have hH:=Tryz.underlying24
 have hI:=Tryz.underlying83
 have cr:=Aside0.mk ey
 have e2:=Aside0.mk e0
 clear ey e0
 have U:=Aside0.mk (Below.refl w.heap.size w)
 have H:((aJ.f k aa j).bind fun t260=>(if t260=0 then(cD.l0 k a1 j (j.length:Int) 0 aa ([]:List (S83))) else(some (0,([]:List (S83)),t260))))=some (r1,r2,r3):=h
 clear h
 replace H:=Option.bind_eq_some_iff.mp H
 obtain⟨t260,e3,H⟩:=H
 replace H:(if t260=0 then(cD.l0 k a1 j (j.length:Int) 0 aa ([]:List (S83))) else(some (0,([]:List (S83)),t260)))=some (r1,r2,r3):=H
 have A3:=Aside0.mk e3
 clear e3
 by_cases c4:t260=0
 ·rw[if_pos c4] at H
  have e5:(t260==0)=true:=beq_iff_eq.mpr c4
  have e6:(t260 != 0)=false:=bne_eq_false_iff_eq.mpr c4
  clear c4
  have H':=Aside0.mk H
  clear H
  go_enter Tryz.func84,Tryz.ntmps84
  go_wp2_with (first|((with_reducible refine aA (N:=2) rfl ?_);refine zX 2 #[.int .i64 aa,.slice a3 j.length a0] 24 ?_;intro ak J w5 ar hb;have ab:=Aside0.mk (ar);have ft:=zG U J;have fv:=zG U J;replace U:=zS U hb;clear hb ar J)|((with_reducible refine aA (N:=4) rfl ?_);refine zX 4 #[.int .i64 0,.slice none 0 0] 24 ?_;intro an J w6 ar hb;have ag:=Aside0.mk (ar);have f':=zG U J;have gb:=zG U J;replace U:=zS U hb;have cv:=Aside0.mk ((by rw[J];exact Nat.ne_of_lt (aw (g:=ak) (o:=.cells #[.int .i64 aa,.slice a3 j.length a0] 24 (0,0)) (zK ab)):ak≠an));have cx:=Aside0.mk ((by rw[J];exact Nat.ne_of_gt (aw (g:=ak) (o:=.cells #[.int .i64 aa,.slice a3 j.length a0] 24 (0,0)) (zK ab)):an≠ak));replace ab:=zb ab hb;clear hb ar J;have hL:=cv.out;have hM:=cx.out;obtain⟨gd,gf,gg,gi⟩:=ao ab)|((with_reducible refine au (f:=64) rfl ?_);refine zL (some 11) Tryz.func64 #[.agg #[.int .i64 aa,.slice a3 j.length a0]] ?_;(with_reducible refine(aJ.calls k aa _ _ j t260 _ ?dd ?ds A3.out).mono ?_);(case dd=>exact Kd.aj cr.out zB);(case ds=>exact e2.out);rintro e w9 ⟨rfl,hb⟩;refine⟨_,rfl,?_⟩;replace ab:=zb ab hb;replace ag:=zb ag hb;replace U:=zS U hb;(try clear hb);obtain⟨gl,gm,gp,gq⟩:=ao ab)|((with_reducible refine aA (N:=7) rfl ?_);refine zX 7 #[.int .i64 0,.slice none 0 0] 24 ?_;intro a2 J fE ar hb;have av:=Aside0.mk (ar);have hO:=zG U J;have hP:=zG U J;replace U:=zS U hb;have ch:=Aside0.mk ((by rw[J];exact Nat.ne_of_lt (aw (g:=ak) (o:=.cells #[.int .i64 aa,.slice a3 j.length a0] 24 (0,0)) (zK ab)):ak≠a2));have dv:=Aside0.mk ((by rw[J];exact Nat.ne_of_gt (aw (g:=ak) (o:=.cells #[.int .i64 aa,.slice a3 j.length a0] 24 (0,0)) (zK ab)):a2≠ak));replace ab:=zb ab hb;have cj:=Aside0.mk ((by rw[J];exact Nat.ne_of_lt (aw (g:=an) (o:=.cells #[.int .i64 0,.slice none 0 0] 24 (0,0)) (zK ag)):an≠a2));have ea:=Aside0.mk ((by rw[J];exact Nat.ne_of_gt (aw (g:=an) (o:=.cells #[.int .i64 0,.slice none 0 0] 24 (0,0)) (zK ag)):a2≠an));replace ag:=zb ag hb;clear hb ar J;have hQ:=dv.out;have hR:=ch.out;have hT:=ea.out;have hV:=cj.out;obtain⟨gr,gx,g0,g1⟩:=ao av;obtain⟨g2,g3,g4,g'⟩:=ao ab))
  go_loopg [22] k (fun kq ha w'=>∃(I:Int) (bg:List (S83)) (bk:Value),ha= .int .i64 I∧Aside0 (cD.l0 kq a1 j (j.length:Int) I aa bg=some (r1,r2,r3))∧Aside0 (kq<=k)∧Aside0 (Kd.R aG 83 w' w.heap.size (fun _=>True) bk bg)∧Aside0 (w'.heap[ak]? =some (.cells #[.int .i64 aa,(.slice a3 j.length a0)] 24 (0,0)))∧Aside0 (w'.heap[an]? =some (.cells #[.int .i64 0,(.slice none 0 0)] 24 (0,0)))∧Aside0 (w'.heap[a2]? =some (.cells #[.int .i64 aa,bk] 24 (0,0)))∧Aside0 (Below w.heap.size w w'))
  case atStart=>exact⟨(0),(([]:List (S83))),(.slice none 0 0),zT,H',⟨Nat.le_refl _⟩,⟨by first|exact Kd.cE _ _ _ _ _|exact Kd.fs _ _ _ _ _|exact Kd.V_nil _ _ _ _ _|exact Kd.Q_nil _ _ _ _ _|exact Kd.eZ _ _ _ _ _⟩,⟨by refine zk ?_;refine ay ?_ ch.out _;refine zk ?_;refine ay ?_ ch.out _;exact zK ab⟩,⟨by refine zk ?_;refine ay ?_ cj.out _;refine zk ?_;refine ay ?_ cj.out _;exact zK ag⟩,⟨by refine zk ?_;refine aZ (cs:=#[.int .i64 aa,.slice none 0 0]) ?_ 1 _ rfl;refine zk ?_;refine aZ (cs:=#[.int .i64 0,.slice none 0 0]) ?_ 0 _ rfl;exact zK av⟩,⟨zB⟩⟩
  case round=>
   clear H'
   try clear c1
   try clear p2
   try clear c4
   try clear e5
   try clear e6
   try clear c6
   try clear c7
   try clear c8
   try clear h1
   try clear h2
   try clear gl
   try clear gm
   try clear gr
   try clear gx
   try clear g2
   try clear g3
   try clear gd
   try clear gf
   try clear gp
   try clear gq
   try clear g0
   try clear g1
   try clear g4
   try clear g'
   try clear gg
   try clear gi
   obtain⟨I,bg,bk,rfl,HA,c0,bf,ab,ag,av,U⟩:=hrel
   cases gk with
   |zero=>exact absurd HA.out (by simp[cD.l0])
   |succ k1=>
    have H:=HA.out
    clear HA
    simp only[cD.l0] at H
    by_cases ck:I<(j.length:Int)
    ·rw[if_pos ck] at H
     have hc:decide (I<(j.length:Int))=true:=decide_eq_true ck
     clear ck
     by_cases c3:0<=I
     ·rw[if_pos c3] at H
      have h3:decide (0<=I)=true:=decide_eq_true c3
      clear c3
      by_cases c5:I<(j.length:Int)
      ·rw[if_pos c5] at H
       have h4:decide (I<(j.length:Int))=true:=decide_eq_true c5
       clear c5
       by_cases b4:((ae j I).f0)=((ae j I).f1)
       ·rw[if_pos b4] at H
        have hf:(((ae j I).f0)==((ae j I).f1))=true:=beq_iff_eq.mpr b4
        have hh:(((ae j I).f0) != ((ae j I).f1))=false:=bne_eq_false_iff_eq.mpr b4
        clear b4
        have H':=Aside0.mk H
        clear H
        have b5:0<=(I:Int):=of_decide_eq_true ‹_›
        have b_:I<(j.length:Int):=of_decide_eq_true ‹_›
        obtain⟨cl,ed,b',ca,cb⟩:=dK cr.out I b5 b_
        cases ed
        replace b':=(U.out.cell (World.block_lt_of_cell? w _ b')).trans b'
        replace ca:=(U.out.cell (World.block_lt_of_cell? w _ ca)).trans ca
        replace cb:=(U.out.cell (World.block_lt_of_cell? w _ cb)).trans cb
        replace b5:=eq_true b5
        replace b_:=eq_true b_
        go_wp2_with (first|((with_reducible refine aA (N:=9) rfl ?_);refine zX 9 #[.int .i64 0,.int .i64 0,.int .i64 0] 83 ?_;intro ad J h5 ar hb;replace bf:=Aside0.mk (Kd.bY (Kd.rj (zR bf) ad (Nat.le_of_eq J.symm)) hb);have cc:=Aside0.mk (ar);have hj:=zG U J;have hl:=zG U J;replace U:=zS U hb;have bw:=Aside0.mk ((by rw[J];exact Nat.ne_of_lt (aw (g:=ak) (o:=.cells #[.int .i64 aa,.slice (some cl) j.length a0] 24 (0,0)) (zK ab)):ak≠ad));have eg:=Aside0.mk ((by rw[J];exact Nat.ne_of_gt (aw (g:=ak) (o:=.cells #[.int .i64 aa,.slice (some cl) j.length a0] 24 (0,0)) (zK ab)):ad≠ak));replace ab:=zb ab hb;have bx:=Aside0.mk ((by rw[J];exact Nat.ne_of_lt (aw (g:=an) (o:=.cells #[.int .i64 0,.slice none 0 0] 24 (0,0)) (zK ag)):an≠ad));have ek:=Aside0.mk ((by rw[J];exact Nat.ne_of_gt (aw (g:=an) (o:=.cells #[.int .i64 0,.slice none 0 0] 24 (0,0)) (zK ag)):ad≠an));replace ag:=zb ag hb;have b0:=Aside0.mk ((by rw[J];exact Nat.ne_of_lt (aw (g:=a2) (o:=.cells #[.int .i64 aa,bk] 24 (0,0)) (zK av)):a2≠ad));have er:=Aside0.mk ((by rw[J];exact Nat.ne_of_gt (aw (g:=a2) (o:=.cells #[.int .i64 aa,bk] 24 (0,0)) (zK av)):ad≠a2));replace av:=zb av hb;clear hb ar J;have h6:=eg.out;have h7:=bw.out;have h8:=ek.out;have h9:=bx.out;have h_:=er.out;have h':=b0.out;obtain⟨ib,ih,im,iv,jj,j0⟩:=bE cc))
        go_roundg k1
        case measure=>have:=c0.out;omega
        case rel=>exact⟨(wrap64 (I+1)),(bg),(bk),zT,H',⟨by have:=c0.out;omega⟩,⟨by(with_reducible repeat(first|apply Kd.aD|apply Kd.bd|apply Kd.a8));exact Kd.aR (Kd.cz (p:=⟨ad,2,none⟩) (Kd.cz (p:=⟨ad,1,none⟩) (Kd.cz (p:=⟨ad,0,none⟩) (Kd.aR bf.out (fun k_ hk=>(⟨hk,hk.2⟩:_∧k_≠ad))) (fun _ hk=>hk.2) (.int .i64 ((ae j I).f0))) (fun _ hk=>hk.2) (.int .i64 ((ae j I).f1))) (fun _ hk=>hk.2) (.int .i64 ((ae j I).f2))) (fun _ hk=>trivial)⟩,⟨by refine zk ?_;refine ay ?_ bw.out _;refine zk ?_;refine ay ?_ bw.out _;refine zk ?_;refine ay ?_ bw.out _;exact zK ab⟩,⟨by refine zk ?_;refine ay ?_ bx.out _;refine zk ?_;refine ay ?_ bx.out _;refine zk ?_;refine ay ?_ bx.out _;exact zK ag⟩,⟨by refine zk ?_;refine ay ?_ b0.out _;refine zk ?_;refine ay ?_ b0.out _;refine zk ?_;refine ay ?_ b0.out _;exact zK av⟩,⟨zB⟩⟩
       ·rw[if_neg b4] at H
        have hf:(((ae j I).f0)==((ae j I).f1))=false:=beq_eq_false_iff_ne.mpr b4
        have hh:(((ae j I).f0) != ((ae j I).f1))=true:=bne_iff_ne.mpr b4
        obtain⟨bn,ev⟩:∃j_:Int,(mn ((ae j I).f2) a1)=j_:=⟨_,rfl⟩
        replace H:(if bg.length<5864062014805 then(cD.l0 k1 a1 j (j.length:Int) (wrap64 (I+1)) aa (bg++[(⟨(ae j I).f0,(ae j I).f1,bn⟩:S83)])) else(none))=some (r1,r2,r3):=by first|(rw[ev] at H;exact H)|(simp only[ev] at H⊢;exact H)
        have j1:(if a1<((ae j I).f2) then a1 else((ae j I).f2))=bn:=ev
        by_cases c9:bg.length<5864062014805
        ·rw[if_pos c9] at H
         have hq:=Aside0.mk c9
         clear c9
         obtain⟨c',cq⟩:∃y_:List (S83),y_=(bg++[(⟨(ae j I).f0,(ae j I).f1,bn⟩:S83)]):=⟨_,rfl⟩
         replace H:(cD.l0 k1 a1 j (j.length:Int) (wrap64 (I+1)) aa c')=some (r1,r2,r3):=by first|(rw[cq];with_reducible exact H)|(have ew:=(Option.bind_some _ _).symm.trans H;rw[cq];with_reducible exact ew)|(have ew:=(Option.bind_some _ _).symm.trans H;with_reducible exact ew)|with_reducible exact H|(rw[cq];exact H)|exact H
         have hs:=Aside0.mk cq
         clear cq
         have H':=Aside0.mk H
         clear H
         have b5:0<=(I:Int):=of_decide_eq_true ‹_›
         have b_:I<(j.length:Int):=of_decide_eq_true ‹_›
         obtain⟨cl,ed,b',ca,cb⟩:=dK cr.out I b5 b_
         cases ed
         replace b':=(U.out.cell (World.block_lt_of_cell? w _ b')).trans b'
         replace ca:=(U.out.cell (World.block_lt_of_cell? w _ ca)).trans ca
         replace cb:=(U.out.cell (World.block_lt_of_cell? w _ cb)).trans cb
         replace b5:=eq_true b5
         replace b_:=eq_true b_
         go_wp2_with (first|((with_reducible refine aA (N:=9) rfl ?_);refine zX 9 #[.int .i64 0,.int .i64 0,.int .i64 0] 83 ?_;intro ad J ht ar hb;replace bf:=Aside0.mk (Kd.bY (Kd.rj (zR bf) ad (Nat.le_of_eq J.symm)) hb);have cc:=Aside0.mk (ar);have hj:=zG U J;have hl:=zG U J;replace U:=zS U hb;have bw:=Aside0.mk ((by rw[J];exact Nat.ne_of_lt (aw (g:=ak) (o:=.cells #[.int .i64 aa,.slice (some cl) j.length a0] 24 (0,0)) (zK ab)):ak≠ad));have eg:=Aside0.mk ((by rw[J];exact Nat.ne_of_gt (aw (g:=ak) (o:=.cells #[.int .i64 aa,.slice (some cl) j.length a0] 24 (0,0)) (zK ab)):ad≠ak));replace ab:=zb ab hb;have bx:=Aside0.mk ((by rw[J];exact Nat.ne_of_lt (aw (g:=an) (o:=.cells #[.int .i64 0,.slice none 0 0] 24 (0,0)) (zK ag)):an≠ad));have ek:=Aside0.mk ((by rw[J];exact Nat.ne_of_gt (aw (g:=an) (o:=.cells #[.int .i64 0,.slice none 0 0] 24 (0,0)) (zK ag)):ad≠an));replace ag:=zb ag hb;have b0:=Aside0.mk ((by rw[J];exact Nat.ne_of_lt (aw (g:=a2) (o:=.cells #[.int .i64 aa,bk] 24 (0,0)) (zK av)):a2≠ad));have er:=Aside0.mk ((by rw[J];exact Nat.ne_of_gt (aw (g:=a2) (o:=.cells #[.int .i64 aa,bk] 24 (0,0)) (zK av)):ad≠a2));replace av:=zb av hb;clear hb ar J;have j2:=eg.out;have j3:=bw.out;have j':=ek.out;have kd:=bx.out;have kk:=er.out;have km:=b0.out;obtain⟨ks,kt,kv,kW,k0,k2⟩:=bE cc;have k3:=dv.out;have k4:=ch.out;have k5:=ea.out;have k6:=cj.out;obtain⟨k7,k8,k9,la⟩:=ao av;have lb:((((ht.setCell ⟨ad,0,none⟩ (.int .i64 (ae j I).f0)).setCell ⟨ad,1,none⟩ (.int .i64 (ae j I).f1)).setCell ⟨ad,2,none⟩ (.int .i64 (ae j I).f2)).setCell ⟨ad,2,none⟩ (.int .i64 bn)).cell? ⟨ad,2,none⟩=some (.int .i64 bn):=(ai (aZ (cs:=#[(.int .i64 (ae j I).f0),(.int .i64 (ae j I).f1),(.int .i64 (ae j I).f2)]) (aZ (cs:=#[(.int .i64 (ae j I).f0),(.int .i64 (ae j I).f1),(.int .i64 0)]) (aZ (cs:=#[(.int .i64 (ae j I).f0),(.int .i64 0),(.int .i64 0)]) (aZ (cs:=#[(.int .i64 0),(.int .i64 0),(.int .i64 0)]) cc.out 0 _ rfl) 1 _ rfl) 2 _ rfl) 2 _ rfl) 2).trans rfl)|((with_reducible refine oE (b:=.append) (xs:=#[.tmp 37,.tmp 39]) rfl ?_);at_builtin;refine Kd.kX aG (w0:=w) w.heap.size rfl (.tmp 37) (.tmp 39) 22 83 (.agg #[(.int .i64 0),(.int .i64 0),(.int .i64 0)]) 24 rfl Tryz.underlying22 ya rfl (by decide) (by omega) bk bg (⟨(ae j I).f0,(ae j I).f1,bn⟩:S83) [.int .i64 ((ae j I).f0),.int .i64 ((ae j I).f1),.int .i64 bn] (fun k_=>k_≠ad) (fun _=>False) rfl (by first|(go_simp;done)|(go_simp;rfl)) ?aP (fun _ hk=>hk.elim) ?aF ?aO ?aB ?aS ?aL ?_;(case aP=>exact lF _ _ _ (⟨(ae j I).f0,(ae j I).f1,bn⟩:S83));(case aB=>exact zB);(case aF=>exact(fun k_ hk=>Kd.lh (g:=ad) (o:=.cells #[.int .i64 ((ae j I).f0),.int .i64 ((ae j I).f1),.int .i64 bn] 83 (0,0)) (by refine zk ?_;refine aZ (cs:=#[.int .i64 ((ae j I).f0),.int .i64 ((ae j I).f1),.int .i64 ((ae j I).f2)]) ?_ 2 _ rfl;refine zk ?_;refine aZ (cs:=#[.int .i64 ((ae j I).f0),.int .i64 ((ae j I).f1),.int .i64 0]) ?_ 2 _ rfl;refine zk ?_;refine aZ (cs:=#[.int .i64 ((ae j I).f0),.int .i64 0,.int .i64 0]) ?_ 1 _ rfl;refine zk ?_;refine aZ (cs:=#[.int .i64 0,.int .i64 0,.int .i64 0]) ?_ 0 _ rfl;exact zK cc) k_ hk));(case aO=>exact(by(with_reducible repeat(first|apply Kd.aD|apply Kd.bd|apply Kd.a8));exact Kd.aR (Kd.cz (p:=⟨ad,2,none⟩) (Kd.cz (p:=⟨ad,2,none⟩) (Kd.cz (p:=⟨ad,1,none⟩) (Kd.cz (p:=⟨ad,0,none⟩) (Kd.aR bf.out (fun k_ hk=>(⟨hk,hk.2⟩:_∧k_≠ad))) (fun _ hk=>hk.2) (.int .i64 ((ae j I).f0))) (fun _ hk=>hk.2) (.int .i64 ((ae j I).f1))) (fun _ hk=>hk.2) (.int .i64 ((ae j I).f2))) (fun _ hk=>hk.2) (.int .i64 bn)) (fun _ hk=>hk.1.2)));(case aS=>exact(aU zB));(case aL=>have:=hq.out;omega);intro ld lg ho hb J hD;rw[<-hs.out] at ho;replace ab:=Aside0.mk (cg (g:=ak) (o:=.cells #[.int .i64 aa,.slice (some cl) j.length a0] 24 (0,0)) (by refine zk ?_;refine ay ?_ bw.out _;refine zk ?_;refine ay ?_ bw.out _;refine zk ?_;refine ay ?_ bw.out _;refine zk ?_;refine ay ?_ bw.out _;exact zK ab) J (Kd.dj bf.out ab.out (by decide)));replace ag:=Aside0.mk (cg (g:=an) (o:=.cells #[.int .i64 0,.slice none 0 0] 24 (0,0)) (by refine zk ?_;refine ay ?_ bx.out _;refine zk ?_;refine ay ?_ bx.out _;refine zk ?_;refine ay ?_ bx.out _;refine zk ?_;refine ay ?_ bx.out _;exact zK ag) J (Kd.dj bf.out ag.out (by decide)));replace av:=Aside0.mk (cg (g:=a2) (o:=.cells #[.int .i64 aa,bk] 24 (0,0)) (by refine zk ?_;refine ay ?_ b0.out _;refine zk ?_;refine ay ?_ b0.out _;refine zk ?_;refine ay ?_ b0.out _;refine zk ?_;refine ay ?_ b0.out _;exact zK av) J (Kd.dj bf.out av.out (by decide)));replace cc:=Aside0.mk (cg (g:=ad) (o:=.cells #[.int .i64 ((ae j I).f0),.int .i64 ((ae j I).f1),.int .i64 bn] 83 (0,0)) (by refine zk ?_;refine aZ (cs:=#[.int .i64 ((ae j I).f0),.int .i64 ((ae j I).f1),.int .i64 ((ae j I).f2)]) ?_ 2 _ rfl;refine zk ?_;refine aZ (cs:=#[.int .i64 ((ae j I).f0),.int .i64 ((ae j I).f1),.int .i64 0]) ?_ 2 _ rfl;refine zk ?_;refine aZ (cs:=#[.int .i64 ((ae j I).f0),.int .i64 0,.int .i64 0]) ?_ 1 _ rfl;refine zk ?_;refine aZ (cs:=#[.int .i64 0,.int .i64 0,.int .i64 0]) ?_ 0 _ rfl;exact zK cc) J (Kd.v_ bf.out (fun _ hk=>hk.2)));replace U:=Aside0.mk (hb);have e':=Aside0.mk (ho);clear bf;clear ho hb J hD;obtain⟨fb,fo,hE⟩:=Kd.a7 e'.out;subst hE;obtain⟨lj,lk,lo,lp⟩:=ao av))
         go_roundg k1
         case measure=>have:=c0.out;omega
         case rel=>exact⟨(wrap64 (I+1)),(c'),(.slice fb c'.length fo),zT,H',⟨by have:=c0.out;omega⟩,⟨by(with_reducible repeat(first|apply Kd.aD|apply Kd.bd|apply Kd.a8));exact Kd.aR (Kd.cz (p:=⟨a2,1,none⟩) (Kd.eM e'.out av.out (by decide)) (fun _ hk=>hk.2) (.slice fb c'.length fo)) (fun _ hk=>trivial)⟩,⟨by refine zk ?_;refine ay ?_ ch.out _;exact zK ab⟩,⟨by refine zk ?_;refine ay ?_ cj.out _;exact zK ag⟩,⟨by refine zk ?_;refine aZ (cs:=#[.int .i64 aa,bk]) ?_ 1 _ rfl;exact zK av⟩,⟨zB⟩⟩
        ·rw[if_neg c9] at H
         exact absurd H (by simp)
      ·rw[if_neg c5] at H
       exact absurd H (by simp)
     ·rw[if_neg c3] at H
      exact absurd H (by simp)
    ·rw[if_neg ck] at H
     have hc:decide (I<(j.length:Int))=false:=decide_eq_false ck
     clear ck
     simp only[Option.some.injEq,Prod.mk.injEq] at H
     obtain⟨rfl,rfl,rfl⟩:=H
     have lv:=dv.out
     have l1:=ch.out
     have l2:=ea.out
     have l3:=cj.out
     obtain⟨l',mb,ml,mv⟩:=ao av
     have mx:=cx.out
     have m0:=cv.out
     obtain⟨m1,m2,m3,m4⟩:=ao ag
     obtain⟨fq,fr,hG⟩:=Kd.a7 bf.out
     subst hG
     go_wp2
     refine bodyPost_ret (nT rfl _ _ an 24 #[.int .i64 aa,.slice fq bg.length fr] (0,0) _ rfl (by refine zk ?_;refine aZ (cs:=#[.int .i64 aa,.slice none 0 0]) ?_ 1 _ rfl;refine zk ?_;refine aZ (cs:=#[.int .i64 0,.slice none 0 0]) ?_ 0 _ rfl;exact zK ag) Tryz.underlying24 rfl (by kernel_rfl)) rfl ?_
     exact⟨_,zE,by(with_reducible repeat(first|apply Kd.aD|apply Kd.bd|apply Kd.a8));exact Kd.aR (Kd.cz (p:=⟨an,1,none⟩) (Kd.cz (p:=⟨an,0,none⟩) (Kd.eM bf.out ag.out (by decide)) (fun _ hk=>hk.2) (.int .i64 aa)) (fun _ hk=>hk.2) (.slice fq bg.length fr)) (fun _ hk=>trivial),zB⟩
 ·rw[if_neg c4] at H
  have e5:(t260==0)=false:=beq_eq_false_iff_ne.mpr c4
  have e6:(t260 != 0)=true:=bne_iff_ne.mpr c4
  simp only[Option.some.injEq,Prod.mk.injEq] at H
  obtain⟨rfl,rfl,rfl⟩:=H
  go_enter Tryz.func84,Tryz.ntmps84
  go_wp2_with (first|((with_reducible refine aA (N:=2) rfl ?_);refine zX 2 #[.int .i64 aa,.slice a3 j.length a0] 24 ?_;intro ak J m8 ar hb;have ab:=Aside0.mk (ar);have ft:=zG U J;have fv:=zG U J;replace U:=zS U hb;clear hb ar J)|((with_reducible refine aA (N:=4) rfl ?_);refine zX 4 #[.int .i64 0,.slice none 0 0] 24 ?_;intro an J m' ar hb;have ag:=Aside0.mk (ar);have f':=zG U J;have gb:=zG U J;replace U:=zS U hb;have cv:=Aside0.mk ((by rw[J];exact Nat.ne_of_lt (aw (g:=ak) (o:=.cells #[.int .i64 aa,.slice a3 j.length a0] 24 (0,0)) (zK ab)):ak≠an));have cx:=Aside0.mk ((by rw[J];exact Nat.ne_of_gt (aw (g:=ak) (o:=.cells #[.int .i64 aa,.slice a3 j.length a0] 24 (0,0)) (zK ab)):an≠ak));replace ab:=zb ab hb;clear hb ar J;have nb:=cv.out;have nd:=cx.out;obtain⟨nr,nu,nv,nw⟩:=ao ab)|((with_reducible refine au (f:=64) rfl ?_);refine zL (some 11) Tryz.func64 #[.agg #[.int .i64 aa,.slice a3 j.length a0]] ?_;(with_reducible refine(aJ.calls k aa _ _ j t260 _ ?dd ?ds A3.out).mono ?_);(case dd=>exact Kd.aj cr.out zB);(case ds=>exact e2.out);rintro e nx ⟨rfl,hb⟩;refine⟨_,rfl,?_⟩;replace ab:=zb ab hb;replace ag:=zb ag hb;replace U:=zS U hb;(try clear hb);obtain⟨n0,n1,n2,n3⟩:=ao ag))
  refine bodyPost_ret (nT rfl _ _ an 24 #[.int .i64 0,.slice none 0 0] (0,0) _ rfl (by refine zk ?_;refine aZ (cs:=#[.int .i64 0,.slice none 0 0]) ?_ 1 _ rfl;refine zk ?_;refine aZ (cs:=#[.int .i64 0,.slice none 0 0]) ?_ 0 _ rfl;exact zK ag) Tryz.underlying24 rfl (by kernel_rfl)) rfl ?_
  exact⟨_,zE,by first|exact Kd.cE _ _ _ _ _|exact Kd.fs _ _ _ _ _|exact Kd.V_nil _ _ _ _ _|exact Kd.Q_nil _ _ _ _ _|exact Kd.eZ _ _ _ _ _,zB⟩
end
end Go.Proofs.YtffdiakgjakngaaGreat.P

