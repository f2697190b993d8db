/- TopRochUnwinnable answers true whatever the input (text 10 of 19): own walks and plain laws; no conditions. -/
import Derived.Laws.EntriesVeiled
import Derived.Lib.SliceRun
import Derived.Test.YtffdiakgjakngaaGreatRoch9
namespace Go.Proofs.YtffdiakgjakngaaGreat.P
open Go.RowKit Go.Proofs.YtffdiakgjakngaaGreatW.PrintWords Go.Proofs.YtffdiakgjakngaaGreatW.PrintLast Go.Proofs.YtffdiakgjakngaaGreatW.PrintMore
set_option linter.unusedVariables false
set_option linter.unusedSimpArgs false
set_option maxHeartbeats 8000000
set_option maxRecDepth 100000
section
attribute [local go_sem] Oper.semAt_some
def iJ {α:Type} (P:Nat->Bool) (F:Nat->List α):Nat->Nat->List α
 |0,_=>[]
 |f+1,x=>if P x then F x++iJ P F f (x+1) else[]
theorem ui {α:Type} (P:Nat->Bool) (F:Nat->List α):∀f x,iJ P F f x=((List.range' x f).takeWhile P).flatMap F
 |0,x=>by simp[iJ]
 |f+1,x=>by
  rw[iJ,List.range'_succ,List.takeWhile_cons]
  cases P x with
  |true=>simp[ui P F f (x+1)]
  |false=>simp
theorem BA (q B:Nat) (calm:List Int->Bool) (k:Nat) (p:List Int) (h:p.length≠q):cF q B calm (k+1) p=iJ (fun (x:Nat)=>calm (p++(x:Int)::List.replicate k 0)) (fun (x:Nat)=>cF q B calm k (p++[(x:Int)])) B 0:=by
 rw[cF,if_neg h,ui,List.range_eq_range']
def gI (n q:Nat) (c:List Int):Prop:=c.length=n∧(∀i:Nat,0<=rd c i∧rd c i<=1000)∧rd c q=0
structure CS (w0:World) (n:Nat) (A0:Option Addr) (c0:Nat) (E:List S83) (q gx qx s l:Nat) (W:World) (c:List Int):Prop where
 g:W.heap[gx]? =some (.cells #[.int .i64 n,.slice A0 E.length c0] 24 (0,0))
 q:W.heap[qx]? =some (.cells #[.int .i64 q] 3 (0,0))
 y:W.heap[s]? =some (.cells #[.func (.yield l) #[] #[]] 141 (0,0))
 c:(Kd.int .i64).R 3 W w0.heap.size (fun k=>k=s+1) (.slice (some ⟨s+1,0,none⟩) n n) c
 cb:W.heap[s+2]? =some (.cells #[.slice (some ⟨s+1,0,none⟩) n n] 26 (0,0))
 f:W.heap[s+3]? =some (.cells #[.func (.func 200) #[] #[.pointer (some ⟨gx,0,none⟩),.pointer (some ⟨s,0,none⟩),.pointer (some ⟨s+2,0,none⟩),.pointer (some ⟨qx,0,none⟩),.pointer (some ⟨s+3,0,none⟩)]] 121 (0,0))
 below:Below w0.heap.size w0 W
namespace CS
variable {w0:World} {n:Nat} {A0:Option Addr} {c0:Nat} {E:List S83} {q gx qx s l:Nat} {W W':World} {c:List Int}
theorem gD (h:CS w0 n A0 c0 E q gx qx s l W c) (hk:∀k,(k=gx∨k=qx∨s<=k∧k<s+4)->W'.heap[k]? =W.heap[k]?) (hb:Below w0.heap.size w0 W'):CS w0 n A0 c0 E q gx qx s l W' c:=
 ⟨(hk gx (.inl rfl)).trans h.g,(hk qx (.inr (.inl rfl))).trans h.q,(hk s (.inr (.inr ⟨by omega,by omega⟩))).trans h.y,Kd.en h.c (fun k e=>hk k (.inr (.inr (by subst e;omega)))),(hk (s+2) (.inr (.inr ⟨by omega,by omega⟩))).trans h.cb,(hk (s+3) (.inr (.inr ⟨by omega,by omega⟩))).trans h.f,hb⟩
theorem lt (h:CS w0 n A0 c0 E q gx qx s l W c):s+3<W.heap.size∧gx<W.heap.size∧qx<W.heap.size:=⟨aw h.f,aw h.g,aw h.q⟩
theorem stay (h:CS w0 n A0 c0 E q gx qx s l W c) (hb:Below W.heap.size W W'):CS w0 n A0 c0 E q gx qx s l W' c:=
 h.gD (fun k hk=>hb.block k (by have:=h.lt;rcases hk with rfl|rfl|hk<;>omega)) (h.below.trans (hb.mono h.below.size))
theorem size (h:CS w0 n A0 c0 E q gx qx s l W c):w0.heap.size<=W.heap.size:=h.below.size
end CS
def pW (s:Nat) (x:List Int×Value) (A B:World):Prop:=A.grownBy B (some (s+1))∧(Kd.int .i64).R 3 B A.heap.size (fun _=>True) x.2 x.1∧s+4<=A.heap.size
def pX (w0:World) (gx qx s:Nat) (X Y:World):Prop:=(w0.heap.size<=X.heap.size->Below w0.heap.size X Y)∧∀k,(k=gx∨k=qx∨s<=k∧k<s+4)->k<X.heap.size->Y.heap[k]? =X.heap[k]?
def pY (w0:World) (B n:Nat) (A0:Option Addr) (c0:Nat) (E:List S83) (q gx qx s l:Nat) (calm:List Int->Bool) (J Jx:List (List Int×Value)->World->Prop) (j:Nat) (p:List Int) (pre:List (List Int×Value)) (e:Ending) (W':World):Prop:=
 (∃o,e= .returned (.bool true)∧J (pre++o) W'∧o.map Prod.fst=cF q B calm j p∧CS w0 n A0 c0 E q gx qx s l W' (p++List.replicate j 0))∨(e= .returned (.bool false)∧∃I,Jx I W')
theorem BB {e:Ending} {A B:Prop} (h:(e= .returned (.bool true)∧A)∨(e= .returned (.bool false)∧B)):∃b:Bool,e= .returned (.bool b)∧Aside0 ((b=true∧A)∨(b=false∧B)):=by
 rcases h with⟨h,j⟩|⟨h,hb⟩
 ·exact⟨true,h,⟨.inl ⟨rfl,j⟩⟩⟩
 ·exact⟨false,h,⟨.inr ⟨rfl,hb⟩⟩⟩
theorem BC {w0:World} {B n:Nat} {A0:Option Addr} {c0:Nat} {E:List S83} {q gx qx s l:Nat} {calm:List Int->Bool} {J Jx:List (List Int×Value)->World->Prop} {o:Nat} {p:List Int} {pre:List (List Int×Value)} {e:Ending} {W':World} (h:pY w0 B n A0 c0 E q gx qx s l calm J Jx o p pre e W'):
  ∃b:Bool,e= .returned (.bool b)∧Aside0 ((b=true∧∃j,J (pre++j) W'∧j.map Prod.fst=cF q B calm o p∧CS w0 n A0 c0 E q gx qx s l W' (p++List.replicate o 0))∨(b=false∧∃I,Jx I W')):=by
 rcases h with⟨j,h,R⟩|⟨h,hb⟩
 ·exact⟨true,h,⟨.inl ⟨rfl,j,R⟩⟩⟩
 ·exact⟨false,h,⟨.inr ⟨rfl,hb⟩⟩⟩
theorem BD {w0:World} {B n:Nat} {A0:Option Addr} {c0:Nat} {E:List S83} {q gx qx s l:Nat} {calm:List Int->Bool} {J Jx:List (List Int×Value)->World->Prop} (hn:n<=12)
  (hY:∀pre x A C,J pre A->pW s x A C->pre.length<16384->YieldAt Fence.wide 8 Tryz.prog l #[x.2] C fun e W'=>(e= .returned (.bool true)∧J (pre++[x]) W'∧pX w0 gx qx s C W')∨(e= .returned (.bool false)∧Jx (pre++[x]) W'))
  (p:List Int) (pre:List (List Int×Value)) (W:World) (hp:p.length=n) (hC:CS w0 n A0 c0 E q gx qx s l W p) (hJ:J pre W) (hlen:pre.length<16384):
  CallsIn Fence.wide 9 Tryz.prog 200 #[.int .i64 n,.pointer (some ⟨gx,0,none⟩),.pointer (some ⟨s,0,none⟩),.pointer (some ⟨s+2,0,none⟩),.pointer (some ⟨qx,0,none⟩),.pointer (some ⟨s+3,0,none⟩)] W (pY w0 B n A0 c0 E q gx qx s l calm J Jx 0 p pre):=by
 have HY:=Aside0.mk hY
 have HJ:=Aside0.mk hJ
 have U:=Aside0.mk hC
 have aS:W.cell? ⟨gx,0,none⟩=some (.int .i64 n):=(ai hC.g 0).trans rfl
 have a0:W.cell? ⟨s,0,none⟩=some (.func (.yield l) #[] #[]):=(ai hC.y 0).trans rfl
 have a1:W.cell? ⟨s+2,0,none⟩=some (.slice (some ⟨s+1,0,none⟩) n n):=(ai hC.cb 0).trans rfl
 have HP:=Aside0.mk hp
 obtain⟨-, -,hr⟩:=Kd.aC hC.c
 have a3:=hC.below.size
 have aB:=Aside0.mk (show CallsIn Fence.wide 8 Tryz.prog 57 #[.slice (some ⟨s+1,0,none⟩) n n] W.drew (fun e w'=>∃ad:Value,e= .returned (ad)∧Kd.R (Kd.int .i64) 3 w' W.heap.size (fun _=>True) ad p∧Below W.heap.size W w'∧Below W.heap.size W.drew w') from callsIn_wide.2 (by
  subst hp
  refine(eJ.calls (some ⟨s+1,0,none⟩) p.length p p W.drew (Kd.cK hr) (Nat.le_refl _) (by unfold eJ.f clone.f;rw[if_pos (by omega)])).mono ?_
  rintro e w' ⟨v,rfl,h1,h2⟩
  exact⟨v,rfl,h1,(fH (Below.refl _ _)).trans h2,h2⟩))
 clear hY hJ hC hr hp
 refine callsIn_of_wp Tryz.func200 rfl trivial ?_ rfl
 simp only[Tryz.ntmps200,List.size_toArray,List.length_cons,List.length_nil,Nat.reduceAdd,Nat.reduceSub,Array.replicate_succ,Array.replicate_zero,List.push_toArray,List.append_toArray,List.nil_append,List.cons_append]
 gi_wp2
 gi_region_with (first|(refine⟨trivial,?_⟩;gi_at_call 57;refine aB.out.mono ?_;rintro e w1 ⟨v,rfl,ag,o,aF⟩;have bf:w1.cell? ⟨s,0,none⟩=some (.func (.yield l) #[] #[]):=(ai (aE U.out.y o) 0).trans rfl;have I:=Aside0.mk (U.out.stay o);obtain⟨fn,tmps,bg,bk,hy,ak⟩:=HY.out pre (p,v) W w1 HJ.out ⟨hU o _,ag,U.out.lt.1⟩ hlen;have aL:=Aside0.mk ak;clear ak ag o aF)|(refine aL.out.mono ?_;rintro e w3 j;obtain⟨b,rfl,H3⟩:=BB j;clear j))
 all_goals gi_wp2
 all_goals go_ret
 all_goals
  rcases H3.out with⟨rfl,j,h4⟩|⟨rfl,j⟩
  ·exact .inl ⟨[(p,v)],rfl,j,rfl,by simpa using I.out.gD (fun k hk=>h4.2 k hk (by have:=I.out.lt;rcases hk with rfl|rfl|hk<;>omega)) (I.out.below.trans (h4.1 I.out.size))⟩
  ·exact .inr ⟨rfl,_,j⟩
theorem BE {n q j:Nat} {p:List Int} {x:Nat} (h:gI n q (p++List.replicate (j+1) 0)) (hq:p.length≠q) (o:x<=1000):gI n q (p++(x:Int)::List.replicate j 0):=by
 have e:p++(x:Int)::List.replicate j 0=(p++List.replicate (j+1) 0).set p.length x:=by
  rw[List.replicate_succ,List.set_append_right _ _ (Nat.le_refl _),Nat.sub_self];rfl
 rw[e]
 refine⟨by rw[List.length_set];exact h.1,fun i=>?_,?_⟩
 ·have hi:=h.2.1 i
  simp only[rd,Int.toNat_natCast,List.getD_eq_getElem?_getD,List.getElem?_set] at hi⊢
  split
  ·split<;>simp<;>omega
  ·exact hi
 ·have hi:=h.2.2
  simp only[rd,Int.toNat_natCast,List.getD_eq_getElem?_getD,List.getElem?_set] at hi⊢
  rw[if_neg hq];exact hi
theorem CS.set {w0:World} {n:Nat} {A0:Option Addr} {c0:Nat} {E:List S83} {q gx qx s l:Nat} {W:World} {p:List Int} {j:Nat} {x:Int} (h:CS w0 n A0 c0 E q gx qx s l W (p++x::List.replicate j 0)) (o:gx<s) (I:qx<s) (J:w0.heap.size<=s) (y:Int):
  CS w0 n A0 c0 E q gx qx s l (W.setCell ⟨s+1,p.length,none⟩ (.int .i64 y)) (p++y::List.replicate j 0)∧W.grownBy (W.setCell ⟨s+1,p.length,none⟩ (.int .i64 y)) (some (s+1)):=by
 have hp:=Kd.cL h.c (p.length:Int) y
 rw[Int.toNat_natCast] at hp
 have fR:∀k,k≠s+1->(W.setCell ⟨s+1,p.length,none⟩ (.int .i64 y)).heap[k]? =W.heap[k]? :=fun k hk=>Below.heap_setCell _ _ _ _ (by simpa using hk)
 refine⟨⟨(fR gx (by omega)).trans h.g,(fR qx (by omega)).trans h.q,(fR s (by omega)).trans h.y,?_,(fR (s+2) (by omega)).trans h.cb,(fR (s+3) (by omega)).trans h.f,h.below.setCell (by show w0.heap.size<=s+1;omega) _⟩,hp.2⟩
 have e:(p++x::List.replicate j 0).set p.length y=p++y::List.replicate j 0:=by
  rw[List.set_append_right _ _ (Nat.le_refl _),Nat.sub_self];rfl
 rw[<-e]
 exact hp.1
theorem CS.cell {w0:World} {n:Nat} {A0:Option Addr} {c0:Nat} {E:List S83} {q gx qx s l:Nat} {W:World} {p:List Int} {j:Nat} {x:Int} (h:CS w0 n A0 c0 E q gx qx s l W (p++x::List.replicate j 0)) (o:p.length<n):
  W.cell? ⟨s+1,p.length,none⟩=some (.int .i64 x)∧W.frozen? ⟨s+1,p.length,none⟩=false:=by
 obtain⟨h1,h2⟩:=Kd.bB (0:Int) h.c (p.length:Int) (by omega) (by omega)
 rw[Int.toNat_natCast] at h1 h2
 refine⟨?_,h2⟩
 rw[h1]
 simp[bl,List.getD_eq_getElem?_getD]
theorem BF (k m:Nat) (o:Int) (I:Option Addr) (J:Nat) (j:List (S83)) (R:Int) (U:Option Addr) (c2:Nat) (l2:List Int) (r:Bool) (w:World) (aa:Kd.C aG w I j.length j) (ab:j.length<=J) (hl:l2.length=m) (ag:Kd.C (Kd.int .i64) w U m l2) (ak:m<=c2) (h:fC.f k o j R l2=some r):
  Calls Tryz.prog 176 #[.agg #[.int .i64 o,.slice I j.length J],.int .i64 R,.slice U m c2] w fun e w'=>e= .returned (.bool r)∧Below w.heap.size w w':=by
 subst hl
 exact fC.calls k o I J j R U c2 l2 r w aa ab ag ak h
theorem BG {w0:World} {B K n:Nat} {A0:Option Addr} {c0:Nat} {E:List S83} {q gx qx s l:Nat} {calm:List Int->Bool} {J Jx:List (List Int×Value)->World->Prop} (hn:n<=12) (ch:Kd.C aG w0 A0 E.length E) (cj:E.length<=c0) (bn:gx<s) (bo:qx<s) (hs:w0.heap.size<=s)
  (bx:∀c,gI n q c->fC.f K n E q c=some (calm c)) (b0:∀(p:List Int) (x j:Nat),calm (p++(x:Int)::List.replicate j 0)=true->p.length+1+j=n->p.length≠q->x+1<B) (hB:B<=1000) (ck:0<B)
  (b1:∀pre A C,J pre A->A.grownBy C (some (s+1))->J pre C)
  (hY:∀pre x A C,J pre A->pW s x A C->pre.length<16384->YieldAt Fence.wide 8 Tryz.prog l #[x.2] C fun e W'=>(e= .returned (.bool true)∧J (pre++[x]) W'∧pX w0 gx qx s C W')∨(e= .returned (.bool false)∧Jx (pre++[x]) W')):
  ∀(j v:Nat) (p:List Int) (pre:List (List Int×Value)) (W:World),p.length=v->v+j=n->CS w0 n A0 c0 E q gx qx s l W (p++List.replicate j 0)->gI n q (p++List.replicate j 0)->J pre W->pre.length+(cF q B calm j p).length<=16384->
  CallsIn Fence.wide 9 Tryz.prog 200 #[.int .i64 v,.pointer (some ⟨gx,0,none⟩),.pointer (some ⟨s,0,none⟩),.pointer (some ⟨s+2,0,none⟩),.pointer (some ⟨qx,0,none⟩),.pointer (some ⟨s+3,0,none⟩)] W (pY w0 B n A0 c0 E q gx qx s l calm J Jx j p pre):=by
 intro j
 induction j with
 |zero=>
  intro v p pre W hp hv hC hO hJ hlen
  obtain rfl:v=n:=by omega
  exact BD hn hY p pre W hp (by simpa using hC) hJ (by simp[cF] at hlen;omega)
 |succ j ih=>
  intro v p pre W hp hv hC hO hJ hlen
  have aF:W.cell? ⟨gx,0,none⟩=some (.int .i64 n):=(ai hC.g 0).trans rfl
  have aL:W.cell? ⟨qx,0,none⟩=some (.int .i64 q):=(ai hC.q 0).trans rfl
  have cq:W.cell? ⟨s+3,0,none⟩=some (.func (.func 200) #[] #[.pointer (some ⟨gx,0,none⟩),.pointer (some ⟨s,0,none⟩),.pointer (some ⟨s+2,0,none⟩),.pointer (some ⟨qx,0,none⟩),.pointer (some ⟨s+3,0,none⟩)]):=(ai hC.f 0).trans rfl
  have cr:((v:Int)==(n:Int))=false:=by simp;omega
  have hu:=Tryz.underlying24
  have b4:=Aside0.mk ih
  have o:=Aside0.mk hC
  have HO:=Aside0.mk hO
  have HJ:=Aside0.mk hJ
  have HL:=Aside0.mk hlen
  have R:=Aside0.mk hp
  have a3:=Aside0.mk b1
  have cv:=Aside0.mk bx
  have cx:=Aside0.mk b0
  have eg:v<12:=by omega
  clear ih hC hO hJ hlen hY b1 bx b0 hp
  refine callsIn_of_wp Tryz.func200 rfl trivial ?_ rfl
  simp only[Tryz.ntmps200,List.size_toArray,List.length_cons,List.length_nil,Nat.reduceAdd,Nat.reduceSub,Array.replicate_succ,Array.replicate_zero,List.push_toArray,List.append_toArray,List.nil_append,List.cons_append]
  by_cases hq:v=q
  ·have ab:=b4.out (v+1) (p++[0]) pre W (by simp[R.out]) (by omega) (by rw[List.append_assoc];exact o.out) (by rw[List.append_assoc];exact HO.out) HJ.out (by have h:=HL.out;rw[cF,if_pos (by rw[R.out];exact hq)] at h;exact h)
   rw[Int.natCast_add,Int.natCast_one] at ab
   have HI:=Aside0.mk ((callsIn_wide (n:=8)).2 (callsIn_wide.1 ab))
   clear ab
   have HQ:=Aside0.mk hq
   clear hq
   have ek:((v:Int)==(q:Int))=true:=by simp[HQ.out]
   gi_wp2_with (refine⟨trivial,?_⟩;gi_at_call 200;refine HI.out.mono ?_;rintro e w3 I;obtain⟨b,rfl,H3⟩:=BC I;clear I)
   go_ret
   rcases H3.out with⟨rfl,U,I,h4,h5⟩|⟨rfl,I⟩
   ·exact .inl ⟨U,rfl,I,by rw[cF,if_pos (by rw[R.out];exact HQ.out)];exact h4,by rw[List.append_assoc] at h5;exact h5⟩
   ·exact .inr ⟨rfl,I⟩
  ·have c1:((v:Int)==(q:Int))=false:=by simp;omega
   have HQ:=Aside0.mk (show p.length≠q by rw[R.out];exact hq)
   have c2:=Aside0.mk (BA q B calm j p HQ.out)
   clear hq
   gi_wp2
   clear aF aL cq cr c1
   gi_loopg [] (B) (fun kq wr=>∃(x:Nat) (U:List (List Int×Value)),x<B∧Aside0 (J (pre++U) wr)∧Aside0 (CS w0 n A0 c0 E q gx qx s l wr (p++(x:Int)::List.replicate j 0))∧Aside0 (cF q B calm (j+1) p=U.map Prod.fst++iJ (fun (x:Nat)=>calm (p++(x:Int)::List.replicate j 0)) (fun (x:Nat)=>cF q B calm j (p++[(x:Int)])) (B-x) x)∧Aside0 (kq=B-x))
   case atStart=>exact⟨0,[],ck,⟨by simpa using HJ.out⟩,o,⟨by rw[c2.out];rfl⟩,⟨rfl⟩⟩
   case round=>
    clear HJ o
    obtain⟨x,U,hx,HJ,o,HT,HK⟩:=hrel
    have aP:=Aside0.mk (BE (x:=x) HO.out HQ.out (by omega))
    obtain⟨-, -,hr⟩:=Kd.aC o.out.c
    rw[aP.out.1] at hr
    have aS:=Aside0.mk ((callsIn_wide (n:=8)).2 (BF K n n A0 c0 E q (some ⟨s+1,0,none⟩) n _ _ wr (Kd.aj ch o.out.below) cj aP.out.1 hr (Nat.le_refl _) (cv.out _ aP.out)))
    have ca:=Aside0.mk (show iJ (fun (x:Nat)=>calm (p++(x:Int)::List.replicate j 0)) (fun (x:Nat)=>cF q B calm j (p++[(x:Int)])) (B-x) x=if calm (p++(x:Int)::List.replicate j 0)=true then cF q B calm j (p++[(x:Int)])++iJ (fun (x:Nat)=>calm (p++(x:Int)::List.replicate j 0)) (fun (x:Nat)=>cF q B calm j (p++[(x:Int)])) (B- (x+1)) (x+1) else[] from by rw[show B-x=(B- (x+1))+1 by omega];rfl)
    have aF:wr.cell? ⟨gx,0,none⟩=some (.int .i64 n):=(ai o.out.g 0).trans rfl
    have cc:wr.cell? ⟨gx,1,none⟩=some (.slice A0 E.length c0):=(ai o.out.g 1).trans rfl
    have aL:wr.cell? ⟨qx,0,none⟩=some (.int .i64 q):=(ai o.out.q 0).trans rfl
    have cd:wr.cell? ⟨s+2,0,none⟩=some (.slice (some ⟨s+1,0,none⟩) n n):=(ai o.out.cb 0).trans rfl
    have ev:(0:Int)<=(v:Int):=by omega
    have ew:(v:Int)<(n:Int):=by omega
    clear hr
    cases hb:calm (p++(x:Int)::List.replicate j 0) with
    |false=>
     rw[hb] at aS
     have a0:=Aside0.mk (show cF q B calm (j+1) p=U.map Prod.fst from by rw[HT.out,ca.out,if_neg (by rw[hb];decide),List.append_nil])
     clear hb
     gi_wp2_with (refine⟨trivial,?_⟩;gi_at_call 176;refine aS.out.mono ?_;rintro e w1 ⟨rfl,ad⟩;have ar:=Aside0.mk (o.out.stay ad);have q1:w1.cell? ⟨s+2,0,none⟩=some (.slice (some ⟨s+1,0,none⟩) n n):=(ai ar.out.cb 0).trans rfl;have av:=ar.out.cell (by rw[R.out];omega);rw[R.out] at av;obtain⟨q2,q3⟩:=av;have c7:=Aside0.mk ad;clear ad)
     go_ret
     have aa:=ar.out.set bn bo hs 0
     rw[R.out] at aa
     exact .inl ⟨U,rfl,a3.out _ _ _ HJ.out (World.grownBy.trans (hU c7.out _) aa.2),a0.out.symm,aa.1⟩
    |true=>
     rw[hb] at aS
     have HX:=Aside0.mk (cx.out p x j hb (by rw[R.out];omega) HQ.out)
     have a0:=Aside0.mk (show cF q B calm (j+1) p=U.map Prod.fst++(cF q B calm j (p++[(x:Int)])++iJ (fun (x:Nat)=>calm (p++(x:Int)::List.replicate j 0)) (fun (x:Nat)=>cF q B calm j (p++[(x:Int)])) (B- (x+1)) (x+1)) from by rw[HT.out,ca.out,if_pos hb])
     have c9:=Aside0.mk (show (pre++U).length+(cF q B calm j (p++[(x:Int)])).length<=16384 from by have h1:=HL.out;rw[a0.out] at h1;simp only[List.length_append,List.length_map] at h1⊢;omega)
     clear hb
     gi_wp2_with (refine⟨trivial,?_⟩;gi_at_call 176;refine aS.out.mono ?_;rintro e w1 ⟨rfl,ad⟩;have ar:=Aside0.mk (o.out.stay ad);have q1:w1.cell? ⟨s+3,0,none⟩=some (.func (.func 200) #[] #[.pointer (some ⟨gx,0,none⟩),.pointer (some ⟨s,0,none⟩),.pointer (some ⟨s+2,0,none⟩),.pointer (some ⟨qx,0,none⟩),.pointer (some ⟨s+3,0,none⟩)]):=(ai ar.out.f 0).trans rfl;have ab:=b4.out (v+1) (p++[(x:Int)]) (pre++U) w1 (by simp[R.out]) (by omega) (by rw[List.append_assoc];exact ar.out) (by rw[List.append_assoc];exact aP.out) (a3.out _ _ _ HJ.out (hU ad _)) c9.out;rw[Int.natCast_add,Int.natCast_one] at ab;have HI:=Aside0.mk ((callsIn_wide (n:=8)).2 (callsIn_wide.1 ab));clear ad ab)
     refine⟨trivial,?_⟩
     refine HI.out.mono ?_
     rintro e w3 (⟨c',rfl,I,h4,h5⟩|⟨rfl,dd,I⟩)
     ·rw[List.append_assoc] at h5
      have bk:=Aside0.mk (show CS w0 n A0 c0 E q gx qx s l w3 (p++(x:Int)::List.replicate j 0) from h5)
      have ds:=Aside0.mk I
      have H4:=Aside0.mk h4
      clear I h4 h5 q1 aF cc aL cd
      have q1:w3.cell? ⟨s+2,0,none⟩=some (.slice (some ⟨s+1,0,none⟩) n n):=(ai bk.out.cb 0).trans rfl
      have av:=bk.out.cell (by rw[R.out];omega)
      have aa:=bk.out.set bn bo hs ((x:Int)+1)
      rw[R.out] at av aa
      obtain⟨q2,q3⟩:=av
      have ea:=Aside0.mk aa.1
      have eb:=Aside0.mk (a3.out _ _ _ ds.out aa.2)
      clear aa
      have ey:(x:Int)<=1000:=by omega
      gi_wp2
      gi_roundg (B- (x+1))
      case measure=>rw[HK.out];omega
      case rel=>exact⟨x+1,U++c',HX.out,⟨by rw[<-List.append_assoc];exact eb.out⟩,ea,⟨by rw[a0.out,List.map_append,H4.out,List.append_assoc]⟩,⟨rfl⟩⟩
     ·have H3:=Aside0.mk I
      clear I q1 aF cc aL cd
      gi_wp2
      go_ret
      exact .inr ⟨rfl,dd,H3.out⟩
end
theorem uj {α:Type} {f:Nat->Option α} (h:∀k,ah (f k) (f (k+1))) {k:Nat} {r:α} (hk:f k=some r):∀m,f (k+m)=some r
 |0=>hk
 |m+1=>h _ _ (uj h hk m)
theorem uk {i:Nat} (h:i<=1000):wrap64 ((i:Int)+1)=((i+1:Nat):Int):=by
 rw[show wrap64 ((i:Int)+1)=(i:Int)+1 from by unfold wrap64;omega]
 omega
theorem BH {x:Int} (h: -1048576<=x∧x<=1048576):fy.f x=some true:=by
 unfold fy.f
 rw[if_pos (show x>= -1048576 from h.1)]
 simp[h.2]
theorem um (c:List Int) (hc:c.length<=12) (h:∀i:Nat, -1048576<=rd c i∧rd c i<=1048576):∀(m K i:Nat),i+m=c.length->m<K->aW.l0 K c c.length i=some 0
 |0,0,i,_,j=>by omega
 |0,K+1,i,hi,_=>by
  rw[aW.l0,if_neg (by omega)]
 |m+1,0,i,_,j=>by omega
 |m+1,K+1,i,hi,j=>by
  rw[aW.l0,if_pos (by omega),if_pos (by omega),if_pos (by omega),BH (h i),Option.bind_some,if_pos rfl,uk (by omega)]
  exact um c hc h m K (i+1) (by omega) (by omega)
theorem uo (q:Int) (c:List Int) (hc:c.length<=12) (h:∀i:Nat,0<=rd c i):∀(m K i:Nat),i+m=c.length->m<K->cI.l0 K q c c.length i=some 0
 |0,0,i,_,j=>by omega
 |0,K+1,i,hi,_=>by
  rw[cI.l0,if_neg (by omega)]
 |m+1,0,i,_,j=>by omega
 |m+1,K+1,i,hi,j=>by
  have o:=h i
  rw[cI.l0,if_pos (by omega),if_pos (by omega),if_pos (by omega),if_neg (show ¬rd c i<0 by omega),uk (by omega),uo q c hc h m K (i+1) (by omega) (by omega)]
  split<;>rfl
theorem pZ (b:Nat->Bool):∀n,(eP b n).length=0↔(List.range n).all b=true
 |0=>by simp[eP]
 |n+1=>by
  have j:=pZ b n
  rw[List.range_succ,List.all_append]
  simp only[eP]
  cases hb:b n with
  |true=>simp[hb] at j⊢;exact j
  |false=>simp[hb]
theorem BI {k n:Nat} {E:List S83} {q:Nat} {c:List Int} (hr:cN.f k n E q=some 0) (hc:gI n q c):cI.f (k+20) n E q c=some 0:=by
 obtain⟨_,⟨_,j⟩,_,o,I⟩:=jX hr
 have J:=hc.1
 have h1:=uj (fun k=>cN.mono n E q k) hr 20
 have h2:aW.f (k+20) c n=some 0:=by
  unfold aW.f gB.f
  rw[if_neg (by omega),if_neg (by omega),Option.bind_some,if_pos rfl,if_pos (by omega)]
  exact um c (by omega) (fun i=>by have:=hc.2.1 i;omega) c.length (k+20) 0 (by omega) (by omega)
 unfold cI.f
 rw[h1,Option.bind_some,if_pos rfl,h2,Option.bind_some,if_pos rfl]
 exact uo q c (by omega) (fun i=>(hc.2.1 i).1) c.length (k+20) 0 (by omega) (by omega)
theorem BJ {k n:Nat} {E:List S83} {q:Nat} {c:List Int} (hr:cN.f k n E q=some 0) (hc:gI n q c):iD.f (k+20) n E q c=some 0:=by
 obtain⟨_,⟨_,o⟩,_,j,I⟩:=jX hr
 have J:=hc.1
 unfold iD.f
 rw[BI hr hc,Option.bind_some,if_pos rfl,if_pos j,if_pos (by omega),if_pos hc.2.2]
theorem BK {k n:Nat} {E:List S83} {q:Nat} {c:List Int} (hr:cN.f k n E q=some 0) (j:gw n E=true) (hc:gI n q c):gY.f (k+20) n E q c=some (bs n (af E) q c,0):=by
 obtain⟨_,⟨_,o⟩,_,I,J⟩:=jX hr
 have R:=hc.1
 unfold gY.f jl.f
 rw[BJ hr hc,Option.bind_some,if_pos rfl,if_pos (by simp only[kI,Bool.and_eq_true,decide_eq_true_eq];exact⟨by omega,j⟩),Option.bind_some,if_pos rfl]
 congr 2
 rw[Int.toNat_natCast,Int.toNat_natCast]
 have h:=pZ (bM (bK q) (iE n E q c)) n
 rw[Bool.eq_iff_iff]
 unfold bs
 rw[show dD n (bG n (af E) c) (bK q)=iE n E q c from rfl,<-h]
 simp
theorem BL {k n:Nat} {E:List S83} {q:Nat} {c:List Int} (hr:cN.f k n E q=some 0) (j:gw n E=true) (hc:gI n q c):fC.f (k+20) n E q c=some (bs n (af E) q c):=by
 unfold fC.f
 rw[BK hr j hc,Option.bind_some]
 cases bs n (af E) q c<;>simp
theorem BM {t:Nat->Nat->Int} (o:∀i j,0<=t i j∧t i j<=50) (b:Nat->Bool) (v:Nat) (n:Nat) (I:n<=12):bX t b v n<=600:=by
 have:=(po (burnt:=b) o v n).2
 omega
theorem p4 {n:Nat} {E:List S83} {q:Nat} (I:gw n E=true) (J:n<=12) {l:List Int} {v:Nat} (R:v<n) (hq:v≠q) (h:bs n (af E) q l=true):rd l v<valOf n (af E) v∧valOf n (af E) v<=600:=by
 have o:=(gU I).times
 exact⟨((jr (fun i j=>(o i j).1) q l).1 h).lt R hq,BM o _ v n J⟩
section
attribute [local go_sem] Oper.semAt_some
theorem BN {w0:World} {B K n:Nat} {A0:Option Addr} {c0:Nat} {E:List S83} {q gx qx:Nat} {calm:List Int->Bool} (W:World) (S0:Nat) (hS:W.heap.size=S0) (hn:n<=12) (b0:Kd.C aG w0 A0 E.length E) (b1:E.length<=c0)
  (av:∀c,gI n q c->fC.f K n E q c=some (calm c)) (aB:∀(p:List Int) (x kk:Nat),calm (p++(x:Int)::List.replicate kk 0)=true->p.length+1+kk=n->p.length≠q->x+1<B) (hB:B<=1000) (b3:0<B)
  (aL:(cF q B calm n []).length<=16384)
  (hg:W.heap[gx]? =some (.cells #[.int .i64 n,.slice A0 E.length c0] 24 (0,0))) (hq:W.heap[qx]? =some (.cells #[.int .i64 q] 3 (0,0))) (hw:Below w0.heap.size w0 W):
  iA (σ:=Unit) Fence.wide 9 Tryz.prog 199 #[.pointer (some ⟨gx,0,none⟩),.pointer (some ⟨qx,0,none⟩)] (fun x:List Int×Value=>#[x.2]) (fun _ W W1=>W1=W) (fun _ A C=>A.grownBy C (some (S0+1))) (fun _ x A C=>pW S0 x A C)
   (fun _ X Y=>pX w0 gx qx S0 X Y) (fun _ xs W'=>xs.map Prod.fst=cF q B calm n []) (fun _ _ _=>True) (fun pre=>pre.length<16384) W:=by
 intro lp J Jx ak b4 aO aP
 subst hS
 have aS:=aO () W rfl
 have b5:=Aside0.mk (fun W' h1 h2 R=>BG (w0:=w0) (B:=B) (K:=K) (s:=W.heap.size) (l:=lp) (J:=J ()) (Jx:=Jx ()) hn b0 b1 (aw hg) (aw hq) hw.size av aB hB b3 (fun pre A C h hA=>ak _ _ _ _ h hA) (fun pre x A C h1 h2 R=>aP _ _ _ _ _ h1 h2 R) n 0 [] [] W' rfl (by omega) h1 h2 R (by simpa using aL))
 have b':=Aside0.mk ak
 have ca:=Aside0.mk aS
 obtain⟨zs,a0,a1⟩:=kM 26 Tryz.underlying26 n (by omega)
 have HZ:=Aside0.mk a1
 have HG:=Aside0.mk hg
 have HQ:=Aside0.mk hq
 have HW:=Aside0.mk hw
 have c5:(W.alloc (.cells #[.func (.yield lp) #[] #[]] 141)).cell? ⟨gx,0,none⟩=some (.int .i64 n):=(ai (aq hg _) 0).trans rfl
 have cd:=Aside0.mk (show gI n q (List.replicate n 0) from⟨by simp,fun i=>by simp[rd,List.getD_eq_getElem?_getD,List.getElem?_replicate];split<;>simp,by simp[rd,List.getD_eq_getElem?_getD,List.getElem?_replicate];split<;>simp⟩)
 have cf:=aw HG.out
 have ch:=aw HQ.out
 have cj:=HW.out.size
 obtain⟨j,bg⟩:∃o:Obj,o= .cells #[.func (.yield lp) #[] #[]] 141:=⟨_,rfl⟩
 obtain⟨U,bk⟩:∃o:Obj,o= .cells zs 3:=⟨_,rfl⟩
 obtain⟨I,bn⟩:∃o:Obj,o= .cells #[.slice (some ⟨W.heap.size+1,0,none⟩) n n] 26:=⟨_,rfl⟩
 obtain⟨fo,bo⟩:∃o:Obj,o= .cells #[.func (.func 200) #[] #[.pointer (some ⟨gx,0,none⟩),.pointer (some ⟨W.heap.size,0,none⟩),.pointer (some ⟨W.heap.size+1+1,0,none⟩),.pointer (some ⟨qx,0,none⟩),.pointer (some ⟨W.heap.size+1+1+1,0,none⟩)]] 121:=⟨_,rfl⟩
 have ag:=Aside0.mk (al (al (al (al (Below.refl W.heap.size W) j) U) I) fo)
 have E0:=Aside0.mk (show ((((W.alloc j).alloc U).alloc I).alloc fo).heap[W.heap.size]? =some j from by rw[Below.heap_alloc _ _ _ (by simp;omega),Below.heap_alloc _ _ _ (by simp;omega),Below.heap_alloc _ _ _ (by simp)];exact heap_alloc_new W j)
 have an:=HZ.out (W.alloc j) (fun k=>k=W.heap.size+1) (by simp)
 rw[World.size_alloc,<-bk] at an
 have E1:=Aside0.mk (Kd.aD (Kd.aD (Kd.aM an (show w0.heap.size<=W.heap.size+1 by omega)) I) fo)
 have E2:=Aside0.mk (show ((((W.alloc j).alloc U).alloc I).alloc fo).heap[W.heap.size+2]? =some I from by rw[Below.heap_alloc _ _ _ (by simp)];have h:=heap_alloc_new ((W.alloc j).alloc U) I;simpa using h)
 have E3:=Aside0.mk (show ((((W.alloc j).alloc U).alloc I).alloc fo).heap[W.heap.size+3]? =some fo from by have h:=heap_alloc_new (((W.alloc j).alloc U).alloc I) fo;simpa using h)
 have cr:Aside0 (CS w0 n A0 c0 E q gx qx W.heap.size lp ((((W.alloc j).alloc U).alloc I).alloc fo) (List.replicate n 0)):=
  ⟨⟨(ag.out.block gx cf).trans HG.out,(ag.out.block qx ch).trans HQ.out,E0.out.trans (by rw[bg]),E1.out,E2.out.trans (by rw[bn]),E3.out.trans (by rw[bo]),HW.out.trans (ag.out.mono cj)⟩⟩
 have cv:Aside0 (J () [] ((((W.alloc j).alloc U).alloc I).alloc fo)):=⟨b'.out _ _ _ _ ca.out (hU ag.out _)⟩
 have cx:=Aside0.mk ((callsIn_wide (n:=8)).2 (callsIn_wide.1 (b5.out _ (by simpa using cr.out) (by simpa using cd.out) cv.out)))
 subst bg bk bn bo
 clear ak b4 aO aP aS av aB aL a1 hg hq hw an
 refine callsIn_of_wp Tryz.func199 rfl trivial ?_ rfl
 simp only[Tryz.ntmps199,List.size_toArray,List.length_cons,List.length_nil,Nat.reduceAdd,Nat.reduceSub,Array.replicate_succ,Array.replicate_zero,List.push_toArray,List.append_toArray,List.nil_append,List.cons_append]
 gi_wp2
 refine⟨trivial,?_⟩
 refine cx.out.mono ?_
 rintro e w3 (⟨vs,rfl,R,h4,h5⟩|⟨rfl,c3,R⟩)
 ·have H3:=Aside0.mk R
  have H4:=Aside0.mk h4
  clear R h4 h5 a0
  gi_wp2
  go_end0
  exact⟨⟨_,rfl⟩,.inl ⟨_,vs,H4.out,H3.out⟩⟩
 ·have H3:=Aside0.mk R
  clear R a0
  gi_wp2
  go_end0
  exact⟨⟨_,rfl⟩,.inr ⟨_,c3,trivial,H3.out⟩⟩
end
def eU (val:List Int) (q:Int) (n j:Nat):List Int:=(List.range n).map fun v=>if v<j∧(v:Int)≠q then rd val v-1 else 0
theorem BO (val:List Int) (q:Int) (n:Nat):eU val q n 0=List.replicate n 0:=by
 unfold eU
 refine List.ext_getElem (by simp) fun i h1 h2=>?_
 simp
theorem BP {val:List Int} {q:Int} {n j:Nat} (h:(j:Int)=q):eU val q n (j+1)=eU val q n j:=by
 unfold eU
 refine List.map_congr_left fun v _=>?_
 by_cases e:v=j
 ·subst e;simp[h]
 ·have:(v<j+1∧(v:Int)≠q)↔(v<j∧(v:Int)≠q):=by omega
  simp only[this]
theorem BQ {val:List Int} {q:Int} {n j:Nat} (h:(j:Int)≠q) (o:j<n):eU val q n (j+1)=(eU val q n j).set j (rd val j-1):=by
 refine List.ext_getElem (by simp[eU]) fun i h1 h2=>?_
 rw[List.getElem_set]
 simp only[eU,List.getElem_map,List.getElem_range]
 by_cases e:j=i
 ·subst e;simp[h]
 ·rw[if_neg e]
  have:(i<j+1∧(i:Int)≠q)↔(i<j∧(i:Int)≠q):=by omega
  simp only[this]
theorem BR (n:Nat) (E:List S83):(eT n E).length=n:=ud n _ _
theorem BS {n:Nat} {E:List S83} (h:d_ E=true) (i:Nat):0<=rd (eT n E) i∧rd (eT n E) i<=4000:=by
 have h1:=uf n (cB E E.length) (cB E E.length).length i
 have h2:=ub h
 unfold eT
 omega
theorem BU (k n:Nat) (A0:Option Addr) (c0:Nat) (E:List S83) (q:Int) (j:Option Addr) (cd:Nat) (dl:List Int) (w:World) (J:Kd.C aG w A0 E.length E) (U:E.length<=c0) (hd:Kd.C (Kd.int .i64) w j n dl) (aa:n<=cd)
  (hn:n<=12) (ad:dl.length=n) (ht:aJ.f k n E=some 0) (hE:d_ E=true) (an:dp n E):
  Calls Tryz.prog 212 #[.agg #[.int .i64 n,.slice A0 E.length c0],.int .i64 q,.slice j n cd] w fun e w'=>∃(gp:Nat) (ar o:Option Addr) (av I:Nat) (rv:Value),e= .returned (.tuple #[.pointer (some ⟨gp,0,none⟩),.int .i64 0])∧PileAt w' gp (.slice ar n av) q rv (.slice o n I) (fun x=>if x<n then gF q (eT n E) dl x else false)∧(Kd.int .i64).R 3 w' w.heap.size (fun _=>True) (.slice o n I) (eT n E)∧Below w.heap.size w w':=by
 subst ad
 exact Bt k dl.length A0 c0 E q j cd dl w J U hd aa hn rfl ht hE an
def ju.f (k:Nat) (N:Int) (E:List S83) (q:Int):Option (List Int×Int):=
 (cN.f k N E q).bind fun t=>if t=0 then(if jY N E=true then some (eU (eT N.toNat E) q N.toNat N.toNat,0) else none) else some ([],t)
theorem BW (k:Nat) (N:Int) (A0:Option Addr) (c0:Nat) (E:List S83) (q:Int) (t:Int) (w:World) (I:Kd.C aG w A0 E.length E) (J:E.length<=c0)
  (j:cN.f k N E q=some t) (o:t≠0):
  Calls Tryz.prog 198 #[.agg #[.int .i64 N,.slice A0 E.length c0],.int .i64 q] w fun e w'=>e= .returned (.tuple #[.slice none 0 0,.int .i64 t])∧Below w.heap.size w w':=by
 have hu:=Tryz.underlying24
 have R:=Aside0.mk j
 have aa:(t != 0)=true:=by simpa using o
 clear j o
 go_enter Tryz.func198,Tryz.ntmps198
 go_wp2_with (go_at_call 211;refine(cN.calls k N A0 c0 E q t _ (Kd.aY I _) J R.out).mono ?_;rintro e w1 ⟨rfl,hb⟩;have U:=Aside0.mk (aN (al (Below.refl w.heap.size w) _) hb);clear hb)
 go_ret2
 exact⟨rfl,U.out⟩
theorem BX (k n:Nat) (A0:Option Addr) (c0:Nat) (E:List S83) (q:Int) (w:World) (a2:Kd.C aG w A0 E.length E) (a3:E.length<=c0)
  (an:cN.f k n E q=some 0) (hE:d_ E=true) (bg:dp n E):
  Calls Tryz.prog 198 #[.agg #[.int .i64 n,.slice A0 E.length c0],.int .i64 q] w fun e w'=>∃v,e= .returned (.tuple #[v,.int .i64 0])∧(Kd.int .i64).R 3 w' w.heap.size (fun _=>True) v (eU (eT n E) q n n)∧Below w.heap.size w w':=by
 have hu:=Tryz.underlying24
 have eb:=Tryz.underlying236
 obtain⟨hg,⟨_,hn⟩,_,ed,eg⟩:=jX an
 obtain⟨I,cl,bn⟩:=kM 25 Tryz.underlying25 n (by omega)
 obtain⟨ys,cq,bo⟩:=kM 26 Tryz.underlying26 n (by omega)
 have HZ:=Aside0.mk bn
 have HY:=Aside0.mk bo
 have cx:=Aside0.mk an
 have Hg:=Aside0.mk hg
 have HE:=Aside0.mk hE
 have HI:=Aside0.mk bg
 have c2:n<=12:=by omega
 clear bn bo an hg hE bg hn
 have HX:=Aside0.mk (heap_alloc_new w (.cells #[.int .i64 n,.slice A0 E.length c0] 24))
 go_enter Tryz.func198,Tryz.ntmps198
 go_wp2_with (go_at_call 211;refine(cN.calls k n A0 c0 E q 0 _ (Kd.aY a2 _) a3 cx.out).mono ?_;rintro e w1 ⟨rfl,hb⟩;have J:=Aside0.mk (aN (al (Below.refl w.heap.size w) _) hb);have o:=Aside0.mk (aE HX.out hb);clear hb)
 generalize av:w.heap.size=gb at HX J o⊢
 have c3:=aw o.out
 have c4:w1.cell? ⟨gb,0,none⟩=some (.int .i64 n):=(ai o.out 0).trans rfl
 have c5:w1.cell? ⟨gb,1,none⟩=some (.slice A0 E.length c0):=(ai o.out 1).trans rfl
 have c6:(w1.alloc (.cells I 3)).drew.cell? ⟨gb,0,none⟩=some (.int .i64 n):=(ai (aq o.out _) 0).trans rfl
 have c7:(w1.alloc (.cells I 3)).drew.cell? ⟨gb,1,none⟩=some (.slice A0 E.length c0):=(ai (aq o.out _) 1).trans rfl
 have HP:=Aside0.mk (BU k n A0 c0 E q (some ⟨w1.heap.size,0,none⟩) n (List.replicate n 0) (w1.alloc (.cells I 3)).drew (Kd.cK (Kd.aY (Kd.aj a2 (by rw[av];exact J.out)) _)) a3 (by have h:=(Kd.aC (Kd.a8 (HZ.out w1 (fun _=>True) trivial))).2.2;rw[List.length_replicate] at h;exact h) (Nat.le_refl _) c2 (by simp) Hg.out HE.out HI.out)
 have aB:Aside0 (gb<=(w1.alloc (.cells I 3)).drew.heap.size):=⟨by have h:(w1.alloc (.cells I 3)).drew.heap.size=w1.heap.size+1:=World.size_alloc w1 _;omega⟩
 have b0:=Aside0.mk (bu (J.out.alloc (Nat.le_of_lt c3) (.cells I 3)))
 have b1:=Aside0.mk (show (w1.alloc (.cells I 3)).drew.heap[gb]? =some (.cells #[.int .i64 n,.slice A0 E.length c0] 24 (0,0)) from aq o.out _)
 go_wp2
 go_region_with ((go_at_call 212;refine HP.out.mono ?_;rintro e w2 ⟨gp,ek,b2,er,b3,rv,rfl,hP,hR,hb⟩;have b_:=Aside0.mk (b0.out.trans (hb.mono aB.out));have aF:=Aside0.mk (aE b1.out hb);have b':=Aside0.mk hP;have aL:=Aside0.mk (Kd.aM hR aB.out);clear hP hR hb))
 all_goals have c8:w2.cell? ⟨gb,0,none⟩=some (.int .i64 n):=(ai aF.out 0).trans rfl
 all_goals have aO:=aw aF.out
 all_goals have ca:=Aside0.mk (b'.out.below (al (Below.refl w2.heap.size w2) (.cells ys 3)))
 all_goals have ag:=Aside0.mk (Kd.aD aL.out (.cells ys 3))
 all_goals have aP:=Aside0.mk (b_.out.alloc (Nat.le_of_lt aO) (.cells ys 3))
 all_goals have U:=Aside0.mk (Kd.aM (HY.out w2 (fun k=>k=w2.heap.size) rfl) (Nat.le_of_lt aO))
 all_goals have c9:=ca.out.nn
 all_goals have cb:Aside0 (some w2.heap.size≠(Value.slice b2 n b3).ownBlock):=⟨fun e=>by have:=Kd.bq aL.out _ e.symm;omega⟩
 all_goals clear HX J o b0 b1 aB HP b_ aF b' aL c4 c5 c6 c7 cl
 all_goals go_wp2
 all_goals clear c8 cq aO c9 ca
 all_goals generalize w2.alloc (.cells ys 3)=w3 at ag aP U⊢
 all_goals generalize w2.heap.size=ob at U cb⊢
 all_goals
  have cc:=Aside0.mk (BS (n:=n) HE.out)
  have cd:=Aside0.mk (BR n E)
  obtain⟨vl,aS⟩:∃vl,vl=eT n E:=⟨_,rfl⟩
  rw[<-aS] at ag cc cd
  have c':=Aside0.mk aS
  clear aS
  rw[<-BO vl q n] at U
  go_loopw [38] (fun i wr=>∃(j:Nat),j<=n∧i= .int .i64 j∧Aside0 ((Kd.int .i64).R 3 wr gb (fun _=>True) (.slice b2 n b3) vl)∧Aside0 ((Kd.int .i64).R 3 wr gb (fun k=>k=ob) (.slice (some ⟨ob,0,none⟩) n n) (eU vl q n j))∧Aside0 (Below gb w wr)) (fun i _=>n- (intOf i).toNat)
  case atStart=>exact⟨0,by omega,rfl,ag,U,aP⟩
  case round=>
   clear ag U aP
   obtain⟨j,hj,rfl,HR,HO,HB⟩:=hrel
   by_cases dd:j<n
   ·obtain⟨-, -,hC⟩:=Kd.aC HR.out
    rw[cd.out] at hC
    obtain⟨ad,rfl,hx⟩:=Kd.bD hC j (by omega) (by omega)
    rw[Int.toNat_natCast] at hx
    clear hC
    have ds:=cc.out j
    have ey:(0:Int)<=(j:Int):=by omega
    have e0:(j:Int)<(n:Int):=by omega
    by_cases hq:(j:Int)=q
    ·have Hs:=Aside0.mk (BP (val:=vl) (n:=n) hq)
     subst hq
     go_wp2
     go_roundw
     case rel=>exact⟨j+1,by omega,by go_num,HR,⟨by rw[Hs.out];exact HO.out⟩,HB⟩
     case measure=>exact(show n- ((j:Int)+1).toNat<n- ((j:Int)).toNat by omega)
    ·have Hs:=Aside0.mk (BQ (val:=vl) hq dd)
     have e1:((j:Int) != q)=true:=by simpa using hq
     obtain⟨dv,ea⟩:=Kd.bB (0:Int) HO.out (j:Int) (by omega) (by omega)
     have hp:=Kd.cL HO.out (j:Int) (rd vl j-1)
     rw[Int.toNat_natCast] at dv ea hp
     have ch:=Aside0.mk hp.1
     have cj:=Aside0.mk (Kd.ga HR.out rfl hp.2 cb.out)
     have J:=Aside0.mk (Below.setCell (p:=⟨ob,j,none⟩) HB.out (Kd.br HO.out ob rfl) (.int .i64 (rd vl j-1)))
     clear hp hq
     generalize rd vl j=x at hx ds ch cj J Hs
     go_wp2
     go_roundw
     case rel=>exact⟨j+1,by omega,by go_num,cj,⟨by rw[Hs.out];exact ch.out⟩,J⟩
     case measure=>exact(show n- ((j:Int)+1).toNat<n- ((j:Int)).toNat by omega)
   ·obtain rfl:j=n:=by omega
    go_wp2
    go_ret2
    exact⟨.slice (some ⟨ob,0,none⟩) _ _,rfl,by rw[av,<-c'.out];exact Kd.aR HO.out (fun _ _=>trivial),by rw[av];exact HB.out⟩
theorem ju.calls (k:Nat) (I:Int) (J:Option Addr) (U:Nat) (j:List (S83)) (a1:Int) (r1:List Int) (r2:Int) (w:World) (ak:Kd.C aG w J j.length j) (an:j.length<=U) (h:ju.f k I j a1=some (r1,r2)):
  Calls Tryz.prog 198 #[.agg #[.int .i64 I,.slice J j.length U],.int .i64 a1] w fun e w'=>∃ar:Value,e= .returned (.tuple #[ar,.int .i64 r2])∧Kd.R (Kd.int .i64) 3 w' w.heap.size (fun _=>True) ar r1∧Below w.heap.size w w':=by
 unfold ju.f at h
 obtain⟨t,ht,H⟩:=Option.bind_eq_some_iff.mp h
 by_cases h0:t=0
 ·subst h0
  rw[if_pos rfl] at H
  by_cases o:jY I j=true
  ·rw[if_pos o] at H
   simp only[Option.some.injEq,Prod.mk.injEq] at H
   obtain⟨rfl,rfl⟩:=H
   obtain⟨_,⟨hN,aB⟩,_,_⟩:=jX ht
   obtain⟨n,rfl⟩:=Int.eq_ofNat_of_zero_le hN
   simp only[jY,Bool.and_eq_true] at o
   rw[Int.toNat_natCast]
   exact BX k n J U j a1 w ak an ht o.1 (gU o.2)
  ·rw[if_neg o] at H;cases H
 ·rw[if_neg h0] at H
  simp only[Option.some.injEq,Prod.mk.injEq] at H
  obtain⟨rfl,rfl⟩:=H
  refine(BW k I J U j a1 t w ak an ht h0).mono ?_
  rintro e w' ⟨rfl,hb⟩
  exact⟨_,rfl,Kd.cE _ _ _ _ _,hb⟩
def gJ.f (k:Nat) (o:Int) (I:List (S83)) (J:Int):Option (List Int×Int):=(ju.f k o I J).bind fun j=>(some (j.1,j.2))
theorem gJ.calls (k:Nat) (o:Int) (U:Option Addr) (aa:Nat) (j:List (S83)) (J:Int) (r1:List Int) (r2:Int) (w:World) (an:Kd.C aG w U j.length j) (ar:j.length<=aa) (h:gJ.f k o j J=some (r1,r2)):
  Calls Tryz.prog 173 #[.agg #[.int .i64 o,.slice U j.length aa],.int .i64 J] w fun e w'=>∃av:Value,e= .returned (.tuple #[av,.int .i64 r2])∧Kd.R (Kd.int .i64) 3 w' w.heap.size (fun _=>True) av r1∧Below w.heap.size w w':=by
 have bn:=Tryz.underlying24
 have a0:=Aside0.mk an
 have a2:=Aside0.mk ar
 clear an ar
 have I:=Aside0.mk (Below.refl w.heap.size w)
 have H:((ju.f k o j J).bind fun aB=>(some (aB.1,aB.2)))=some (r1,r2):=h
 clear h
 replace H:=Option.bind_eq_some_iff.mp H
 obtain⟨⟨aF,aL⟩,aO,H⟩:=H
 replace H:(some (aF,aL))=some (r1,r2):=H
 have A3:=Aside0.mk aO
 clear aO
 simp only[Option.some.injEq,Prod.mk.injEq] at H
 obtain⟨rfl,rfl⟩:=H
 go_enter Tryz.func173,Tryz.ntmps173
 go_wp2_with (first|((with_reducible refine aA (N:=2) rfl ?_);refine zX 2 #[.int .i64 o,.slice U j.length aa] 24 ?_;intro bo hg w4 aP hb;have ak:=Aside0.mk (aP);have bx:=zG I hg;have b0:=zG I hg;replace I:=zS I hb;clear hb aP hg;obtain⟨b1,b2,b3,b4⟩:=ao ak)|((with_reducible refine au (f:=198) rfl ?_);refine zL (some 8) Tryz.func198 #[.agg #[.int .i64 o,.slice U j.length aa],.int .i64 J] ?_;(with_reducible refine(ju.calls k o _ _ j J aF aL _ ?bf ?bg A3.out).mono ?_);(case bf=>exact Kd.aj a0.out zB);(case bg=>exact a2.out);rintro e w6 ⟨b_,rfl,aS,hb⟩;refine⟨_,rfl,?_⟩;have bk:=Aside0.mk (Kd.aM aS (aU zB));replace ak:=zb ak hb;replace I:=zS I hb;(try clear hb);(try clear aS)))
 go_ret2
 exact⟨_,zE,by(with_reducible repeat(first|apply Kd.aD|apply Kd.bd|apply Kd.a8));exact bk.out,zB⟩
section
attribute [local go_sem] Oper.semAt_some
theorem uq {P:Program} {ty:TypeId} {d:TypeDesc} (w:World) (a:Addr) (v:Value) (h:P.underlying ty=some d) (k:(match d with| .struct _| .array _ _=>true|_=>false)=false) (c:w.cell? a=some v):(loadVar ty a).run P w= .ok v w:=by
 have e:(isAgg ty).run P w= .ok false w:=by
  unfold isAgg
  rw[Sem.run_bind]
  have hu:(underlying ty).run P w= .ok d w:=by simp[underlying,Sem.run_bind,Result.andThen,h]
  rw[hu]
  cases d<;>first|(simp at k;done)|rfl
 unfold loadVar
 rw[Sem.run_bind,e]
 simp[Result.andThen,go_sem,c]
theorem ur {P:Program} {fn:Func} {p u:Tmp} {t1 t2:TypeId} {d1 d2:TypeDesc} (h:fn.results=#[.cell p t1,.cell u t2]) (tmps:Array Value) (w:World) (a b:Addr) (v1 v2:Value) (hp:tmps.getD p undef= .pointer (some a)) (hu:tmps.getD u undef= .pointer (some b))
  (h1:P.underlying t1=some d1) (h2:P.underlying t2=some d2) (j:(match d1 with| .struct _| .array _ _=>true|_=>false)=false) (o:(match d2 with| .struct _| .array _ _=>true|_=>false)=false) (c1:w.cell? a=some v1) (c2:w.cell? b=some v2):
  (results fn tmps).run P w= .ok (.tuple #[v1,v2]) w:=by
 have I:tmps[p]?.getD undef= .pointer (some a):=by simpa using hp
 have J:tmps[u]?.getD undef= .pointer (some b):=by simpa using hu
 simp[results,h,I,J,asAddr,Sem.run_bind,Result.andThen,uq w a v1 h1 j c1,uq w b v2 h2 o c2]
theorem BY (N:Int) (A0:Option Addr) (c0:Nat) (E:List S83) (q:Int) (w:World):Calls Tryz.prog 174 #[.agg #[.int .i64 N,.slice A0 E.length c0],.int .i64 q] w fun e w'=>e= .returned (.func (.func 199) #[] #[.pointer (some ⟨w.heap.size,0,none⟩),.pointer (some ⟨w.heap.size+1,0,none⟩)])∧w'=(w.alloc (.cells #[.int .i64 N,.slice A0 E.length c0] 24)).alloc (.cells #[.int .i64 q] 3):=by
 go_enter Tryz.func174,Tryz.ntmps174
 go_wp2
 go_ret
 exact⟨rfl,rfl⟩
def nt:Nat:=1000
def du (n:Nat) (E:List S83) (q:Nat):List (List Int):=cF q nt (bs n (af E) q) n []
def gZ.f (k:Nat) (N:Int) (E:List S83) (q:Int):Option (List (List Int)×Int):=
 (gJ.f k N E q).bind fun t=>if t.2=0 then(if(du N.toNat E q.toNat).length<=16384 then some (du N.toNat E q.toNat,0) else none) else some ([],t.2)
theorem uu {k:Nat} {N:Int} {E:List S83} {q:Int} {l:List Int} (h:gJ.f k N E q=some (l,0)):cN.f k N E q=some 0∧d_ E=true∧gw N E=true∧l=eU (eT N.toNat E) q N.toNat N.toNat:=by
 unfold gJ.f ju.f at h
 simp only[Option.bind_assoc] at h
 obtain⟨t,j,h⟩:=Option.bind_eq_some_iff.1 h
 by_cases h0:t=0
 ·subst h0
  rw[if_pos rfl] at h
  by_cases hk:jY N E=true
  ·rw[if_pos hk] at h
   simp only[jY,Bool.and_eq_true] at hk
   simp only[Option.bind_some,Option.some.injEq,Prod.mk.injEq] at h
   exact⟨j,hk.1,hk.2,h.1.symm⟩
  ·rw[if_neg hk] at h;cases h
 ·rw[if_neg h0] at h
  simp only[Option.bind_some,Option.some.injEq,Prod.mk.injEq] at h
  exact absurd h.2 h0
theorem BZ {F:Fence} {n:Nat} {P:Program} {fn:Func} {R:Ending->World->Prop} {a:Act} {w:World} {v:Value} (hd:a.defers=[]) (j:(results fn a.tmps).run P w= .ok v w) (o:R (.returned v) w):bodyPostM F n P fn R .ret a w:=by
 show LeavesInM F n P fn a.tmps R a.defers .returning w
 rw[hd]
 exact⟨_,j,o⟩
theorem B0 {w1:World} {r:Nat} {t1 t2:TypeId} {j o:Value} (v1 v2:Value) (I:w1.heap[r]? =some (.cells #[j] t1 (0,0))) (J:w1.heap[r+1]? =some (.cells #[o] t2 (0,0))):
  ((w1.setCell ⟨r,0,none⟩ v1).setCell ⟨r+1,0,none⟩ v2).cell? ⟨r,0,none⟩=some v1∧((w1.setCell ⟨r,0,none⟩ v1).setCell ⟨r+1,0,none⟩ v2).cell? ⟨r+1,0,none⟩=some v2:=by
 have h1:=bt I 0 v1
 have h2:=ay (p:=⟨r+1,0,none⟩) h1 (by show r≠r+1;omega) v2
 have R:=ay (p:=⟨r,0,none⟩) J (by show r+1≠r;omega) v1
 have U:=bt R 0 v2
 exact⟨(ai h2 0).trans (by simp),(ai U 0).trans (by simp)⟩
theorem p5 (w:World) (j o I:Obj):(((w.alloc j).alloc o).alloc I).heap[w.heap.size]? =some j∧(((w.alloc j).alloc o).alloc I).heap[w.heap.size+1]? =some o∧(((w.alloc j).alloc o).alloc I).heap[w.heap.size+1+1]? =some I:=by
 refine⟨?_,?_,?_⟩
 ·rw[Below.heap_alloc _ _ _ (by simp;omega),Below.heap_alloc _ _ _ (by simp)];exact heap_alloc_new w j
 ·rw[Below.heap_alloc _ _ _ (by simp)];have h:=heap_alloc_new (w.alloc j) o;simpa using h
 ·have h:=heap_alloc_new ((w.alloc j).alloc o) I;simpa using h
theorem B2 (k:Nat) (N:Int) (A0:Option Addr) (c0:Nat) (E:List S83) (q:Int) (l:List Int) (t:Int) (w:World) (U:Kd.C aG w A0 E.length E) (aa:E.length<=c0) (hf:gJ.f k N E q=some (l,t)) (I:t≠0):
  Calls Tryz.prog 114 #[.agg #[.int .i64 N,.slice A0 E.length c0],.int .i64 q] w fun e w'=>e= .returned (.tuple #[.slice none 0 0,.int .i64 t])∧Below w.heap.size w w':=by
 have hu:=Tryz.underlying24
 have Hf:=Aside0.mk hf
 have ak:(t != 0)=true:=by simpa using I
 have j:=Aside0.mk (p5 w (.cells #[.int .i64 N,.slice A0 E.length c0] 24) (.cells #[.slice none 0 0] 33) (.cells #[.int .i64 0] 30))
 have an:(((w.alloc (.cells #[.int .i64 N,.slice A0 E.length c0] 24)).alloc (.cells #[.slice none 0 0] 33)).alloc (.cells #[.int .i64 0] 30)).cell? ⟨w.heap.size,0,none⟩=some (.int .i64 N):=(ai j.out.1 0).trans rfl
 have ar:(((w.alloc (.cells #[.int .i64 N,.slice A0 E.length c0] 24)).alloc (.cells #[.slice none 0 0] 33)).alloc (.cells #[.int .i64 0] 30)).cell? ⟨w.heap.size,1,none⟩=some (.slice A0 E.length c0):=(ai j.out.1 1).trans rfl
 clear hf I
 refine(callsIn_wide (n:=10)).1 ?_
 refine callsIn_of_wp_marks Tryz.func114 rfl trivial ?_ rfl
 simp only[Tryz.ntmps114,List.size_toArray,List.length_cons,List.length_nil,Nat.reduceAdd,Nat.reduceSub,Array.replicate_succ,Array.replicate_zero,List.push_toArray,List.append_toArray,List.nil_append,List.cons_append]
 gi_wp2_with (refine⟨trivial,?_⟩;gi_at_call 173;refine(callsIn_wide.2 (gJ.calls k N A0 c0 E q l t _ (Kd.aY (Kd.aY (Kd.aY U _) _) _) aa Hf.out)).mono ?_;rintro e w1 ⟨v,rfl,ad,hb⟩;have HB:=Aside0.mk ((al (al (al (Below.refl w.heap.size w) _) _) _).trans (hb.mono (by simp;omega)));have o:=Aside0.mk (aE j.out.2.1 hb);have J:=Aside0.mk (aE j.out.2.2 hb);have q1:w1.cell? ⟨w.heap.size+1,0,none⟩=some (.slice none 0 0):=(ai o.out 0).trans rfl;have q2:w1.frozen? ⟨w.heap.size+1,0,none⟩=false:=a9 o.out 0;have R:=Aside0.mk (ay (p:=⟨w.heap.size+1,0,none⟩) J.out (by show w.heap.size+1+1≠w.heap.size+1;omega) (.slice none 0 0));have q3:(w1.setCell ⟨w.heap.size+1,0,none⟩ (.slice none 0 0)).cell? ⟨w.heap.size+1+1,0,none⟩=some (.int .i64 0):=(ai R.out 0).trans rfl;have q4:=a9 R.out 0;clear ad hb)
 obtain⟨c1,c2⟩:=B0 (.slice none 0 0) (.int .i64 t) o.out J.out
 exact BZ rfl (ur (p:=4) (u:=5) rfl _ _ ⟨w.heap.size+1,0,none⟩ ⟨w.heap.size+1+1,0,none⟩ _ _ rfl rfl Tryz.underlying33 Tryz.underlying30 rfl rfl c1 c2) ⟨rfl,(HB.out.setCell (p:=⟨w.heap.size+1,0,none⟩) (by show w.heap.size<=w.heap.size+1;omega) _).setCell (p:=⟨w.heap.size+1+1,0,none⟩) (by show w.heap.size<=w.heap.size+1+1;omega) _⟩
end
section
attribute [local go_sem] Oper.semAt_some
theorem B4 (k n:Nat) (A0:Option Addr) (c0:Nat) (E:List S83) (q:Nat) (l:List Int) (w:World) (ck:Kd.C aG w A0 E.length E) (cl:E.length<=c0) (hf:gJ.f k n E q=some (l,0)) (cq:(du n E q).length<=16384):
  Calls Tryz.prog 114 #[.agg #[.int .i64 n,.slice A0 E.length c0],.int .i64 q] w fun e w'=>∃v,e= .returned (.tuple #[v,.int .i64 0])∧(Kd.slice 3 (Kd.int .i64)).R 26 w' w.heap.size (fun _=>True) v (du n E q)∧Below w.heap.size w w':=by
 have hu:=Tryz.underlying24
 obtain⟨hr,hm,cc, -⟩:=uu hf
 obtain⟨_,⟨_,hn⟩,_,e2,e3⟩:=jX hr
 have c2:n<=12:=by omega
 have e4:=Aside0.mk (fun c (hc:gI n q c)=>BL hr cc hc)
 have e5:Aside0 (∀(p:List Int) (x kk:Nat),bs n (af E) q (p++(x:Int)::List.replicate kk 0)=true->p.length+1+kk=n->p.length≠q->x+1<nt):=⟨fun p x kk h hp e6=>by
  have h1:=p4 cc c2 (v:=p.length) (by omega) e6 h
  have hx:rd (p++(x:Int)::List.replicate kk 0) p.length=x:=by simp[rd,List.getD_eq_getElem?_getD]
  rw[hx] at h1
  show x+1<1000
  omega⟩
 have e':=Aside0.mk cq
 have Hf:=Aside0.mk hf
 have ab:=Aside0.mk (p5 w (.cells #[.int .i64 n,.slice A0 E.length c0] 24) (.cells #[.slice none 0 0] 33) (.cells #[.int .i64 0] 30))
 have fo:(((w.alloc (.cells #[.int .i64 n,.slice A0 E.length c0] 24)).alloc (.cells #[.slice none 0 0] 33)).alloc (.cells #[.int .i64 0] 30)).cell? ⟨w.heap.size,0,none⟩=some (.int .i64 n):=(ai ab.out.1 0).trans rfl
 have fq:(((w.alloc (.cells #[.int .i64 n,.slice A0 E.length c0] 24)).alloc (.cells #[.slice none 0 0] 33)).alloc (.cells #[.int .i64 0] 30)).cell? ⟨w.heap.size,1,none⟩=some (.slice A0 E.length c0):=(ai ab.out.1 1).trans rfl
 clear hf hr hm cc cq e2 e3 hn
 refine(callsIn_wide (n:=10)).1 ?_
 refine callsIn_of_wp_marks Tryz.func114 rfl trivial ?_ rfl
 simp only[Tryz.ntmps114,List.size_toArray,List.length_cons,List.length_nil,Nat.reduceAdd,Nat.reduceSub,Array.replicate_succ,Array.replicate_zero,List.push_toArray,List.append_toArray,List.nil_append,List.cons_append]
 gi_wp2_with (first|(refine⟨trivial,?_⟩;gi_at_call 173;refine(callsIn_wide.2 (gJ.calls k n A0 c0 E q l 0 _ (Kd.aY (Kd.aY (Kd.aY ck _) _) _) cl Hf.out)).mono ?_;rintro e w1 ⟨v,rfl,fr,hb⟩;have HB:=Aside0.mk ((al (al (al (Below.refl w.heap.size w) _) _) _).trans (hb.mono (by simp;omega)));have X0:=Aside0.mk (aE ab.out.1 hb);have X1:=Aside0.mk (aE ab.out.2.1 hb);have X2:=Aside0.mk (aE ab.out.2.2 hb);have y0:(w1.alloc (.cells #[.slice none 0 0] 33)).cell? ⟨w.heap.size,0,none⟩=some (.int .i64 n):=(ai (aq X0.out _) 0).trans rfl;have y1:(w1.alloc (.cells #[.slice none 0 0] 33)).cell? ⟨w.heap.size,1,none⟩=some (.slice A0 E.length c0):=(ai (aq X0.out _) 1).trans rfl;clear fr hb)|(refine⟨trivial,?_⟩;gi_at_call 174;refine(callsIn_wide.2 (BY n A0 c0 E q _)).mono ?_;rintro e w3 ⟨rfl,rfl⟩))
 have f':w.heap.size+1+1<w1.heap.size:=aw X2.out
 have gb:=HB.out.size
 obtain⟨og,c3⟩:∃o:Obj,o= .cells #[.int .i64 n,.slice A0 E.length c0] 24:=⟨_,rfl⟩
 obtain⟨oq,c4⟩:∃o:Obj,o= .cells #[.int .i64 q] 3:=⟨_,rfl⟩
 obtain⟨oo,c5⟩:∃o:Obj,o= .cells #[.slice none 0 0] 33:=⟨_,rfl⟩
 obtain⟨Z0,Z1,Z2⟩:=p5 w1 oo og oq
 have aL:=Aside0.mk (Z0.trans (by rw[c5]:_=some (.cells #[.slice none 0 0] 33 (0,0))))
 have bg:=Aside0.mk (Z1.trans (by rw[c3]:_=some (.cells #[.int .i64 n,.slice A0 E.length c0] 24 (0,0))))
 have bk:=Aside0.mk (Z2.trans (by rw[c4]:_=some (.cells #[.int .i64 q] 3 (0,0))))
 have bn:=Aside0.mk (al (al (al HB.out oo) og) oq)
 have c9:=Aside0.mk (aq (aq (aq X1.out oo) og) oq)
 have c':=Aside0.mk (aq (aq (aq X2.out oo) og) oq)
 clear Z0 Z1 Z2
 subst c3 c4 c5
 clear y0 y1 fo fq X0 X1 X2 HB ab
 generalize (((w1.alloc (.cells #[.slice none 0 0] 33)).alloc (.cells #[.int .i64 n,.slice A0 E.length c0] 24)).alloc (.cells #[.int .i64 q] 3))=j at aL bg bk bn c9 c'⊢
 have gd:=aw aL.out
 have gg:=aw bg.out
 have gi:=aw bk.out
 generalize gl:w1.heap.size+1+1=qx at bk gi⊢
 generalize gm:w1.heap.size+1=gx at bg gg gl⊢
 generalize w1.heap.size=bo at aL f' gb gd gm⊢
 have hG:=bn.out.size
 refine iB (σ:=Unit) (α:=List Int×Value) (F:=Fence.wide) (n:=10) rfl (by decide) (gf:=199) (lb:=#[.pointer (some ⟨gx,0,none⟩),.pointer (some ⟨qx,0,none⟩)]) rfl trivial (enters_of Tryz.func199 (by kernel_rfl) rfl)
  (fun o=>BN (w0:=w) (B:=nt) (K:=k+20) (n:=n) (A0:=A0) (c0:=c0) (E:=E) (q:=q) (gx:=gx) (qx:=qx) (calm:=bs n (af E) q) _ (j.heap.size+2) (by simp) c2 ck cl e4.out e5.out (by decide) (by decide) e'.out (aq (aq bg.out _) _) (aq (aq bk.out _) _) (al (al bn.out _) _)) (fun _=>rfl)
  (fun _=>True) ?gp ?st ?ar
  (fun _ pre W=>j.heap.size+2<=W.heap.size∧∃v,W.heap[bo]? =some (.cells #[v] 33 (0,0))∧W.heap[w.heap.size+1]? =some (.cells #[.slice none 0 0] 33 (0,0))∧W.heap[w.heap.size+1+1]? =some (.cells #[.int .i64 0] 30 (0,0))∧(Kd.slice 3 (Kd.int .i64)).R 26 W w.heap.size (fun k=>¬(k=gx∨k=qx∨j.heap.size+2<=k∧k<j.heap.size+2+4)) v (pre.map Prod.fst)∧Below w.heap.size w W) (fun _ _ _ _=>False)
  ?is (fun _ _ _ _ _ _ h _=>h) ?ib (fun _ _ _ _ _ h _=>h) ?kt ?h0 ?a1 ?assign ?body ?done (fun _ _ _ _ _ _ _ h=>h.elim)
 case assign=>
  intro l x W K hK
  gi_wp2
  exact hK
 case gp=>
  intro o s W1 h
  exact⟨trivial,by rw[h];exact bJ.refl _ _⟩
 case st=>intro s A B _ h k o h1 h2 J _;exact(h.block k (Array.getElem?_eq_some_iff.1 J).1 (fun e=>by injection e;omega)).trans J
 case ar=>intro s x A B _ h k o h1 h2 J _;exact(h.1.block k (Array.getElem?_eq_some_iff.1 J).1 (fun e=>by injection e;omega)).trans J
 case is=>
  rintro s pre A B _ ⟨hs,v,h1,h2,J,h4,h5⟩ av
  exact⟨Nat.le_trans hs av.size,v,(av.block bo (aw h1) (fun e=>by injection e;omega)).trans h1,(av.block _ (aw h2) (fun e=>by injection e;omega)).trans h2,(av.block _ (aw J) (fun e=>by injection e;omega)).trans J,Kd.ki h4 av (fun k hk e=>hk (.inr (.inr (by injection e;omega)))),jz h5 _ h5.size av (fun k e=>by injection e;omega)⟩
 case ib=>
  rintro s pre A B ⟨hs,v,h1,h2,J,h4,h5⟩ hb
  exact⟨by rw[hb.size];exact hs,v,hb.cells h1,hb.cells h2,hb.cells J,dr h4 hb,h5.trans (hb.below w.heap.size (by omega))⟩
 case kt=>
  intro s A B C D b0 dd ds
  refine⟨fun aK=>((b0.below w.heap.size (by omega)).trans (dd.1 (by rw[b0.size];exact aK))).trans (ds.below w.heap.size (by omega)),fun k hk aK=>?_⟩
  have dv:k≠j.heap.size+1:=by rcases hk with rfl|rfl|hk<;>omega
  exact(ds.heap k dv).trans ((dd.2 k hk (by rw[b0.size];exact aK)).trans (b0.heap k dv))
 case h0=>
  rintro o s W1 rfl
  exact⟨by simp,_,aq (aq aL.out _) _,aq (aq c9.out _) _,aq (aq c'.out _) _,Kd.cE _ _ _ _ _,al (al bn.out _) _⟩
 case body=>
  rintro l s pre ⟨xl,xv⟩ Wb W1 W _ ⟨hs,v,i1,i2,i3,i4,i5⟩ ⟨an,b_,hJ⟩ eb I
  simp only at b_
  obtain⟨Ax,cx,rfl⟩:=Kd.a7 b_
  have hL:Wb.heap.size<=W.heap.size:=by have:=I.size;have:=an.size;omega
  have b1:=Aside0.mk (I.cells ((an.block bo (aw i1) (fun e=>by injection e;omega)).trans i1))
  have b2:=Aside0.mk (I.cells ((an.block _ (aw i2) (fun e=>by injection e;omega)).trans i2))
  have b3:=Aside0.mk (I.cells ((an.block _ (aw i3) (fun e=>by injection e;omega)).trans i3))
  have b4:=Aside0.mk (dr (Kd.ki i4 an (fun k hk e=>hk (.inr (.inr (by injection e;omega))))) I)
  have b5:=Aside0.mk ((jz i5 _ i5.size an (fun k e=>by injection e;omega)).trans (I.below w.heap.size (by omega)))
  have bx:=Aside0.mk (Kd.mi (Kd.aM (Kd.aR (ok':=fun k=>Wb.heap.size<=k) (Kd.dR (dr b_ I)) (fun k hk=>hk.2.1)) i5.size))
  have ed:∀k,v.ownBlock=some k->k<Wb.heap.size:=fun k hk=>Kd.bq i4 k hk
  have eg:=Aside0.mk ed
  have g':=Aside0.mk (Kd.fI i4)
  clear i1 i2 i3 i4 i5 an b_ I ed
  obtain⟨Ar,cr,rfl⟩:=Kd.a7 b4.out
  have er:(pre.map Prod.fst).length=pre.length:=by simp
  rw[er] at b1 b4 eg g'
  have hc:=dN b1.out
  have hf:=a9 b1.out 0
  have hM:(((pre.length:Nat):Int)==16384)=false:=by simp;omega
  have LN:Aside0 (((pre.map Prod.fst).length+1)*24<=140737488355328):=⟨by rw[er];omega⟩
  have hg:Aside0 (∀k,Wb.heap.size<=k->¬(k=gx∨k=qx∨j.heap.size+2<=k∧k<j.heap.size+2+4)∧some k≠(Value.slice Ar pre.length cr).ownBlock):=⟨fun k hk=>⟨by omega,fun e=>by have:=eg.out k e.symm;omega⟩⟩
  have hh:Aside0 (∀k,W.heap.size<=k->¬(k=gx∨k=qx∨j.heap.size+2<=k∧k<j.heap.size+2+4)):=⟨fun k hk=>by omega⟩
  gi_wp2_with (gi_at_builtin;go_loud (refine pr (Kd.slice 3 (Kd.int .i64)) (w0:=w) w.heap.size rfl (.tmp 26) (.tmp 28) 33 26 (.slice none 0 0) 24 rfl Tryz.underlying33 rZ rfl (by decide) (by omega) (.slice Ar pre.length cr) (pre.map Prod.fst) xl [.slice Ax xl.length cx] (fun k=>¬(k=gx∨k=qx∨j.heap.size+2<=k∧k<j.heap.size+2+4)) (fun k=>Wb.heap.size<=k) rfl rfl bx.out hg.out hh.out b4.out b5.out b5.out.size LN.out ?_;intro v1 hN hown hb aS hj;obtain⟨A1,c1,rfl⟩:=Kd.a7 hown;have X1:=Aside0.mk ((aS.block bo (aw b1.out) (Kd.dj b4.out b1.out (by decide))).trans b1.out);have X2:=Aside0.mk ((aS.block _ (aw b2.out) (Kd.dj b4.out b2.out (by decide))).trans b2.out);have X3:=Aside0.mk ((aS.block _ (aw b3.out) (Kd.dj b4.out b3.out (by decide))).trans b3.out);have hO:=dN X1.out;have hP:=a9 X1.out 0;have hl:=Aside0.mk hown;have ho:=Aside0.mk hb;have ca:=Aside0.mk aS;clear hown hb aS hj))
  refine⟨(pv b4.out ca.out).trans (eQ _ _ (aw aL.out)),⟨fun aK=>Below.setCell ((Below.refl w.heap.size W).grown ca.out aK (Kd.br b4.out)) (by show w.heap.size<=bo;omega) _,fun k hk hq=>?_⟩,by have:=ca.out.size;simp;omega,.slice A1 (pre.length+1) c1,by simpa using bt X1.out 0 (.slice A1 (pre.length+1) c1),ay X2.out (by show w.heap.size+1≠bo;omega) _,ay X3.out (by show w.heap.size+1+1≠bo;omega) _,?_,dJ ho.out (by show w.heap.size<=bo;omega)⟩
  ·have ht:k≠bo:=by rcases hk with rfl|rfl|hk<;>omega
   rw[Below.heap_setCell _ _ _ _ ht]
   exact ca.out.block k hq (fun e=>(b4.out.1 k e.symm) hk)
  ·have h:=Kd.eo hl.out X1.out (by decide) 0 (.slice A1 (pre.length+1) c1)
   simpa using h
 case done=>
  rintro s xs W W' _ ev ⟨hs,v,i1,i2,i3,i4,i5⟩ I ew
  obtain⟨U,cv,hv⟩:=Kd.a7 i4
  rw[List.length_map] at hv
  subst hv
  have b1:=Aside0.mk (I.cells i1)
  have b2:=Aside0.mk (I.cells i2)
  have b3:=Aside0.mk (I.cells i3)
  have b4:=Aside0.mk (dr i4 I)
  have b5:=Aside0.mk (i5.trans (I.below w.heap.size (by omega)))
  have hy:=Aside0.mk ew
  have ab:=Aside0.mk (show xs.map Prod.fst=du n E q from ev)
  clear i1 i2 i3 i4 i5 ew ev I
  have hc:=dN b1.out
  have q1:W'.cell? ⟨w.heap.size+1,0,none⟩=some (.slice none 0 0):=(ai b2.out 0).trans rfl
  have q2:W'.frozen? ⟨w.heap.size+1,0,none⟩=false:=a9 b2.out 0
  have X3:=Aside0.mk (ay (p:=⟨w.heap.size+1,0,none⟩) b3.out (by show w.heap.size+1+1≠w.heap.size+1;omega) (.slice U xs.length cv))
  have q3:(W'.setCell ⟨w.heap.size+1,0,none⟩ (.slice U xs.length cv)).cell? ⟨w.heap.size+1+1,0,none⟩=some (.int .i64 0):=(ai X3.out 0).trans rfl
  have q4:=a9 X3.out 0
  have Y1:=Aside0.mk (ay (p:=⟨w.heap.size+1+1,0,none⟩) (bt b2.out 0 (.slice U xs.length cv)) (by show w.heap.size+1≠w.heap.size+1+1;omega) (.int .i64 0))
  have Y2:=Aside0.mk (bt X3.out 0 (.int .i64 0))
  have eb:w.heap.size+1≠j.heap.size:=by omega
  have hB:w.heap.size+1+1≠j.heap.size:=by omega
  have Y3:=Aside0.mk (show ((W'.setCell ⟨w.heap.size+1,0,none⟩ (.slice U xs.length cv)).setCell ⟨w.heap.size+1+1,0,none⟩ (.int .i64 0)).heap[j.heap.size]? =some (.deferred (some [])) from by rw[Below.heap_setCell _ _ _ _ (fun e=>hB e.symm),Below.heap_setCell _ _ _ _ (fun e=>eb e.symm)];exact hy.out)
  have Y4:=Aside0.mk (Kd.eo (Kd.eo b4.out b2.out (by decide) 0 (.slice U xs.length cv)) X3.out (by decide) 0 (.int .i64 0))
  have Y5:=Aside0.mk ((b5.out.setCell (p:=⟨w.heap.size+1,0,none⟩) (by show w.heap.size<=w.heap.size+1;omega) (.slice U xs.length cv)).setCell (p:=⟨w.heap.size+1+1,0,none⟩) (by show w.heap.size<=w.heap.size+1+1;omega) (.int .i64 0))
  gi_wp2_with fail
  have cb:Bk j.heap.size ((W'.setCell ⟨w.heap.size+1,0,none⟩ (.slice U xs.length cv)).setCell ⟨w.heap.size+1+1,0,none⟩ (.int .i64 0)) (((W'.setCell ⟨w.heap.size+1,0,none⟩ (.slice U xs.length cv)).setCell ⟨w.heap.size+1+1,0,none⟩ (.int .i64 0)).putObj j.heap.size (.deferred none)):=⟨_,_,Y3.out,rfl,rfl⟩
  refine jk (D:=j.heap.size) rfl Y3.out (ur (p:=4) (u:=5) rfl _ _ ⟨w.heap.size+1,0,none⟩ ⟨w.heap.size+1+1,0,none⟩ (.slice U xs.length cv) (.int .i64 0) rfl rfl Tryz.underlying33 Tryz.underlying30 rfl rfl ((ai (cb.cells Y1.out) 0).trans (by simp)) ((ai (cb.cells Y2.out) 0).trans (by simp))) ⟨_,rfl,?_,Y5.out.trans (cb.below w.heap.size (by omega))⟩
  rw[<-ab.out]
  exact Kd.aR (dr Y4.out cb) (fun _ _=>trivial)
theorem gZ.calls (k:Nat) (o:Int) (I:Option Addr) (J:Nat) (j:List (S83)) (R:Int) (r1:List (List Int)) (r2:Int) (w:World) (ag:Kd.C aG w I j.length j) (ak:j.length<=J) (h:gZ.f k o j R=some (r1,r2)):
  Calls Tryz.prog 114 #[.agg #[.int .i64 o,.slice I j.length J],.int .i64 R] w fun e w'=>∃an:Value,e= .returned (.tuple #[an,.int .i64 r2])∧Kd.N (Kd.slice 3 (Kd.int .i64)) 26 w' w.heap.size (fun k_=>(w.heap.size<=k_)) an r1∧Below w.heap.size w w':=by
 unfold gZ.f at h
 obtain⟨⟨l,t⟩,ht,H⟩:=Option.bind_eq_some_iff.mp h
 simp only at H
 by_cases h0:t=0
 ·subst h0
  rw[if_pos rfl] at H
  by_cases U:(du o.toNat j R.toNat).length<=16384
  ·rw[if_pos U] at H
   simp only[Option.some.injEq,Prod.mk.injEq] at H
   obtain⟨rfl,rfl⟩:=H
   obtain⟨hr, -, -, -⟩:=uu ht
   obtain⟨_,⟨hN,aF⟩,_,aB,_⟩:=jX hr
   obtain⟨n,rfl⟩:=Int.eq_ofNat_of_zero_le hN
   obtain⟨q,rfl⟩:=Int.eq_ofNat_of_zero_le aB
   rw[Int.toNat_natCast,Int.toNat_natCast] at U⊢
   refine(B4 k n I J j q l w ag ak ht U).mono ?_
   rintro e w' ⟨v,rfl,h1,h2⟩
   exact⟨v,rfl,Kd.oA (Kd.aR (Kd.dR h1) (fun k hk=>hk.2.1)),h2⟩
  ·rw[if_neg U] at H;cases H
 ·rw[if_neg h0] at H
  simp only[Option.some.injEq,Prod.mk.injEq] at H
  obtain⟨rfl,rfl⟩:=H
  refine(B2 k o I J j R l t w ag ak ht h0).mono ?_
  rintro e w' ⟨rfl,hb⟩
  exact⟨_,rfl,Kd.oA (Kd.cE _ _ _ _ _),hb⟩
end
def ny (qx gx:Nat) (row:Option Nat) (j:World) (l:List (List Int)) (del:List Int->Bool):Prop:=
 ∀(W':World) (A0:Option Addr) (c0:Nat) (x:List Int),j.grownBy W' row->x∈l->x.length<=c0->Kd.C (Kd.int .i64) W' A0 x.length x->
  Calls Tryz.prog 116 #[.slice A0 x.length c0,.pointer (some ⟨qx,0,none⟩),.pointer (some ⟨gx,0,none⟩)] W' fun e w'=>e= .returned (.bool (del x))∧Below W'.heap.size W' w'
theorem uw {l:List (List Int)} {i:Nat} (h:i<l.length):aH l i∈l:=by
 have e:aH l i=l[i]:=by simp[aH,List.getD_eq_getElem?_getD,List.getElem?_eq_getElem h]
 rw[e];exact List.getElem_mem h
theorem ux (qx gx base:Nat) (row:Option Nat) (A:Option Addr) (cap:Nat) (ok:Nat->Prop) (l:List (List Int)) (del:List Int->Bool) (wb W:World) (hN:Kd.N (Kd.slice 3 (Kd.int .i64)) 26 W base ok (.slice A l.length cap) l) (ak:wb.grownBy W row) (hD:ny qx gx row wb l del):
  Calls Tryz.prog 175 #[.slice A l.length cap,.func (.func 116) #[] #[.pointer (some ⟨qx,0,none⟩),.pointer (some ⟨gx,0,none⟩)]] W fun e w'=>∃r:Int,e= .returned (.int .i64 r)∧((r= -1∧∀j:Nat,j<l.length->del (aH l j)=false)∨∃i:Nat,r=i∧i<l.length∧del (aH l i)=true∧∀j:Nat,j<i->del (aH l j)=false)∧Below W.heap.size W w':=by
 have HN:=Aside0.mk hN
 have aL:=Aside0.mk ak
 have HD:=Aside0.mk hD
 clear hN ak hD
 go_enter Tryz.func175,Tryz.ntmps175
 go_wp2
 go_loopw [8] (fun i wr=>∃k:Nat,k<=l.length∧i= .int .i64 k∧Aside0 (∀j:Nat,j<k->del (aH l j)=false)∧Aside0 (Below W.heap.size W wr)) (fun i _=>l.length- (intOf i).toNat)
 case atStart=>exact⟨0,by omega,rfl,⟨fun j hj=>by omega⟩,⟨Below.refl _ _⟩⟩
 case round=>
  obtain⟨k,hk,rfl,R,o⟩:=hrel
  by_cases ar:k<l.length
  ·obtain⟨-,aS,hC⟩:=Kd.fN (Kd.f_ HN.out o.out)
   obtain⟨ad,Ac,cc,rfl,a1,av,aB⟩:=e7 hC k (by omega) (by omega)
   rw[Int.toNat_natCast] at a1
   have J:=Aside0.mk (HD.out wr Ac cc (aH l k) (aL.out.trans (hU o.out _)) (uw ar) av aB)
   have a2:=Aside0.mk (rfl:aH l k=aH l k)
   have a3:(0:Int)<=(k:Int):=by omega
   have bf:(k:Int)<(l.length:Int):=by omega
   have bg:l.length<=9223372036854775807:=Kd.kZ hC
   clear hC aB av aS
   cases hb:del (aH l k) with
   |true=>
    rw[hb] at J
    have U:=Aside0.mk hb
    clear hb
    go_wp2_with (go_at_call 116;refine J.out.mono ?_;rintro e w1 ⟨rfl,I⟩;have aa:=Aside0.mk I;clear I)
    go_ret
    exact⟨k,rfl,.inr ⟨k,rfl,ar,U.out,R.out⟩,o.out.trans (aa.out.mono o.out.size)⟩
   |false=>
    rw[hb] at J
    have U:=Aside0.mk hb
    clear hb
    go_wp2_with (go_at_call 116;refine J.out.mono ?_;rintro e w1 ⟨rfl,I⟩;have aa:=Aside0.mk I;clear I)
    go_roundw
    case rel=>exact⟨k+1,by omega,by go_num,⟨fun j hj=>by
     by_cases e:j=k
     ·subst e;exact U.out
     ·exact R.out j (by omega)⟩,⟨o.out.trans (aa.out.mono o.out.size)⟩⟩
    case measure=>exact(show l.length- ((k:Int)+1).toNat<l.length- ((k:Int)).toNat by omega)
  ·obtain rfl:k=l.length:=by omega
   go_wp2
   go_ret
   exact⟨-1,rfl,.inl ⟨rfl,R.out⟩,o.out⟩
theorem B6 {ys:List (List Int)} {i m:Nat} (h:i≠m) (x:List Int):aH (ys.set i x) m=aH ys m:=by
 simp[aH,List.getD_eq_getElem?_getD,List.getElem?_set,h]
theorem B7 (i:Nat):((i:Int)== -1)=false:=by
 rw[beq_eq_false_iff_ne];omega
theorem uy {l:List (List Int)} {j:Nat} (h:j<l.length):l.take (j+1)=l.take j++[aH l j]:=by
 rw[List.take_succ_eq_append_getElem h]
 simp[aH,List.getD_eq_getElem?_getD,List.getElem?_eq_getElem h]
theorem B8 {ys:List (List Int)} {i:Nat} (h:i<ys.length) (x:List Int):(ys.set i x).take (i+1)=ys.take i++[x]:=by
 rw[List.take_succ_eq_append_getElem (by simpa using h)]
 simp[List.take_set_of_le]
theorem B9 {l:List (List Int)} {del:List Int->Bool} {j:Nat} (h:j<l.length):(l.take (j+1)).filter (fun x=> !del x)=(l.take j).filter (fun x=> !del x)++(if del (aH l j) then[] else[aH l j]):=by
 rw[uy h,List.filter_append]
 cases hd:del (aH l j)<;>simp[hd]
theorem B_ (w:World):(zeroValue 26).run Tryz.prog w= .ok (.slice none 0 0) w:=by kernel_rfl
theorem Ca {l:List (List Int)} {del:List Int->Bool} {i:Nat} (h1:del (aH l i)=true) (h2:∀j:Nat,j<i->del (aH l j)=false) (h:i<l.length):l.take i=(l.take (i+1)).filter fun x=> !del x:=by
 rw[uy h,List.filter_append]
 rw[show[aH l i].filter (fun x=> !del x)=[] by simp[h1],List.append_nil]
 symm
 rw[List.filter_eq_self]
 intro x I
 obtain⟨j,J,rfl⟩:=List.mem_take_iff_getElem.1 I
 have o:=h2 j (by omega)
 have e:aH l j=l[j]'(by omega):=by simp[aH,List.getD_eq_getElem?_getD,List.getElem?_eq_getElem (by omega:j<l.length)]
 rw[e] at o
 simp[o]
theorem nz {W:World} {base g0 n cap:Nat} {ok:Nat->Prop} {ys:List (List Int)} {x:List Int} {v:Value} {i:Nat} (h:Kd.N (Kd.slice 3 (Kd.int .i64)) 26 W base ok (.slice (some ⟨g0,0,none⟩) n cap) ys) (hM:Kd.FK (Kd.slice 3 (Kd.int .i64)) W (fun k=>ok k∧k≠g0) x [v]) (hi:i<n):
  (∃u,W.cell? ⟨g0,i,none⟩=some u)∧W.frozen? ⟨g0,i,none⟩=false∧Kd.N (Kd.slice 3 (Kd.int .i64)) 26 (W.setCell ⟨g0,i,none⟩ v) base ok (.slice (some ⟨g0,0,none⟩) n cap) (ys.set i x)∧W.grownBy (W.setCell ⟨g0,i,none⟩ v) (some g0):=by
 obtain⟨c,I, -,o,U⟩:=Kd.oD h [] (i:Int) (by omega) (by omega)
 obtain⟨u,rfl⟩:∃u,c=[u]:=List.length_eq_one_iff.1 I
 have J:=Kd.xQ h (i:Int) (by omega) (by omega) (c:=[u]) (seg:=[v]) (j:=0) (x':=x) (okp:=fun k=>ok k∧k≠g0) I o (by simp[Kd.slice]) (by simpa using hM) (fun k hk=>hk)
 rw[Int.toNat_natCast] at o J
 have h0:=o 0 u rfl
 have R:=U 0
 rw[Int.toNat_natCast] at R
 refine⟨⟨u,by simpa [Kd.slice] using h0⟩,by simpa [Kd.slice] using R,?_⟩
 simpa [Kd.slice,World.setCells] using J
theorem Cb {base g0 n cap:Nat} {ok:Nat->Prop}:∀(m i:Nat) (W:World) (ys:List (List Int)),i+m=n->ys.length=n->Kd.N (Kd.slice 3 (Kd.int .i64)) 26 W base ok (.slice (some ⟨g0,0,none⟩) n cap) ys->
  ∃j:List (List Int),j.length=n∧j.take i=ys.take i∧Kd.N (Kd.slice 3 (Kd.int .i64)) 26 (W.setCells g0 i (List.replicate m (.slice none 0 0))) base ok (.slice (some ⟨g0,0,none⟩) n cap) j∧W.grownBy (W.setCells g0 i (List.replicate m (.slice none 0 0))) (some g0):=by
 intro m
 induction m with
 |zero=>intro i W ys _ o h;exact⟨ys,o,rfl,h,⟨rfl,rfl,rfl,Nat.le_refl _,fun _ _ _=>rfl⟩⟩
 |succ m J=>
  intro i W ys hi o h
  obtain⟨-, -,h1,h2⟩:=nz (x:=[]) (v:=.slice none 0 0) (i:=i) h (fun W' _=>⟨none,0,rfl,Nat.le_refl _,Kd.nZ _ _⟩) (by omega)
  obtain⟨j,z1,z2,R,U⟩:=J (i+1) _ (ys.set i []) (by omega) (by rw[List.length_set];exact o) h1
  refine⟨j,z1,?_,by rw[List.replicate_succ,World.setCells];exact R,by rw[List.replicate_succ,World.setCells];exact h2.trans U⟩
  have I:=congrArg (List.take i) z2
  rw[List.take_take,List.take_take,show min i (i+1)=i by omega] at I
  rw[I,List.take_set_of_le (Nat.le_refl i)]
theorem Cc (qx gx base g0 cap:Nat) (ok:Nat->Prop) (l:List (List Int)) (del:List Int->Bool) (wb W:World) (J:Kd.N (Kd.slice 3 (Kd.int .i64)) 26 W base ok (.slice (some ⟨g0,0,none⟩) l.length cap) l) (ar:wb.grownBy W (some g0)) (hD:ny qx gx (some g0) wb l del) (hex:∃j:Nat,j<l.length∧del (aH l j)=true):
  Calls Tryz.prog 115 #[.slice (some ⟨g0,0,none⟩) l.length cap,.func (.func 116) #[] #[.pointer (some ⟨qx,0,none⟩),.pointer (some ⟨gx,0,none⟩)]] W fun e w'=>∃m:Nat,e= .returned (.slice (some ⟨g0,0,none⟩) m cap)∧m=(l.filter fun x=> !del x).length∧Kd.N (Kd.slice 3 (Kd.int .i64)) 26 w' base ok (.slice (some ⟨g0,0,none⟩) m cap) (l.filter fun x=> !del x)∧W.grownBy w' (some g0):=by
 have HN:=Aside0.mk J
 have cf:=Aside0.mk ar
 have HD:=Aside0.mk hD
 have ck:=Aside0.mk hex
 have HI:Aside0 (Calls Tryz.prog 175 #[.slice (some ⟨g0,0,none⟩) l.length cap,.func (.func 116) #[] #[.pointer (some ⟨qx,0,none⟩),.pointer (some ⟨gx,0,none⟩)]] W fun e w'=>∃i:Nat,e= .returned (.int .i64 i)∧i<l.length∧del (aH l i)=true∧(∀j:Nat,j<i->del (aH l j)=false)∧Below W.heap.size W w'):=⟨(ux qx gx base (some g0) (some ⟨g0,0,none⟩) cap ok l del wb W J ar hD).mono (by
  rintro e w' ⟨r,rfl,h|⟨i,rfl,h1,h2,h3⟩,hb⟩
  ·obtain⟨j,R,a2⟩:=hex
   rw[h.2 j R] at a2;cases a2
  ·exact⟨i,rfl,h1,h2,h3,hb⟩)⟩
 obtain⟨-,c3,a3⟩:=Kd.fN J
 have c4:l.length<=9223372036854775807:=Kd.kZ a3
 clear J ar hD hex a3
 go_enter Tryz.func115,Tryz.ntmps115
 go_wp2_with (go_at_call 175;refine HI.out.mono ?_;rintro e w1 ⟨i0,rfl,bf,bg,bk,hb⟩;have bn:=Aside0.mk bg;have bo:=Aside0.mk bk;have aB:=Aside0.mk hb;have cq:=B7 i0;clear bg bk hb)
 have bw:=Aside0.mk (Ca bn.out bo.out bf)
 have bx:=Aside0.mk (hU aB.out (some g0))
 have b0:=Aside0.mk (Kd.f_ HN.out aB.out)
 clear HI bn bo aB ck cq
 go_loopw [5,6] (fun ii jj wr=>∃(i j:Nat) (ys:List (List Int)),i<j∧j<=l.length∧ii= .int .i64 i∧jj= .int .i64 j∧Aside0 (ys.length=l.length)∧Aside0 (ys.take i=(l.take j).filter fun x=> !del x)∧Aside0 (∀m:Nat,j<=m->aH ys m=aH l m)∧Aside0 (Kd.N (Kd.slice 3 (Kd.int .i64)) 26 wr base ok (.slice (some ⟨g0,0,none⟩) l.length cap) ys)∧Aside0 (W.grownBy wr (some g0))) (fun _ jj _=>l.length- (intOf jj).toNat)
 case atStart=>exact⟨i0,i0+1,l,by omega,by omega,rfl,by go_num,⟨rfl⟩,bw,⟨fun _ _=>rfl⟩,b0,bx⟩
 case round=>
  clear bw bx b0
  obtain⟨i,j,ys,c5,R,rfl,rfl,U,HT,HR,I,HG⟩:=hrel
  by_cases b1:j<l.length
  ·obtain⟨c,aP,ab,aS, -⟩:=Kd.oD I.out [] (j:Int) (by omega) (by omega)
   rw[show ys.getD (j:Int).toNat []=aH l j from HR.out j (Nat.le_refl _)] at ab
   rw[Int.toNat_natCast] at aS
   obtain⟨Aj,cj,rfl,hle,hF⟩:=Kd.ku ab
   have c6:wr.cell? ⟨g0,j,none⟩=some (.slice Aj (aH l j).length cj):=by have h:=aS 0 _ rfl;simpa [Kd.slice] using h
   have HM:=Aside0.mk (HD.out wr Aj cj (aH l j) (cf.out.trans HG.out) (uw b1) hle (Kd.xw hF))
   have cr:=Aside0.mk ab
   have c7:(0:Int)<=(j:Int):=by omega
   have c8:(j:Int)<(l.length:Int):=by omega
   have c9:(0:Int)<=(i:Int):=by omega
   have cv:(i:Int)<(l.length:Int):=by omega
   have ag:=Aside0.mk (show (l.take (j+1)).filter (fun x=> !del x)=(l.take j).filter (fun x=> !del x)++(if del (aH l j) then[] else[aH l j]) from B9 b1)
   have c':=Aside0.mk (show ∃x,x=aH l j from⟨_,rfl⟩)
   clear aP ab aS hle hF
   cases hb:del (aH l j) with
   |true=>
    rw[hb] at HM ag
    clear hb
    go_wp2_with (go_at_call 116;refine HM.out.mono ?_;rintro e w2 ⟨rfl,o⟩;have ak:=Aside0.mk o;clear o)
    go_roundw
    case rel=>exact⟨i,j+1,ys,by omega,by omega,rfl,by go_num,U,⟨by rw[ag.out,HT.out];simp⟩,⟨fun m hm=>HR.out m (by omega)⟩,⟨Kd.f_ I.out ak.out⟩,⟨HG.out.trans (hU ak.out _)⟩⟩
    case measure=>exact(show l.length- ((j:Int)+1).toNat<l.length- ((j:Int)).toNat by omega)
   |false=>
    rw[hb] at HM ag
    clear hb
    go_wp2_with (go_at_call 116;refine HM.out.mono ?_;rintro e w2 ⟨rfl,o⟩;obtain⟨q1,q2,q3⟩:=nz (Kd.f_ I.out o) (Kd.xE cr.out o) (show i<l.length by omega);have ak:=Aside0.mk o;have cx:=Aside0.mk q3.1;have c0:=Aside0.mk q3.2;obtain⟨q0,q1⟩:=q1;clear q3 o)
    go_roundw
    case rel=>exact⟨i+1,j+1,ys.set i (aH l j),by omega,by omega,by go_num,by go_num,⟨by rw[List.length_set];exact U.out⟩,⟨by rw[B8 (by rw[U.out];omega),ag.out,HT.out];simp⟩,⟨fun m hm=>by rw[B6 (by omega)];exact HR.out m (by omega)⟩,cx,⟨(HG.out.trans (hU ak.out _)).trans c0.out⟩⟩
    case measure=>exact(show l.length- ((j:Int)+1).toNat<l.length- ((j:Int)).toNat by omega)
  ·obtain rfl:j=l.length:=by omega
   have aP:=Lib.run_clear_slice (P:=Tryz.prog) wr 33 26 0 (.slice none 0 0) Tryz.underlying33 B_ rfl rfl g0 i (l.length-i) (cap-i) (by omega) (fun j R=>by
    obtain⟨⟨u,hu⟩, -⟩:=nz (x:=[]) (v:=.slice none 0 0) (i:=i+j) I.out (fun W' _=>⟨none,0,rfl,Nat.le_refl _,Kd.nZ _ _⟩) (by omega)
    rw[hu];rfl) (fun j R=>(nz (x:=[]) (v:=.slice none 0 0) (i:=i+j) I.out (fun W' _=>⟨none,0,rfl,Nat.le_refl _,Kd.nZ _ _⟩) (by omega)).2.1)
   obtain⟨zs,z1,z2,z3,z4⟩:=Cb (l.length-i) i wr ys (by omega) U.out I.out
   have b':=Aside0.mk z1
   have c2:=Aside0.mk z2
   have ca:=Aside0.mk z3
   have cb:=Aside0.mk z4
   have bf:(0:Int)<=(i:Int):=by omega
   have cv:(i:Int)<=(l.length:Int):=by omega
   have ds:(i:Int)<=(cap:Int):=by omega
   have dv:¬cap=i:=by omega
   clear z1 z2 z3 z4
   generalize wr.setCells g0 i (List.replicate (l.length-i) (.slice none 0 0))=w9 at aP ca cb
   go_wp2
   go_ret
   have cc:(l.filter fun x=> !del x)=zs.take i:=by
    have h:=HT.out
    rw[List.take_length] at h
    rw[<-h,c2.out]
   have hml:i=(l.filter fun x=> !del x).length:=by rw[cc,List.length_take,b'.out];omega
   refine⟨i,rfl,hml,?_,HG.out.trans cb.out⟩
   rw[cc]
   exact Kd.xP ca.out (by rw[b'.out];omega)
theorem filter_none {l:List (List Int)} {del:List Int->Bool} (h:∀j:Nat,j<l.length->del (aH l j)=false):(l.filter fun x=> !del x)=l:=by
 rw[List.filter_eq_self]
 intro x J
 obtain⟨j,o,rfl⟩:=List.mem_iff_getElem.1 J
 have I:=h j o
 have e:aH l j=l[j]:=by simp[aH,List.getD_eq_getElem?_getD,List.getElem?_eq_getElem o]
 rw[e] at I
 simp[I]
theorem Cd (qx gx base:Nat) (row:Option Nat) (A:Option Addr) (cap:Nat) (ok:Nat->Prop) (l:List (List Int)) (del:List Int->Bool) (o W:World) (I:Kd.N (Kd.slice 3 (Kd.int .i64)) 26 W base ok (.slice A l.length cap) l) (J:o.grownBy W row) (R:ny qx gx row o l del) (hex:∀j:Nat,j<l.length->del (aH l j)=false):
  Calls Tryz.prog 115 #[.slice A l.length cap,.func (.func 116) #[] #[.pointer (some ⟨qx,0,none⟩),.pointer (some ⟨gx,0,none⟩)]] W fun e w'=>e= .returned (.slice A l.length cap)∧Below W.heap.size W w':=by
 have U:Aside0 (Calls Tryz.prog 175 #[.slice A l.length cap,.func (.func 116) #[] #[.pointer (some ⟨qx,0,none⟩),.pointer (some ⟨gx,0,none⟩)]] W fun e w'=>e= .returned (.int .i64 (-1))∧Below W.heap.size W w'):=⟨(ux qx gx base row A cap ok l del o W I J R).mono (by
  rintro e w' ⟨r,rfl,⟨rfl,h⟩|⟨i,rfl,h1,h2,h3⟩,hb⟩
  ·exact⟨rfl,hb⟩
  ·rw[hex i h1] at h2;cases h2)⟩
 clear I J R hex
 go_enter Tryz.func115,Tryz.ntmps115
 go_wp2_with (go_at_call 175;refine U.out.mono ?_;rintro e w1 ⟨rfl,hb⟩;have aa:=Aside0.mk hb;clear hb)
 go_ret
 exact⟨rfl,aa.out⟩
def cJ.l0:Nat->Int->List Int->Int->Int->List (S83)->Option (List Int)
 |0,_,_,_,_,_=>none
 |k+1,x1,x2,x3,j,o=>(fC.f k j o x1 x2).bind fun I=>(if I=true then(if 0<=x3 then(if x3<(x2.length:Int) then(cJ.l0 k x1 (x2.set (x3:Int).toNat (wrap64 ((rd x2 x3)+1))) x3 j o) else(none)) else(none)) else(if 0<=x3 then(if x3<(x2.length:Int) then(some (x2.set (x3:Int).toNat (wrap64 ((rd x2 x3)-1)))) else(none)) else(none)))
def cJ.f (k:Nat) (I:Int) (J:List (S83)) (R:Int) (l2:List Int) (j:Int):Option (List Int):=(eJ.f l2).bind fun o=>(if 0<=j then(if j<(o.length:Int) then(cJ.l0 k R (o.set (j:Int).toNat (wrap64 ((rd o j)+1))) j I J) else(none)) else(none))
theorem cJ.calls (k:Nat) (ag:Int) (aF:Option Addr) (aL:Nat) (U:List (S83)) (a1:Int) (A2:Option Addr) (c2:Nat) (l2:List Int) (j:Int) (r:List Int) (w:World) (ek:Kd.C aG w aF U.length U) (er:U.length<=aL) (ev:Kd.C (Kd.int .i64) w A2 l2.length l2) (ew:l2.length<=c2) (h:cJ.f k ag U a1 l2 j=some r):
  Calls Tryz.prog 117 #[.agg #[.int .i64 ag,.slice aF U.length aL],.int .i64 a1,.slice A2 l2.length c2,.int .i64 j] w fun e w'=>∃ey:Value,e= .returned (ey)∧Kd.R (Kd.int .i64) 3 w' w.heap.size (fun _=>True) ey r∧Below w.heap.size w w':=by
 have hj:=Tryz.underlying24
 have e0:=Aside0.mk ek
 have e1:=Aside0.mk er
 clear ek er
 have gf:=Aside0.mk ev
 have gg:=Aside0.mk ew
 clear ev ew
 have HB:=Aside0.mk (Below.refl w.heap.size w)
 have H:((eJ.f l2).bind fun aa=>(if 0<=j then(if j<(aa.length:Int) then(cJ.l0 k a1 (aa.set (j:Int).toNat (wrap64 ((rd aa j)+1))) j ag U) else(none)) else(none)))=some r:=h
 clear h
 replace H:=Option.bind_eq_some_iff.mp H
 obtain⟨aa,e2,H⟩:=H
 replace H:(if 0<=j then(if j<(aa.length:Int) then(cJ.l0 k a1 (aa.set (j:Int).toNat (wrap64 ((rd aa j)+1))) j ag U) else(none)) else(none))=some r:=H
 have A5:=Aside0.mk e2
 clear e2
 by_cases c6:0<=j
 ·rw[if_pos c6] at H
  have gl:decide (0<=j)=true:=decide_eq_true c6
  clear c6
  by_cases c7:j<(aa.length:Int)
  ·rw[if_pos c7] at H
   have gm:decide (j<(aa.length:Int))=true:=decide_eq_true c7
   clear c7
   obtain⟨cf,bf⟩:∃y_:List Int,y_=(aa.set (j:Int).toNat (wrap64 ((rd aa j)+1))):=⟨_,rfl⟩
   replace H:(cJ.l0 k a1 cf j ag U)=some r:=by first|(rw[bf];with_reducible exact H)|(have ar:=(Option.bind_some _ _).symm.trans H;rw[bf];with_reducible exact ar)|(have ar:=(Option.bind_some _ _).symm.trans H;with_reducible exact ar)|with_reducible exact H|(rw[bf];exact H)|exact H
   have gp:=Aside0.mk bf
   clear bf
   have H':=Aside0.mk H
   clear H
   go_enter Tryz.func117,Tryz.ntmps117
   go_wp2_with (first|((with_reducible refine aA (N:=4) rfl ?_);refine zX 4 #[.int .i64 ag,.slice aF U.length aL] 24 ?_;intro gq hg w9 e3 hb;have J:=Aside0.mk (e3);have hl:=zG HB hg;have hq:=zG HB hg;replace HB:=zS HB hb;clear hb e3 hg)|((with_reducible refine au (f:=57) rfl ?_);refine zL (some 10) Tryz.func57 #[.slice A2 l2.length c2] ?_;(with_reducible refine(eJ.calls _ _ l2 aa _ ?bk ?bn A5.out).mono ?_);(case bk=>exact Kd.aj gf.out zB);(case bn=>exact gg.out);rintro e e4 ⟨hs,rfl,e5,hb⟩;refine⟨_,rfl,?_⟩;have av:=Aside0.mk (Kd.aM e5 (aU zB));replace J:=zb J hb;replace HB:=zS HB hb;(try clear hb);(try clear e5);obtain⟨ht,aO,gr⟩:=Kd.a7 av.out;subst gr;have b3:0<=(j:Int):=of_decide_eq_true ‹_›;have b4:j<(aa.length:Int):=of_decide_eq_true ‹_›;obtain⟨hv,gx,e6⟩:=Kd.bD (Kd.aC av.out).2.2 j b3 b4;cases gx;replace b3:=eq_true b3;replace b4:=eq_true b4;have p8:0<=(j:Int):=of_decide_eq_true ‹_›;have q8:(j:Int)<((aa.length:Int):Int):=of_decide_eq_true ‹_›;obtain⟨ak,hx,e_,e',g0,hy,fb⟩:=Kd.eH av.out (by omega);(first|cases e_|(injection e_ with b5 g1 g2;(first|subst b5|(injection b5 with b5;subst b5));subst g2;clear g1));have ch:=Aside0.mk e';have hz:=Aside0.mk fb;clear e' g0 fb;(first|simp only[add_plain] at e6|skip);obtain⟨g3,hA⟩:=Kd.bB 0 av.out (j:Int) p8 q8;replace p8:=eq_true p8;replace q8:=eq_true q8;obtain⟨hB,hD⟩:=Kd.bB 0 av.out (j:Int) (of_decide_eq_true ‹_›) (of_decide_eq_true ‹_›);have cj:=Kd.cL av.out (j:Int) (wrap64 ((rd aa j)+1)))|((with_reducible refine iW (t:=3) (p:=16) rfl ?_);refine iV (t:=3) (p:=16) (v:=?hE) (w1:=(e4.setCell ⟨ak,(j:Int).toNat,none⟩ (.int .i64 (wrap64 ((rd aa j)+1))))) ?hg ?ho ?hn ?hr ?_;(case ho=>rfl);(case hg=>rfl);(case hn=>rfl);(case hr=>first|(go_simp;done)|(go_simp;rfl));intro ck hw;have hg:e4.grownBy ck (some ak):=(by rw[hw];exact cj.2);have aB:Kd.R (Kd.int .i64) 3 ck w.heap.size (fun _=>True) (.slice (some ⟨ak,0,none⟩) aa.length aO) cf:=(by rw[hw,gp.out];exact cj.1);clear cj;replace J:=Aside0.mk (cg (zK J) hg (Kd.dj av.out J.out (by decide)));replace av:=Aside0.mk (aB);replace HB:=Aside0.mk ((by rw[hw];exact dJ (HB.out) ch.out:Below w.heap.size w ck));clear hg hw aB))
   go_loopg [] k (fun kq w'=>∃(o:List Int),Aside0 (cJ.l0 kq a1 o j ag U=some r)∧Aside0 (kq<=k)∧Aside0 (Kd.R (Kd.int .i64) 3 w' w.heap.size (fun _=>True) (.slice (some ⟨ak,0,none⟩) aa.length aO) o)∧Aside0 (w'.heap[gq]? =some (.cells #[.int .i64 ag,(.slice aF U.length aL)] 24 (0,0)))∧Aside0 (Below w.heap.size w w'))
   case atStart=>exact⟨(cf),H',⟨Nat.le_refl _⟩,⟨zR av⟩,⟨zK J⟩,⟨zB⟩⟩
   case round=>
    clear H'
    try clear c1
    try clear c2
    try clear p2
    try clear p3
    try clear q3
    try clear hJ
    try clear c5
    try clear c6
    try clear gl
    try clear p6
    try clear c7
    try clear gm
    try clear p8
    try clear q8
    try clear hM
    try clear hN
    try clear hO
    try clear e6
    try clear g3
    try clear b3
    try clear p8
    try clear b4
    try clear q8
    obtain⟨o,HA,fq,I,J,HB⟩:=hrel
    have aP:=(Kd.aC I.out).1
    rw[aP] at I
    (try simp only[aP])
    (try simp only[aP] at J)
    cases gk with
    |zero=>exact absurd HA.out (by simp[cJ.l0])
    |succ k1=>
     have H:=HA.out
     clear HA
     simp only[cJ.l0] at H
     replace H:=Option.bind_eq_some_iff.mp H
     obtain⟨fr,ft,H⟩:=H
     replace H:(if fr=true then(if 0<=j then(if j<(o.length:Int) then(cJ.l0 k1 a1 (o.set (j:Int).toNat (wrap64 ((rd o j)+1))) j ag U) else(none)) else(none)) else(if 0<=j then(if j<(o.length:Int) then(some (o.set (j:Int).toNat (wrap64 ((rd o j)-1)))) else(none)) else(none)))=some r:=H
     have fv:=Aside0.mk ft
     clear ft
     by_cases b_:fr=true
     ·subst b_
      have H1:(if 0<=j then(if j<(o.length:Int) then(cJ.l0 k1 a1 (o.set (j:Int).toNat (wrap64 ((rd o j)+1))) j ag U) else(none)) else(none))=some r:=by rw[if_pos rfl] at H;exact H
      clear H
      have H:=H1
      clear H1
      by_cases b':0<=j
      ·rw[if_pos b'] at H
       have hP:decide (0<=j)=true:=decide_eq_true b'
       clear b'
       by_cases ca:j<(o.length:Int)
       ·rw[if_pos ca] at H
        have hQ:decide (j<(o.length:Int))=true:=decide_eq_true ca
        clear ca
        obtain⟨cq,b0⟩:∃y_:List Int,y_=(o.set (j:Int).toNat (wrap64 ((rd o j)+1))):=⟨_,rfl⟩
        replace H:(cJ.l0 k1 a1 cq j ag U)=some r:=by first|(rw[b0];with_reducible exact H)|(have ar:=(Option.bind_some _ _).symm.trans H;rw[b0];with_reducible exact ar)|(have ar:=(Option.bind_some _ _).symm.trans H;with_reducible exact ar)|with_reducible exact H|(rw[b0];exact H)|exact H
        have g4:=Aside0.mk b0
        clear b0
        have H':=Aside0.mk H
        clear H
        obtain⟨hR,hT,hV,hW⟩:=ao J
        go_wp2_with (first|((with_reducible refine au (f:=176) rfl ?_);refine zL (some 20) Tryz.func176 #[.agg #[.int .i64 ag,.slice aF U.length aL],.int .i64 a1,.slice (some ⟨ak,0,none⟩) o.length aO] ?_;(with_reducible refine(fC.calls k1 ag _ _ U a1 _ _ o true _ ?bk ?bn ?cr ?cv fv.out).mono ?_);(case bk=>exact Kd.aj e0.out zB);(case bn=>exact e1.out);(case cr=>exact zC (Kd.aC I.out).2.2);(case cv=>exact(Kd.aC I.out).2.1);rintro e f' ⟨rfl,hb⟩;refine⟨_,rfl,?_⟩;replace I:=bm I hb;replace J:=zb J hb;replace HB:=zS HB hb;(try clear hb);have cx:0<=(j:Int):=of_decide_eq_true ‹_›;have c0:j<(o.length:Int):=of_decide_eq_true ‹_›;obtain⟨g',ha,c3⟩:=Kd.bD (Kd.aC I.out).2.2 j cx c0;obtain rfl:(⟨ak,0,none⟩:Addr)=g':=(by injection ha);(first|simp only[add_plain] at c3|simp only[fZ] at c3|simp only[Addr.add,Nat.zero_add] at c3|skip);replace cx:=eq_true cx;replace c0:=eq_true c0;have c4:0<=(j:Int):=of_decide_eq_true ‹_›;have c8:(j:Int)<((o.length:Int):Int):=of_decide_eq_true ‹_›;obtain⟨hX,hY⟩:=Kd.bB 0 I.out (j:Int) c4 c8;replace c4:=eq_true c4;replace c8:=eq_true c8;obtain⟨h0,h1⟩:=Kd.bB 0 I.out (j:Int) (of_decide_eq_true ‹_›) (of_decide_eq_true ‹_›);have c9:=Kd.cL I.out (j:Int) (wrap64 ((rd o j)+1)))|((with_reducible refine iW (t:=3) (p:=26) rfl ?_);refine iV (t:=3) (p:=26) (v:=?h2) (w1:=(f'.setCell ⟨ak,(j:Int).toNat,none⟩ (.int .i64 (wrap64 ((rd o j)+1))))) ?hg ?ho ?hn ?hr ?_;(case ho=>rfl);(case hg=>rfl);(case hn=>rfl);(case hr=>first|(go_simp;done)|(go_simp;rfl));intro c' hw;have hg:f'.grownBy c' (some ak):=(by rw[hw];exact c9.2);have aB:Kd.R (Kd.int .i64) 3 c' w.heap.size (fun _=>True) (.slice (some ⟨ak,0,none⟩) o.length aO) cq:=(by rw[hw,g4.out];exact c9.1);clear c9;replace J:=Aside0.mk (cg (zK J) hg (Kd.dj I.out J.out (by decide)));replace I:=Aside0.mk (aB);replace HB:=Aside0.mk ((by rw[hw];exact dJ (HB.out) ch.out:Below w.heap.size w c'));clear hg hw aB))
        (try simp only[<-aP])
        go_roundg k1
        case measure=>have:=fq.out;omega
        case rel=>exact⟨(cq),H',⟨by have:=fq.out;omega⟩,⟨by(try simp only[aP]);(with_reducible repeat(first|apply Kd.aD|apply Kd.bd|apply Kd.a8));exact I.out⟩,⟨by(try simp only[aP]);exact zK J⟩,⟨zB⟩⟩
       ·rw[if_neg ca] at H
        exact absurd H (by simp)
      ·rw[if_neg b'] at H
       exact absurd H (by simp)
     ·replace b_:=Bool.eq_false_iff.mpr b_
      subst b_
      have H1:(if 0<=j then(if j<(o.length:Int) then(some (o.set (j:Int).toNat (wrap64 ((rd o j)-1)))) else(none)) else(none))=some r:=by rw[if_neg (show ¬(false=true) by decide)] at H;exact H
      clear H
      have H:=H1
      clear H1
      by_cases cb:0<=j
      ·rw[if_pos cb] at H
       have h3:decide (0<=j)=true:=decide_eq_true cb
       clear cb
       by_cases cc:j<(o.length:Int)
       ·rw[if_pos cc] at H
        have h4:decide (j<(o.length:Int))=true:=decide_eq_true cc
        clear cc
        obtain⟨gb,b1⟩:∃y_:List Int,y_=(o.set (j:Int).toNat (wrap64 ((rd o j)-1))):=⟨_,rfl⟩
        replace H:(some gb)=some r:=by first|(rw[b1];with_reducible exact H)|(have ar:=(Option.bind_some _ _).symm.trans H;rw[b1];with_reducible exact ar)|(have ar:=(Option.bind_some _ _).symm.trans H;with_reducible exact ar)|with_reducible exact H|(rw[b1];exact H)|exact H
        have hc:=Aside0.mk b1
        clear b1
        obtain rfl:=Option.some.inj H
        obtain⟨h5,h6,h7,h8⟩:=ao J
        go_wp2_with (first|((with_reducible refine au (f:=176) rfl ?_);refine zL (some 20) Tryz.func176 #[.agg #[.int .i64 ag,.slice aF U.length aL],.int .i64 a1,.slice (some ⟨ak,0,none⟩) o.length aO] ?_;(with_reducible refine(fC.calls k1 ag _ _ U a1 _ _ o false _ ?bk ?bn ?cr ?cv fv.out).mono ?_);(case bk=>exact Kd.aj e0.out zB);(case bn=>exact e1.out);(case cr=>exact zC (Kd.aC I.out).2.2);(case cv=>exact(Kd.aC I.out).2.1);rintro e gd ⟨rfl,hb⟩;refine⟨_,rfl,?_⟩;replace I:=bm I hb;replace J:=zb J hb;replace HB:=zS HB hb;(try clear hb);have dd:0<=(j:Int):=of_decide_eq_true ‹_›;have ds:j<(o.length:Int):=of_decide_eq_true ‹_›;obtain⟨hf,hh,dv⟩:=Kd.bD (Kd.aC I.out).2.2 j dd ds;obtain rfl:(⟨ak,0,none⟩:Addr)=hf:=(by injection hh);(first|simp only[add_plain] at dv|simp only[fZ] at dv|simp only[Addr.add,Nat.zero_add] at dv|skip);replace dd:=eq_true dd;replace ds:=eq_true ds;have ea:0<=(j:Int):=of_decide_eq_true ‹_›;have eb:(j:Int)<((o.length:Int):Int):=of_decide_eq_true ‹_›;obtain⟨h9,h_⟩:=Kd.bB 0 I.out (j:Int) ea eb;replace ea:=eq_true ea;replace eb:=eq_true eb;obtain⟨h',ib⟩:=Kd.bB 0 I.out (j:Int) (of_decide_eq_true ‹_›) (of_decide_eq_true ‹_›);have ed:=Kd.cL I.out (j:Int) (wrap64 ((rd o j)-1)))|((with_reducible refine iW (t:=3) (p:=32) rfl ?_);refine iV (t:=3) (p:=32) (v:=?ih) (w1:=(gd.setCell ⟨ak,(j:Int).toNat,none⟩ (.int .i64 (wrap64 ((rd o j)-1))))) ?hg ?ho ?hn ?hr ?_;(case ho=>rfl);(case hg=>rfl);(case hn=>rfl);(case hr=>first|(go_simp;done)|(go_simp;rfl));intro eg hw;have hg:gd.grownBy eg (some ak):=(by rw[hw];exact ed.2);have aB:Kd.R (Kd.int .i64) 3 eg w.heap.size (fun _=>True) (.slice (some ⟨ak,0,none⟩) o.length aO) gb:=(by rw[hw,hc.out];exact ed.1);clear ed;replace J:=Aside0.mk (cg (zK J) hg (Kd.dj I.out J.out (by decide)));replace I:=Aside0.mk (aB);replace HB:=Aside0.mk ((by rw[hw];exact dJ (HB.out) ch.out:Below w.heap.size w eg));clear hg hw aB))
        go_ret
        exact⟨_,zE,by(with_reducible repeat(first|apply Kd.aD|apply Kd.bd|apply Kd.a8));exact I.out,zB⟩
       ·rw[if_neg cc] at H
        exact absurd H (by simp)
      ·rw[if_neg cb] at H
       exact absurd H (by simp)
  ·rw[if_neg c7] at H
   exact absurd H (by simp)
 ·rw[if_neg c6] at H
  exact absurd H (by simp)
end Go.Proofs.YtffdiakgjakngaaGreat.P

