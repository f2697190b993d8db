/- TopRochUnwinnable answers true whatever the input (text 11 of 19): own walks and plain laws; no conditions. -/
import Derived.Test.YtffdiakgjakngaaGreatRoch10
namespace Go.Proofs.YtffdiakgjakngaaGreat.P
open Go.RowKit Go.Proofs.YtffdiakgjakngaaGreatW.PrintWords Go.Proofs.YtffdiakgjakngaaGreatW.PrintLast Go.Proofs.YtffdiakgjakngaaGreatW.PrintMore
set_option linter.unusedVariables false
set_option linter.unusedSimpArgs false
set_option maxHeartbeats 8000000
set_option maxRecDepth 100000
def ec (x:List Int) (q:Int) (r:Nat->List Int) (k:Nat):Bool:=(List.range k).any fun v=>decide ((v:Int)≠q)&&decide (rd x v<rd (r v) v)
theorem uz (x:List Int) (q:Int) (r:Nat->List Int) (k:Nat):ec x q r (k+1)=(ec x q r k||(decide ((k:Int)≠q)&&decide (rd x k<rd (r k) k))):=by simp[ec,List.range_succ,List.any_append]
theorem Ce {x:List Int} {q:Int} {r:Nat->List Int} {k n:Nat} (hk:k<n) (hq:(k:Int)≠q) (h:rd x k<rd (r k) k):ec x q r n=true:=by
 unfold ec
 rw[List.any_eq_true]
 exact⟨k,List.mem_range.2 hk,by simp[hq,h]⟩
theorem Cf (K:Nat) (N:Int) (A0:Option Addr) (c0:Nat) (E:List S83) (q:Int) (qx gx:Nat) (A:Option Addr) (c:Nat) (x:List Int) (r:Nat->List Int) (W:World) (ar:Kd.C aG W A0 E.length E) (aS:E.length<=c0) (hg:W.heap[gx]? =some (.cells #[.int .i64 N,.slice A0 E.length c0] 24 (0,0))) (hq:W.heap[qx]? =some (.cells #[.int .i64 q] 3 (0,0)))
  (U:Kd.C (Kd.int .i64) W A x.length x) (hc:x.length<=c) (hr:∀v:Nat,v<x.length->(v:Int)≠q->cJ.f K N E q x v=some (r v)∧v<(r v).length):
  Calls Tryz.prog 116 #[.slice A x.length c,.pointer (some ⟨qx,0,none⟩),.pointer (some ⟨gx,0,none⟩)] W fun e w'=>e= .returned (.bool (ec x q r x.length))∧Below W.heap.size W w':=by
 have a0:=Aside0.mk ar
 have HG:=Aside0.mk hg
 have HQ:=Aside0.mk hq
 have HX:=Aside0.mk U
 have HR:=Aside0.mk hr
 have b0:x.length<=9223372036854775807:=Kd.kZ U
 clear ar hg hq U hr
 go_enter Tryz.func116,Tryz.ntmps116
 go_wp2
 go_loopw [10] (fun i wr=>∃k:Nat,k<=x.length∧i= .int .i64 k∧Aside0 (ec x q r k=false)∧Aside0 (Below W.heap.size W wr)) (fun i _=>x.length- (intOf i).toNat)
 case atStart=>exact⟨0,by omega,rfl,⟨rfl⟩,⟨Below.refl _ _⟩⟩
 case round=>
  obtain⟨k,hk,rfl,HF,j⟩:=hrel
  have b1:wr.cell? ⟨qx,0,none⟩=some (.int .i64 q):=(ai (aE HQ.out j.out) 0).trans rfl
  have b2:wr.cell? ⟨gx,0,none⟩=some (.int .i64 N):=(ai (aE HG.out j.out) 0).trans rfl
  have b3:wr.cell? ⟨gx,1,none⟩=some (.slice A0 E.length c0):=(ai (aE HG.out j.out) 1).trans rfl
  have hu:=Tryz.underlying24
  by_cases aF:k<x.length
  ·have hC:=Kd.aj HX.out j.out
   have HC:=Aside0.mk hC
   obtain⟨ad,rfl,bg⟩:=Kd.bD hC k (by omega) (by omega)
   rw[Int.toNat_natCast] at bg
   have b4:(0:Int)<=(k:Int):=by omega
   have b5:(k:Int)<(x.length:Int):=by omega
   clear hC
   by_cases o:(k:Int)=q
   ·have HS:=Aside0.mk (show ec x q r (k+1)=false from by rw[uz,HF.out];simp[o])
    have bk:((k:Int)==q)=true:=by simpa using o
    have aL:=Aside0.mk o
    clear o
    go_wp2
    go_roundw
    case rel=>exact⟨k+1,by omega,by go_num,HS,j⟩
    case measure=>exact(show x.length- ((k:Int)+1).toNat<x.length- ((k:Int)).toNat by omega)
   ·have bk:((k:Int)==q)=false:=by simpa using o
    obtain⟨aO,b_⟩:=HR.out k aF o
    have aP:=Aside0.mk (cJ.calls K N A0 c0 E q (some ad) c x k (r k) wr (Kd.aj a0.out j.out) aS HC.out hc aO)
    have aL:=Aside0.mk o
    clear o aO
    by_cases ag:rd x k<rd (r k) k
    ·have HT:=Aside0.mk (Ce (n:=x.length) aF aL.out ag)
     have bo:(k:Int)<((r k).length:Int):=by omega
     go_wp2_with (go_at_call 117;refine aP.out.mono ?_;rintro e w1 ⟨v1,rfl,I,J⟩;obtain⟨Ar,cr,rfl⟩:=Kd.a7 I;obtain⟨-, -,R⟩:=Kd.aC I;obtain⟨bx,rfl,hy⟩:=Kd.bD R k (by omega) (by omega);rw[Int.toNat_natCast] at hy;have an:=Aside0.mk J;clear I J R)
     go_ret
     exact⟨by rw[HT.out];rfl,j.out.trans (an.out.mono j.out.size)⟩
    ·have HS:=Aside0.mk (show ec x q r (k+1)=false from by rw[uz,HF.out];simp[ag])
     have b':¬rd (r k) k>rd x k:=ag
     have bo:(k:Int)<((r k).length:Int):=by omega
     go_wp2_with (go_at_call 117;refine aP.out.mono ?_;rintro e w1 ⟨v1,rfl,I,J⟩;obtain⟨Ar,cr,rfl⟩:=Kd.a7 I;obtain⟨-, -,R⟩:=Kd.aC I;obtain⟨bx,rfl,hy⟩:=Kd.bD R k (by omega) (by omega);rw[Int.toNat_natCast] at hy;have an:=Aside0.mk J;clear I J R)
     go_roundw
     case rel=>exact⟨k+1,by omega,by go_num,HS,⟨j.out.trans (an.out.mono j.out.size)⟩⟩
     case measure=>exact(show x.length- ((k:Int)+1).toNat<x.length- ((k:Int)).toNat by omega)
  ·obtain rfl:k=x.length:=by omega
   go_wp2
   go_ret
   exact⟨by rw[HF.out];rfl,j.out⟩
theorem Cg (k:Nat) (N:Int) (A0:Option Addr) (c0:Nat) (E:List S83) (q:Int) (l:List (List Int)) (t:Int) (w:World) (I:Kd.C aG w A0 E.length E) (J:E.length<=c0) (hf:gZ.f k N E q=some (l,t)) (j:t≠0):
  Calls Tryz.prog 56 #[.agg #[.int .i64 N,.slice A0 E.length c0],.int .i64 q] w fun e w'=>e= .returned (.tuple #[.slice none 0 0,.int .i64 t])∧Below w.heap.size w w':=by
 have hu:=Tryz.underlying24
 have R:=Aside0.mk hf
 have ab:(t != 0)=true:=by simpa using j
 have o:=Aside0.mk (aq (heap_alloc_new w (.cells #[.int .i64 N,.slice A0 E.length c0] 24)) (.cells #[.int .i64 q] 3))
 have ad:((w.alloc (.cells #[.int .i64 N,.slice A0 E.length c0] 24)).alloc (.cells #[.int .i64 q] 3)).cell? ⟨w.heap.size,0,none⟩=some (.int .i64 N):=(ai o.out 0).trans rfl
 have ag:((w.alloc (.cells #[.int .i64 N,.slice A0 E.length c0] 24)).alloc (.cells #[.int .i64 q] 3)).cell? ⟨w.heap.size,1,none⟩=some (.slice A0 E.length c0):=(ai o.out 1).trans rfl
 clear hf j
 go_enter Tryz.func56,Tryz.ntmps56
 go_wp2_with (go_at_call 114;refine(gZ.calls k N A0 c0 E q l t _ (Kd.aY (Kd.aY I _) _) J R.out).mono ?_;rintro e w1 ⟨v,rfl,U,hb⟩;have HB:=Aside0.mk (aN (al (al (Below.refl w.heap.size w) _) _) hb);clear U hb)
 go_ret2
 exact⟨rfl,HB.out⟩
theorem Ch (k K:Nat) (N:Int) (A0:Option Addr) (c0:Nat) (E:List S83) (q:Int) (l:List (List Int)) (r:List Int->Nat->List Int) (w:World) (av:Kd.C aG w A0 E.length E) (aB:E.length<=c0) (hf:gZ.f k N E q=some (l,0)) (hr:∀x∈l,∀v:Nat,v<x.length->(v:Int)≠q->cJ.f K N E q x v=some (r x v)∧v<(r x v).length):
  Calls Tryz.prog 56 #[.agg #[.int .i64 N,.slice A0 E.length c0],.int .i64 q] w fun e w'=>∃v,e= .returned (.tuple #[v,.int .i64 0])∧Kd.N (Kd.slice 3 (Kd.int .i64)) 26 w' w.heap.size (fun k_=>(w.heap.size<=k_)) v (l.filter fun x=> !ec x q (r x) x.length)∧Below w.heap.size w w':=by
 have hu:=Tryz.underlying24
 have Hf:=Aside0.mk hf
 have J:=Aside0.mk (aq (heap_alloc_new w (.cells #[.int .i64 N,.slice A0 E.length c0] 24)) (.cells #[.int .i64 q] 3))
 have HQ:=Aside0.mk (heap_alloc2_new w (.cells #[.int .i64 N,.slice A0 E.length c0] 24) (.cells #[.int .i64 q] 3))
 have b2:((w.alloc (.cells #[.int .i64 N,.slice A0 E.length c0] 24)).alloc (.cells #[.int .i64 q] 3)).cell? ⟨w.heap.size,0,none⟩=some (.int .i64 N):=(ai J.out 0).trans rfl
 have b3:((w.alloc (.cells #[.int .i64 N,.slice A0 E.length c0] 24)).alloc (.cells #[.int .i64 q] 3)).cell? ⟨w.heap.size,1,none⟩=some (.slice A0 E.length c0):=(ai J.out 1).trans rfl
 have HR:=Aside0.mk hr
 clear hf hr
 go_enter Tryz.func56,Tryz.ntmps56
 go_wp2_with (go_at_call 114;refine(gZ.calls k N A0 c0 E q l 0 _ (Kd.aY (Kd.aY av _) _) aB Hf.out).mono ?_;rintro e w1 ⟨v,rfl,R,hb⟩;obtain⟨Av,U,rfl⟩:=Kd.oC R;have o:=Aside0.mk (aN (al (al (Below.refl w.heap.size w) _) _) hb);have aL:=Aside0.mk (aE J.out hb);have aO:=Aside0.mk (aE HQ.out hb);have I:=Aside0.mk R;clear R hb)
 have aa:w.heap.size+2=((w.alloc (.cells #[.int .i64 N,.slice A0 E.length c0] 24)).alloc (.cells #[.int .i64 q] 3)).heap.size:=by simp
 rw[<-aa] at I
 have aP:Aside0 (∀row,(∀g,row=some g->w.heap.size+2<=g)->ny (w.heap.size+1) w.heap.size row w1 l (fun x=>ec x q (r x) x.length)):=⟨fun row ab W' A c x ad bk hc hx=>by
  have hB:Below w.heap.size w W':=jz o.out row o.out.size ad (fun g e=>by have:=ab g e;omega)
  refine Cf K N A0 c0 E q (w.heap.size+1) w.heap.size A c x (r x) W' (Kd.aj av hB) aB ((ad.block _ (aw aL.out) (fun e=>by have:=ab _ e.symm;omega)).trans aL.out) ((ad.block _ (aw aO.out) (fun e=>by have:=ab _ e.symm;omega)).trans aO.out) hx hc (HR.out x bk)⟩
 have aK:=o.out.size
 by_cases hex:∃j:Nat,j<l.length∧(fun x=>ec x q (r x) x.length) (aH l j)=true
 ·obtain⟨g0,cap,hv,b4, -, -⟩:=Kd.xL I.out (by obtain⟨j,hj,_⟩:=hex;omega)
  injection hv with bx b5 b0
  subst bx b0
  refine(Cc (w.heap.size+1) w.heap.size (w.heap.size+2) g0 U (fun k=>w.heap.size+2<=k) l _ w1 w1 I.out ⟨rfl,rfl,rfl,Nat.le_refl _,fun _ _ _=>rfl⟩ (aP.out (some g0) (fun g e=>by injection e with e;omega)) hex).mono ?_
  rintro e w2 ⟨m,rfl,hm,a0,a1⟩
  have ag:=Aside0.mk (Kd.dz (Kd.lx (base':=w.heap.size) a0 (by omega)) (ok':=fun k=>w.heap.size<=k) (fun k hk=>by omega))
  have ak:=Aside0.mk (jz o.out (some g0) o.out.size a1 (fun k e=>by injection e with e;omega))
  clear hm a0 a1 hex aa
  go_wp2
  go_ret2
  exact⟨_,rfl,ag.out,ak.out⟩
 ·have an:∀j:Nat,j<l.length->(fun x=>ec x q (r x) x.length) (aH l j)=false:=fun j hj=>by
   cases h:(fun x=>ec x q (r x) x.length) (aH l j) with
   |false=>rfl
   |true=>exact absurd ⟨j,hj,h⟩ hex
  have b1:=Aside0.mk (filter_none (l:=l) (del:=fun x=>ec x q (r x) x.length) an)
  refine(Cd (w.heap.size+1) w.heap.size (w.heap.size+2) none Av U (fun k=>w.heap.size+2<=k) l _ w1 w1 I.out ⟨rfl,rfl,rfl,Nat.le_refl _,fun _ _ _=>rfl⟩ (aP.out none (fun g e=>by cases e)) an).mono ?_
  rintro e w2 ⟨rfl,ar⟩
  have ag:=Aside0.mk (Kd.f_ (Kd.dz (Kd.lx (base':=w.heap.size) I.out (by omega)) (ok':=fun k=>w.heap.size<=k) (fun k hk=>by omega)) ar)
  have ak:=Aside0.mk (o.out.trans (ar.mono o.out.size))
  clear ar hex an aa
  go_wp2
  go_ret2
  exact⟨.slice Av l.length U,rfl,by rw[b1.out];exact ag.out,ak.out⟩
def kP (k:Nat) (N:Int) (E:List S83) (q:Int) (l:List (List Int)):Bool:=l.all fun c=>(List.range c.length).all fun v=>decide ((v:Int)=q)||match cJ.f k N E q c v with|some r=>decide (v<r.length)|none=>false
def iK (k:Nat) (N:Int) (E:List S83) (q:Int) (c:List Int) (v:Nat):List Int:=(cJ.f k N E q c v).getD []
theorem Ci {k:Nat} {N:Int} {E:List S83} {q:Int} {l:List (List Int)} (h:kP k N E q l=true):∀x∈l,∀v:Nat,v<x.length->(v:Int)≠q->cJ.f k N E q x v=some (iK k N E q x v)∧v<(iK k N E q x v).length:=by
 intro x j v o hq
 have h1:=List.all_eq_true.1 (List.all_eq_true.1 h x j) v (List.mem_range.2 o)
 rw[decide_eq_false hq,Bool.false_or] at h1
 unfold iK
 cases hr:cJ.f k N E q x v with
 |none=>rw[hr] at h1;cases h1
 |some r=>rw[hr] at h1;exact⟨rfl,by simpa using h1⟩
def iL.f (k:Nat) (N:Int) (E:List S83) (q:Int):Option (List (List Int)×Int):=
 (gZ.f k N E q).bind fun t=>if t.2=0 then(if kP k N E q t.1=true then some (t.1.filter fun x=> !ec x q (iK k N E q x) x.length,0) else none) else some ([],t.2)
theorem iL.calls (k:Nat) (o:Int) (J:Option Addr) (R:Nat) (j:List (S83)) (I:Int) (r1:List (List Int)) (r2:Int) (w:World) (ad:Kd.C aG w J j.length j) (ag:j.length<=R) (h:iL.f k o j I=some (r1,r2)):
  Calls Tryz.prog 56 #[.agg #[.int .i64 o,.slice J j.length R],.int .i64 I] w fun e w'=>∃ak:Value,e= .returned (.tuple #[ak,.int .i64 r2])∧Kd.N (Kd.slice 3 (Kd.int .i64)) 26 w' w.heap.size (fun k_=>(w.heap.size<=k_)) ak r1∧Below w.heap.size w w':=by
 unfold iL.f at h
 obtain⟨⟨l,t⟩,ht,H⟩:=Option.bind_eq_some_iff.mp h
 simp only at H
 by_cases h0:t=0
 ·subst h0
  rw[if_pos rfl] at H
  by_cases U:kP k o j I l=true
  ·rw[if_pos U] at H
   simp only[Option.some.injEq,Prod.mk.injEq] at H
   obtain⟨rfl,rfl⟩:=H
   exact Ch k k o J R j I l _ w ad ag ht (Ci U)
  ·rw[if_neg U] at H;cases H
 ·rw[if_neg h0] at H
  simp only[Option.some.injEq,Prod.mk.injEq] at H
  obtain⟨rfl,rfl⟩:=H
  refine(Cg k o J R j I l t w ad ag ht h0).mono ?_
  rintro e w' ⟨rfl,hb⟩
  exact⟨_,rfl,Kd.fs _ _ _ _ _,hb⟩
def j4.f (j:Int):Option (Bool):=if j>=(-1048576) then(some (decide (j<=1048576))) else(some false)
theorem j4.calls (j:Int) (r:Bool) (w:World) (h:j4.f j=some r):
  Calls Tryz.prog 96 #[.int .i64 j] w fun e w'=>e= .returned (.bool r)∧ax w w':=by
 have H:(if j>=(-1048576) then(some (decide (j<=1048576))) else(some false))=some r:=h
 clear h
 by_cases c2:j>=(-1048576)
 ·rw[if_pos c2] at H
  have o:decide ((-1048576)<=j)=true:=decide_eq_true c2
  clear c2
  obtain rfl:=Option.some.inj H
  go_enter Tryz.func96,Tryz.ntmps96
  go_wp2
  go_ret
  exact⟨zT,by repeat(first|exact ax.refl _|apply ax.step)⟩
 ·rw[if_neg c2] at H
  have o:decide ((-1048576)<=j)=false:=decide_eq_false c2
  clear c2
  obtain rfl:=Option.some.inj H
  go_enter Tryz.func96,Tryz.ntmps96
  go_wp2
  go_ret
  exact⟨zT,by repeat(first|exact ax.refl _|apply ax.step)⟩
mutual
def bO.j0:Nat->List Int->Int->Bool->Option (Int)
 |0,_,_,_=>none
 |k+1,j,x1,o=>if o=true then(some 2) else(if(j.length:Int)=x1 then(bO.l0 k j x1 0) else(some 8))
def bO.l0:Nat->List Int->Int->Int->Option (Int)
 |0,_,_,_=>none
 |k+1,o,x1,j=>if j<x1 then(if 0<=j then(if j<(o.length:Int) then((j4.f (rd o j)).bind fun t103=>(if t103=true then(bO.l0 k o x1 (wrap64 (j+1))) else(some 2))) else(none)) else(none)) else(some 0)
end
def bO.f (k:Nat) (l0:List Int) (j:Int):Option (Int):=if j<1 then(bO.j0 k l0 j true) else(bO.j0 k l0 j (decide (j>12)))
theorem bO.calls (k:Nat) (A0:Option Addr) (c0:Nat) (l0:List Int) (j:Int) (r:Int) (w:World) (aS:Kd.C (Kd.int .i64) w A0 l0.length l0) (a0:l0.length<=c0) (h:bO.f k l0 j=some r):
  Calls Tryz.prog 42 #[.slice A0 l0.length c0,.int .i64 j] w fun e w'=>e= .returned (.int .i64 r)∧ax w w':=by
 have a2:=Aside0.mk aS
 have b4:=Aside0.mk a0
 clear aS a0
 have H:(if j<1 then(bO.j0 k l0 j true) else(bO.j0 k l0 j (decide (j>12))))=some r:=h
 clear h
 have aF:=Aside0.mk H
 clear H
 go_enter Tryz.func42,Tryz.ntmps42
 go_upto_region 1 with (fail)
 go_cut [11] (fun v11 wc=>∃(R:Nat) (an:Bool),v11= .bool an∧Aside0 (bO.j0 R l0 j an=some r)∧Aside0 (R<=k)∧ax w wc)
 case first=>
  have H:=aF.out
  clear aF
  by_cases c4:j<1
  ·rw[if_pos c4] at H
   have U:decide (j<1)=true:=decide_eq_true c4
   clear c4
   (first|rw[U]|(simp only[aV,aX];rw[U])|skip)
   have I:=Aside0.mk H
   clear H
   go_wp2
   go_meet
   case rel=>exact⟨_,(true),zT,I,⟨by first|omega|exact Nat.le_refl _⟩,by repeat(first|exact ax.refl _|apply ax.step)⟩
  ·rw[if_neg c4] at H
   have U:decide (j<1)=false:=decide_eq_false c4
   clear c4
   (first|rw[U]|(simp only[aV,aX];rw[U])|skip)
   have I:=Aside0.mk H
   clear H
   go_wp2
   go_meet
   case rel=>exact⟨_,(decide (j>12)),zT,I,⟨by first|omega|exact Nat.le_refl _⟩,by repeat(first|exact ax.refl _|apply ax.step)⟩
 case rest=>
  clear aF
  try clear p2
  try clear c4
  try clear U
  obtain⟨R,an,rfl,HA,bf,⟨b5,rfl⟩⟩:=hcut
  cases R with
  |zero=>exact absurd HA.out (by simp[bO.j0])
  |succ aL=>
   have H:=HA.out
   clear HA
   simp only[bO.j0] at H
   by_cases c5:an=true
   ·subst c5
    have H1:(some 2)=some r:=by rw[if_pos rfl] at H;exact H
    clear H
    have H:=H1
    clear H1
    obtain rfl:=Option.some.inj H
    go_wp2
    go_ret
    exact⟨zT,by repeat(first|exact ax.refl _|apply ax.step)⟩
   ·replace c5:=Bool.eq_false_iff.mpr c5
    subst c5
    have H1:(if(l0.length:Int)=j then(bO.l0 aL l0 j 0) else(some 8))=some r:=by rw[if_neg (show ¬(false=true) by decide)] at H;exact H
    clear H
    have H:=H1
    clear H1
    by_cases J:(l0.length:Int)=j
    ·rw[if_pos J] at H
     have bg:((l0.length:Int)==j)=true:=beq_iff_eq.mpr J
     have bk:((l0.length:Int) != j)=false:=bne_eq_false_iff_eq.mpr J
     clear J
     have I:=Aside0.mk H
     clear H
     go_wp2
     go_loopg [5] aL (fun R v5 w'=>∃(o:Int),v5= .int .i64 o∧Aside0 (bO.l0 R l0 j o=some r)∧Aside0 (R<=aL)∧ax w w')
     case atStart=>exact⟨(0),zT,I,⟨Nat.le_refl _⟩,by repeat(first|exact ax.refl _|apply ax.step)⟩
     case round=>
      clear I
      try clear c2
      try clear p2
      try clear c4
      try clear U
      try clear c5
      try clear J
      try clear bg
      try clear bk
      try clear p2
      obtain⟨o,rfl,HA,bn,⟨m2,rfl⟩⟩:=hrel
      cases gk with
      |zero=>exact absurd HA.out (by simp[bO.l0])
      |succ k2=>
       have H:=HA.out
       clear HA
       simp only[bO.l0] at H
       by_cases c7:o<j
       ·rw[if_pos c7] at H
        have b0:decide (o<j)=true:=decide_eq_true c7
        clear c7
        by_cases c8:0<=o
        ·rw[if_pos c8] at H
         have b':decide (0<=o)=true:=decide_eq_true c8
         clear c8
         by_cases c9:o<(l0.length:Int)
         ·rw[if_pos c9] at H
          have ca:decide (o<(l0.length:Int))=true:=decide_eq_true c9
          clear c9
          replace H:=Option.bind_eq_some_iff.mp H
          obtain⟨t103,bo,H⟩:=H
          replace H:(if t103=true then(bO.l0 k2 l0 j (wrap64 (o+1))) else(some 2))=some r:=H
          have bw:=Aside0.mk bo
          clear bo
          by_cases aB:t103=true
          ·subst aB
           have H1:(bO.l0 k2 l0 j (wrap64 (o+1)))=some r:=by rw[if_pos rfl] at H;exact H
           clear H
           have H:=H1
           clear H1
           have I:=Aside0.mk H
           clear H
           have ab:0<=(o:Int):=of_decide_eq_true ‹_›
           have ad:o<(l0.length:Int):=of_decide_eq_true ‹_›
           obtain⟨b1,aP,b2⟩:=Kd.bD a2.out o ab ad
           cases aP
           replace ab:=eq_true ab
           replace ad:=eq_true ad
           go_wp2_with (first|((with_reducible refine au (f:=96) rfl ?_);refine zL (some 25) Tryz.func96 #[.int .i64 (rd l0 o)] ?_;(with_reducible refine(j4.calls (rd l0 o) true _ bw.out).mono ?_);rintro e w' ⟨rfl,⟨nd,rfl⟩⟩;refine⟨_,rfl,?_⟩))
           go_roundg k2
           case measure=>have:=bf.out;have:=bn.out;omega
           case rel=>exact⟨(wrap64 (o+1)),zT,I,⟨by have:=bf.out;have:=bn.out;omega⟩,by repeat(first|exact ax.refl _|apply ax.step)⟩
          ·replace aB:=Bool.eq_false_iff.mpr aB
           subst aB
           have H1:(some 2)=some r:=by rw[if_neg (show ¬(false=true) by decide)] at H;exact H
           clear H
           have H:=H1
           clear H1
           obtain rfl:=Option.some.inj H
           have ab:0<=(o:Int):=of_decide_eq_true ‹_›
           have ad:o<(l0.length:Int):=of_decide_eq_true ‹_›
           obtain⟨b1,aP,b2⟩:=Kd.bD a2.out o ab ad
           cases aP
           replace ab:=eq_true ab
           replace ad:=eq_true ad
           go_wp2_with (first|((with_reducible refine au (f:=96) rfl ?_);refine zL (some 25) Tryz.func96 #[.int .i64 (rd l0 o)] ?_;(with_reducible refine(j4.calls (rd l0 o) false _ bw.out).mono ?_);rintro e w' ⟨rfl,⟨nd,rfl⟩⟩;refine⟨_,rfl,?_⟩))
           go_ret
           exact⟨zT,by repeat(first|exact ax.refl _|apply ax.step)⟩
         ·rw[if_neg c9] at H
          exact absurd H (by simp)
        ·rw[if_neg c8] at H
         exact absurd H (by simp)
       ·rw[if_neg c7] at H
        have b0:decide (o<j)=false:=decide_eq_false c7
        clear c7
        obtain rfl:=Option.some.inj H
        go_wp2
        go_ret
        exact⟨zT,by repeat(first|exact ax.refl _|apply ax.step)⟩
    ·rw[if_neg J] at H
     have bg:((l0.length:Int)==j)=false:=beq_eq_false_iff_ne.mpr J
     have bk:((l0.length:Int) != j)=true:=bne_iff_ne.mpr J
     obtain rfl:=Option.some.inj H
     go_wp2
     go_ret
     exact⟨zT,by repeat(first|exact ax.refl _|apply ax.step)⟩
theorem ba.uA {N:Int} {E:List S83} (h:ba N E) (j:E.length<=40):d_ E=true:=by
 unfold d_
 rw[decide_eq_true j,Bool.true_and]
 refine List.all_eq_true.2 fun x o=>?_
 have:=h.ok x o
 simp[b6] at this⊢
 omega
theorem nA {l:List Int} {i:Nat} (h:i<l.length):l.drop i=rd l i::l.drop (i+1):=by
 rw[List.drop_eq_getElem_cons h]
 simp[rd,List.getD_eq_getElem?_getD,List.getElem?_eq_getElem h]
def iM:Nat->Nat->Nat->List Int
 |0,_,_=>[]
 |m+1,i,d=>(if d%2=1 then[(i:Int)] else[])++iM m (i+1) (d/2)
def Cj (n:Nat):List (List Int):=(List.range (2 ^ n)).map (iM n 0)
def eD (E:List S83) (s:List Int) (v:Int):Nat->Int
 |0=>0
 |u+1=>eD E s v u+(if(u:Int)∈s then 0 else cn E v u)
theorem p9 {N:Int} {E:List S83} (h:ba N E) (s:List Int) (v:Int):∀u:Nat,0<=eD E s v u∧eD E s v u<=50*u
 |0=>by simp[eD]
 |u+1=>by
  have h1:=p9 h s v u
  have h2:=oX h v u
  simp only[eD]
  split<;>omega
def l4 (E:List S83) (n:Nat) (c s:List Int):Int->List Int->Bool
 |a,[]=>decide (a>0)
 |a,v::l=>if rd c v<eD E s v n then false else l4 E n c s (a+eD E s v n) l
def p_ (E:List S83) (n:Nat) (q:Int) (c s:List Int):Bool:=decide (0<s.length)&& !decide (q∈s)&&l4 E n c s 0 s
theorem nB:∀{m i d:Nat} {x:Int},x∈iM m i d↔∃j:Nat,j<m∧x=((i+j:Nat):Int)∧d.testBit j=true
 |0,i,d,x=>by simp[iM]
 |m+1,i,d,x=>by
  rw[iM,List.mem_append,nB (m:=m)]
  constructor
  ·rintro(h|⟨j,o,h1,h2⟩)
   ·split at h
    ·rename_i h1
     simp at h
     exact⟨0,by omega,by simpa using h,by rw[Nat.testBit_zero];simpa using h1⟩
    ·simp at h
   ·exact⟨j+1,by omega,by rw[h1];congr 1;omega,by rw[Nat.testBit_succ];exact h2⟩
  ·rintro⟨j,o,h1,h2⟩
   cases j with
   |zero=>
    left
    rw[Nat.testBit_zero] at h2
    rw[if_pos (by simpa using h2)]
    simpa using h1
   |succ j=>exact .inr ⟨j,by omega,by rw[h1];congr 1;omega,by rw[Nat.testBit_succ] at h2;exact h2⟩
def nC (E:List S83) (n:Nat) (q:Int) (c:List Int):Bool:=(Cj n).all fun s=> !p_ E n q c s
theorem uB (S:Nat->Bool):∀n,∃d,d<2 ^ n∧∀j,j<n->d.testBit j=S j
 |0=>⟨0,by simp,fun j o=>by omega⟩
 |n+1=>by
  obtain⟨d,hd,h⟩:=uB (fun j=>S (j+1)) n
  refine⟨(if S 0 then 1 else 0)+2*d,?_,fun j o=>?_⟩
  ·rw[Nat.pow_succ];split<;>omega
  ·cases j with
   |zero=>
    rw[Nat.testBit_zero]
    cases I:S 0<;>simp<;>omega
   |succ j=>
    rw[Nat.testBit_succ,show ((if S 0 then 1 else 0)+2*d)/2=d by split<;>omega]
    exact h j (by omega)
theorem p' {n:Nat} {E:List S83} (j:ba n E) (s:List Int) (v:Nat) (o:(v:Int)∈s):∀u,eD E s v u=bX (af E) (fun u=> !decide ((u:Int)∈s)) v u
 |0=>rfl
 |u+1=>by
  rw[eD,bX,p' j s v o u]
  congr 1
  by_cases h:(u:Int)∈s
  ·simp[h]
  ·have I:v≠u:=fun e=>by subst e;exact h o
   simp only[if_neg h,h,decide_false,Bool.not_false,if_true]
   exact(jQ j v u I).symm
theorem qa (E:List S83) (n:Nat) (c s:List Int):∀(l:List Int) (a:Int),l4 E n c s a l=true↔(∀v∈l,eD E s v n<=rd c v)∧0<a+(l.map fun v=>eD E s v n).sum
 |[],a=>by simp[l4]
 |v::l,a=>by
  rw[l4]
  by_cases h:rd c v<eD E s v n
  ·rw[if_pos h]
   simp;intro h2;omega
  ·rw[if_neg h,qa E n c s l]
   simp only[List.mem_cons,forall_eq_or_imp,List.map_cons,List.sum_cons]
   constructor
   ·rintro⟨h1,h2⟩;exact⟨⟨by omega,h1⟩,by omega⟩
   ·rintro⟨⟨_,h1⟩,h2⟩;exact⟨h1,by omega⟩
theorem uC {f:Int->Int}:∀{l:List Int},(∀v∈l,0<=f v)->(∃v∈l,0<f v)->0<(l.map f).sum
 |[],_,⟨v,j,_⟩=>by simp at j
 |x::l,h0,⟨v,j,h1⟩=>by
  have I:=h0 x (List.mem_cons_self ..)
  have o:∀v∈l,0<=f v:=fun v j=>h0 v (List.mem_cons_of_mem _ j)
  have R:0<=(l.map f).sum:=by
   clear h1 j h0 I
   induction l with
   |nil=>simp
   |cons y l J=>
    have:=J (fun v j=>o v (List.mem_cons_of_mem _ j))
    have:=o y (List.mem_cons_self ..)
    simp only[List.map_cons,List.sum_cons];omega
  simp only[List.map_cons,List.sum_cons]
  rcases List.mem_cons.1 j with rfl|j
  ·omega
  ·have:=uC o ⟨v,j,h1⟩
   omega
theorem Ck {n q:Nat} {E:List S83} (J:ba n E) (hC:gV n E) (hq:q<n) (c:List Int):nC E n q c=true↔jq n (af E) q (fun v=>rd c v):=by
 unfold nC
 rw[List.all_eq_true]
 constructor
 ·intro h S hS an
  obtain⟨d,hd,hb⟩:=uB S n
  have R:∀v:Nat,v<n->((v:Int)∈iM n 0 d↔S v=true):=fun v o=>by
   rw[nB]
   constructor
   ·rintro⟨j,I,h1,h2⟩
    rw[hb j I] at h2
    rw[show v=j by omega];exact h2
   ·intro h1;exact⟨v,o,by simp,by rw[hb v o];exact h1⟩
  have h1:=h (iM n 0 d) (List.mem_map.2 ⟨d,List.mem_range.2 hd,rfl⟩)
  generalize hs:iM n 0 d=s at h1 R
  have av:∀v∈s,∃j:Nat,j<n∧v=(j:Int):=fun v o=>by
   rw[<-hs] at o
   obtain⟨j,I,h2,_⟩:=nB.1 o
   exact⟨j,I,by simpa using h2⟩
  obtain⟨v0,U,aO⟩:=hS
  have ab:0<s.length:=List.length_pos_of_mem ((R v0 U).2 aO)
  have aa:¬((q:Int)∈s):=fun h2=>by rw[(R q hq).1 h2] at an;cases an
  have bk:∀v:Nat,v<n->(v:Int)∈s->eD E s v n=bX (af E) (fun u=> !S u) v n:=fun v o ad=>by
   rw[p' J s v ad n]
   refine tp v n fun u hu=>?_
   have:=R u hu
   cases aB:S u with
   |true=>simp[this.2 aB]
   |false=>simp[show ¬((u:Int)∈s) from fun h2=>by rw[this.1 h2] at aB;cases aB]
  unfold p_ at h1
  rw[decide_eq_true ab,decide_eq_false aa,Bool.true_and,Bool.not_false,Bool.true_and,Bool.not_eq_true'] at h1
  have h2:=mt (qa E n c s s 0).2 (by rw[h1];decide)
  by_cases h3:∀v∈s,eD E s v n<=rd c v
  ·exfalso
   refine h2 ⟨h3,?_⟩
   rw[Int.zero_add]
   refine uC (fun v o=>(p9 J s v n).1) ?_
   obtain⟨x,hx,ag⟩:=hC S ⟨v0,U,aO⟩ ⟨q,hq,an⟩
   have aS:=sT J hx
   have hok:=J.ok x hx
   simp[b6] at hok
   have a0:∀(a b:Nat),a<n->b<n->S a=true->S b=false->cn E a b>0->∃v∈s,0<eD E s v n:=fun a b ha a1 bo a2 b4=>by
    refine⟨a,(R a ha).2 bo,?_⟩
    have bw:¬((b:Int)∈s):=fun h4=>by rw[(R b a1).1 h4] at a2;cases a2
    have key:∀u,b<u->0<eD E s a u:=fun u=>by
     induction u with
     |zero=>omega
     |succ u ih=>
      intro hu
      have b5:=p9 J s a u
      have b_:=oX J a u
      rw[eD]
      by_cases e:b=u
      ·subst e;rw[if_neg bw];omega
      ·have:=ih (by omega)
       split<;>omega
    exact key n a1
   have e0:((x.f0.toNat:Nat):Int)=x.f0:=by omega
   have e1:((x.f1.toNat:Nat):Int)=x.f1:=by omega
   cases ak:S x.f0.toNat with
   |true=>
    refine a0 x.f0.toNat x.f1.toNat (by omega) (by omega) ak ?_ (by rw[e0,e1];exact aS)
    cases aL:S x.f1.toNat with
    |false=>rfl
    |true=>rw[ak,aL] at ag;exact absurd rfl ag
   |false=>
    refine a0 x.f1.toNat x.f0.toNat (by omega) (by omega) ?_ ak (by rw[e0,e1,mU];exact aS)
    cases aL:S x.f1.toNat with
    |true=>rfl
    |false=>rw[ak,aL] at ag;exact absurd rfl ag
  ·simp only[Classical.not_forall] at h3
   obtain⟨v,o,h4⟩:=h3
   obtain⟨j,I,rfl⟩:=av v o
   refine⟨j,I,(R j I).1 o,?_⟩
   rw[<-bk j I o]
   show rd c j<_
   omega
 ·intro h s hs
  obtain⟨d,hd,rfl⟩:=List.mem_map.1 hs
  generalize b0:iM n 0 d=s
  have av:∀v∈s,∃j:Nat,j<n∧v=(j:Int):=fun v o=>by
   rw[<-b0] at o
   obtain⟨j,I,h2,_⟩:=nB.1 o
   exact⟨j,I,by simpa using h2⟩
  unfold p_
  by_cases ab:0<s.length
  ·by_cases aa:(q:Int)∈s
   ·simp[aa]
   ·rw[decide_eq_true ab,decide_eq_false aa,Bool.true_and,Bool.not_false,Bool.true_and,Bool.not_eq_true',Bool.eq_false_iff]
    intro hm
    have h1:=((qa E n c s s 0).1 hm).1
    obtain⟨v0,U⟩:=List.exists_mem_of_length_pos ab
    obtain⟨j0,b1,rfl⟩:=av v0 U
    obtain⟨v,o,b2,b3⟩:=h (fun u=>decide ((u:Int)∈s)) ⟨j0,b1,by simpa using U⟩ (by simpa using aa)
    have ad:(v:Int)∈s:=by simpa using b2
    have h2:=h1 v ad
    rw[p' J s v ad n] at h2
    have b':rd c v<bX (af E) (fun u=> !decide ((u:Int)∈s)) v n:=b3
    omega
  ·simp[show s.length=0 by omega]
end Go.Proofs.YtffdiakgjakngaaGreat.P
namespace Go.Proofs.YtffdiakgjakngaaGreat.P
open Go.RowKit Go.Proofs.YtffdiakgjakngaaGreatW.PrintWords Go.Proofs.YtffdiakgjakngaaGreatW.PrintLast Go.Proofs.YtffdiakgjakngaaGreatW.PrintMore
set_option linter.unusedVariables false
set_option linter.unusedSimpArgs false
def eE (E:List S83) (v:Nat):Nat->Int
 |0=>0
 |u+1=>eE E v u+(if u=v then 0 else cn E u v)
def g5 (E:List S83) (n q:Nat) (v:Nat):Nat:=if v=q then 0 else(eE E v n-1).toNat
theorem Cl {α:Type} (l:List α) (c:Nat):(l.map fun _=>c).sum=l.length*c:=by
 induction l with
 |nil=>simp
 |cons x l j=>simp only[List.map_cons,List.sum_cons,j,List.length_cons,Nat.succ_mul];omega
def eV:List S83->Int
 |[]=>0
 |x::E=>x.f2+eV E
theorem uD:∀(A B:List S83),eV (A++B)=eV A+eV B
 |[],B=>by simp[eV]
 |x::A,B=>by rw[List.cons_append,eV,eV,uD A B];omega
theorem qb {N:Int} {E:List S83} (j:ba N E):∀k,k<=E.length->((bW E k:Nat):Int)=eV (E.take k)
 |0,_=>rfl
 |k+1,hk=>by
  have e:ae E k=E[k]:=by simp[ae,List.getD_eq_getElem?_getD,List.getElem?_eq_getElem (by omega:k<E.length)]
  have:=j.ok E[k] (List.getElem_mem _)
  simp[b6] at this
  rw[List.take_succ_eq_append_getElem (by omega),uD,<-qb j k (by omega),bW,e]
  simp only[eV]
  omega
theorem Cm {E:List S83} (h:∀x∈E,1<=x.f2) (a b:Int):0<=cn E a b:=by
 unfold cn
 split
 ·rename_i x j;have:=h x (List.mem_of_find?_eq_some j);omega
 ·omega
theorem uE {x:S83} {E:List S83} (h:∀y∈x::E,1<=y.f2) (v:Nat):∀u:Nat,eE (x::E) v u<=eE E v u+(if(∃w:Nat,w<u∧w≠v∧x.f0=min (w:Int) v∧x.f1=max (w:Int) v) then x.f2 else 0)
 |0=>by simp[eE]
 |u+1=>by
  have o:=uE h v u
  have J:=h x (List.mem_cons_self ..)
  have R:=Cm (fun y I=>h y (List.mem_cons_of_mem _ I)) (u:Int) v
  have U:(if(∃w:Nat,w<u∧w≠v∧x.f0=min (w:Int) v∧x.f1=max (w:Int) v) then x.f2 else 0)<=(if(∃w:Nat,w<u+1∧w≠v∧x.f0=min (w:Int) v∧x.f1=max (w:Int) v) then x.f2 else 0):=by
   by_cases h1:∃w:Nat,w<u∧w≠v∧x.f0=min (w:Int) v∧x.f1=max (w:Int) v
   ·obtain⟨w,hw,h2⟩:=h1
    rw[if_pos ⟨w,hw,h2⟩,if_pos ⟨w,by omega,h2⟩];exact Int.le_refl _
   ·rw[if_neg h1];split<;>omega
  simp only[eE]
  by_cases e:u=v
  ·rw[if_pos e,if_pos e];omega
  ·rw[if_neg e,if_neg e,sr]
   by_cases j:x.f0=min (u:Int) v∧x.f1=max (u:Int) v
   ·rw[if_pos j,if_pos (show ∃w:Nat,w<u+1∧w≠v∧x.f0=min (w:Int) v∧x.f1=max (w:Int) v from⟨u,by omega,e,j⟩)]
    rw[if_neg (show ¬∃w:Nat,w<u∧w≠v∧x.f0=min (w:Int) v∧x.f1=max (w:Int) v from by rintro⟨w,hw,aa,h1,h2⟩;omega)] at o
    omega
   ·rw[if_neg j];omega
theorem uF:∀{E:List S83},(∀y∈E,1<=y.f2)->∀v u:Nat,eE E v u<=eV E
 |[],_,v,u=>by
  have:∀u,eE [] v u=0:=fun u=>by
   induction u with
   |zero=>rfl
   |succ u j=>simp[eE,j,cn]
  simp[this,eV]
 |x::E,h,v,u=>by
  have h1:=uE h v u
  have h2:=uF (fun y o=>h y (List.mem_cons_of_mem _ o)) v u
  have I:=h x (List.mem_cons_self ..)
  simp only[eV]
  split at h1<;>omega
theorem qc {n:Nat} {E:List S83} (j:ba n E) (v:Nat):∀u,bX (af E) (fun u=> !decide (u=v)) v u=eE E v u
 |0=>rfl
 |u+1=>by
  rw[bX,eE,qc j v u]
  congr 1
  by_cases h:u=v
  ·simp[h]
  ·simp only[h,decide_false,Bool.not_false,if_true,if_neg h]
   rw[jQ j v u (fun e=>h e.symm),mU];simp
theorem uG:∀{a b:List Int} (v:Nat),cV a b->rd a v<=rd b v
 |[],[],v,_=>Int.le_refl _
 |x::a,y::b,0,h=>by simpa [rd] using h.1
 |x::a,y::b,v+1,h=>by
  have:=uG v h.2
  simpa [rd] using this
 |[],y::b,v,h=>h.elim
 |x::a,[],v,h=>h.elim
theorem uH {j:Nat->Nat} {q:Nat} (hq:j q=0) (hm:∀v,j v<=7):∀v:Nat,(dt j v).length<=8 ^ (v- (if q<v then 1 else 0))
 |0=>by simp[dt]
 |v+1=>by
  have o:=uH hq hm v
  have hlen:(dt j (v+1)).length=(dt j v).length*(j v+1):=by
   show (jZ j v (dt j v)).length=_
   unfold jZ
   rw[List.length_flatMap]
   simp only[List.length_map,List.length_range]
   exact Cl _ _
  rw[hlen]
  by_cases e:q=v
  ·subst e
   rw[hq,if_pos (by omega)]
   rw[if_neg (by omega)] at o
   simpa using o
  ·by_cases h:q<v
   ·rw[if_pos h] at o
    rw[if_pos (by omega),show v+1-1=(v-1)+1 by omega,Nat.pow_succ]
    exact Nat.mul_le_mul o (by have:=hm v;omega)
   ·rw[if_neg h] at o
    rw[if_neg (by omega),show v+1-0=(v-0)+1 by omega,Nat.pow_succ]
    exact Nat.mul_le_mul o (by have:=hm v;omega)
structure Small (n q:Nat) (E:List S83):Prop where
 right:ba n E
 conn:gV n E
 len:E.length<=40
 n1:1<=n
 n5:n<=5
 q:q<n
 size:bW E E.length<=8
namespace Small
variable {n q:Nat} {E:List S83}
theorem qd (h:Small n q E) (v:Nat):eE E v n<=8:=by
 have h1:=uF (E:=E) (fun y j=>by have:=h.right.ok y j;simp[b6] at this;omega) v n
 have h2:=qb h.right E.length (Nat.le_refl _)
 rw[List.take_length] at h2
 have:=h.size
 omega
theorem qe (h:Small n q E) (v:Nat):g5 E n q v<=7:=by
 unfold g5
 split
 ·omega
 ·have:=h.qd v;omega
theorem nD (E:List S83) (n q:Nat):g5 E n q q=0:=by simp[g5]
theorem Cn (h:Small n q E) {v:Nat} (j:v<=n):(dt (g5 E n q) v).length<=4096:=by
 have h1:=uH (nD E n q) h.qe v
 have h2:8 ^ (v- (if q<v then 1 else 0))<=8 ^ 4:=Nat.pow_le_pow_right (by omega) (by have:=h.n5;have:=h.q;split<;>omega)
 omega
theorem uI (h:Small n q E) (c:List Int):bs n (af E) q c=nC E n q c:=by
 rw[Bool.eq_iff_iff,jr (fun i j=>((gU h.right.bQ).times i j).1),Ck h.right h.conn h.q]
theorem qf (h:Small n q E):du n E q=(dt (g5 E n q) n).filter (nC E n q):=by
 unfold du
 have o:=(gU h.right.bQ).times
 have U:∀a b:List Int,a.length=n->cV a b->bs n (af E) q b=true->bs n (af E) q a=true:=fun a b _ aa hb=>by
  rw[jr (fun i j=>(o i j).1)] at hb⊢
  exact hb.down (fun v _=>uG v aa)
 rw[Bx q nt (bs n (af E) q) (g5 E n q) n U (fun l v hl I J hc=>by
   have h1:=(p4 h.right.bQ (by have:=h.n5;omega) I J hc).1
   unfold valOf at h1
   rw[qc h.right] at h1
   unfold g5
   rw[if_neg J]
   omega) (nD E n q) (fun v _=>by have:=h.qe v;show _<=1000;omega) n [] (by simp) ?_]
 ·rw[<-Bz]
  refine List.filter_congr fun c _=>h.uI c
 ·by_cases h2:n=1
  ·left
   rw[jr (fun i j=>(o i j).1)]
   rintro S ⟨v,I,R⟩ ab
   have:=h.q
   rw[show v=q by omega,ab] at R;cases R
  ·right
   have:=h.q
   have:=h.n1
   by_cases h3:q=0
   ·exact⟨1,by simp,by omega,by omega⟩
   ·exact⟨0,by simp,by omega,by omega⟩
theorem qg (h:Small n q E):(du n E q).length<=4096:=by
 rw[h.qf]
 exact Nat.le_trans (List.length_filter_le _ _) (h.Cn (Nat.le_refl n))
end Small
end Go.Proofs.YtffdiakgjakngaaGreat.P
namespace Go.Proofs.YtffdiakgjakngaaGreat.P
open Go.RowKit Go.Proofs.YtffdiakgjakngaaGreatW.PrintWords Go.Proofs.YtffdiakgjakngaaGreatW.PrintLast Go.Proofs.YtffdiakgjakngaaGreatW.PrintMore
set_option linter.unusedVariables false
set_option linter.unusedSimpArgs false
namespace Small
variable {n q:Nat} {E:List S83}
theorem Co (h:Small n q E) (hc:b7 n E=0):dY n E q=0:=by
 unfold dY
 rw[if_pos hc,Int.toNat_natCast,if_pos ((iz h.n1 h.right).2 h.conn),if_pos ⟨by omega,by have:=h.q;omega⟩]
theorem Cp (h:Small n q E):jY n E=true:=by
 unfold jY
 rw[h.right.uA h.len,h.right.bQ];rfl
theorem Cq (h:Small n q E) (hr:dY n E q=0):Ev (fun k=>gJ.f k n E q) (eU (eT n E) q n n,(0:Int)):=by
 unfold gJ.f ju.f
 refine Ev.bind (a:=(eU (eT n E) q n n,(0:Int))) ?_ (Ev.const _)
 have:=sW n E q (by have:=h.len;omega)
 rw[hr] at this
 refine Ev.bind this ?_
 simp only[if_true,h.Cp,Int.toNat_natCast];exact Ev.const _
theorem Cr (h:Small n q E) (hr:dY n E q=0):Ev (fun k=>gZ.f k n E q) (du n E q,(0:Int)):=by
 unfold gZ.f
 refine Ev.bind (h.Cq hr) ?_
 simp only[if_true,Int.toNat_natCast,if_pos (show (du n E q).length<=16384 by have:=h.qg;omega)];exact Ev.const _
theorem kQ (h:Small n q E) {c:List Int} (hc:c∈du n E q):c.length=n∧∀v:Nat,0<=rd c v∧rd c v<=8:=by
 rw[h.qf] at hc
 have h1:=(List.mem_filter.1 hc).1
 have j:=np _ _ _ h1
 have key:∀(m:Nat) (l:List Int),l∈dt (g5 E n q) m->∀v:Nat,0<=rd l v∧rd l v<=8:=by
  intro m
  induction m with
  |zero=>intro l j v;simp[dt] at j;subst j;simp[rd]
  |succ m I=>
   intro l j v
   simp only[dt,jZ,List.mem_flatMap,List.mem_map,List.mem_range] at j
   obtain⟨p,hp,x,J,rfl⟩:=j
   have h2:=I p hp v
   have hm:=h.qe m
   have R:=np _ _ _ hp
   simp only[rd,Int.toNat_natCast,List.getD_eq_getElem?_getD] at h2⊢
   rcases Nat.lt_trichotomy v p.length with o|o|o
   ·rw[List.getElem?_append_left o];exact h2
   ·rw[o,List.getElem?_append_right (Nat.le_refl _),Nat.sub_self];simp;omega
   ·rw[List.getElem?_eq_none (by simp;omega)];simp
 exact⟨j,key n c h1⟩
end Small
end Go.Proofs.YtffdiakgjakngaaGreat.P
namespace Go.Proofs.YtffdiakgjakngaaGreat.P
open Go.RowKit Go.Proofs.YtffdiakgjakngaaGreatW.PrintWords Go.Proofs.YtffdiakgjakngaaGreatW.PrintLast Go.Proofs.YtffdiakgjakngaaGreatW.PrintMore
set_option linter.unusedVariables false
set_option linter.unusedSimpArgs false
def g6 (x:Int):Bool:=decide (-1048576<=x)&&decide (x<=1048576)
def dg:List Int->Int
 |[]=>0
 |x::l=>if g6 x=true then dg l else 2
def gK (q:Int):Nat->List Int->Int
 |_,[]=>0
 |i,x::l=>if(i:Int)=q then gK q (i+1) l else if x<0 then 2 else gK q (i+1) l
def g7 (N:Int) (E:List S83) (q:Int) (c:List Int):Int:=
 if dY N E q=0 then(if(c.length:Int)=N then(if dg c=0 then gK q 0 c else dg c) else 8) else dY N E q
def j5 (N:Int) (E:List S83) (q:Int) (c:List Int):Int:=if g7 N E q c=0 then(if rd c q=0 then 0 else 3) else g7 N E q c
theorem Cs (x:Int):fy.f x=some (g6 x):=by
 unfold fy.f g6
 by_cases h:x>= -1048576
 ·rw[if_pos h,decide_eq_true (show -1048576<=x from h),Bool.true_and]
 ·rw[if_neg h,decide_eq_false (show ¬ -1048576<=x from h),Bool.false_and]
theorem Ct (x:Int):j4.f x=some (g6 x):=by
 unfold j4.f g6
 by_cases h:x>= -1048576
 ·rw[if_pos h,decide_eq_true (show -1048576<=x from h),Bool.true_and]
 ·rw[if_neg h,decide_eq_false (show ¬ -1048576<=x from h),Bool.false_and]
theorem uJ (c:List Int) (hc:c.length<=1000):∀(m i:Nat),i+m=c.length->Ev (fun k=>aW.l0 k c c.length i) (dg (c.drop i))
 |0,i,hi=>by
  refine Ev.of_succ ?_
  simp only[aW.l0,if_neg (show ¬(i:Int)<c.length by omega),List.drop_eq_nil_of_le (show c.length<=i by omega),dg]
  exact Ev.const _
 |m+1,i,hi=>by
  refine Ev.of_succ ?_
  simp only[aW.l0,if_pos (show (i:Int)<c.length by omega),if_pos (show (0:Int)<=i by omega),Cs,Option.bind_some,dA (show i<=1000000 by omega)]
  rw[nA (by omega),dg]
  by_cases h:g6 (rd c i)=true
  ·simp only[if_pos h];exact uJ c hc m (i+1) (by omega)
  ·simp only[if_neg h];exact Ev.const _
theorem uK (c:List Int) (hc:c.length<=1000):∀(m i:Nat),i+m=c.length->Ev (fun k=>bO.l0 k c c.length i) (dg (c.drop i))
 |0,i,hi=>by
  refine Ev.of_succ ?_
  simp only[bO.l0,if_neg (show ¬(i:Int)<c.length by omega),List.drop_eq_nil_of_le (show c.length<=i by omega),dg]
  exact Ev.const _
 |m+1,i,hi=>by
  refine Ev.of_succ ?_
  simp only[bO.l0,if_pos (show (i:Int)<c.length by omega),if_pos (show (0:Int)<=i by omega),Ct,Option.bind_some,dA (show i<=1000000 by omega)]
  rw[nA (by omega),dg]
  by_cases h:g6 (rd c i)=true
  ·simp only[if_pos h];exact uK c hc m (i+1) (by omega)
  ·simp only[if_neg h];exact Ev.const _
theorem uL (q:Int) (c:List Int) (hc:c.length<=1000):∀(m i:Nat),i+m=c.length->Ev (fun k=>cI.l0 k q c c.length i) (gK q i (c.drop i))
 |0,i,hi=>by
  refine Ev.of_succ ?_
  simp only[cI.l0,if_neg (show ¬(i:Int)<c.length by omega),List.drop_eq_nil_of_le (show c.length<=i by omega),gK]
  exact Ev.const _
 |m+1,i,hi=>by
  refine Ev.of_succ ?_
  have j:=uL q c hc m (i+1) (by omega)
  simp only[cI.l0,if_pos (show (i:Int)<c.length by omega),if_pos (show (0:Int)<=i by omega),dA (show i<=1000000 by omega)]
  rw[nA (by omega),gK]
  by_cases h:(i:Int)=q
  ·simp only[if_pos h];exact j
  ·simp only[if_neg h]
   by_cases h2:rd c i<0
   ·simp only[if_pos h2];exact Ev.const _
   ·simp only[if_neg h2];exact j
theorem qh {N:Int} {E:List S83} {q:Int} (h:dY N E q=0):1<=N∧N<=12∧0<=q∧q<N:=by
 unfold dY at h
 by_cases hc:b7 N E=0
 ·rw[if_pos hc] at h
  obtain⟨h1,h2,_⟩:=gy hc
  by_cases hp:partsOf E N.toNat=1
  ·rw[if_pos hp] at h
   by_cases hq:0<=q∧q<N
   ·exact⟨h1,h2,hq⟩
   ·rw[if_neg hq] at h;exact absurd h (by decide)
  ·rw[if_neg hp] at h;exact absurd h (by decide)
 ·rw[if_neg hc] at h;exact absurd h hc
theorem Cu (c:List Int) (N:Int) (j:1<=N∧N<=12):Ev (fun k=>aW.f k c N) (if(c.length:Int)=N then dg c else 8):=by
 unfold aW.f gB.f
 simp only[if_neg (show ¬N<1 by omega),if_neg (show ¬N>12 by omega),Option.bind_some,if_true]
 by_cases h:(c.length:Int)=N
 ·simp only[if_pos h]
  exact uJ c (by omega) c.length 0 (by omega)
 ·simp only[if_neg h];exact Ev.const _
theorem l5 (c:List Int) (N:Int) (j:1<=N∧N<=12):Ev (fun k=>bO.f k c N) (if(c.length:Int)=N then dg c else 8):=by
 unfold bO.f
 simp only[if_neg (show ¬N<1 by omega)]
 refine Ev.of_succ ?_
 simp only[bO.j0,decide_eq_false (show ¬N>12 by omega),Bool.false_eq_true,if_false]
 by_cases h:(c.length:Int)=N
 ·simp only[if_pos h]
  subst h
  exact uK c (by omega) c.length 0 (by omega)
 ·simp only[if_neg h];exact Ev.const _
theorem Cv (N:Int) (E:List S83) (q:Int) (c:List Int) (o:E.length<=1000):Ev (fun k=>cI.f k N E q c) (g7 N E q c):=by
 unfold cI.f g7
 refine Ev.bind (sW N E q o) ?_
 by_cases hr:dY N E q=0
 ·have j:=qh hr
  simp only[if_pos hr]
  refine Ev.bind (Cu c N ⟨j.1,j.2.1⟩) ?_
  by_cases h:(c.length:Int)=N
  ·simp only[if_pos h]
   by_cases h2:dg c=0
   ·simp only[if_pos h2]
    exact uL q c (by omega) c.length 0 (by omega)
   ·simp only[if_neg h2];exact Ev.const _
  ·simp only[if_neg h];exact Ev.const _
 ·simp only[if_neg hr];exact Ev.const _
theorem uM {N:Int} {E:List S83} {q:Int} {c:List Int} (h:g7 N E q c=0):dY N E q=0∧(c.length:Int)=N∧dg c=0∧gK q 0 c=0:=by
 unfold g7 at h
 by_cases hr:dY N E q=0
 ·rw[if_pos hr] at h
  by_cases j:(c.length:Int)=N
  ·rw[if_pos j] at h
   by_cases h2:dg c=0
   ·rw[if_pos h2] at h;exact⟨hr,j,h2,h⟩
   ·rw[if_neg h2] at h;exact absurd h h2
  ·rw[if_neg j] at h;exact absurd h (by decide)
 ·rw[if_neg hr] at h;exact absurd h hr
theorem Cw (N:Int) (E:List S83) (q:Int) (c:List Int) (j:E.length<=1000):Ev (fun k=>iD.f k N E q c) (j5 N E q c):=by
 unfold iD.f j5
 refine Ev.bind (Cv N E q c j) ?_
 by_cases h:g7 N E q c=0
 ·obtain⟨hr,I,_,_⟩:=uM h
  have o:=qh hr
  simp only[if_pos h,if_pos o.2.2.1,if_pos (show q<c.length by omega)]
  by_cases h2:rd c q=0
  ·simp only[if_pos h2];exact Ev.const _
  ·simp only[if_neg h2];exact Ev.const _
 ·simp only[if_neg h];exact Ev.const _
theorem uN:∀{c:List Int},dg c=0->∀x∈c, -1048576<=x∧x<=1048576
 |[],_,x,j=>absurd j (by simp)
 |y::c,h,x,j=>by
  rw[dg] at h
  by_cases o:g6 y=true
  ·rw[if_pos o] at h
   simp[g6] at o
   rcases List.mem_cons.1 j with rfl|j
   ·exact o
   ·exact uN h x j
  ·rw[if_neg o] at h;exact absurd h (by decide)
theorem qi (q:Int):∀{c:List Int} {i:Nat},gK q i c=0->∀j:Nat,j<c.length->((i+j:Nat):Int)≠q->0<=rd c j
 |[],i,_,j,o,_=>absurd o (by simp)
 |y::c,i,h,j,o,I=>by
  rw[gK] at h
  by_cases hi:(i:Int)=q
  ·rw[if_pos hi] at h
   cases j with
   |zero=>exact absurd hi I
   |succ j=>
    have:=qi q h j (by simpa using o) (by rw[show i+1+j=i+(j+1) by omega];exact I)
    simpa [rd,List.getD_eq_getElem?_getD] using this
  ·rw[if_neg hi] at h
   by_cases J:y<0
   ·rw[if_pos J] at h;exact absurd h (by decide)
   ·rw[if_neg J] at h
    cases j with
    |zero=>simp[rd,List.getD_eq_getElem?_getD];omega
    |succ j=>
     have:=qi q h j (by simpa using o) (by rw[show i+1+j=i+(j+1) by omega];exact I)
     simpa [rd,List.getD_eq_getElem?_getD] using this
structure nE (n q:Nat) (c:List Int):Prop where
 len:c.length=n
 pos:∀v:Nat,0<=rd c v
 up:∀v:Nat,rd c v<=1048576
 sink:rd c q=0
theorem nF {c:List Int} {v:Nat} (h:c.length<=v):rd c v=0:=by simp[rd,List.getD_eq_getElem?_getD,List.getElem?_eq_none h]
theorem Cx {n q:Nat} {E:List S83} {c:List Int} (h:j5 n E q c=0):dY n E q=0∧nE n q c:=by
 unfold j5 at h
 by_cases he:g7 n E q c=0
 ·rw[if_pos he] at h
  by_cases hq:rd c q=0
  ·obtain⟨h1,h2,o,I⟩:=uM he
   refine⟨h1,⟨by omega,fun v=>?_,fun v=>?_,hq⟩⟩
   ·by_cases j:v<c.length
    ·by_cases e:v=q
     ·subst e;omega
     ·exact qi q I v j (by omega)
    ·rw[nF (by omega)];exact Int.le_refl _
   ·by_cases j:v<c.length
    ·have:=uN o c[v] (List.getElem_mem _)
     simp only[rd,Int.toNat_natCast,List.getD_eq_getElem?_getD,List.getElem?_eq_getElem j,Option.getD_some];omega
    ·rw[nF (by omega)];decide
  ·rw[if_neg hq] at h;exact absurd h (by decide)
 ·rw[if_neg he] at h;exact absurd h he
theorem Cy {n q:Nat} {E:List S83} {c:List Int} (j:E.length<=1000) (R:n<=12) (o:gw n E=true) (h:j5 n E q c=0):Ev (fun k=>gY.f k n E q c) (bs n (af E) q c,(0:Int)):=by
 obtain⟨hr,I⟩:=Cx h
 have U:=I.len
 have hq:=qh hr
 unfold gY.f jl.f
 have hb:=Cw n E q c j
 rw[h] at hb
 have hw:kI n E q c=true:=by simp only[kI,Bool.and_eq_true,decide_eq_true_eq];exact⟨by omega,o⟩
 refine Ev.bind (a:=((q:Int)::(iE n E q c).map Int.ofNat,eP (bM (bK q) (iE n E q c)) n,(0:Int))) ?_ ?_
 ·refine Ev.bind hb ?_
  simp only[if_true,hw,Int.toNat_natCast]
  exact Ev.const _
 ·simp only[if_true]
  have J:=pZ (bM (bK q) (iE n E q c)) n
  have e:(((eP (bM (bK q) (iE n E q c)) n).length:Int)==0)=bs n (af E) q c:=by
   rw[Bool.eq_iff_iff]
   unfold bs
   rw[show dD n (bG n (af E) c) (bK q)=iE n E q c from rfl,<-J]
   simp
  rw[e]
  exact Ev.const _
end Go.Proofs.YtffdiakgjakngaaGreat.P
namespace Go.Proofs.YtffdiakgjakngaaGreat.P
open Go.RowKit Go.Proofs.YtffdiakgjakngaaGreatW.PrintWords Go.Proofs.YtffdiakgjakngaaGreatW.PrintLast Go.Proofs.YtffdiakgjakngaaGreatW.PrintMore
set_option linter.unusedVariables false
set_option linter.unusedSimpArgs false
theorem Cz {l:List Int} (h:l.length<=1000):eJ.f l=some l:=if_pos (by omega)
theorem gL {l:List Int} {v:Nat} (h:v<l.length) (x:Int):rd (l.set v x) v=x:=by simp[rd,List.getD_eq_getElem?_getD,List.getElem?_set,h]
theorem j6 {l:List Int} {v u:Nat} (h:v≠u) (x:Int):rd (l.set v x) u=rd l u:=by simp[rd,List.getD_eq_getElem?_getD,List.getElem?_set,h]
theorem uO (l:List Int) (v:Nat) (x y:Int):(l.set v x).set v y=l.set v y:=by simp
theorem CD {l:List Int} {v:Nat} (h:v<l.length):l.set v (rd l v)=l:=by
 apply List.ext_getElem
 ·simp
 ·intro i h1 h2
  rw[List.getElem_set]
  split
  ·rename_i e;subst e;simp[rd,List.getD_eq_getElem?_getD,List.getElem?_eq_getElem h]
  ·rfl
namespace Small
variable {n q:Nat} {E:List S83}
theorem CE (h:Small n q E) {a b:List Int} (I:∀v:Nat,v<n->rd a v<=rd b v) (hb:bs n (af E) q b=true):bs n (af E) q a=true:=by
 have o:∀i j,0<=af E i j:=fun i j=>((gU h.right.bQ).times i j).1
 exact(jr o q a).2 (((jr o q b).1 hb).down I)
theorem nG (h:Small n q E) {a:List Int} {v:Nat} (j:v<n) (hq:v≠q) (o:bs n (af E) q a=true):rd a v<eE E v n:=by
 have:=(p4 h.right.bQ (by have:=h.n5;omega) j hq o).1
 unfold valOf at this
 rwa [qc h.right v n] at this
theorem CF (h:Small n q E) {c:List Int} (hc:c.length=n) {v:Nat} (o:v<n) (hq:v≠q) (hs:bs n (af E) q c=true) (h0:0<=rd c v):
  ∃M:Nat,rd c v<=M∧(M:Int)<eE E v n∧∀x:Int,bs n (af E) q (c.set v x)=true↔x<=M:=by
 have av:=h.qd v
 have aB:=h.nG o hq hs
 have down:∀x y:Int,x<=y->bs n (af E) q (c.set v y)=true->bs n (af E) q (c.set v x)=true:=fun x y ag hy=>by
  refine h.CE (fun u hu=>?_) hy
  by_cases e:v=u
  ·subst e;rw[gL (by omega),gL (by omega)];exact ag
  ·rw[j6 e,j6 e];exact Int.le_refl _
 have key:∀d:Nat,∀x:Nat,rd c v<=x->eE E v n<=x+d->bs n (af E) q (c.set v x)=true->∃M:Nat,x<=M∧(M:Int)<eE E v n∧bs n (af E) q (c.set v M)=true∧bs n (af E) q (c.set v ((M:Int)+1))=false:=by
  intro d
  induction d with
  |zero=>
   intro x _ h2 j
   have:=h.nG o hq j
   rw[gL (by omega)] at this
   omega
  |succ d ih=>
   intro x h1 h2 j
   have h4:=h.nG o hq j
   rw[gL (by omega)] at h4
   cases h5:bs n (af E) q (c.set v ((x:Int)+1)) with
   |false=>exact⟨x,Nat.le_refl _,h4,j,h5⟩
   |true=>
    obtain⟨M,m1,I,J,R⟩:=ih (x+1) (by omega) (by omega) (by rw[Int.natCast_add,Int.natCast_one];exact h5)
    exact⟨M,by omega,I,J,R⟩
 obtain⟨M,m1,I,J,R⟩:=key 9 (rd c v).toNat (by omega) (by omega) (by rw[show ((rd c v).toNat:Int)=rd c v by omega,CD (by omega)];exact hs)
 refine⟨M,by omega,I,fun x=>⟨fun U=>?_,fun U=>down x M U J⟩⟩
 by_cases hle:x<=M
 ·exact hle
 ·have:=down ((M:Int)+1) x (by omega) U
  rw[R] at this;cases this
theorem uP (h:Small n q E) (hr:dY n E q=0) {c:List Int} (o:nE n q c) {v:Nat} (hv:v<n) (hq:v≠q) {x:Int} (R:0<=x∧x<=1048576):Ev (fun k=>fC.f k n E q (c.set v x)) (bs n (af E) q (c.set v x)):=by
 have j:=o.len
 have hp:∀u:Nat,0<=rd (c.set v x) u∧rd (c.set v x) u<=1048576:=fun u=>by
  by_cases e:v=u
  ·subst e;rw[gL (by omega)];exact R
  ·rw[j6 e];exact⟨o.pos u,o.up u⟩
 have he:j5 n E q (c.set v x)=0:=by
  have h1:∀l:List Int,(∀y∈l,0<=y∧y<=1048576)->dg l=0:=fun l=>by
   induction l with
   |nil=>intro _;rfl
   |cons y l I=>
    intro j
    have:=j y (List.mem_cons_self ..)
    rw[dg,if_pos (by simp[g6];omega)]
    exact I fun z J=>j z (List.mem_cons_of_mem _ J)
  have h2:∀(l:List Int) (i:Nat),(∀y∈l,0<=y∧y<=1048576)->gK q i l=0:=fun l=>by
   induction l with
   |nil=>intro i _;rfl
   |cons y l I=>
    intro i j
    have:=j y (List.mem_cons_self ..)
    rw[gK,if_neg (show ¬y<0 by omega),I (i+1) fun z J=>j z (List.mem_cons_of_mem _ J)]
    split<;>rfl
  have hm:∀y∈c.set v x,0<=y∧y<=1048576:=fun y U=>by
   obtain⟨i,hi,rfl⟩:=List.getElem_of_mem U
   have:=hp i
   simp only[rd,Int.toNat_natCast,List.getD_eq_getElem?_getD,List.getElem?_eq_getElem hi,Option.getD_some] at this
   exact this
  have e0:g7 n E q (c.set v x)=0:=by
   unfold g7
   rw[if_pos hr,if_pos (by simp[j]),h1 _ hm,if_pos rfl,h2 _ 0 hm]
  unfold j5
  rw[if_pos e0,if_pos (by rw[j6 hq];exact o.sink)]
 unfold fC.f
 refine Ev.bind (Cy (by have:=h.len;omega) (by have:=h.n5;omega) h.right.bQ he) ?_
 cases bs n (af E) q (c.set v x)<;>exact Ev.const _
theorem CG (h:Small n q E) (hr:dY n E q=0) {c:List Int} (j:nE n q c) {v:Nat} (o:v<n) (hq:v≠q) {M:Nat} (h1:rd c v<=M) (h2:(M:Int)<eE E v n) (hM:∀x:Int,bs n (af E) q (c.set v x)=true↔x<=M):
  Ev (fun k=>cJ.f k n E q c v) (c.set v M):=by
 have U:=j.len
 have aa:=h.qd v
 have h0:=j.pos v
 have loop:∀(m:Nat) (x:Int),rd c v+1<=x->x+m=M+1->Ev (fun k=>cJ.l0 k q (c.set v x) v n E) (c.set v M):=by
  intro m
  induction m with
  |zero=>
   intro x I J
   refine Ev.of_succ ?_
   simp only[cJ.l0]
   refine Ev.bind (h.uP hr j o hq (by omega)) ?_
   have:bs n (af E) q (c.set v x)=false:=by
    cases e:bs n (af E) q (c.set v x) with
    |false=>rfl
    |true=>have:=(hM x).1 e;omega
   simp only[this,Bool.false_eq_true,if_false,if_pos (show (0:Int)<=v by omega),if_pos (show (v:Int)<(c.set v x).length by simp;omega),Int.toNat_natCast,uO,gL (show v<c.length by omega),lG (show -1000000000<=x-1∧x-1<=1000000000 by omega),show x-1=(M:Int) by omega,lG (show -1000000000<=(M:Int)∧(M:Int)<=1000000000 by omega)]
   exact Ev.const _
  |succ m R=>
   intro x I J
   refine Ev.of_succ ?_
   simp only[cJ.l0]
   refine Ev.bind (h.uP hr j o hq (by omega)) ?_
   simp only[(hM x).2 (by omega),if_true,if_pos (show (0:Int)<=v by omega),if_pos (show (v:Int)<(c.set v x).length by simp;omega),Int.toNat_natCast,uO,gL (show v<c.length by omega),lG (show -1000000000<=x+1∧x+1<=1000000000 by omega)]
   exact R (x+1) (by omega) (by omega)
 unfold cJ.f
 simp only[Cz (show c.length<=1000 by have:=h.n5;omega),Option.bind_some,if_pos (show (0:Int)<=v by omega),if_pos (show (v:Int)<c.length by omega),Int.toNat_natCast,lG (show -1000000000<=rd c v+1∧rd c v+1<=1000000000 by omega)]
 exact loop (M- (rd c v).toNat) (rd c v+1) (by omega) (by omega)
end Small
end Go.Proofs.YtffdiakgjakngaaGreat.P
namespace Go.Proofs.YtffdiakgjakngaaGreat.P
open Go.RowKit Go.Proofs.YtffdiakgjakngaaGreatW.PrintWords Go.Proofs.YtffdiakgjakngaaGreatW.PrintLast Go.Proofs.YtffdiakgjakngaaGreatW.PrintMore
set_option linter.unusedVariables false
set_option linter.unusedSimpArgs false
theorem CH {p l:List Int} {v:Nat} (h:v<p.length):rd (p++l) v=rd p v:=by simp[rd,List.getD_eq_getElem?_getD,List.getElem?_append_left h]
theorem CI (p:List Int) (x:Int):rd (p++[x]) p.length=x:=by simp[rd,List.getD_eq_getElem?_getD]
theorem CJ {l:List Int} {m v:Nat} (h:v<m):rd (l.take m) v=rd l v:=by simp[rd,List.getD_eq_getElem?_getD,List.getElem?_take,h]
theorem qj (j:Nat->Nat):∀(m:Nat) (l:List Int),l∈dt j m↔l.length=m∧∀v:Nat,v<m->0<=rd l v∧rd l v<=j v
 |0,l=>by
  simp only[dt,List.mem_singleton]
  constructor
  ·rintro rfl;exact⟨rfl,fun v o=>by omega⟩
  ·rintro⟨h,_⟩;exact List.length_eq_zero_iff.1 h
 |m+1,l=>by
  simp only[dt,jZ,List.mem_flatMap,List.mem_map,List.mem_range]
  constructor
  ·rintro⟨p,hp,x,J,rfl⟩
   obtain⟨h1,h2⟩:=(qj j m p).1 hp
   refine⟨by simp[h1],fun v o=>?_⟩
   by_cases e:v<m
   ·rw[CH (by omega)];exact h2 v e
   ·rw[show v=p.length by omega,CI];rw[h1];omega
  ·rintro⟨h1,h2⟩
   refine⟨l.take m,(qj j m _).2 ⟨by simp;omega,fun v o=>by rw[CJ o];exact h2 v (by omega)⟩,(rd l m).toNat,by have:=h2 m (by omega);omega,?_⟩
   have R:=h2 m (by omega)
   have I:l.take (m+1)=l.take m++[l[m]]:=List.take_succ_eq_append_getElem (by omega)
   rw[List.take_of_length_le (by omega)] at I
   rw[show ((rd l m).toNat:Int)=l[m] by
    have:rd l m=l[m]:=by simp[rd,List.getD_eq_getElem?_getD,List.getElem?_eq_getElem (show m<l.length by omega)]
    omega]
   exact I.symm
namespace Small
variable {n q:Nat} {E:List S83}
theorem j7 (h:Small n q E) (c:List Int):c∈du n E q↔c.length=n∧(∀v:Nat,0<=rd c v)∧rd c q=0∧bs n (af E) q c=true:=by
 rw[h.qf,List.mem_filter,qj,<-h.uI]
 constructor
 ·rintro⟨⟨h1,h2⟩,j⟩
  refine⟨h1,fun v=>?_,?_,j⟩
  ·by_cases o:v<n
   ·exact(h2 v o).1
   ·rw[nF (by omega)];exact Int.le_refl _
  ·have:=h2 q h.q
   rw[nD] at this
   omega
 ·rintro⟨h1,h2,j,I⟩
  refine⟨⟨h1,fun v o=>⟨h2 v,?_⟩⟩,I⟩
  by_cases hq:v=q
  ·subst hq;rw[nD,j];exact Int.le_refl _
  ·have:=h.nG o hq I
   unfold g5
   rw[if_neg hq];omega
theorem CK (h:Small n q E) {c:List Int} (hc:c∈du n E q):nE n q c:=by
 obtain⟨h1,h2,j,o⟩:=(h.j7 c).1 hc
 exact⟨h1,h2,fun v=>by have:=((h.kQ hc).2 v).2;omega,j⟩
end Small
end Go.Proofs.YtffdiakgjakngaaGreat.P
namespace Go.Proofs.YtffdiakgjakngaaGreat.P
open Go.RowKit Go.Proofs.YtffdiakgjakngaaGreatW.PrintWords Go.Proofs.YtffdiakgjakngaaGreatW.PrintLast Go.Proofs.YtffdiakgjakngaaGreatW.PrintMore
set_option linter.unusedVariables false
set_option linter.unusedSimpArgs false
end Go.Proofs.YtffdiakgjakngaaGreat.P
namespace Go.Proofs.YtffdiakgjakngaaGreat.P
open Go.RowKit Go.Proofs.YtffdiakgjakngaaGreatW.PrintWords Go.Proofs.YtffdiakgjakngaaGreatW.PrintLast Go.Proofs.YtffdiakgjakngaaGreatW.PrintMore
set_option linter.unusedVariables false
set_option linter.unusedSimpArgs false
theorem qk {ι:Type} {P:ι->Nat->Prop}:∀(l:List ι),(∀x∈l,∃B,∀K,B<=K->P x K)->∃B,∀K,B<=K->∀x∈l,P x K
 |[],_=>⟨0,fun _ _ x j=>absurd j (by simp)⟩
 |y::l,h=>by
  obtain⟨B,o⟩:=qk l fun x j=>h x (List.mem_cons_of_mem _ j)
  obtain⟨C,hC⟩:=h y (List.mem_cons_self ..)
  refine⟨max B C,fun K I x j=>?_⟩
  rcases List.mem_cons.1 j with rfl|j
  ·exact hC K (by omega)
  ·exact o K (by omega) x j
namespace Small
variable {n q:Nat} {E:List S83}
theorem CL (h:Small n q E) (hr:dY n E q=0):∃B,∀K,B<=K->∀c∈du n E q,∀v∈List.range n,v≠q->∃r,cJ.f K n E q c v=some r∧v<r.length∧(rd c v<rd r v↔bs n (af E) q (c.set v (rd c v+1))=true):=by
 refine qk _ fun c hc=>qk _ fun v J=>?_
 have o:=List.mem_range.1 J
 by_cases hq:v=q
 ·exact⟨0,fun _ _ e=>absurd hq e⟩
 ·have j:=h.CK hc
  obtain⟨M,R,U,I⟩:=h.CF j.len o hq ((h.j7 c).1 hc).2.2.2 (j.pos v)
  obtain⟨B,hB⟩:=h.CG hr j o hq R U I
  refine⟨B,fun K hK _=>⟨_,hB K hK,by rw[List.length_set,j.len];exact o,?_⟩⟩
  rw[gL (by rw[j.len];exact o),I]
  omega
end Small
def fD.f (k:Nat) (j:Int) (o:List (S83)):Option (Int):=(bU.f k j o).bind fun t149=>(if t149=0 then((jf.f k j o).bind fun t150=>(if t150=true then(some 0) else(some 13))) else(some t149))
theorem fD.calls (k:Nat) (I:Int) (U:Option Addr) (aa:Nat) (o:List (S83)) (r:Int) (w:World) (aB:Kd.C aG w U o.length o) (aF:o.length<=aa) (h:fD.f k I o=some r):
  Calls Tryz.prog 48 #[.agg #[.int .i64 I,.slice U o.length aa]] w fun e w'=>e= .returned (.int .i64 r)∧Below w.heap.size w w':=by
 have bf:=Tryz.underlying24
 have ak:=Aside0.mk aB
 have an:=Aside0.mk aF
 clear aB aF
 have j:=Aside0.mk (Below.refl w.heap.size w)
 have H:((bU.f k I o).bind fun t149=>(if t149=0 then((jf.f k I o).bind fun t150=>(if t150=true then(some 0) else(some 13))) else(some t149)))=some r:=h
 clear h
 replace H:=Option.bind_eq_some_iff.mp H
 obtain⟨t149,aL,H⟩:=H
 replace H:(if t149=0 then((jf.f k I o).bind fun t150=>(if t150=true then(some 0) else(some 13))) else(some t149))=some r:=H
 have A2:=Aside0.mk aL
 clear aL
 by_cases c3:t149=0
 ·rw[if_pos c3] at H
  have a2:(t149==0)=true:=beq_iff_eq.mpr c3
  have a3:(t149 != 0)=false:=bne_eq_false_iff_eq.mpr c3
  clear c3
  replace H:=Option.bind_eq_some_iff.mp H
  obtain⟨t150,aO,H⟩:=H
  replace H:(if t150=true then(some 0) else(some 13))=some r:=H
  have A4:=Aside0.mk aO
  clear aO
  by_cases c5:t150=true
  ·subst c5
   have H1:(some 0)=some r:=by rw[if_pos rfl] at H;exact H
   clear H
   have H:=H1
   clear H1
   obtain rfl:=Option.some.inj H
   go_enter Tryz.func48,Tryz.ntmps48
   go_wp2_with (first|((with_reducible refine aA (N:=1) rfl ?_);refine zX 1 #[.int .i64 I,.slice U o.length aa] 24 ?_;intro aS R w6 ag hb;have J:=Aside0.mk (ag);have a0:=zG j R;have a1:=zG j R;replace j:=zS j hb;clear hb ag R;obtain⟨bk,bn,bo,bw⟩:=ao J)|((with_reducible refine au (f:=103) rfl ?_);refine zL (some 5) Tryz.func103 #[.agg #[.int .i64 I,.slice U o.length aa]] ?_;(with_reducible refine(bU.calls k I _ _ o t149 _ ?ab ?ad A2.out).mono ?_);(case ab=>exact Kd.aj ak.out zB);(case ad=>exact an.out);rintro e w8 ⟨rfl,hb⟩;refine⟨_,rfl,?_⟩;replace J:=zb J hb;replace j:=zS j hb;(try clear hb);obtain⟨b0,b1,b2,b3⟩:=ao J)|((with_reducible refine au (f:=104) rfl ?_);refine zL (some 10) Tryz.func104 #[.agg #[.int .i64 I,.slice U o.length aa]] ?_;(with_reducible refine(jf.calls k I _ _ o true _ ?ab ?ad A4.out).mono ?_);(case ab=>exact Kd.aj ak.out zB);(case ad=>exact an.out);rintro e b4 ⟨rfl,hb⟩;refine⟨_,rfl,?_⟩;replace J:=zb J hb;replace j:=zS j hb;(try clear hb)))
   go_ret
   exact⟨zE,zB⟩
  ·replace c5:=Bool.eq_false_iff.mpr c5
   subst c5
   have H1:(some 13)=some r:=by rw[if_neg (show ¬(false=true) by decide)] at H;exact H
   clear H
   have H:=H1
   clear H1
   obtain rfl:=Option.some.inj H
   go_enter Tryz.func48,Tryz.ntmps48
   go_wp2_with (first|((with_reducible refine aA (N:=1) rfl ?_);refine zX 1 #[.int .i64 I,.slice U o.length aa] 24 ?_;intro aS R fE ag hb;have J:=Aside0.mk (ag);have a0:=zG j R;have a1:=zG j R;replace j:=zS j hb;clear hb ag R;obtain⟨b5,b_,b',ca⟩:=ao J)|((with_reducible refine au (f:=103) rfl ?_);refine zL (some 5) Tryz.func103 #[.agg #[.int .i64 I,.slice U o.length aa]] ?_;(with_reducible refine(bU.calls k I _ _ o t149 _ ?ab ?ad A2.out).mono ?_);(case ab=>exact Kd.aj ak.out zB);(case ad=>exact an.out);rintro e cb ⟨rfl,hb⟩;refine⟨_,rfl,?_⟩;replace J:=zb J hb;replace j:=zS j hb;(try clear hb);obtain⟨cc,cd,cf,ch⟩:=ao J)|((with_reducible refine au (f:=104) rfl ?_);refine zL (some 10) Tryz.func104 #[.agg #[.int .i64 I,.slice U o.length aa]] ?_;(with_reducible refine(jf.calls k I _ _ o false _ ?ab ?ad A4.out).mono ?_);(case ab=>exact Kd.aj ak.out zB);(case ad=>exact an.out);rintro e cj ⟨rfl,hb⟩;refine⟨_,rfl,?_⟩;replace J:=zb J hb;replace j:=zS j hb;(try clear hb)))
   go_ret
   exact⟨zE,zB⟩
 ·rw[if_neg c3] at H
  have a2:(t149==0)=false:=beq_eq_false_iff_ne.mpr c3
  have a3:(t149 != 0)=true:=bne_iff_ne.mpr c3
  obtain rfl:=Option.some.inj H
  go_enter Tryz.func48,Tryz.ntmps48
  go_wp2_with (first|((with_reducible refine aA (N:=1) rfl ?_);refine zX 1 #[.int .i64 I,.slice U o.length aa] 24 ?_;intro aS R ck ag hb;have J:=Aside0.mk (ag);have a0:=zG j R;have a1:=zG j R;replace j:=zS j hb;clear hb ag R;obtain⟨cl,cq,cr,cv⟩:=ao J)|((with_reducible refine au (f:=103) rfl ?_);refine zL (some 5) Tryz.func103 #[.agg #[.int .i64 I,.slice U o.length aa]] ?_;(with_reducible refine(bU.calls k I _ _ o t149 _ ?ab ?ad A2.out).mono ?_);(case ab=>exact Kd.aj ak.out zB);(case ad=>exact an.out);rintro e cx ⟨rfl,hb⟩;refine⟨_,rfl,?_⟩;replace J:=zb J hb;replace j:=zS j hb;(try clear hb)))
  go_ret
  exact⟨zE,zB⟩
def eW.f (k:Nat) (j:Int) (o:List (S83)) (l1:List Int):Option (Int):=(fD.f k j o).bind fun t152=>(if t152=0 then((bO.f k l1 j).bind fun t153=>(some t153)) else(some t152))
theorem eW.calls (k:Nat) (j:Int) (U:Option Addr) (aa:Nat) (o:List (S83)) (A1:Option Addr) (c1:Nat) (l1:List Int) (r:Int) (w:World) (an:Kd.C aG w U o.length o) (ar:o.length<=aa) (av:Kd.C (Kd.int .i64) w A1 l1.length l1) (aB:l1.length<=c1) (h:eW.f k j o l1=some r):
  Calls Tryz.prog 80 #[.agg #[.int .i64 j,.slice U o.length aa],.slice A1 l1.length c1] w fun e w'=>e= .returned (.int .i64 r)∧Below w.heap.size w w':=by
 have bo:=Tryz.underlying24
 have aF:=Aside0.mk an
 have aL:=Aside0.mk ar
 clear an ar
 have a0:=Aside0.mk av
 have a1:=Aside0.mk aB
 clear av aB
 have I:=Aside0.mk (Below.refl w.heap.size w)
 have H:((fD.f k j o).bind fun t152=>(if t152=0 then((bO.f k l1 j).bind fun t153=>(some t153)) else(some t152)))=some r:=h
 clear h
 replace H:=Option.bind_eq_some_iff.mp H
 obtain⟨t152,aO,H⟩:=H
 replace H:(if t152=0 then((bO.f k l1 j).bind fun t153=>(some t153)) else(some t152))=some r:=H
 have A3:=Aside0.mk aO
 clear aO
 by_cases c4:t152=0
 ·rw[if_pos c4] at H
  have a2:(t152==0)=true:=beq_iff_eq.mpr c4
  have a3:(t152 != 0)=false:=bne_eq_false_iff_eq.mpr c4
  clear c4
  replace H:=Option.bind_eq_some_iff.mp H
  obtain⟨t153,aS,H⟩:=H
  replace H:(some t153)=some r:=H
  have A5:=Aside0.mk aS
  clear aS
  obtain rfl:=Option.some.inj H
  go_enter Tryz.func80,Tryz.ntmps80
  go_wp2_with (first|((with_reducible refine aA (N:=2) rfl ?_);refine zX 2 #[.int .i64 j,.slice U o.length aa] 24 ?_;intro bg R w6 ab hb;have J:=Aside0.mk (ab);have bk:=zG I R;have bn:=zG I R;replace I:=zS I hb;clear hb ab R;obtain⟨bx,b0,b1,b2⟩:=ao J)|((with_reducible refine au (f:=48) rfl ?_);refine zL (some 7) Tryz.func48 #[.agg #[.int .i64 j,.slice U o.length aa]] ?_;(with_reducible refine(fD.calls k j _ _ o t152 _ ?ad ?ag A3.out).mono ?_);(case ad=>exact Kd.aj aF.out zB);(case ag=>exact aL.out);rintro e w8 ⟨rfl,hb⟩;refine⟨_,rfl,?_⟩;replace J:=zb J hb;replace I:=zS I hb;(try clear hb);obtain⟨b4,b5,b_,b'⟩:=ao J)|((with_reducible refine au (f:=42) rfl ?_);refine zL (some 14) Tryz.func42 #[.slice A1 l1.length c1,.int .i64 j] ?_;(with_reducible refine(bO.calls k _ _ l1 j t153 _ ?ad ?ag A5.out).mono ?_);(case ad=>exact Kd.aj a0.out zB);(case ag=>exact a1.out);rintro e w' ⟨rfl,⟨nd,rfl⟩⟩;refine⟨_,rfl,?_⟩))
  go_ret
  exact⟨zE,zB⟩
 ·rw[if_neg c4] at H
  have a2:(t152==0)=false:=beq_eq_false_iff_ne.mpr c4
  have a3:(t152 != 0)=true:=bne_iff_ne.mpr c4
  obtain rfl:=Option.some.inj H
  go_enter Tryz.func80,Tryz.ntmps80
  go_wp2_with (first|((with_reducible refine aA (N:=2) rfl ?_);refine zX 2 #[.int .i64 j,.slice U o.length aa] 24 ?_;intro bg R cb ab hb;have J:=Aside0.mk (ab);have bk:=zG I R;have bn:=zG I R;replace I:=zS I hb;clear hb ab R;obtain⟨cc,cd,cf,ch⟩:=ao J)|((with_reducible refine au (f:=48) rfl ?_);refine zL (some 7) Tryz.func48 #[.agg #[.int .i64 j,.slice U o.length aa]] ?_;(with_reducible refine(fD.calls k j _ _ o t152 _ ?ad ?ag A3.out).mono ?_);(case ad=>exact Kd.aj aF.out zB);(case ag=>exact aL.out);rintro e cj ⟨rfl,hb⟩;refine⟨_,rfl,?_⟩;replace J:=zb J hb;replace I:=zS I hb;(try clear hb)))
  go_ret
  exact⟨zE,zB⟩
def ee.l0:Nat->List Int->Int->Int->Option (Int)
 |0,_,_,_=>none
 |k+1,j,x3,x4=>if x4<(j.length:Int) then(if 0<=x4 then(ee.l0 k j (wrap64 (x3+(rd j x4))) (wrap64 (x4+1))) else(none)) else(some x3)
def ee.f (k:Nat) (l0:List Int):Option (Int):=ee.l0 k l0 0 0
theorem ee.calls (k:Nat) (A0:Option Addr) (c0:Nat) (l0:List Int) (r:Int) (w:World) (aa:Kd.C (Kd.int .i64) w A0 l0.length l0) (ab:l0.length<=c0) (h:ee.f k l0=some r):
  Calls Tryz.prog 22 #[.slice A0 l0.length c0] w fun e w'=>e= .returned (.int .i64 r)∧ax w w':=by
 have ak:=Aside0.mk aa
 have aF:=Aside0.mk ab
 clear aa ab
 have H:(ee.l0 k l0 0 0)=some r:=h
 clear h
 have o:=Aside0.mk H
 clear H
 go_enter Tryz.func22,Tryz.ntmps22
 go_wp2
 go_loopg [3,4] k (fun kq v3 v4 w'=>∃(I:Int) (j:Int),v3= .int .i64 I∧v4= .int .i64 j∧Aside0 (ee.l0 kq l0 I j=some r)∧Aside0 (kq<=k)∧ax w w')
 case atStart=>exact⟨(0),(0),zT,zT,o,⟨Nat.le_refl _⟩,by repeat(first|exact ax.refl _|apply ax.step)⟩
 case round=>
  clear o
  obtain⟨I,j,rfl,rfl,J,ag,⟨m1,rfl⟩⟩:=hrel
  cases gk with
  |zero=>exact absurd J.out (by simp[ee.l0])
  |succ k1=>
   have H:=J.out
   clear J
   simp only[ee.l0] at H
   by_cases c2:j<(l0.length:Int)
   ·rw[if_pos c2] at H
    have av:decide (j<(l0.length:Int))=true:=decide_eq_true c2
    clear c2
    by_cases c3:0<=j
    ·rw[if_pos c3] at H
     have aO:decide (0<=j)=true:=decide_eq_true c3
     clear c3
     have o:=Aside0.mk H
     clear H
     have R:0<=(j:Int):=of_decide_eq_true ‹_›
     have U:j<(l0.length:Int):=of_decide_eq_true ‹_›
     obtain⟨aP,aB,aS⟩:=Kd.bD ak.out j R U
     cases aB
     replace R:=eq_true R
     replace U:=eq_true U
     go_wp2
     go_roundg k1
     case measure=>have:=ag.out;omega
     case rel=>exact⟨(wrap64 (I+(rd l0 j))),(wrap64 (j+1)),zT,zT,o,⟨by have:=ag.out;omega⟩,by repeat(first|exact ax.refl _|apply ax.step)⟩
    ·rw[if_neg c3] at H
     exact absurd H (by simp)
   ·rw[if_neg c2] at H
    have av:decide (j<(l0.length:Int))=false:=decide_eq_false c2
    clear c2
    obtain rfl:=Option.some.inj H
    go_wp2
    go_ret
    exact⟨zT,by repeat(first|exact ax.refl _|apply ax.step)⟩
def dO.l0:Nat->List Int->Int->Option (Bool)
 |0,_,_=>none
 |k+1,x1,j=>if j<(x1.length:Int) then(if 0<=j then(if(rd x1 j)<(-100) then(some false) else(if(rd x1 j)>100 then(some false) else(dO.l0 k x1 (wrap64 (j+1))))) else(none)) else(some true)
def dO.f (k:Nat) (j:Int) (o:List (S83)) (l1:List Int):Option (Bool):=if(l1.length:Int)>100 then(some false) else((bO.f k l1 j).bind fun t105=>(if t105=0 then(dO.l0 k l1 0) else(some true)))
theorem dO.calls (k:Nat) (I:Int) (aF:Option Addr) (aL:Nat) (ab:List (S83)) (A1:Option Addr) (c1:Nat) (l1:List Int) (r:Bool) (w:World) (b0:Kd.C aG w aF ab.length ab) (b1:ab.length<=aL) (b2:Kd.C (Kd.int .i64) w A1 l1.length l1) (b3:l1.length<=c1) (h:dO.f k I ab l1=some r):
  Calls Tryz.prog 38 #[.agg #[.int .i64 I,.slice aF ab.length aL],.slice A1 l1.length c1] w fun e w'=>e= .returned (.bool r)∧Below w.heap.size w w':=by
 have c8:=Tryz.underlying24
 have c':=Aside0.mk b0
 have dd:=Aside0.mk b1
 clear b0 b1
 have ak:=Aside0.mk b2
 have b4:=Aside0.mk b3
 clear b2 b3
 have o:=Aside0.mk (Below.refl w.heap.size w)
 have H:(if(l1.length:Int)>100 then(some false) else((bO.f k l1 I).bind fun t105=>(if t105=0 then(dO.l0 k l1 0) else(some true))))=some r:=h
 clear h
 by_cases c3:(l1.length:Int)>100
 ·rw[if_pos c3] at H
  have b5:decide (100<(l1.length:Int))=true:=decide_eq_true c3
  have b_:decide (100<l1.length)=true:=decide_eq_true (by omega)
  clear c3
  obtain rfl:=Option.some.inj H
  go_enter Tryz.func38,Tryz.ntmps38
  go_wp2_with (first|((with_reducible refine aA (N:=2) rfl ?_);refine zX 2 #[.int .i64 I,.slice aF ab.length aL] 24 ?_;intro bg J w4 ad hb;have an:=Aside0.mk (ad);have b':=zG o J;have ca:=zG o J;replace o:=zS o hb;clear hb ad J))
  go_ret
  exact⟨zE,zB⟩
 ·rw[if_neg c3] at H
  have b5:decide (100<(l1.length:Int))=false:=decide_eq_false c3
  have b_:decide (100<l1.length)=false:=decide_eq_false (by omega)
  clear c3
  replace H:=Option.bind_eq_some_iff.mp H
  obtain⟨t105,cb,H⟩:=H
  replace H:(if t105=0 then(dO.l0 k l1 0) else(some true))=some r:=H
  have A5:=Aside0.mk cb
  clear cb
  by_cases c6:t105=0
  ·rw[if_pos c6] at H
   have cd:(t105==0)=true:=beq_iff_eq.mpr c6
   have cf:(t105 != 0)=false:=bne_eq_false_iff_eq.mpr c6
   clear c6
   have H':=Aside0.mk H
   clear H
   go_enter Tryz.func38,Tryz.ntmps38
   go_wp2_with (first|((with_reducible refine aA (N:=2) rfl ?_);refine zX 2 #[.int .i64 I,.slice aF ab.length aL] 24 ?_;intro bg J w7 ad hb;have an:=Aside0.mk (ad);have b':=zG o J;have ca:=zG o J;replace o:=zS o hb;clear hb ad J;obtain⟨ck,cl,cq,cr⟩:=ao an)|((with_reducible refine au (f:=42) rfl ?_);refine zL (some 12) Tryz.func42 #[.slice A1 l1.length c1,.int .i64 I] ?_;(with_reducible refine(bO.calls k _ _ l1 I t105 _ ?bk ?bn A5.out).mono ?_);(case bk=>exact Kd.aj ak.out zB);(case bn=>exact b4.out);rintro e w' ⟨rfl,⟨nd,rfl⟩⟩;refine⟨_,rfl,?_⟩))
   go_loopg [5] k (fun kq v5 w'=>∃(j:Int),v5= .int .i64 j∧Aside0 (dO.l0 kq l1 j=some r)∧Aside0 (kq<=k)∧Aside0 (w'.heap[bg]? =some (.cells #[.int .i64 I,(.slice aF ab.length aL)] 24 (0,0)))∧Aside0 (Below w.heap.size w w'))
   case atStart=>exact⟨(0),zT,H',⟨Nat.le_refl _⟩,⟨zK an⟩,⟨zB⟩⟩
   case round=>
    clear H'
    try clear c1
    try clear p2
    try clear c3
    try clear b5
    try clear b_
    try clear c4
    try clear c6
    try clear cd
    try clear cf
    try clear ck
    try clear cl
    try clear cq
    try clear cr
    obtain⟨j,rfl,HA,cj,an,o⟩:=hrel
    cases gk with
    |zero=>exact absurd HA.out (by simp[dO.l0])
    |succ k1=>
     have H:=HA.out
     clear HA
     simp only[dO.l0] at H
     by_cases c9:j<(l1.length:Int)
     ·rw[if_pos c9] at H
      have c2:decide (j<(l1.length:Int))=true:=decide_eq_true c9
      clear c9
      by_cases a3:0<=j
      ·rw[if_pos a3] at H
       have eb:decide (0<=j)=true:=decide_eq_true a3
       clear a3
       by_cases aP:(rd l1 j)<(-100)
       ·rw[if_pos aP] at H
        have c5:decide ((rd l1 j)<(-100))=true:=decide_eq_true aP
        clear aP
        obtain rfl:=Option.some.inj H
        have R:0<=(j:Int):=of_decide_eq_true ‹_›
        have U:j<(l1.length:Int):=of_decide_eq_true ‹_›
        obtain⟨bf,a0,aa⟩:=Kd.bD ak.out j R U
        cases a0
        replace aa:=(o.out.cell (World.block_lt_of_cell? w _ aa)).trans aa
        replace R:=eq_true R
        replace U:=eq_true U
        go_wp2
        go_ret
        exact⟨zE,zB⟩
       ·rw[if_neg aP] at H
        have c5:decide ((rd l1 j)<(-100))=false:=decide_eq_false aP
        clear aP
        by_cases aS:(rd l1 j)>100
        ·rw[if_pos aS] at H
         have c7:decide (100<(rd l1 j))=true:=decide_eq_true aS
         clear aS
         obtain rfl:=Option.some.inj H
         have R:0<=(j:Int):=of_decide_eq_true ‹_›
         have U:j<(l1.length:Int):=of_decide_eq_true ‹_›
         obtain⟨bf,a0,aa⟩:=Kd.bD ak.out j R U
         cases a0
         replace aa:=(o.out.cell (World.block_lt_of_cell? w _ aa)).trans aa
         replace R:=eq_true R
         replace U:=eq_true U
         have ar:0<=(j:Int):=of_decide_eq_true ‹_›
         have av:j<(l1.length:Int):=of_decide_eq_true ‹_›
         obtain⟨bw,bx,aB⟩:=Kd.bD ak.out j ar av
         obtain rfl:bf=bw:=(by injection bx)
         replace aB:=(o.out.cell (World.block_lt_of_cell? w _ aB)).trans aB
         replace ar:=eq_true ar
         replace av:=eq_true av
         go_wp2
         go_ret
         exact⟨zE,zB⟩
        ·rw[if_neg aS] at H
         have c7:decide (100<(rd l1 j))=false:=decide_eq_false aS
         clear aS
         have H':=Aside0.mk H
         clear H
         have R:0<=(j:Int):=of_decide_eq_true ‹_›
         have U:j<(l1.length:Int):=of_decide_eq_true ‹_›
         obtain⟨bf,a0,aa⟩:=Kd.bD ak.out j R U
         cases a0
         replace aa:=(o.out.cell (World.block_lt_of_cell? w _ aa)).trans aa
         replace R:=eq_true R
         replace U:=eq_true U
         have ar:0<=(j:Int):=of_decide_eq_true ‹_›
         have av:j<(l1.length:Int):=of_decide_eq_true ‹_›
         obtain⟨bw,bx,aB⟩:=Kd.bD ak.out j ar av
         obtain rfl:bf=bw:=(by injection bx)
         replace aB:=(o.out.cell (World.block_lt_of_cell? w _ aB)).trans aB
         replace ar:=eq_true ar
         replace av:=eq_true av
         go_wp2
         go_roundg k1
         case measure=>have:=cj.out;omega
         case rel=>exact⟨(wrap64 (j+1)),zT,H',⟨by have:=cj.out;omega⟩,⟨zK an⟩,⟨zB⟩⟩
      ·rw[if_neg a3] at H
       exact absurd H (by simp)
     ·rw[if_neg c9] at H
      have c2:decide (j<(l1.length:Int))=false:=decide_eq_false c9
      clear c9
      obtain rfl:=Option.some.inj H
      go_wp2
      go_ret
      exact⟨zE,zB⟩
  ·rw[if_neg c6] at H
   have cd:(t105==0)=false:=beq_eq_false_iff_ne.mpr c6
   have cf:(t105 != 0)=true:=bne_iff_ne.mpr c6
   obtain rfl:=Option.some.inj H
   go_enter Tryz.func38,Tryz.ntmps38
   go_wp2_with (first|((with_reducible refine aA (N:=2) rfl ?_);refine zX 2 #[.int .i64 I,.slice aF ab.length aL] 24 ?_;intro bg J ed ad hb;have an:=Aside0.mk (ad);have b':=zG o J;have ca:=zG o J;replace o:=zS o hb;clear hb ad J;obtain⟨eg,ek,er,ev⟩:=ao an)|((with_reducible refine au (f:=42) rfl ?_);refine zL (some 12) Tryz.func42 #[.slice A1 l1.length c1,.int .i64 I] ?_;(with_reducible refine(bO.calls k _ _ l1 I t105 _ ?bk ?bn A5.out).mono ?_);(case bk=>exact Kd.aj ak.out zB);(case bn=>exact b4.out);rintro e w' ⟨rfl,⟨nd,rfl⟩⟩;refine⟨_,rfl,?_⟩))
   go_ret
   exact⟨zE,zB⟩
def kR.f (k:Nat) (j:Int) (o:List (S83)) (I:Int) (J:Int):Option (Bool):=if(o.length:Int)>40 then(some false) else((bU.f k j o).bind fun t119=>(if t119=0 then(if j<=I then((ji.f j o).bind fun t120=>(some (decide (t120<=J)))) else(some false)) else(some true)))
theorem kR.calls (k:Nat) (I:Int) (aa:Option Addr) (ab:Nat) (j:List (S83)) (a1:Int) (a2:Int) (r:Bool) (w:World) (a0:Kd.C aG w aa j.length j) (a3:j.length<=ab) (h:kR.f k I j a1 a2=some r):
  Calls Tryz.prog 97 #[.agg #[.int .i64 I,.slice aa j.length ab],.int .i64 a1,.int .i64 a2] w fun e w'=>e= .returned (.bool r)∧Below w.heap.size w w':=by
 have b1:=Tryz.underlying24
 have aB:=Aside0.mk a0
 have aF:=Aside0.mk a3
 clear a0 a3
 have o:=Aside0.mk (Below.refl w.heap.size w)
 have H:(if(j.length:Int)>40 then(some false) else((bU.f k I j).bind fun t119=>(if t119=0 then(if I<=a1 then((ji.f I j).bind fun t120=>(some (decide (t120<=a2)))) else(some false)) else(some true))))=some r:=h
 clear h
 by_cases c4:(j.length:Int)>40
 ·rw[if_pos c4] at H
  have bk:decide (40<(j.length:Int))=true:=decide_eq_true c4
  have bn:decide (40<j.length)=true:=decide_eq_true (by omega)
  clear c4
  obtain rfl:=Option.some.inj H
  go_enter Tryz.func97,Tryz.ntmps97
  go_wp2_with (first|((with_reducible refine aA (N:=3) rfl ?_);refine zX 3 #[.int .i64 I,.slice aa j.length ab] 24 ?_;intro aL R w5 U hb;have J:=Aside0.mk (U);have aO:=zG o R;have aP:=zG o R;replace o:=zS o hb;clear hb U R;obtain⟨b3,b4,b5,b_⟩:=ao J))
  go_ret
  exact⟨zE,zB⟩
 ·rw[if_neg c4] at H
  have bk:decide (40<(j.length:Int))=false:=decide_eq_false c4
  have bn:decide (40<j.length)=false:=decide_eq_false (by omega)
  clear c4
  replace H:=Option.bind_eq_some_iff.mp H
  obtain⟨t119,bf,H⟩:=H
  replace H:(if t119=0 then(if I<=a1 then((ji.f I j).bind fun t120=>(some (decide (t120<=a2)))) else(some false)) else(some true))=some r:=H
  have A7:=Aside0.mk bf
  clear bf
  by_cases c8:t119=0
  ·rw[if_pos c8] at H
   have bo:(t119==0)=true:=beq_iff_eq.mpr c8
   have bw:(t119 != 0)=false:=bne_eq_false_iff_eq.mpr c8
   clear c8
   by_cases c9:I<=a1
   ·rw[if_pos c9] at H
    have bx:decide (I<=a1)=true:=decide_eq_true c9
    clear c9
    replace H:=Option.bind_eq_some_iff.mp H
    obtain⟨t120,bg,H⟩:=H
    replace H:(some (decide (t120<=a2)))=some r:=H
    have b0:=Aside0.mk bg
    clear bg
    obtain rfl:=Option.some.inj H
    go_enter Tryz.func97,Tryz.ntmps97
    go_wp2_with (first|((with_reducible refine aA (N:=3) rfl ?_);refine zX 3 #[.int .i64 I,.slice aa j.length ab] 24 ?_;intro aL R fE U hb;have J:=Aside0.mk (U);have aO:=zG o R;have aP:=zG o R;replace o:=zS o hb;clear hb U R;obtain⟨b',ca,cb,cc⟩:=ao J)|((with_reducible refine au (f:=103) rfl ?_);refine zL (some 12) Tryz.func103 #[.agg #[.int .i64 I,.slice aa j.length ab]] ?_;(with_reducible refine(bU.calls k I _ _ j t119 _ ?ak ?an A7.out).mono ?_);(case ak=>exact Kd.aj aB.out zB);(case an=>exact aF.out);rintro e cd ⟨rfl,hb⟩;refine⟨_,rfl,?_⟩;replace J:=zb J hb;replace o:=zS o hb;(try clear hb);obtain⟨cf,ch,cj,ck⟩:=ao J)|(go_at_call 73;(with_reducible refine(ji.calls I _ _ j t120 _ ?ak ?an b0.out).mono ?_);(case ak=>exact Kd.aj aB.out zB);(case an=>exact aF.out);rintro e cl ⟨rfl,hb⟩;replace J:=zb J hb;replace o:=zS o hb;(try clear hb)))
    go_ret
    exact⟨zE,zB⟩
   ·rw[if_neg c9] at H
    have bx:decide (I<=a1)=false:=decide_eq_false c9
    clear c9
    obtain rfl:=Option.some.inj H
    go_enter Tryz.func97,Tryz.ntmps97
    go_wp2_with (first|((with_reducible refine aA (N:=3) rfl ?_);refine zX 3 #[.int .i64 I,.slice aa j.length ab] 24 ?_;intro aL R cq U hb;have J:=Aside0.mk (U);have aO:=zG o R;have aP:=zG o R;replace o:=zS o hb;clear hb U R;obtain⟨cr,cv,cx,c0⟩:=ao J)|((with_reducible refine au (f:=103) rfl ?_);refine zL (some 12) Tryz.func103 #[.agg #[.int .i64 I,.slice aa j.length ab]] ?_;(with_reducible refine(bU.calls k I _ _ j t119 _ ?ak ?an A7.out).mono ?_);(case ak=>exact Kd.aj aB.out zB);(case an=>exact aF.out);rintro e c1 ⟨rfl,hb⟩;refine⟨_,rfl,?_⟩;replace J:=zb J hb;replace o:=zS o hb;(try clear hb);obtain⟨c2,c3,c5,c6⟩:=ao J))
    go_ret
    exact⟨zE,zB⟩
  ·rw[if_neg c8] at H
   have bo:(t119==0)=false:=beq_eq_false_iff_ne.mpr c8
   have bw:(t119 != 0)=true:=bne_iff_ne.mpr c8
   obtain rfl:=Option.some.inj H
   go_enter Tryz.func97,Tryz.ntmps97
   go_wp2_with (first|((with_reducible refine aA (N:=3) rfl ?_);refine zX 3 #[.int .i64 I,.slice aa j.length ab] 24 ?_;intro aL R c7 U hb;have J:=Aside0.mk (U);have aO:=zG o R;have aP:=zG o R;replace o:=zS o hb;clear hb U R;obtain⟨c',dd,ds,dv⟩:=ao J)|((with_reducible refine au (f:=103) rfl ?_);refine zL (some 12) Tryz.func103 #[.agg #[.int .i64 I,.slice aa j.length ab]] ?_;(with_reducible refine(bU.calls k I _ _ j t119 _ ?ak ?an A7.out).mono ?_);(case ak=>exact Kd.aj aB.out zB);(case an=>exact aF.out);rintro e ea ⟨rfl,hb⟩;refine⟨_,rfl,?_⟩;replace J:=zb J hb;replace o:=zS o hb;(try clear hb)))
   go_ret
   exact⟨zE,zB⟩
def jv.f (k:Nat) (j:Int) (o:List (S83)):Option (Bool):=(kR.f k j o 5 7).bind fun t122=>(some t122)
theorem jv.calls (k:Nat) (o:Int) (J:Option Addr) (R:Nat) (j:List (S83)) (r:Bool) (w:World) (ab:Kd.C aG w J j.length j) (ad:j.length<=R) (h:jv.f k o j=some r):
  Calls Tryz.prog 44 #[.agg #[.int .i64 o,.slice J j.length R]] w fun e w'=>e= .returned (.bool r)∧Below w.heap.size w w':=by
 have aL:=Tryz.underlying24
 have an:=Aside0.mk ab
 have ar:=Aside0.mk ad
 clear ab ad
 have I:=Aside0.mk (Below.refl w.heap.size w)
 have H:((kR.f k o j 5 7).bind fun t122=>(some t122))=some r:=h
 clear h
 replace H:=Option.bind_eq_some_iff.mp H
 obtain⟨t122,ag,H⟩:=H
 replace H:(some t122)=some r:=H
 have A2:=Aside0.mk ag
 clear ag
 obtain rfl:=Option.some.inj H
 go_enter Tryz.func44,Tryz.ntmps44
 go_wp2_with (first|((with_reducible refine aA (N:=1) rfl ?_);refine zX 1 #[.int .i64 o,.slice J j.length R] 24 ?_;intro aO U w3 ak hb;have aa:=Aside0.mk (ak);have aP:=zG I U;have aS:=zG I U;replace I:=zS I hb;clear hb ak U;obtain⟨a0,a1,a2,a3⟩:=ao aa)|((with_reducible refine au (f:=97) rfl ?_);refine zL (some 4) Tryz.func97 #[.agg #[.int .i64 o,.slice J j.length R],.int .i64 5,.int .i64 7] ?_;(with_reducible refine(kR.calls k o _ _ j 5 7 t122 _ ?aB ?aF A2.out).mono ?_);(case aB=>exact Kd.aj an.out zB);(case aF=>exact ar.out);rintro e w5 ⟨rfl,hb⟩;refine⟨_,rfl,?_⟩;replace aa:=zb aa hb;replace I:=zS I hb;(try clear hb)))
 go_ret
 exact⟨zE,zB⟩
end Go.Proofs.YtffdiakgjakngaaGreat.P

