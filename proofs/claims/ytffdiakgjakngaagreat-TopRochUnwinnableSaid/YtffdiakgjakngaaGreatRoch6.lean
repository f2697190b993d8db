/- TopRochUnwinnable answers true whatever the input (text 6 of 19): own walks and plain laws; no conditions. -/
import Derived.Below
import Derived.BigQuiet
import Derived.BigRegion
import Derived.Deep.AppendLies
import Derived.Deep.QuietTactic
import Derived.Deep.RegionHeld3
import Derived.Lib.Hide
import Derived.LoopIn
import Derived.LoopNIn
import Derived.Outline
import Derived.OwnWalkIn
import Derived.RangeFuncBound
import Derived.RangeFuncCalls
import Derived.RangeFuncLeaves
import Derived.RangeFuncNested
import Derived.RegionIn
import Derived.RegionTactic
import Derived.Shelf.RegionOpen
import Derived.Sort.LoopGhostIn
import Derived.TacticsInMore
import Derived.WalkKit
import Derived.WalkSpells
import Derived.Test.YtffdiakgjakngaaGreatRoch5
namespace Go.Proofs.YtffdiakgjakngaaGreat.T
set_option linter.unusedVariables false
set_option linter.unusedSimpArgs false
set_option maxHeartbeats 8000000
set_option maxRecDepth 100000
def dM (n:Nat) (t:Nat->Nat->Int) (dist:Nat->Int) (v:Nat):Int:=sN (fun u=>if dist v<dist u then t v u else 0) n
theorem kG {n:Nat} {t:Nat->Nat->Int} (j:Wt n t) (dist:Nat->Int) (v:Nat):0<=dM n t dist v:=cQ fun u _=>by
 show 0<=(if dist v<dist u then t v u else 0)
 have:=j.pos v u
 split<;>omega
theorem zr {n:Nat} {t:Nat->Nat->Int} (j:Wt n t) (dist:Nat->Int):2*sN (dM n t dist) n<=sN (val n t) n:=by
 have h1:sN (dM n t dist) n=sN (fun v=>sN (fun u=>if dist u<dist v then t v u else 0) n) n:=by
  show sN (fun v=>sN (fun u=>if dist v<dist u then t v u else 0) n) n=_
  rw[lI]
  refine bh fun u _=>bh fun v _=>?_
  rw[j.sym v u]
 have h2:sN (fun v=>dM n t dist v+sN (fun u=>if dist u<dist v then t v u else 0) n) n<=sN (val n t) n:=by
  refine cm fun v o=>?_
  show sN (fun u=>if dist v<dist u then t v u else 0) n+sN (fun u=>if dist u<dist v then t v u else 0) n<=sN (fun u=>t v u) n
  rw[<-dn]
  refine cm fun u hu=>?_
  show (if dist v<dist u then t v u else 0)+(if dist u<dist v then t v u else 0)<=t v u
  have:=j.pos v u
  split<;>split<;>omega
 rw[dn,<-h1] at h2
 omega
def dC (n:Nat) (t:Nat->Nat->Int) (dist:Nat->Int) (k:Int):Int:=sN (fun v=>if k<=dist v then dM n t dist v else 0) n
theorem sX {n:Nat} {t:Nat->Nat->Int} (j:Wt n t) (dist:Nat->Int) (k:Int):0<=dC n t dist k∧dC n t dist k<=sN (dM n t dist) n:=by
 refine⟨cQ fun v _=>?_,cm fun v _=>?_⟩
 ·show 0<=(if k<=dist v then dM n t dist v else 0)
  have:=kG j dist v
  split<;>omega
 ·show (if k<=dist v then dM n t dist v else 0)<=_
  have:=kG j dist v
  split<;>omega
theorem zt {n:Nat} {t:Nat->Nat->Int} (j:Wt n t) (dist:Nat->Int) (k:Int) {v:Nat} (o:v<n) (hd:dist v=k-1):dC n t dist k+dM n t dist v<=dC n t dist (k-1):=by
 have h1:sN (fun u=>(if k<=dist u then dM n t dist u else 0)+(if u=v then dM n t dist u else 0)) n<=dC n t dist (k-1):=by
  refine cm fun u _=>?_
  show (if k<=dist u then dM n t dist u else 0)+(if u=v then dM n t dist u else 0)<=(if k-1<=dist u then dM n t dist u else 0)
  have:=kG j dist u
  by_cases e:u=v
  ·subst e
   rw[if_neg (show ¬k<=dist u by omega),if_pos rfl,if_pos (by omega)];omega
  ·rw[if_neg e]
   split
   ·rw[if_pos (by omega)];omega
   ·split<;>omega
 rw[dn] at h1
 have h2:sN (fun u=>if u=v then dM n t dist u else 0) n=dM n t dist v:=by
  rw[ij o (fun u _ hu=>if_neg hu)];simp
 unfold dC at h1⊢
 omega
theorem jT (m:Nat):1+(m:Int)<=2 ^ m:=by
 induction m with
 |zero=>decide
 |succ m j=>rw[Int.pow_succ];omega
def eC (n:Nat) (t:Nat->Nat->Int) (dist:Nat->Int) (B k:Int):Int:=B*2 ^ (dC n t dist k).toNat
theorem m5 {n:Nat} {t:Nat->Nat->Int} (dist:Nat->Int) {B:Int} (j:0<=B) (k:Int):B<=eC n t dist B k:=by
 unfold eC
 have h:(1:Int)<=2 ^ (dC n t dist k).toNat:=by have:=jT (dC n t dist k).toNat;omega
 have:=Int.mul_le_mul_of_nonneg_left h j
 omega
theorem pk {n:Nat} {t:Nat->Nat->Int} (j:Wt n t) (dist:Nat->Int) {B:Int} (I:0<=B) (J:sN (val n t) n<=19) (k:Int):eC n t dist B k<=B*512:=by
 unfold eC
 have h1:=sX j dist k
 have h2:=zr j dist
 have o:(dC n t dist k).toNat<=9:=by omega
 refine Int.mul_le_mul_of_nonneg_left ?_ I
 generalize (dC n t dist k).toNat=m at o
 have:∀m:Nat,m<=9->(2:Int) ^ m<=512:=by decide
 exact this m o
theorem zu {n:Nat} {t:Nat->Nat->Int} (j:Wt n t) (dist:Nat->Int) {B:Int} (J:0<=B) (k:Int) {v:Nat} (R:v<n) (hd:dist v=k-1):eC n t dist B k*(1+dM n t dist v)<=eC n t dist B (k-1):=by
 unfold eC
 have h1:=zt j dist k R hd
 have h2:=sX j dist k
 have U:=kG j dist v
 obtain⟨m,hm⟩:=Int.eq_ofNat_of_zero_le U
 obtain⟨a,o⟩:=Int.eq_ofNat_of_zero_le h2.1
 rw[hm,o]
 rw[hm,o] at h1
 obtain⟨b,hb⟩:∃b:Nat,dC n t dist (k-1)=((a+m+b:Nat):Int):=⟨(dC n t dist (k-1)).toNat-a-m,by omega⟩
 rw[hb,Int.toNat_natCast,Int.toNat_natCast,Int.mul_assoc]
 refine Int.mul_le_mul_of_nonneg_left ?_ J
 have h4:=jT m
 have I:(0:Int)<=2 ^ a:=by have:=jT a;omega
 have h6:=Int.mul_le_mul_of_nonneg_left h4 I
 have h7:(1:Int)<=2 ^ b:=by have:=jT b;omega
 have h8:(0:Int)<=2 ^ a*2 ^ m:=Int.mul_nonneg I (by have:=jT m;omega)
 have h9:=Int.mul_le_mul_of_nonneg_left h7 h8
 rw[Int.pow_add,Int.pow_add]
 omega
theorem zv {n:Nat} {t:Nat->Nat->Int} (j:Wt n t) (dist:Nat->Int) {B:Int} (o:0<=B) (k:Int):eC n t dist B k<=eC n t dist B (k-1):=by
 unfold eC
 have h1:dC n t dist k<=dC n t dist (k-1):=cm fun v _=>by
  show (if k<=dist v then dM n t dist v else 0)<=(if k-1<=dist v then dM n t dist v else 0)
  have:=kG j dist v
  split
  ·rw[if_pos (by omega)];omega
  ·split<;>omega
 refine Int.mul_le_mul_of_nonneg_left ?_ o
 obtain⟨b,hb⟩:∃b:Nat,(dC n t dist (k-1)).toNat=(dC n t dist k).toNat+b:=⟨(dC n t dist (k-1)).toNat- (dC n t dist k).toNat,by omega⟩
 rw[hb,Int.pow_add]
 have I:(0:Int)<=2 ^ (dC n t dist k).toNat:=by have:=jT (dC n t dist k).toNat;omega
 have J:(1:Int)<=2 ^ b:=by have:=jT b;omega
 have:=Int.mul_le_mul_of_nonneg_left J I
 omega
def a6 (dist:Nat->Int) (k:Int) (u:Nat):Bool:=decide (dist u<k)
structure dZ (n:Nat) (t:Nat->Nat->Int) (D dist:Nat->Int) (B k:Int) (d s:Nat->Int):Prop where
 eq:∀v,v<n->d v=D v-aI n t s v
 jh:∀v,v<n->k<dist v->0<=d v
 low:∀v,v<n-> -eC n t dist B k<=d v
 s0:∀v,v<n->0<=s v∧s v<=(n-k)*(B*512)
theorem dZ.start {n:Nat} {t:Nat->Nat->Int} {D dist:Nat->Int} {B k:Int} (o:0<=B) (I:∀v,v<n-> -B<=D v) (hk:∀v,v<n->dist v<=k) (J:k<=n):dZ n t D dist B k D (fun _=>0):=by
 refine⟨fun v _=>by rw[jc];omega,fun v j h=>by have:=hk v j;omega,fun v j=>?_,fun v _=>⟨Int.le_refl _,Int.mul_nonneg (by omega) (by omega)⟩⟩
 have:=m5 (n:=n) (t:=t) dist o k
 have:=I v j
 omega
theorem dZ.step {n:Nat} {t:Nat->Nat->Int} (o:Wt n t) {D dist:Nat->Int} {B k:Int} (J:0<=B) (an:sN (val n t) n<=19) (ab:∀u v,u<n->v<n->0<t u v->dist v<=dist u+1) {d s:Nat->Int} (h:dZ n t D dist B k d s) {T:Int} (R:0<=T) (ar:T<=eC n t dist B k)
  (hT:∀v,v<n->dist v=k->d v<0-> -d v<=T*sN (fun u=>if a6 dist k u=true then t v u else 0) n) {d' s':Nat->Int} (U:∀v,v<n->d' v=d v-T*aI n t (ind (a6 dist k)) v) (ad:∀v,v<n->s' v=s v+T*ind (a6 dist k) v):dZ n t D dist B (k-1) d' s':=by
 have I:∀v,v<n->(k<dist v->aI n t (ind (a6 dist k)) v=0)∧(dist v=k->aI n t (ind (a6 dist k)) v= -sN (fun u=>if a6 dist k u=true then t v u else 0) n)∧(dist v<k-1->aI n t (ind (a6 dist k)) v=0)∧(dist v=k-1->0<=aI n t (ind (a6 dist k)) v∧aI n t (ind (a6 dist k)) v<=dM n t dist v):=by
  intro v j
  rw[oQ]
  refine⟨fun hk=>?_,fun hk=>?_,fun hk=>?_,fun hk=>?_⟩
  ·rw[if_neg (by unfold a6;simp;omega),fO fun u hu=>?_]; · rfl
   show (if a6 dist k u=true then t v u else 0)=0
   split
   ·rename_i hn
    have h1:=of_decide_eq_true hn
    have h2:=o.pos v u
    by_cases e:0<t v u
    ·rw[o.sym] at e
     have:=ab u v hu j e
     omega
    ·omega
   ·rfl
  ·rw[if_neg (by unfold a6;simp;omega)]
  ·rw[if_pos (by unfold a6;simp;omega)]
   refine fO fun u hu=>?_
   show (if a6 dist k u=false then t v u else 0)=0
   split
   ·rename_i hn
    have h1:=of_decide_eq_false hn
    have h2:=o.pos v u
    by_cases e:0<t v u
    ·have:=ab v u j hu e
     omega
    ·omega
   ·rfl
  ·rw[if_pos (by unfold a6;simp;omega)]
   refine⟨cQ fun u _=>?_,cm fun u _=>?_⟩
   ·show 0<=(if a6 dist k u=false then t v u else 0)
    have:=o.pos v u
    split<;>omega
   ·show (if a6 dist k u=false then t v u else 0)<=(if dist v<dist u then t v u else 0)
    have:=o.pos v u
    by_cases e:a6 dist k u=false
    ·have h1:=of_decide_eq_false e
     rw[if_pos e,if_pos (by omega)];omega
    ·rw[if_neg e];split<;>omega
 have aO:0<=eC n t dist B k:=by have:=m5 (n:=n) (t:=t) dist J k;omega
 refine⟨fun v j=>?_,fun v j hk=>?_,fun v j=>?_,fun v j=>?_⟩
 ·have e:aI n t s' v=aI n t s v+T*aI n t (ind (a6 dist k)) v:=by
   rw[kC (r:=fun u=>s u+T*ind (a6 dist k) u) (fun u hu=>ad u hu) j,jN,r_]
  rw[U v j,h.eq v j,e];omega
 ·rw[U v j]
  by_cases e:k<dist v
  ·rw[(I v j).1 e]
   have:=h.jh v j e
   omega
  ·have ek:dist v=k:=by omega
   rw[(I v j).2.1 ek,Int.mul_neg]
   have h1:0<=T*sN (fun u=>if a6 dist k u=true then t v u else 0) n:=Int.mul_nonneg R (cQ fun u _=>by
    show 0<=(if a6 dist k u=true then t v u else 0)
    have:=o.pos v u
    split<;>omega)
   by_cases aB:d v<0
   ·have:=hT v j ek aB
    omega
   ·omega
 ·rw[U v j]
  have hl:=h.low v j
  have hm:=zv o dist J k
  by_cases e1:k<dist v
  ·rw[(I v j).1 e1];omega
  by_cases e2:dist v=k
  ·rw[(I v j).2.1 e2,Int.mul_neg]
   have h1:0<=T*sN (fun u=>if a6 dist k u=true then t v u else 0) n:=Int.mul_nonneg R (cQ fun u _=>by
    show 0<=(if a6 dist k u=true then t v u else 0)
    have:=o.pos v u
    split<;>omega)
   omega
  by_cases e3:dist v<k-1
  ·rw[(I v j).2.2.1 e3];omega
  have e4:dist v=k-1:=by omega
  obtain⟨l1,l2⟩:=(I v j).2.2.2 e4
  have h1:=zu o dist J k j e4
  have h2:=Int.mul_le_mul_of_nonneg_left l2 R
  have h3:=Int.mul_le_mul_of_nonneg_right ar (kG o dist v)
  rw[Int.mul_add] at h1
  omega
 ·have h1:=h.s0 v j
  have h2:=pk o dist J an k
  rw[ad v j]
  have e:(n- (k-1))*(B*512)=(n-k)*(B*512)+B*512:=by
   rw[show (n:Int)- (k-1)=(n-k)+1 by omega,Int.add_mul,Int.one_mul]
  rw[e]
  unfold ind
  split
  ·rw[Int.mul_one];omega
  ·rw[Int.mul_zero];omega
end Go.Proofs.YtffdiakgjakngaaGreat.T
namespace Go.Proofs.YtffdiakgjakngaaGreat.P
open Go.RowKit Go.Proofs.YtffdiakgjakngaaGreatW.PrintWords Go.Proofs.YtffdiakgjakngaaGreatW.PrintLast Go.Proofs.YtffdiakgjakngaaGreatW.PrintMore
set_option linter.unusedVariables false
set_option linter.unusedSimpArgs false
set_option maxHeartbeats 8000000
set_option maxRecDepth 100000
theorem sY:(Tryz.prog.info? 205).map (fun i=>(i.zero,i.size,i.bytes))=some (some (.agg #[.int .i64 0,.int .i64 0]),2,16):=by kernel_rfl
def bW (E:List S83):Nat->Nat
 |0=>0
 |i+1=>bW E i+(ae E i).f2.toNat
def d_ (E:List S83):Bool:=decide (E.length<=40)&&E.all fun x=>decide (1<=x.f2∧x.f2<=50)
theorem m6 {E:List S83} (h:∀k,k<E.length->1<=(ae E k).f2∧(ae E k).f2<=50):∀i,i<=E.length->bW E i<=50*i
 |0,_=>by simp[bW]
 |i+1,hi=>by
  have h1:=m6 h i (by omega)
  have h2:=h i (by omega)
  simp only[bW];omega
theorem pn {E:List S83} (h:d_ E=true):E.length<=40∧∀k,k<E.length->1<=(ae E k).f2∧(ae E k).f2<=50:=by
 simp only[d_,Bool.and_eq_true,decide_eq_true_eq,List.all_eq_true] at h
 refine⟨h.1,fun k hk=>?_⟩
 have e:ae E k=E[k]:=by simp[ae,List.getD_eq_getElem?_getD,List.getElem?_eq_getElem hk]
 rw[e];exact h.2 _ (List.getElem_mem hk)
def ji.f (N:Int) (E:List S83):Option Int:=if d_ E=true then some (bW E E.length:Nat) else none
theorem zw (N:Int) (A0:Option Addr) (c0:Nat) (E:List S83) (w:World) (bx:Kd.C aG w A0 E.length E) (hE:d_ E=true):
  Calls Tryz.prog 130 #[.agg #[.int .i64 N,.slice A0 E.length c0]] w fun e w'=>∃A c,e= .returned (.slice A (bW E E.length) c)∧Below w.heap.size w w':=by
 have hu:=Tryz.underlying24
 have cj:=Tryz.underlying83
 obtain⟨hlen,hm⟩:=pn hE
 have aK:=fun i hi=>m6 hm i hi
 have HM:=Aside0.mk hm
 have HS:=Aside0.mk aK
 clear hm aK hE
 obtain⟨i0,a0,a1,a2,a3⟩:=info_parts sY
 have HI:=Aside0.mk a0
 have b3:=Aside0.mk a1
 have b4:=Aside0.mk a2
 have b5:=Aside0.mk a3
 clear a0 a1 a2 a3
 go_enter Tryz.func130,Tryz.ntmps130
 go_wp2
 have ar:(w.alloc (.cells #[.int .i64 N,.slice A0 E.length c0] 24)).heap[w.heap.size]? =some (.cells #[.int .i64 N,.slice A0 E.length c0] 24 (0,0)):=by simpa using heap_alloc_new w _
 have av:=al (Below.refl w.heap.size w) (.cells #[.int .i64 N,.slice A0 E.length c0] 24)
 have b_:w.heap.size<=w.heap.size:=Nat.le_refl _
 generalize aB:w.heap.size=gb at ar b_⊢
 rw[aB] at av
 generalize (w.alloc (.cells #[.int .i64 N,.slice A0 E.length c0] 24))=W0 at ar av⊢
 go_loopw [3,4] (fun v i wr=>∃(k:Nat) (xs:List Value),k<=E.length∧i= .int .i64 k∧Aside0 (wr.ownsRow gb 205 2 v (bW E k) xs)∧Aside0 (wr.heap[gb]? =some (.cells #[.int .i64 N,.slice A0 E.length c0] 24 (0,0)))∧Aside0 (Below gb w wr)) (fun _ i _=>E.length- (intOf i).toNat)
 case atStart=>exact⟨0,[],Nat.zero_le _,rfl,⟨qJ _ _ _ _⟩,⟨ar⟩,⟨av⟩⟩
 case round=>
  obtain⟨k,xs,hk,rfl,I,o,J⟩:=hrel
  have aF:wr.cell? ⟨gb,0,none⟩=some (.int .i64 N):=(ai o.out 0).trans rfl
  have aL:wr.cell? ⟨gb,1,none⟩=some (.slice A0 E.length c0):=(ai o.out 1).trans rfl
  by_cases aO:k<E.length
  ·obtain⟨wo,rfl⟩:∃wo:World,wo=wr:=⟨_,rfl⟩
   have bg:=HM.out k aO
   have an:bW E (k+1)=bW E k+(ae E k).f2.toNat:=rfl
   have b':=HS.out (k+1) (by omega)
   have bk:=Lib.hid an
   obtain⟨ad,rfl,R,U,aa⟩:=dK bx k (by omega) (by omega)
   rw[Int.toNat_natCast] at R U aa
   generalize ae E k=x at bg R U aa bk an
   obtain⟨a,b,m⟩:=x
   simp only at bg R U aa
   obtain⟨m,rfl⟩:=Int.eq_ofNat_of_zero_le (show 0<=m by omega)
   simp only[Int.toNat_natCast] at an
   have ck:bW E k+m<=2000:=by omega
   have cl:(0:Int)<=(k:Int):=by omega
   have cq:(k:Int)<(E.length:Int):=by omega
   have ca:=Aside0.mk R
   have cb:=Aside0.mk U
   have cc:=Aside0.mk aa
   have aP:(ad.add (k*3)).block<gb:=by rw[<-aB];exact World.block_lt_of_cell? w _ R
   clear R U aa an b'
   go_wp2
   go_loopw [3,5] (fun v i wr=>∃(j:Nat) (xs:List Value),j<=m∧i= .int .i64 j∧Aside0 (wr.ownsRow gb 205 2 v (bW E k+j) xs)∧Aside0 (wr.heap[gb]? =some (.cells #[.int .i64 N,.slice (some ad) E.length c0] 24 (0,0)))∧Aside0 (Below gb w wr)) (fun _ i _=>m- (intOf i).toNat)
   case atStart=>exact⟨0,xs,Nat.zero_le _,rfl,I,o,J⟩
   case round=>
    clear aF aL I o J
    obtain⟨j,ys,hj,rfl,I,o,J⟩:=hrel
    have aF:wr.cell? ⟨gb,0,none⟩=some (.int .i64 N):=(ai o.out 0).trans rfl
    have aL:wr.cell? ⟨gb,1,none⟩=some (.slice (some ad) E.length c0):=(ai o.out 1).trans rfl
    have R:=(J.out.cell (p:=ad.add (k*3)) aP).trans ca.out
    have U:=(J.out.cell (p:=⟨(ad.add (k*3)).block,(ad.add (k*3)).off+1,none⟩) aP).trans cb.out
    have aa:=(J.out.cell (p:=⟨(ad.add (k*3)).block,(ad.add (k*3)).off+2,none⟩) aP).trans cc.out
    by_cases cv:j<m
    ·have ag:u3.ownBlock≠some gb:=fun e=>qM I.out o.out (by decide) e.symm
     have ak:u3.ownBlock≠some (ad.add (k*3)).block:=fun e=>by have:=iS I.out _ e;omega
     have lg:gb<wr.heap.size:=aw o.out
     have la:(ad.add (k*3)).block<wr.heap.size:=by omega
     go_wp2
     go_region_held3 (fun w'=>w'.cell? ⟨gb,1,none⟩=some (.slice (some ad) E.length c0)∧w'.cell? (ad.add (k*3))=some (.int .i64 a)∧w'.cell? ⟨(ad.add (k*3)).block,(ad.add (k*3)).off+1,none⟩=some (.int .i64 b))
      (first
       |go_keep
       |(
         go_split_ands
         refine⟨?_,?_,?_⟩
         ·(rw[ab.cell_far ⟨gb,1,none⟩ (by simp;omega) (Ne.symm ag)];assumption)
         ·(rw[ab.cell_far (ad.add (k*3)) (by simp;omega) (Ne.symm ak)];assumption)
         ·(rw[ab.cell_far ⟨(ad.add (k*3)).block,(ad.add (k*3)).off+1,none⟩ (by simp;omega) (Ne.symm ak)];assumption)))
      ((refine step_append_lies _ (by rfl) _ _ _ (by rfl) gb 205 i0 _ 2 16 Tryz.underlying156 HI.out b3.out b4.out b5.out rfl (by omega) u3 (bW E k+j) ys (by rfl) ((I.out.alloc _).drew) ⟨wr.heap.size,0,none⟩ 1 1 [.int .i64 a,.int .i64 b] (by rfl) (by rfl) (World.news_of_block (cs:=#[.int .i64 a,.int .i64 b]) (t:=205) (fr:=(0,0)) (heap_alloc_new wr _)) (by simp[Value.oneCell']) (by omega) (by unfold maxLen;omega) (by omega) (by simp;omega) (wr.heap.size+1) (by simp) ?_;intro gg cap w1 cd ab cf aO))
     have n1:=Aside0.mk (cg (eG (aq o.out _)) ab (Ne.symm ag))
     have n2:=Aside0.mk (Below.grown (bu (J.out.alloc (by omega) _)) ab (by simp;omega) (iS I.out))
     clear ab cf aO R U aa aF aL
     go_wp2
     go_roundw
     case rel=>exact⟨j+1,_,by omega,by go_num,⟨by rw[<-Nat.add_assoc];exact cd⟩,n1,n2⟩
     case measure=>(show m- ((j:Int)+1).toNat<m- ((j:Int)).toNat;omega)
    ·obtain rfl:j=m:=by omega
     go_wp2
     exact⟨⟨k+1,ys,by omega,by go_num,⟨by rw[bk.out,Int.toNat_natCast];exact I.out⟩,o,J⟩,(show E.length- ((k:Int)+1).toNat<E.length- ((k:Int)).toNat by omega)⟩
  ·obtain rfl:k=E.length:=by omega
   go_wp2
   go_ret
   obtain⟨A,c,rfl⟩:=qL I.out
   exact⟨A,c,rfl,by rw[aB];exact J.out⟩
theorem ji.calls (o:Int) (I:Option Addr) (J:Nat) (j:List (S83)) (r:Int) (w:World) (R:Kd.C aG w I j.length j) (ab:j.length<=J) (h:ji.f o j=some r):
  Calls Tryz.prog 73 #[.agg #[.int .i64 o,.slice I j.length J]] w fun e w'=>e= .returned (.int .i64 r)∧Below w.heap.size w w':=by
 unfold ji.f at h
 split at h
 case isFalse=>cases h
 rename_i U
 injection h with h
 subst h
 go_enter Tryz.func73,Tryz.ntmps73
 go_wp2_with (first|(go_at_call 130;refine(zw o I J j _ (Kd.aY R _) U).mono ?_;rintro e w1 ⟨A,c,rfl,hb⟩;have HB:=Aside0.mk (aN (al (Below.refl w.heap.size w) _) hb);clear hb))
 go_ret
 exact⟨rfl,HB.out⟩
section
structure m7 (cs:Array Value) (n:Int) (times:Nat->Nat->Int) (chips:Value) (burnt:Nat->Bool):Prop where
 size:cs.size=158
 n:cs[0]? =some (.int .i64 n)
 times:∀i j,i<12->j<12->cs[1+i*12+j]? =some (.int .i64 (times i j))
 chips:cs[145]? =some chips
 burnt:∀i,i<12->cs[146+i]? =some (.bool (burnt i))
def WoodAt (w:World) (g:Nat) (n:Int) (times:Nat->Nat->Int) (chips:Value) (burnt:Nat->Bool):Prop:=
 ∃cs:Array Value,w.heap[g]? =some (.cells cs 252 (0,0))∧m7 cs n times chips burnt
namespace WoodAt
variable {w w':World} {g:Nat} {n:Int} {times:Nat->Nat->Int} {chips:Value} {burnt:Nat->Bool}
theorem lt (h:WoodAt w g n times chips burnt):g<w.heap.size:=by
 obtain⟨cs,hb,_⟩:=h
 exact(Array.getElem?_eq_some_iff.1 hb).1
theorem cellAt {cs:Array Value} {k:Nat} {v:Value} (hb:w.heap[g]? =some (.cells cs 252 (0,0))) (j:cs[k]? =some v):w.cell? ⟨g,k,none⟩=some v:=(ai hb k).trans j
theorem m9 (h:WoodAt w g n times chips burnt):w.cell? ⟨g,0,none⟩=some (.int .i64 n):=by
 obtain⟨cs,hb,hc⟩:=h
 exact cellAt hb hc.n
theorem lQ (h:WoodAt w g n times chips burnt) (i j:Nat) (hi:i<12) (o:j<12):w.cell? ⟨g,1+i*12+j,none⟩=some (.int .i64 (times i j)):=by
 obtain⟨cs,hb,hc⟩:=h
 exact cellAt hb (hc.times i j hi o)
theorem zx (h:WoodAt w g n times chips burnt):w.cell? ⟨g,145,none⟩=some chips:=by
 obtain⟨cs,hb,hc⟩:=h
 exact cellAt hb hc.chips
theorem kH (h:WoodAt w g n times chips burnt) (i:Nat) (hi:i<12):w.cell? ⟨g,146+i,none⟩=some (.bool (burnt i)):=by
 obtain⟨cs,hb,hc⟩:=h
 exact cellAt hb (hc.burnt i hi)
theorem frozen (h:WoodAt w g n times chips burnt) (k:Nat):w.frozen? ⟨g,k,none⟩=false:=by
 obtain⟨cs,hb,_⟩:=h
 exact a9 hb k
theorem below (h:WoodAt w g n times chips burnt) (hb:Below w.heap.size w w'):WoodAt w' g n times chips burnt:=by
 obtain⟨cs,j,hc⟩:=h
 exact⟨cs,aE j hb,hc⟩
theorem drew (h:WoodAt w g n times chips burnt):WoodAt w.drew g n times chips burnt:=h
theorem eo (h:WoodAt w g n times chips burnt) {α:Type} {d:Kd α} {e base:Nat} {ok:Nat->Prop} {v:Value} {xs:List α} (o:d.R e w base ok v xs) (I:∀q,q∈e::d.E->q≠252) (j:Nat) (u:Value):d.R e (w.setCell ⟨g,j,none⟩ u) base ok v xs:=by
 obtain⟨cs,hb,_⟩:=h
 exact Kd.eo o hb I j u
theorem drewN (h:WoodAt w g n times chips burnt) (m:Nat):WoodAt (w.drewN m) g n times chips burnt:=h
theorem sZ (h:WoodAt w g n times chips burnt) (i:Nat) (hi:i<12) (b:Bool):WoodAt (w.setCell ⟨g,146+i,none⟩ (.bool b)) g n times chips (fun j=>if j=i then b else burnt j):=by
 obtain⟨cs,o,hc⟩:=h
 refine⟨cs.setIfInBounds (146+i) (.bool b),by simpa using bt o (146+i) (.bool b),?_,?_,?_,?_,?_⟩
 ·simp[hc.size]
 ·rw[Array.getElem?_setIfInBounds_ne (by omega)];exact hc.n
 ·intro k j hk I
  rw[Array.getElem?_setIfInBounds_ne (by omega)];exact hc.times k j hk I
 ·rw[Array.getElem?_setIfInBounds_ne (by omega)];exact hc.chips
 ·intro k hk
  have J:=hc.size
  by_cases e:k=i
  ·subst e
   rw[Array.getElem?_setIfInBounds_self_of_lt (by omega)];simp
  ·rw[Array.getElem?_setIfInBounds_ne (by omega),if_neg e];exact hc.burnt k hk
theorem lR (h:WoodAt w g n times chips burnt) (i j:Nat) (hi:i<12) (J:j<12) (x:Int):WoodAt (w.setCell ⟨g,1+i*12+j,none⟩ (.int .i64 x)) g n (fun a b=>if a=i∧b=j then x else times a b) chips burnt:=by
 obtain⟨cs,o,hc⟩:=h
 refine⟨cs.setIfInBounds (1+i*12+j) (.int .i64 x),by simpa using bt o (1+i*12+j) (.int .i64 x),?_,?_,?_,?_,?_⟩
 ·simp[hc.size]
 ·rw[Array.getElem?_setIfInBounds_ne (by omega)];exact hc.n
 ·intro k l hk I
  have R:=hc.size
  by_cases e:k=i∧l=j
  ·obtain⟨rfl,rfl⟩:=e
   rw[Array.getElem?_setIfInBounds_self_of_lt (by omega)];simp
  ·rw[Array.getElem?_setIfInBounds_ne (by omega),if_neg e];exact hc.times k l hk I
 ·rw[Array.getElem?_setIfInBounds_ne (by omega)];exact hc.chips
 ·intro k hk
  rw[Array.getElem?_setIfInBounds_ne (by omega)];exact hc.burnt k hk
end WoodAt
theorem zy {k:IntKind} {a b:Int} (h:a=b):Ending.returned (.int k a)= .returned (.int k b):=by rw[h]
def bX (times:Nat->Nat->Int) (burnt:Nat->Bool) (v:Nat):Nat->Int
 |0=>0
 |u+1=>bX times burnt v u+(if burnt u then times v u else 0)
theorem po {times:Nat->Nat->Int} {burnt:Nat->Bool} (h:∀i j,0<=times i j∧times i j<=50) (v:Nat):∀u:Nat,0<=bX times burnt v u∧bX times burnt v u<=50*u
 |0=>by simp[bX]
 |u+1=>by
  have h1:=po h v u (burnt:=burnt)
  have h2:=h v u
  simp only[bX]
  split<;>omega
theorem zz (g:Nat) (n v:Nat) (times:Nat->Nat->Int) (chips:Value) (burnt:Nat->Bool) (w:World) (hn:n<=12) (hv:v<12) (J:∀i j,0<=times i j∧times i j<=50) (hw:WoodAt w g n times chips burnt):
  Calls Tryz.prog 227 #[.pointer (some ⟨g,0,none⟩),.int .i64 v] w fun e w'=>e= .returned (.int .i64 (bX times burnt v n))∧w=w':=by
 have ag:=hw.m9
 go_enter Tryz.func227,Tryz.ntmps227
 go_wp2
 go_loop [5,6,11] (fun s _ u=>∃k:Nat,k<=n∧u= .int .i64 k∧s= .int .i64 (bX times burnt v k)) (fun _ _ u=>n- (intOf u).toNat)
 case atStart=>exact⟨0,Nat.zero_le _,rfl,rfl⟩
 case round=>
  obtain⟨k,hk,rfl,rfl⟩:=hrel
  have hb:=po (burnt:=burnt) J v k
  by_cases ak:k<n
  ·have R:=hw.kH k (by omega)
   have an:=hw.lQ v k hv (by omega)
   have hx:=J v k
   have U:bX times burnt v (k+1)=bX times burnt v k+(if burnt k then times v k else 0):=rfl
   have Hs:=Lib.hid U
   clear U
   cases o:burnt k with
   |true=>
    rw[o] at R
    have I:=Lib.hid o
    clear o
    go_wp2
    go_round
    case rel=>exact⟨k+1,by omega,by go_num,by rw[Hs.out,I.out];rfl⟩
    case measure=>simp[intOf];omega
   |false=>
    rw[o] at R
    have I:=Lib.hid o
    clear o
    go_wp2
    go_round
    case rel=>exact⟨k+1,by omega,by go_num,by rw[Hs.out,I.out];simp⟩
    case measure=>simp[intOf];omega
  ·go_wp2
   go_ret
   exact⟨zy (by rw[show k=n from by omega]),rfl⟩
theorem zA (g:Nat) (n v:Nat) (times:Nat->Nat->Int) (chips:Value) (burnt:Nat->Bool) (w:World) (j:v<12) (hw:WoodAt w g n times chips burnt) (hb:burnt v=true):
  Calls Tryz.prog 226 #[.pointer (some ⟨g,0,none⟩),.int .i64 v] w fun e w'=>e= .returned (.bool false)∧ax w w':=by
 have o:=hw.kH v j
 rw[hb] at o
 clear hb
 have I:(0:Int)<=(v:Int):=by omega
 have J:(v:Int)<12:=by omega
 go_enter Tryz.func226,Tryz.ntmps226
 go_wp2_with fail
 go_quiet (fail)
 go_wp2
 go_ret
 exact⟨rfl,by repeat(first|exact ax.refl _|apply ax.step)⟩
theorem zD (g:Nat) (n v:Nat) (times:Nat->Nat->Int) (A:Option Addr) (c:Nat) (l:List Int) (burnt:Nat->Bool) (w:World) (I:n<=12) (o:v<12) (aa:v<l.length) (J:∀i j,0<=times i j∧times i j<=50) (hw:WoodAt w g n times (.slice A l.length c) burnt) (hr:Kd.C (Kd.int .i64) w A l.length l) (hb:burnt v=false):
  Calls Tryz.prog 226 #[.pointer (some ⟨g,0,none⟩),.int .i64 v] w fun e w'=>e= .returned (.bool (decide (rd l v<bX times burnt v n)))∧ax w w':=by
 have R:=hw.kH v o
 have ab:=hw.zx
 rw[hb] at R
 clear hb
 have ag:=hr.2.1
 obtain⟨ad,rfl,U⟩:=Kd.bD hr v (by omega) (by omega)
 rw[Int.toNat_natCast] at U
 have ak:(0:Int)<=(v:Int):=by omega
 have an:(v:Int)<(l.length:Int):=by omega
 have ar:(v:Int)<12:=by omega
 go_enter Tryz.func226,Tryz.ntmps226
 go_wp2_with fail
 go_quiet ((go_at_call 227;refine Calls.quiet_of_same ((zz g n v times _ burnt (w.drewN _) I o J (hw.drewN _)).mono (fun e w' h=>⟨h.1,h.2.symm⟩))))
 go_wp2
 go_ret
 exact⟨rfl,by repeat(first|exact ax.refl _|apply ax.step)⟩
def eP (burnt:Nat->Bool):Nat->List Int
 |0=>[]
 |u+1=>eP burnt u++(if burnt u then[] else[(u:Int)])
theorem s6 (burnt:Nat->Bool):∀u,(eP burnt u).length<=u
 |0=>by simp[eP]
 |u+1=>by
  have:=s6 burnt u
  simp only[eP,List.length_append]
  split<;>simp<;>omega
theorem zF (g:Nat) (n:Nat) (times:Nat->Nat->Int) (chips:Value) (burnt:Nat->Bool) (w:World) (hn:n<=12) (hw:WoodAt w g n times chips burnt):
  Calls Tryz.prog 222 #[.pointer (some ⟨g,0,none⟩)] w fun e w'=>∃aa:Value,e= .returned aa∧Kd.R (Kd.int .i64) 3 w' w.heap.size (fun _=>True) aa (eP burnt n)∧Below w.heap.size w w':=by
 have ak:=hw.m9
 go_enter Tryz.func222,Tryz.ntmps222
 go_wp2
 go_loopw [3,4,9] (fun s _ u wr=>∃k:Nat,k<=n∧u= .int .i64 k∧Aside0 (Kd.R (Kd.int .i64) 3 wr w.heap.size (fun _=>True) s (eP burnt k))∧Aside0 (Below w.heap.size w wr)) (fun _ _ u _=>n- (intOf u).toNat)
 case atStart=>exact⟨0,Nat.zero_le _,rfl,⟨Kd.cE _ _ _ _ _⟩,⟨Below.refl _ _⟩⟩
 case round=>
  obtain⟨k,hk,rfl,I,o⟩:=hrel
  have hlen:=s6 burnt k
  by_cases aB:k<n
  ·have J:=hw.below o.out
   have ab:=J.kH k (by omega)
   have ak:=J.m9
   clear J
   have hs:eP burnt (k+1)=eP burnt k++(if burnt k then[] else[(k:Int)]):=rfl
   have Hs:=Lib.hid hs
   clear hs
   cases j:burnt k with
   |true=>
    rw[j] at ab
    have U:=Lib.hid j
    clear j
    go_wp2
    go_roundw
    case rel=>exact⟨k+1,by omega,by go_num,⟨by rw[Hs.out,U.out];simpa using I.out⟩,o⟩
    case measure=>simp[intOf];omega
   |false=>
    rw[j] at ab
    have U:=Lib.hid j
    clear j
    go_wp2_with (at_builtin;refine Kd.kX (Kd.int .i64) (w0:=w) w.heap.size rfl (.tmp 19) (.tmp 21) 25 3 (.int .i64 0) 8 rfl Tryz.underlying25 fw rfl (by decide) (by omega) _ (eP burnt k) (k:Int) [.int .i64 k] (fun _=>True) (fun _=>False) rfl rfl rfl (fun _ hk=>hk.elim) (fun _ _=>trivial) I.out o.out o.out.size (by omega) ?_;intro v1 w1 hown hb _ _;have an:=Aside0.mk hown;have ar:=Aside0.mk hb;clear hown hb)
    go_roundw
    case rel=>exact⟨k+1,by omega,by go_num,⟨by rw[Hs.out,U.out];exact an.out⟩,ar⟩
    case measure=>simp[intOf];omega
  ·go_wp2
   go_ret
   obtain rfl:k=n:=by omega
   exact⟨_,rfl,I.out,o.out⟩
end
end Go.Proofs.YtffdiakgjakngaaGreat.P
namespace Go.Proofs.YtffdiakgjakngaaGreat.P
open Go Go.RowKit
set_option linter.unusedVariables false
set_option linter.unusedSimpArgs false
set_option maxHeartbeats 8000000
set_option maxRecDepth 100000
section
def Bk (l:Nat) (A B:World):Prop:=∃o j,A.heap[l]? =some o∧o.isCells=false∧B=A.putObj l j
theorem Bk.cells {l:Nat} {A B:World} (h:Bk l A B) {k:Nat} {cs:Array Value} {t:TypeId} {fr:Nat×Nat} (hk:A.heap[k]? =some (.cells cs t fr)):B.heap[k]? =some (.cells cs t fr):=by
 obtain⟨o,I,j,ho,rfl⟩:=h
 rw[World.putObj_heap_other]; · exact hk
 rintro rfl;rw[j] at hk;injection hk with hk;subst hk;simp[Obj.isCells] at ho
theorem Bk.size {l:Nat} {A B:World} (h:Bk l A B):B.heap.size=A.heap.size:=by
 obtain⟨o,j,I,ho,rfl⟩:=h;simp[World.putObj]
theorem Bk.heap {l:Nat} {A B:World} (h:Bk l A B) (k:Nat) (hk:k≠l):B.heap[k]? =A.heap[k]? :=by
 obtain⟨o,j,I,ho,rfl⟩:=h;exact World.putObj_heap_other hk
theorem Bk.below {l:Nat} {A B:World} (h:Bk l A B) (n:Nat) (J:n<=l):Below n A B:=by
 obtain⟨o,j,I,ho,rfl⟩:=h
 exact(Below.refl n A).grown (grownBy_putObj' A l j) (by have:=(Array.getElem?_eq_some_iff.1 I).1;omega) (fun k e=>by cases e;omega)
def bJ (n:Nat) (A B:World):Prop:=∀k o,n<=k->k<n+2->A.heap[k]? =some o->o.isCells=false->B.heap[k]? =some o
theorem bJ.refl (n:Nat) (A:World):bJ n A A:=fun _ _ _ _ h _=>h
theorem bJ.trans {n:Nat} {A B C:World} (h:bJ n A B) (k:bJ n B C):bJ n A C:=fun j o h1 h2 J I=>k j o h1 h2 (h j o h1 h2 J I) I
def pq {σ α:Type} (nw:Nat) (j:World->World->Prop) (I:List α->World->Prop) (o:Code->List α->World->Prop) (xs:List α) (W:World):Exit->Act->World->Prop
 | .normal,_,W'=>bJ nw W W'∧j W W'∧I xs W'
 | .ret,_,W'=>bJ nw W W'∧o .ret xs W'
 |_,_,_=>False
variable {F:Fence} {n:Nat} {P:Program}
def iA {σ α:Type} (F:Fence) (n:Nat) (P:Program) (gf:Nat) (lb:Array Value) (bj:α->Array Value) (Start:σ->World->World->Prop) (j:σ->World->World->Prop) (I:σ->α->World->World->Prop) (R:σ->World->World->Prop) (S:σ->List α->World->Prop) (U:σ->List α->World->Prop) (Bd:List α->Prop) (W:World):Prop:=
 ∀(l:Nat) (J Jx:σ->List α->World->Prop),(∀s pre A B,J s pre A->j s A B->J s pre B)->(∀s pre A B,Jx s pre A->j s A B->Jx s pre B)->
  (∀s W1,Start s W W1->J s [] W1)->
  (∀s pre x o W1,J s pre o->I s x o W1->Bd pre->YieldAt F (n-1) P l (bj x) W1 fun e W'=>
   (e= .returned (.bool true)∧J s (pre++[x]) W'∧R s W1 W')∨(e= .returned (.bool false)∧Jx s (pre++[x]) W'))->
  CallsIn F n P gf (#[.func (.yield l) #[] #[]]++lb) W fun e W'=>(∃v,e= .returned v)∧((∃s xs,S s xs W'∧J s xs W')∨(∃s pre,U s pre W'∧Jx s pre W'))
theorem iB {σ α:Type} {g:Operand} {ps:Array Tmp} {assign body:Code} {Q:Exit->Act->World->Prop} {a:Act} {w:World}
  (b1:F.round=none) (h1:1<=n) {gf:Nat} {lb:Array Value} (hg:a.eval g= .func (.func gf) #[] lb) (b3:F.fn gf) (eg:∀args w,(callFunc gf args).run P w= .ok (.enter gf args) w)
  {bj:α->Array Value} {Start:σ->World->World->Prop} {St:σ->World->World->Prop} {Ar:σ->α->World->World->Prop} {Kp:σ->World->World->Prop} {S Sp:σ->List α->World->Prop} {Bd:List α->Prop}
  (b5:∀o,iA F (n-1) P gf lb bj Start St Ar Kp S Sp Bd ((w.alloc (.deferred (some []))).alloc (.loop o))) (b_:∀x,(bj x).size=ps.size)
  (aa:σ->Prop) (b':∀o s W1,Start s ((w.alloc (.deferred (some []))).alloc (.loop o)) W1->aa s∧bJ w.heap.size ((w.alloc (.deferred (some []))).alloc (.loop o)) W1)
  (aL:∀s A B,aa s->St s A B->bJ w.heap.size A B) (ca:∀s x A B,aa s->Ar s x A B->bJ w.heap.size A B)
  (I:σ->List α->World->Prop) (Ix:Code->σ->List α->World->Prop)
  (cb:∀s pre A B,aa s->I s pre A->St s A B->I s pre B) (cc:∀c s pre A B,aa s->Ix c s pre A->St s A B->Ix c s pre B)
  (cd:∀s pre A B,I s pre A->Bk (w.heap.size+1) A B->I s pre B) (cf:∀c s pre A B,Ix c s pre A->Bk (w.heap.size+1) A B->Ix c s pre B)
  (cj:∀s A B C D,Bk (w.heap.size+1) A B->Kp s B C->Bk (w.heap.size+1) C D->Kp s A D)
  (h0:∀o s W1,Start s ((w.alloc (.deferred (some []))).alloc (.loop o)) W1->I s [] W1) (a₁:α->Act)
  (ck:∀(l:Nat) (x:α) (W:World) (K:Act->World->Prop),K (a₁ x) W->
   assign.wpIn (F.inRound l) (n-1-1) P (Exit.then K (fun _ _ _=>False)) {tmps:=(ps.zip (bj x)).foldl (fun t (p,v)=>t.setIfInBounds p v) a.tmps,defers:=[]} W)
  (cl:∀(l:Nat) (s:σ) (pre:List α) (x:α) (Wb W1 W:World),aa s->I s pre Wb->Ar s x Wb W1->Bd pre->Bk (w.heap.size+1) W1 W->body.wpIn (F.inRound l) (n-1-1) P (pq (σ:=σ) w.heap.size (Kp s) (I s) (fun c=>Ix c s) (pre++[x]) W) (a₁ x) W)
  (cq:∀(s:σ) (xs:List α) (W W':World),aa s->S s xs W->I s xs W->Bk (w.heap.size+1) W W'->W'.heap[w.heap.size]? =some (.deferred (some []))->Q .normal {a with defers:={target:=.collected w.heap.size,args:=#[]}::a.defers} W')
  (cr:∀(c:Code) (s:σ) (pre:List α) (W W':World),aa s->Sp s pre W->Ix c s pre W->Bk (w.heap.size+1) W W'->W'.heap[w.heap.size]? =some (.deferred (some []))->c.wpIn F n P Q {a with defers:={target:=.collected w.heap.size,args:=#[]}::a.defers} W'):
  (Code.rangeFunc g ps assign body).wpIn F n P Q a w:=by
 refine wpIn_rangeFunc ?_
 intro fn cv
 rw[b1]
 obtain⟨rec,ab⟩:∃rec:LoopState->Option Code->Loop,rec=fun st pe=>{state:=st,pending:=pe,fn,tmps:=a.tmps,params:=ps,assign,body,defers:=w.heap.size}:=⟨_,rfl⟩
 obtain⟨W1,ag⟩:∃W1,(w.alloc (.deferred (some []))).alloc (.loop (rec .ready none))=W1:=⟨_,rfl⟩
 have c0:W1.heap[w.heap.size+1]? =some (.loop (rec .ready none)):=by
  rw[<-ag];have:=World.alloc_heap_new (w.alloc (.deferred (some []))) (.loop (rec .ready none));rwa [World.size_alloc] at this
 have c1:W1.heap[w.heap.size]? =some (.deferred (some [])):=by
  rw[<-ag];exact(Below.heap_alloc _ _ _ (by simp)).trans (World.alloc_heap_new w _)
 refine⟨w.heap.size+1,[{target:=.collected w.heap.size,args:=#[]}],W1,{target:=.fn (.func gf) lb,args:=#[.func (.yield (w.heap.size+1)) #[] #[]]},W1,gf,
  #[.func (.yield (w.heap.size+1)) #[] #[]]++lb,W1,?_,?_,?_,?_,fun _=>h1,?_⟩
 ·rw[<-ag,ab];exact run_enterLoop_outer _ _ _ _ _
 ·simp only[resolve,hg]
  simp[go_sem]
 ·intro f' bn;simp[Target.leads] at bn;subst bn;exact b3
 ·simp[invoke,go_sem,eg]
 ·have hs:=b5 (rec .ready none)
  rw[ag] at hs
  have ld:∀{A B:World} {r:Loop},bJ w.heap.size A B->A.heap[w.heap.size+1]? =some (.loop r)->B.heap[w.heap.size+1]? =some (.loop r):=fun h ho=>h _ _ (by omega) (by omega) ho rfl
  have av:∀{A B:World},bJ w.heap.size A B->A.heap[w.heap.size]? =some (.deferred (some []))->B.heap[w.heap.size]? =some (.deferred (some [])):=fun h ho=>h _ _ (by omega) (by omega) ho rfl
  refine(hs (w.heap.size+1)
   (fun s pre W=>aa s∧I s pre W∧W.heap[w.heap.size+1]? =some (.loop (rec .ready none))∧W.heap[w.heap.size]? =some (.deferred (some [])))
   (fun s pre W=>aa s∧∃c,Ix c s pre W∧W.heap[w.heap.size+1]? =some (.loop (rec .done (some c)))∧W.heap[w.heap.size]? =some (.deferred (some [])))
   (fun s pre A B h R=>⟨h.1,cb s pre A B h.1 h.2.1 R,ld (aL s A B h.1 R) h.2.2.1,av (aL s A B h.1 R) h.2.2.2⟩)
   (fun s pre A B h R=>by
    obtain⟨j,c,hc,J,hk⟩:=h
    exact⟨j,c,cc c s pre A B j hc R,ld (aL s A B j R) J,av (aL s A B j R) hk⟩)
   (fun s W2 R=>by
    rw[<-ag] at R
    have hk:=b' (rec .ready none) s W2 R
    have ak:=hk.2
    rw[ag] at ak
    exact⟨hk.1,h0 _ s W2 R,ld ak c0,av ak c1⟩)
   ?_).mono ?_
  ·rintro s pre x Wb W ⟨j,hi,c2,c3⟩ bw c4
   have ak:=ca s x Wb W j bw
   have J:=ld ak c2
   have hk:=av ak c3
   have c5:w.heap.size+1<W.heap.size:=(Array.getElem?_eq_some_iff.1 J).1
   have hy:=run_yield (P:=P) (args:=bj x) J (by rw[ab];exact b_ x)
   rw[ab] at hy
   have b0:Bk (w.heap.size+1) W (W.putObj (w.heap.size+1) (.loop {rec .ready none with state:=.busy})):=⟨_,_,J,rfl,rfl⟩
   refine⟨fn,_,assign,body,hy,roundIn_of_wpIn cv (ck _ x W _ ⟨_,run_beginRound J (by rw[ab]),?_⟩)⟩
   have c6:(W.putObj (w.heap.size+1) (.loop {rec .ready none with state:=.busy})).heap[w.heap.size+1]? =some (.loop {rec .ready none with state:=.busy}):=World.putObj_heap_same c5
   have c7:(W.putObj (w.heap.size+1) (.loop {rec .ready none with state:=.busy})).heap[w.heap.size]? =some (.deferred (some [])):=(World.putObj_heap_other (by omega)).trans hk
   refine wpIn_mono (cl _ s pre x Wb W _ j hi bw c4 b0) ?_
   have fin:∀(jump:Option Code) (U:World),bJ w.heap.size (W.putObj (w.heap.size+1) (.loop {rec .ready none with state:=.busy})) U->
     (Instr.endRound (w.heap.size+1) jump).run P U= .ok (.bool jump.isNone) (U.putObj (w.heap.size+1) (.loop (rec (if jump.isNone then .ready else .done) jump)))∧
     Bk (w.heap.size+1) U (U.putObj (w.heap.size+1) (.loop (rec (if jump.isNone then .ready else .done) jump)))∧
     (U.putObj (w.heap.size+1) (.loop (rec (if jump.isNone then .ready else .done) jump))).heap[w.heap.size+1]? =some (.loop (rec (if jump.isNone then .ready else .done) jump))∧
     (U.putObj (w.heap.size+1) (.loop (rec (if jump.isNone then .ready else .done) jump))).heap[w.heap.size]? =some (.deferred (some [])):=fun jump U an=>by
    have aS:=ld an c6
    have:=run_endRound (P:=P) jump aS
    rw[ab] at this⊢
    exact⟨this,⟨_,_,aS,rfl,rfl⟩,World.putObj_heap_same (Array.getElem?_eq_some_iff.1 aS).1,(World.putObj_heap_other (by omega)).trans (av an c7)⟩
   rintro e a3 U hp
   cases e with
   |normal=>
    obtain⟨an,c8,a0⟩:=hp
    obtain⟨hr,aO,a1,a2⟩:=fin none U an
    exact⟨_,_,hr,.inl ⟨rfl,⟨j,cd s _ _ _ a0 aO,a1,a2⟩,cj s _ _ _ _ b0 c8 aO⟩⟩
   |ret=>
    obtain⟨an,a0⟩:=hp
    obtain⟨hr,aO,a1,a2⟩:=fin (some .ret) U an
    exact⟨_,_,hr,.inr ⟨rfl,j,.ret,cf _ s _ _ _ a0 aO,a1,a2⟩⟩
   |exit id=>exact hp.elim
   |goto t=>exact hp.elim
   |panic ch=>exact hp.elim
   |outgrown=>exact hp.elim
  ·rintro e W2 ⟨⟨v,rfl⟩,(⟨s,xs,hS,j,hi,J,hk⟩|⟨s,pre,c9,j,c,hi,J,hk⟩)⟩
   ·exact⟨none,_,by have:=run_endLoop (P:=P) J (by rw[ab];simp);rw[ab] at this;exact this,cq s xs W2 _ j hS hi ⟨_,_,J,rfl,rfl⟩ ((World.putObj_heap_other (by omega)).trans hk)⟩
   ·exact⟨some c,_,by have:=run_endLoop (P:=P) J (by rw[ab];simp);rw[ab] at this;exact this,cr c s pre W2 _ j c9 hi ⟨_,_,J,rfl,rfl⟩ ((World.putObj_heap_other (by omega)).trans hk)⟩
end
end Go.Proofs.YtffdiakgjakngaaGreat.P
namespace Go.Proofs.YtffdiakgjakngaaGreat.P
open Go.RowKit Go.Proofs.YtffdiakgjakngaaGreatW.PrintWords Go.Proofs.YtffdiakgjakngaaGreatW.PrintLast Go.Proofs.YtffdiakgjakngaaGreatW.PrintMore
set_option linter.unusedVariables false
set_option linter.unusedSimpArgs false
set_option maxHeartbeats 8000000
set_option maxRecDepth 100000
section
def iC (n:Nat) (c:(Nat->Bool)->Nat->Bool) (b:Nat->Bool):Option Nat:=(List.range n).find? (fun v=>c b v)
def de (b:Nat->Bool) (v:Nat):Nat->Bool:=fun u=>if u=v then true else b u
def cY (n:Nat) (b:Nat->Bool):Nat:=(List.range n).countP (fun v=> !b v)
def eI (n:Nat) (c:(Nat->Bool)->Nat->Bool):Nat->(Nat->Bool)->List Nat
 |0,_=>[]
 |f+1,b=>match iC n c b with
  |none=>[]
  |some v=>v::eI n c f (de b v)
def dD (n:Nat) (c:(Nat->Bool)->Nat->Bool) (b:Nat->Bool):List Nat:=eI n c (cY n b) b
def bM (b:Nat->Bool) (l:List Nat):Nat->Bool:=l.foldl de b
theorem na (b:Nat->Bool) (l:List Nat) (v:Nat):bM b (l++[v])=de (bM b l) v:=by simp[bM]
theorem lS {n:Nat} {b:Nat->Bool} {v:Nat} (o:v<n) (hb:b v=false):cY n b=cY n (de b v)+1:=by
 unfold cY
 induction n with
 |zero=>omega
 |succ n j=>
  rw[List.range_succ,List.countP_append,List.countP_append]
  by_cases e:v=n
  ·subst e
   have h1:(List.range v).countP (fun u=> !b u)=(List.range v).countP (fun u=> !de b v u):=List.countP_congr (fun u hu=>by have:=List.mem_range.1 hu;simp[de,show u≠v from by omega])
   rw[h1];simp[de,hb]
  ·have:=j (by omega)
   rw[this];simp[de,show n≠v from by omega];omega
theorem s7 (n:Nat) (b:Nat->Bool):cY n b<=n:=by
 unfold cY
 exact Nat.le_trans List.countP_le_length (by simp)
theorem zH {n:Nat} {c:(Nat->Bool)->Nat->Bool} {b:Nat->Bool} (h:∀v,v<n->c b v=false):dD n c b=[]:=by
 have:iC n c b=none:=by
  unfold iC
  rw[List.find?_eq_none]
  intro v j
  simp[h v (List.mem_range.1 j)]
 unfold dD
 cases cY n b<;>simp[eI,this]
theorem zI {n:Nat} {c:(Nat->Bool)->Nat->Bool} (hc:∀b v,c b v=true->b v=false) {b:Nat->Bool} {v:Nat} (o:v<n) (I:c b v=true) (J:∀u,u<v->c b u=false):dD n c b=v::dD n c (de b v):=by
 have R:iC n c b=some v:=by
  unfold iC
  rw[List.find?_eq_some_iff_append]
  refine⟨I,(List.range n).take v,(List.range n).drop (v+1),?_,?_⟩
  ·have h1:(List.range n)[v]'(by simpa using o)=v:=by simp
   conv=>lhs;rw[<-List.take_append_drop v (List.range n)]
   rw[List.drop_eq_getElem_cons (by simpa using o),h1]
  ·intro u hu
   have U:u<v:=by
    rw[List.mem_take_iff_getElem] at hu
    obtain⟨j,hj,rfl⟩:=hu
    simp at hj⊢;omega
   simp[J u U]
 have h3:=lS o (hc b v I)
 unfold dD
 rw[h3]
 simp only[eI,R]
def bG (n:Nat) (times:Nat->Nat->Int) (l:List Int) (b:Nat->Bool) (v:Nat):Bool:= !b v&&decide (rd l v<bX times b v n)
theorem lT {n:Nat} {times:Nat->Nat->Int} {l:List Int} (b:Nat->Bool) (v:Nat) (h:bG n times l b v=true):b v=false:=by
 unfold bG at h
 cases hb:b v<;>simp_all
theorem zJ (g:Nat) (n v:Nat) (times:Nat->Nat->Int) (A:Option Addr) (c:Nat) (l:List Int) (burnt:Nat->Bool) (w:World) (I:n<=12) (o:v<12) (J:v<l.length) (R:∀i j,0<=times i j∧times i j<=50) (hw:WoodAt w g n times (.slice A l.length c) burnt) (hr:Kd.C (Kd.int .i64) w A l.length l):
  Calls Tryz.prog 226 #[.pointer (some ⟨g,0,none⟩),.int .i64 v] w fun e w'=>e= .returned (.bool (bG n times l burnt v))∧ax w w':=by
 unfold bG
 cases hb:burnt v with
 |true=>simpa using zA g n v times _ burnt w o hw hb
 |false=>simpa using zD g n v times A c l burnt w I o J R hw hr hb
attribute [local go_sem] Oper.semAt_some
theorem s8 {w w1:World} (h:ax w w1) (r:Option Nat):w.grownBy w1 r:=hU h.below r
theorem zM {w w1:World} {g j:Nat} {v:Value} (h:w.grownBy w1 (some g)):w.grownBy (w1.setCell ⟨g,j,none⟩ v) (some g):=
 have hb:=(Below.refl 0 w1).setCell (p:=⟨g,j,none⟩) (Nat.zero_le _) v
 h.trans ⟨hb.os,hb.tape,hb.output,hb.size,fun k _ hk=>Below.heap_setCell _ _ _ _ (fun e=>hk (by rw[e]))⟩
theorem WoodAt.of_heap {w w':World} {g:Nat} {n:Int} {times:Nat->Nat->Int} {chips:Value} {burnt:Nat->Bool} (h:WoodAt w g n times chips burnt) (e:w'.heap[g]? =w.heap[g]?):WoodAt w' g n times chips burnt:=by
 obtain⟨cs,hb,hc⟩:=h
 exact⟨cs,e.trans hb,hc⟩
theorem dN {w:World} {b:Nat} {v:Value} {t:TypeId} (h:w.heap[b]? =some (.cells #[v] t (0,0))):w.cell? ⟨b,0,none⟩=some v:=(ai h 0).trans rfl
theorem zO (g I n:Nat) (times:Nat->Nat->Int) (A:Option Addr) (c:Nat) (l:List Int) (o:Nat->Bool) (W:World) (base:Nat) (hn:n<=12) (hl:n<=l.length) (ht:∀i j,0<=times i j∧times i j<=50) (cj:I≠g)
  (hW:WoodAt W g n times (.slice A l.length c) o) (cl:W.heap[I]? =some (.cells #[.pointer (some ⟨g,0,none⟩)] 245 (0,0))) (hr:Kd.R (Kd.int .i64) 3 W base (fun k=>some k=(Value.slice A l.length c).ownBlock) (.slice A l.length c) l):
  iA (σ:=Unit) Fence.wide 9 Tryz.prog 225 #[.pointer (some ⟨I,0,none⟩)] (fun v:Nat=>#[.int .i64 v]) (fun _ W W1=>W1=W) (fun _ A B=>A.grownBy B (some g)) (fun _ _ A B=>A.grownBy B (some g))
   (fun _ X Y=>∀k,(k=g∨k=I∨some k=(Value.slice A l.length c).ownBlock)->Y.heap[k]? =X.heap[k]?)
   (fun _ xs W'=>xs=dD n (bG n times l) o∧WoodAt W' g n times (.slice A l.length c) (bM o xs)) (fun _ _ _=>True) (fun pre=>pre.length<n) W:=by
 intro lp J Jx aS a0 a1 a2
 have cq:=Aside0.mk aS
 have ed:=Aside0.mk a0
 have hY:=Aside0.mk a2
 have cv:=a1 () W rfl
 clear aS a0 a1 a2
 refine callsIn_of_wp Tryz.func225 rfl trivial ?_ rfl
 simp only[Tryz.ntmps225,List.size_toArray,List.length_cons,List.length_nil,Nat.reduceAdd,Nat.reduceSub,Array.replicate_succ,Array.replicate_zero,List.push_toArray,List.append_toArray,List.nil_append,List.cons_append]
 gi_wp2
 gi_loopg [3] (13*cY n o+n) (fun kq v wr=>∃(pre:List Nat) (u:Nat),v= .int .i64 u∧u<=n∧Aside0 (J () pre wr)∧Aside0 (WoodAt wr g n times (.slice A l.length c) (bM o pre))∧Aside0 (wr.heap[I]? =some (.cells #[.pointer (some ⟨g,0,none⟩)] 245 (0,0)))∧Aside0 (Kd.R (Kd.int .i64) 3 wr base (fun k=>some k=(Value.slice A l.length c).ownBlock) (.slice A l.length c) l)∧Aside0 (∀x,x<u->bG n times l (bM o pre) x=false)∧Aside0 (dD n (bG n times l) o=pre++dD n (bG n times l) (bM o pre))∧Aside0 (kq=13*cY n (bM o pre)+(n-u))∧Aside0 (pre.length+cY n (bM o pre)=cY n o))
 case atStart=>exact⟨[],0,rfl,Nat.zero_le _,⟨cv⟩,⟨hW⟩,⟨cl⟩,⟨hr⟩,⟨fun x hx=>by omega⟩,⟨by simp[bM]⟩,⟨by simp[bM]⟩,⟨by simp[bM]⟩⟩
 case round=>
  obtain⟨pre,u,rfl,hu,HJ,U,ar,HR,HN,HF,HK,HL⟩:=hrel
  have c0:=dN ar.out
  have eg:=U.out.m9
  by_cases bg:u<n
  ·have bk:Kd.C (Kd.int .i64) wr A l.length l:=by
    obtain⟨A',c',e,_,hC⟩:=Kd.mg HR.out
    injection e with e1 e2 e3
    rw[e1];exact hC
   have HC:=Aside0.mk (zJ g n u times A c l (bM o pre) wr hn (by omega) (by omega) ht U.out bk)
   clear bk
   cases aa:bG n times l (bM o pre) u with
   |false=>
    rw[aa] at HC
    have bn:=Lib.hid aa
    clear aa
    gi_wp2_with (refine⟨trivial,?_⟩;gi_at_call 226;refine(callsIn_wide.2 HC.out).mono ?_;rintro e w1 ⟨rfl,hD⟩;have HD:=Aside0.mk hD;clear hD)
    gi_roundg (13*cY n (bM o pre)+(n- (u+1)))
    case measure=>rw[HK.out];omega
    case rel=>
     obtain⟨m,rfl⟩:=HD.out.out
     refine⟨pre,u+1,by go_num,by omega,⟨cq.out () pre wr _ HJ.out (s8 HD.out _)⟩,U,ar,HR,⟨fun x hx=>?_⟩,HF,⟨rfl⟩,HL⟩
     by_cases e:x=u
     ·rw[e];exact bn.out
     ·exact HN.out x (by omega)
   |true=>
    rw[aa] at HC
    have bx:=lT _ _ aa
    have ag:=lS bg bx
    have b1:=zI lT bg aa HN.out
    have aO:=Lib.hid ag
    have c2:=Lib.hid b1
    have bn:=Lib.hid aa
    clear aa bx ag b1
    have HG:Aside0 (∀w1,ax wr w1->w1.cell? ⟨I,0,none⟩=some (.pointer (some ⟨g,0,none⟩))∧w1.cell? ⟨g,146+u,none⟩=some (.bool (bM o pre u))∧w1.frozen? ⟨g,146+u,none⟩=false∧
      WoodAt (w1.setCell ⟨g,146+u,none⟩ (.bool true)) g n times (.slice A l.length c) (bM o (pre++[u]))∧(w1.setCell ⟨g,146+u,none⟩ (.bool true)).heap[I]? =some (.cells #[.pointer (some ⟨g,0,none⟩)] 245 (0,0))∧
      Kd.R (Kd.int .i64) 3 (w1.setCell ⟨g,146+u,none⟩ (.bool true)) base (fun k=>some k=(Value.slice A l.length c).ownBlock) (.slice A l.length c) l∧wr.grownBy (w1.setCell ⟨g,146+u,none⟩ (.bool true)) (some g)):=by
     refine⟨fun w1 hD=>?_⟩
     obtain⟨m,rfl⟩:=hD.out
     refine⟨c0,U.out.kH u (by omega),U.out.frozen _,?_,?_,?_,zM (s8 hD _)⟩
     ·rw[na];exact(U.out.drewN m).sZ u (by omega) true
     ·exact ay (w:=wr.drewN m) ar.out cj _
     ·exact(U.out.drewN m).eo (Kd.bd HR.out m) (by decide) (146+u) (.bool true)
    gi_wp2_with (refine⟨trivial,?_⟩;gi_at_call 226;refine(callsIn_wide.2 HC.out).mono ?_;rintro e w1 ⟨rfl,hD⟩;obtain⟨q1,q2,q3,b5,b_,b',aP⟩:=HG.out w1 hD;have c4:=Aside0.mk b5;have c5:=Aside0.mk b_;have c6:=Aside0.mk b';have ev:=Aside0.mk aP;obtain⟨fn,tmps,ew,ey,hy,cb⟩:=hY.out () pre u wr _ HJ.out aP (by have:=HL.out;have:=aO.out;have:=s7 n o;omega);have c7:=Aside0.mk cb;clear hD b5 b_ b' aP cb)
    refine c7.out.mono ?_
    rintro e W3 (⟨rfl,cc,ak⟩|⟨rfl,cd⟩)
    ·have c8:=Aside0.mk (c4.out.of_heap (ak g (.inl rfl)))
     have c9:=Aside0.mk ((ak I (.inr (.inl rfl))).trans c5.out)
     have dd:=Aside0.mk (Kd.en c6.out (fun k hk=>ak k (.inr (.inr hk))))
     have ds:=Aside0.mk cc
     clear cc ak hy q1 q2 q3
     gi_wp2
     gi_roundg (13*cY n (bM o (pre++[u]))+n)
     case measure=>rw[HK.out,aO.out,na];omega
     case rel=>
      refine⟨pre++[u],0,rfl,by omega,ds,c8,c9,dd,⟨fun x hx=>by omega⟩,⟨?_⟩,⟨rfl⟩,⟨by have:=HL.out;have:=aO.out;rw[na];simp;omega⟩⟩
      rw[HF.out,c2.out,na];simp
    ·clear hy q1 q2 q3
     have dv:=Aside0.mk cd
     clear cd
     gi_wp2
     refine bodyPost_ret (results_none rfl _ _ _) rfl ?_
     exact⟨⟨_,rfl⟩,.inr ⟨(),pre++[u],trivial,dv.out⟩⟩
  ·have ag:u=n:=by omega
   subst ag
   gi_wp2
   go_end0
   exact⟨⟨_,rfl⟩,.inl ⟨(),pre,⟨by rw[HF.out,zH HN.out];simp,U.out⟩,HJ.out⟩⟩
end
section
section
variable {F:Fence} {n:Nat} {P:Program} {ops:Array Oper} {rest:List Oper} {o:Oper} {a:Act} {Q:Exit->Act->World->Prop} {α:Type}
theorem pr (d:Kd α) {w0 W:World} (base:Nat) (ad:o.guard=none) (s x:Operand) (t e:TypeId) (z:Value) (bytes:Nat)
  (ho:o.op= .call {callee:=.builtin .append,args:=#[s,x],argTypes:=#[t,t]})
  (ht:P.underlying t=some (.slice e)) (ak:(P.info? e).map (fun i=>(i.zero,i.size,i.bytes))=some (some z,d.sz,bytes)) (hz:z.cells.size=d.sz) (ar:0<d.sz) (av:0<bytes)
  (v:Value) (xs:List α) (p:α) (cs:List Value) (ok okp:Nat->Prop) (hs:a.eval s=v) (hx:a.eval x= .slice (some ⟨W.heap.size,0,none⟩) 1 1) (hp:d.M W base okp p cs) (aL:∀k,okp k->ok k∧some k≠v.ownBlock) (aO:∀k,W.heap.size<=k->ok k)
  (HO:d.R e W base ok v xs) (HB:Below base w0 W) (a0:base<=W.heap.size) (I:(xs.length+1)*bytes<=140737488355328)
  (h:∀v1 w1,d.R e w1 base ok v1 (xs++[p])->Below base w0 w1->W.grownBy w1 v.ownBlock->(v1.ownBlock=v.ownBlock∨∃b,v1.ownBlock=some b∧W.heap.size<=b)->wpListIn F n P ops Q rest (a.put o.dst v1) w1):
  wpListIn F n P ops Q (o::rest) a (W.alloc (.cells cs.toArray e)):=by
 obtain⟨h0,inner,hown,hr⟩:=HO
 have a1:cs.length=d.sz:=d.c_ (d.ct hp)
 have h1:=d.di (d.ct hp)
 obtain⟨i0,hi,J⟩:=Option.map_eq_some_iff.1 ak
 simp only[Prod.mk.injEq] at J
 obtain⟨a2,a3,bf⟩:=J
 have hlen:xs.length+1<=140737488355328:=Nat.le_trans (Nat.le_mul_of_pos_right _ av) I
 refine wpListIn_plain ad fun K bg=>?_
 obtain⟨v1,w1,bk,bn,U,_,j⟩:=run_append_own_at (P:=P) (W.alloc (.cells cs.toArray e)) base t o.type e i0 z d.sz bytes ht hi a2 a3 bf hz ar v xs.length inner (hown.alloc _) ⟨W.heap.size,0,none⟩ 1 1 cs (by rw[a1];simp)
  (by simpa using World.news_of_block (cs:=cs.toArray) (t:=e) (fr:=(0,0)) (heap_alloc_new W (.cells cs.toArray e))) h1 (by simp only[maxLen];omega) I (by simp;omega)
 have aa:W.grownBy w1 v.ownBlock:=World.grownBy.trans (World.grownBy_alloc W _ _) U
 have ab:v1.ownBlock=v.ownBlock∨∃b,v1.ownBlock=some b∧W.heap.size<=b:=by
  rcases j with j|j
  ·exact .inl j
  ·exact .inr ⟨_,j,by simp⟩
 unfold Oper.wpIn
 refine⟨?_,?_⟩
 ·simp[Oper.about,ho,resolve,Target.leads,Sem.run_pure]
 ·rw[Oper.semAt_plain F _ _ (by rw[ho];intro c bo;cases bo)]
  simp[execOp,ho,resolve,invoke,builtin,hs,hx,bk,Result.andThen]
  exact bg _ _ (h v1 w1 (Kd.nW h0 hr hp aL aO bn aa ab) ((HB.alloc a0 _).grown U (by simp;omega) (iS hown)) aa ab)
end
theorem pv {α:Type} {d:Kd α} {e base nw:Nat} {ok:Nat->Prop} {v:Value} {xs:List α} {W w1:World} (I:d.R e W base ok v xs) (J:W.grownBy w1 v.ownBlock):bJ nw W w1:=fun k o h1 h2 j U=>by
 refine(J.block k (Array.getElem?_eq_some_iff.1 j).1 (fun e=>?_)).trans j
 obtain⟨cells,hc⟩:=Kd.fI I k e.symm
 rw[j] at hc;injection hc with hc;subst hc;simp[Obj.isCells] at U
theorem eQ {nw bo j:Nat} (W:World) (v:Value) (h:bo<nw):bJ nw W (W.setCell ⟨bo,j,none⟩ v):=fun k o h1 h2 I J=>by
 rw[Below.heap_setCell _ _ _ _ (by simp;omega)];exact I
theorem cH {nw:Nat} {W w1:World} (h:Below W.heap.size W w1):bJ nw W w1:=fun k o h1 h2 j I=>(h.block k (Array.getElem?_eq_some_iff.1 j).1).trans j
theorem dr {α:Type} {d:Kd α} {e base l:Nat} {ok:Nat->Prop} {v:Value} {xs:List α} {A B:World} (h:d.R e A base ok v xs) (hb:Bk l A B):d.R e B base ok v xs:=
 Kd.aR (Kd.en (Kd.dR h) (fun k hk=>by obtain⟨_,_,_,q,_,cells,hc⟩:=hk;exact(hb.cells hc).trans hc.symm)) (fun k hk=>hk.1)
theorem s9 (A:Option Addr) (m j c:Nat):(Value.slice A m c).ownBlock=(Value.slice A j c).ownBlock:=by cases A<;>rfl
theorem jk {F:Fence} {n:Nat} {P:Program} {fn:Func} {R:Ending->World->Prop} {a:Act} {w:World} {D:Nat} {v:Value} (hd:a.defers=[{target:=.collected D,args:=#[]}]) (j:w.heap[D]? =some (.deferred (some [])))
  (o:(results fn a.tmps).run P (w.putObj D (.deferred none))= .ok v (w.putObj D (.deferred none))) (I:R (.returned v) (w.putObj D (.deferred none))):bodyPostM F n P fn R .ret a w:=by
 show LeavesInM F n P fn a.tmps R a.defers .returning w
 rw[hd]
 exact⟨by simp,.inl ⟨_,_,rfl,run_takeDeferred j,⟨_,o,I⟩⟩⟩
theorem zP {F:Fence} {n:Nat} {P:Program} {c:Code} {K:Act->World->Prop} {Q:Exit->Act->World->Prop} {a:Act} {w:World} (h:c.wpIn F n P (Exit.then K (fun _ _ _=>False)) a w):c.wpIn F n P (Exit.then K Q) a w:=
 wpIn_mono h (fun e a w h=>by cases e<;>first|exact h|exact h.elim)
end
section
attribute [local go_sem] Oper.semAt_some
theorem s_ (N:Int) (A0:Option Addr) (c0:Nat) (E:List S83) (w:World):Calls Tryz.prog 85 #[.agg #[.int .i64 N,.slice A0 E.length c0]] w fun e w'=>e= .returned (.func (.func 140) #[] #[.pointer (some ⟨w.heap.size,0,none⟩)])∧w'=w.alloc (.cells #[.int .i64 N,.slice A0 E.length c0] 24):=by
 go_enter Tryz.func85,Tryz.ntmps85
 go_wp2
 go_ret
 exact⟨rfl,rfl⟩
def fc (s:Nat) (a b:Int):Nat->List (Nat×Int×Int)
 |0=>[]
 |j+1=>fc s a b j++[(s+j,a,b)]
def cB (E:List S83):Nat->List (Nat×Int×Int)
 |0=>[]
 |k+1=>cB E k++fc (bW E k) (ae E k).f0 (ae E k).f1 (ae E k).f2.toNat
theorem pw (s:Nat) (a b:Int):∀j,(fc s a b j).length=j
 |0=>rfl
 |j+1=>by simp[fc,pw s a b j]
theorem px (E:List S83):∀k,(cB E k).length=bW E k
 |0=>rfl
 |k+1=>by simp[cB,bW,px E k,pw]
def py (base:Nat) (X Y:World):Prop:=(base<=X.heap.size->Below base X Y)∧∀(k:Nat) (cs:Array Value) (t:TypeId),(t=24∨t=83)->X.heap[k]? =some (Obj.cells cs t (0,0))->Y.heap[k]? =some (Obj.cells cs t (0,0))
theorem ta (s:Nat) (a b:Int) (j:Nat):∀m,j<m->(s+j,a,b)∈fc s a b m
 |0,h=>by omega
 |m+1,h=>by
  by_cases e:j=m
  ·subst e;exact List.mem_append.2 (.inr (List.mem_singleton.2 rfl))
  ·exact List.mem_append.2 (.inl (ta s a b j m (by omega)))
theorem tb (E:List S83):∀(m k:Nat),∀x∈cB E k,x∈cB E (k+m)
 |0,k,x,j=>j
 |m+1,k,x,j=>List.mem_append.2 (.inl (tb E m k x j))
theorem tc (s:Nat) (a b:Int):∀m,∀x∈fc s a b m,x.2.1=a∧x.2.2=b
 |0,x,j=>by cases j
 |m+1,x,j=>by
  rcases List.mem_append.1 j with j|j
  ·exact tc s a b m x j
  ·obtain rfl:=List.mem_singleton.1 j;exact⟨rfl,rfl⟩
theorem td (E:List S83):∀k,k<=E.length->∀x∈cB E k,∃e∈E,x.2.1=e.f0∧x.2.2=e.f1
 |0,_,x,j=>by cases j
 |k+1,hk,x,j=>by
  rcases List.mem_append.1 j with j|j
  ·exact td E k (by omega) x j
  ·have h:=tc _ _ _ _ x j
   have e:ae E k=E[k]:=by simp[ae,List.getD_eq_getElem?_getD,List.getElem?_eq_getElem (show k<E.length by omega)]
   exact⟨ae E k,by rw[e];exact List.getElem_mem _,h.1,h.2⟩
theorem te (o:Nat) (N:Int) (A0:Option Addr) (c0:Nat) (E:List S83) (w0 W:World) (b_:Kd.C aG w0 A0 E.length E) (hE:d_ E=true) (hB:Below w0.heap.size w0 W)
  (an:W.heap[o]? =some (.cells #[.int .i64 N,.slice A0 E.length c0] 24 (0,0))):
  iA (σ:=Unit) Fence.wide 9 Tryz.prog 140 #[.pointer (some ⟨o,0,none⟩)] (fun x:Nat×Int×Int=>#[.int .i64 x.1,.agg #[.int .i64 x.2.1,.int .i64 x.2.2]]) (fun _ W W1=>W1=W) (fun _ A B=>Below A.heap.size A B) (fun _ x A B=>x∈cB E E.length∧Below A.heap.size A B)
   (fun _ X Y=>py w0.heap.size X Y)
   (fun _ xs W'=>xs=cB E E.length) (fun _ _ _=>True) (fun pre=>pre.length<2000) W:=by
 intro lp J Jx bf bg bk bn
 have ca:=Aside0.mk bf
 have c9:=Aside0.mk bg
 have hY:=Aside0.mk bn
 have cc:=bk () W rfl
 clear bf bg bk bn
 have hu:=Tryz.underlying24
 have c':=Tryz.underlying83
 obtain⟨hlen,hm⟩:=pn hE
 have aK:=fun i hi=>m6 hm i hi
 have HM:=Aside0.mk hm
 have HS:=Aside0.mk aK
 clear hm aK hE
 refine callsIn_of_wp Tryz.func140 rfl trivial ?_ rfl
 simp only[Tryz.ntmps140,List.size_toArray,List.length_cons,List.length_nil,Nat.reduceAdd,Nat.reduceSub,Array.replicate_succ,Array.replicate_zero,List.push_toArray,List.append_toArray,List.nil_append,List.cons_append]
 have dd:W.cell? ⟨o,1,none⟩=some (.slice A0 E.length c0):=(ai an 1).trans rfl
 have ch:=Aside0.mk an
 clear an
 gi_wp2
 gi_loopg [3,9] (E.length) (fun kq s i wr=>∃k:Nat,i= .int .i64 k∧s= .int .i64 (bW E k:Nat)∧k<=E.length∧Aside0 (J () (cB E k) wr)∧Aside0 (wr.heap[o]? =some (.cells #[.int .i64 N,.slice A0 E.length c0] 24 (0,0)))∧Aside0 (Below w0.heap.size w0 wr)∧Aside0 (kq=E.length-k))
 case atStart=>exact⟨0,rfl,rfl,Nat.zero_le _,⟨cc⟩,ch,⟨hB⟩,⟨rfl⟩⟩
 case round=>
  obtain⟨k,rfl,rfl,hk,HJ,HX,HB,HK⟩:=hrel
  by_cases cl:k<E.length
  ·have av:=HM.out k cl
   have aB:=Lib.hid (show bW E (k+1)=bW E k+(ae E k).f2.toNat from rfl)
   have aF:=Lib.hid (show cB E (k+1)=cB E k++fc (bW E k) (ae E k).f0 (ae E k).f1 (ae E k).f2.toNat from rfl)
   have cq:=HS.out (k+1) (by omega)
   have aL:=aB.out
   obtain⟨ad,rfl,I,R,U⟩:=dK b_ k (by omega) (by omega)
   rw[Int.toNat_natCast] at I R U
   generalize ae E k=x at av I R U aB aF aL
   obtain⟨a,b,m⟩:=x
   simp only at av I R U
   obtain⟨m,rfl⟩:=Int.eq_ofNat_of_zero_le (show 0<=m by omega)
   simp only[Int.toNat_natCast] at aL
   have ds:bW E k+m<=2000:=by omega
   have dv:m<=50:=by omega
   have ea:(0:Int)<=(k:Int):=by omega
   have ed:(k:Int)<(E.length:Int):=by omega
   have I:=fY HB.out I
   have R:=fY HB.out R
   have U:=fY HB.out U
   have aO:=Aside0.mk (ca.out () _ _ _ HJ.out (al (Below.refl wr.heap.size wr) (.cells #[.int .i64 a,.int .i64 b,.int .i64 m] 83)))
   have aP:=Aside0.mk (aq HX.out (.cells #[.int .i64 a,.int .i64 b,.int .i64 m] 83))
   have aS:=Aside0.mk (al HB.out (.cells #[.int .i64 a,.int .i64 b,.int .i64 m] 83))
   have ab:=Aside0.mk (show (wr.alloc (.cells #[.int .i64 a,.int .i64 b,.int .i64 m] 83)).heap[wr.heap.size]? =some (.cells #[.int .i64 a,.int .i64 b,.int .i64 m] 83 (0,0)) from heap_alloc_new _ _)
   clear aL cq av
   gi_wp2
   clear I R U
   generalize (wr.alloc (.cells #[.int .i64 a,.int .i64 b,.int .i64 m] 83))=W1 at aO aP aS ab⊢
   generalize wr.heap.size=eb at ab⊢
   gi_loopg [3,15] (m) (fun kq s i wi=>∃j:Nat,i= .int .i64 j∧s= .int .i64 (bW E k+j:Nat)∧j<=m∧Aside0 (J () (cB E k++fc (bW E k) a b j) wi)∧Aside0 (wi.heap[o]? =some (.cells #[.int .i64 N,.slice (some ad) E.length c0] 24 (0,0)))∧Aside0 (wi.heap[eb]? =some (.cells #[.int .i64 a,.int .i64 b,.int .i64 m] 83 (0,0)))∧Aside0 (Below w0.heap.size w0 wi)∧Aside0 (kq=m-j))
   case atStart=>exact⟨0,rfl,rfl,Nat.zero_le _,⟨by simpa [fc] using aO.out⟩,aP,ab,aS,⟨rfl⟩⟩
   case round=>
    clear aO aP aS ab
    obtain⟨j,rfl,rfl,hj,bw,b0,a0,a1,cr⟩:=hrel
    by_cases cv:j<m
    ·have cx:=px E k
     have c1:=pw (bW E k) a b j
     obtain⟨fn,tmps,ek,er,hy,b1⟩:=hY.out () (cB E k++fc (bW E k) a b j) (bW E k+j,a,b) wr wr bw.out ⟨by have h:=tb E (E.length- (k+1)) (k+1) (bW E k+j,a,b) (by rw[aF.out];exact List.mem_append.2 (.inr (ta _ _ _ j _ (by rw[Int.toNat_natCast];exact cv))));rw[show k+1+(E.length- (k+1))=E.length by omega] at h;exact h,Below.refl _ _⟩ (by rw[List.length_append];omega)
     have c2:=Aside0.mk b1
     simp only[Int.natCast_add] at hy
     have b2:wr.cell? ⟨eb,0,none⟩=some (.int .i64 a):=(ai a0.out 0).trans rfl
     have b3:wr.cell? ⟨eb,1,none⟩=some (.int .i64 b):=(ai a0.out 1).trans rfl
     clear b1 cx c1
     gi_wp2
     refine c2.out.mono ?_
     rintro e W3 (⟨rfl,b4,ak⟩|⟨rfl,b5⟩)
     ·have c3:=Aside0.mk b4
      have c4:=Aside0.mk (ak.2 o _ _ (.inl rfl) b0.out)
      have c5:=Aside0.mk (ak.2 eb _ _ (.inr rfl) a0.out)
      have c6:=Aside0.mk (a1.out.trans (ak.1 a1.out.size))
      clear b4 ak hy b2 b3
      gi_wp2
      gi_roundg (m- (j+1))
      case measure=>rw[cr.out];omega
      case rel=>exact⟨j+1,by go_num,by go_num,by omega,⟨by simpa [fc] using c3.out⟩,c4,c5,c6,⟨rfl⟩⟩
     ·have c7:=Aside0.mk b5
      clear b5 hy b2 b3
      gi_wp2
      refine bodyPost_ret (results_none rfl _ _ _) rfl ?_
      exact⟨⟨_,rfl⟩,.inr ⟨(),_,trivial,c7.out⟩⟩
    ·obtain rfl:j=m:=by omega
     gi_wp2
     gi_roundg (E.length- (k+1))
     case measure=>rw[HK.out];omega
     case rel=>exact⟨k+1,by go_num,by rw[aB.out,Int.toNat_natCast],by omega,⟨by rw[aF.out,Int.toNat_natCast];exact bw.out⟩,b0,a1,⟨rfl⟩⟩
  ·obtain rfl:k=E.length:=by omega
   gi_wp2
   go_end0
   exact⟨⟨_,rfl⟩,.inl ⟨(),_,rfl,HJ.out⟩⟩
theorem zQ (o:Nat) (N:Int) (A0:Option Addr) (c0:Nat) (E:List S83) (w0 W:World) (R:Kd.C aG w0 A0 E.length E) (U:d_ E=true) (hB:Below w0.heap.size w0 W)
  (ab:W.heap[o]? =some (.cells #[.int .i64 N,.slice A0 E.length c0] 24 (0,0))):
  iA (σ:=Unit) Fence.wide 9 Tryz.prog 140 #[.pointer (some ⟨o,0,none⟩)] (fun x:Nat×Int×Int=>#[.int .i64 x.1,.agg #[.int .i64 x.2.1,.int .i64 x.2.2]]) (fun _ W W1=>W1=W) (fun _ A B=>Below A.heap.size A B) (fun _ _ A B=>Below A.heap.size A B)
   (fun _ X Y=>py w0.heap.size X Y)
   (fun _ xs W'=>xs=cB E E.length) (fun _ _ _=>True) (fun pre=>pre.length<2000) W:=fun lp J Jx ag ak an hY=>te o N A0 c0 E w0 W R U hB ab lp J Jx (fun s pre A B j I=>ag s pre A B j I) (fun s pre A B j I=>ak s pre A B j I) an (fun s pre x Wb W1 j aB aF=>hY s pre x Wb W1 j aB.2 aF)
end
theorem tf (w:World) (ok:Nat->Prop) (hok:ok w.heap.size) (e:Nat):(Kd.int .i64).R e (w.alloc (.cells #[] e)) w.heap.size ok (.slice (some ⟨w.heap.size,0,none⟩) 0 0) []:=
 ⟨fun k hk=>by
  have:w.heap.size=k:=by simpa [Value.ownBlock] using hk
  subst this;exact hok,[],by
  show World.ownsRow _ _ _ 1 _ _ _
  simpa using World.ownsRow_lit (base:=w.heap.size) (e:=e) (size:=1) w #[] 0 (Nat.le_refl _) (by decide) rfl,aT.none _ _⟩
theorem tg {l:List Int} {w:World} (h:Kd.C (Kd.int .i64) w none l.length l):l=[]:=by
 cases l with
 |nil=>rfl
 |cons x xs=>obtain⟨ad,e,_⟩:=h.2.2 (by simp);cases e
def clone.f (l0:List Int):Option (List Int):=if l0.length<17592186044416 then some l0 else none
abbrev eJ.f (l0:List Int):Option (List Int):=clone.f l0
abbrev lU.f (l0:List Int):Option (List Int):=clone.f l0
theorem eJ.calls (A0:Option Addr) (c0:Nat) (l0:List Int) (r:List Int) (w:World) (j:Kd.C (Kd.int .i64) w A0 l0.length l0) (I:l0.length<=c0) (h:eJ.f l0=some r):
  Calls Tryz.prog 57 #[.slice A0 l0.length c0] w fun e w'=>∃o:Value,e= .returned (o)∧Kd.R (Kd.int .i64) 3 w' w.heap.size (fun _=>True) o r∧Below w.heap.size w w':=by
 have hu:=Tryz.underlying26
 have J:=fun (w:World) (a:Option Addr) (n c:Nat)=>Lib.run_eql_slice_nil (P:=Tryz.prog) w 26 3 a n c 0 0 hu
 unfold eJ.f clone.f at h
 split at h
 ·rename_i U
  obtain rfl:=Option.some.inj h
  cases A0 with
  |none=>
   go_enter Tryz.func57,Tryz.ntmps57
   go_wp2
   go_ret
   obtain rfl:=tg j
   exact⟨_,rfl,Kd.cE _ _ _ _ _,Below.refl _ _⟩
  |some ad=>
   go_enter Tryz.func57,Tryz.ntmps57
   go_wp2_with (at_builtin;refine Kd.rk (w0:=w) (Value.int .i64) (0:Int) (h1:=fun _=>rfl) w.heap.size rfl (.tmp 5) (.tmp 6) 26 3 (.int .i64 0) 8 rfl Tryz.underlying26 fw rfl (by decide) (.slice (some ⟨w.heap.size,0,none⟩) 0 0) [] l0 (some ad) l0.length c0 (fun _=>True) rfl rfl (fun _ _=>trivial) (tf w _ trivial 3) (Kd.aj j (al (Below.refl _ _) _)) (al (Below.refl _ _) _) (by simp) (by simp;omega) ?_;intro v1 w1 hown hb hg _)
   go_ret
   exact⟨_,rfl,hown,hb⟩
 ·cases h
theorem lU.calls (A0:Option Addr) (c0:Nat) (l0:List Int) (r:List Int) (w:World) (j:Kd.C (Kd.int .i64) w A0 l0.length l0) (I:l0.length<=c0) (h:lU.f l0=some r):
  Calls Tryz.prog 217 #[.slice A0 l0.length c0] w fun e w'=>∃o:Value,e= .returned (o)∧Kd.R (Kd.int .i64) 3 w' w.heap.size (fun _=>True) o r∧Below w.heap.size w w':=by
 have hu:=Tryz.underlying25
 have J:=fun (w:World) (a:Option Addr) (n c:Nat)=>Lib.run_eql_slice_nil (P:=Tryz.prog) w 25 3 a n c 0 0 hu
 unfold lU.f clone.f at h
 split at h
 ·rename_i U
  obtain rfl:=Option.some.inj h
  cases A0 with
  |none=>
   go_enter Tryz.func217,Tryz.ntmps217
   go_wp2
   go_ret
   obtain rfl:=tg j
   exact⟨_,rfl,Kd.cE _ _ _ _ _,Below.refl _ _⟩
  |some ad=>
   go_enter Tryz.func217,Tryz.ntmps217
   go_wp2_with (at_builtin;refine Kd.rk (w0:=w) (Value.int .i64) (0:Int) (h1:=fun _=>rfl) w.heap.size rfl (.tmp 5) (.tmp 6) 25 3 (.int .i64 0) 8 rfl Tryz.underlying25 fw rfl (by decide) (.slice (some ⟨w.heap.size,0,none⟩) 0 0) [] l0 (some ad) l0.length c0 (fun _=>True) rfl rfl (fun _ _=>trivial) (tf w _ trivial 3) (Kd.aj j (al (Below.refl _ _) _)) (al (Below.refl _ _) _) (by simp) (by simp;omega) ?_;intro v1 w1 hown hb hg _)
   go_ret
   exact⟨_,rfl,hown,hb⟩
 ·cases h
theorem pz:Tryz.zeroCells252=((List.replicate 145 (Value.int .i64 0))++[Value.slice none 0 0]++List.replicate 12 (Value.bool false)).toArray:=by kernel_rfl
theorem m7.new (n:Int) (chips:Value):m7 ((Tryz.zeroCells252.setIfInBounds 0 (.int .i64 n)).setIfInBounds 145 chips) n (fun _ _=>0) chips (fun _=>false):=by
 have o:Tryz.zeroCells252.size=158:=by rw[pz];simp
 refine⟨by simp[o],?_,?_,?_,?_⟩
 ·rw[Array.getElem?_setIfInBounds_ne (by omega),Array.getElem?_setIfInBounds_self_of_lt (by omega)]
 ·intro i j hi I
  rw[Array.getElem?_setIfInBounds_ne (by omega),Array.getElem?_setIfInBounds_ne (by omega),pz]
  rw[List.getElem?_toArray,List.getElem?_append_left (by simp;omega),List.getElem?_append_left (by simp;omega),List.getElem?_replicate,if_pos (by omega)]
 ·rw[Array.getElem?_setIfInBounds_self_of_lt (by simp[o])]
 ·intro i hi
  rw[Array.getElem?_setIfInBounds_ne (by omega),Array.getElem?_setIfInBounds_ne (by omega),pz]
  rw[List.getElem?_toArray,List.getElem?_append_right (by simp),List.getElem?_replicate,if_pos (by simp;omega)]
theorem zU (n q:Nat) (A0:Option Addr) (c0:Nat) (E:List S83) (A2:Option Addr) (c2:Nat) (l:List Int) (w:World) (bg:Kd.C aG w A0 E.length E) (cl:E.length<=c0) (b5:Kd.C (Kd.int .i64) w A2 l.length l) (b_:l.length<=c2) (hn:n<=12) (hq:q<n) (hE:dp n E) (cx:l.length<=n) (c3:n<=l.length):
  Calls Tryz.prog 220 #[.agg #[.int .i64 n,.slice A0 E.length c0],.int .i64 q,.slice A2 l.length c2] w (fun e w'=>∃g o I,e= .returned (.pointer (some ⟨g,0,none⟩))∧WoodAt w' g n (af E) (.slice o l.length I) (fun i=>if i=q then true else false)∧Kd.R (Kd.int .i64) 3 w' w.heap.size (fun _=>True) (.slice o l.length I) l∧Below w.heap.size w w'∧w.heap.size<=g):=by
 have hu:=Tryz.underlying24
 go_enter Tryz.func220,Tryz.ntmps220
 go_wp2_with fail
 go_region_held3 (fun w'=>w'.cell? ⟨w.heap.size,0,none⟩=some (.int .i64 n)∧w'.cell? ⟨w.heap.size,1,none⟩=some (.slice A0 E.length c0)) (first|go_keep|(go_split_ands;exact⟨(hB.cell (p:=⟨w.heap.size,0,none⟩) (by simp)).trans (by go_simp),(hB.cell (p:=⟨w.heap.size,1,none⟩) (by simp)).trans (by go_simp)⟩))
  (first|(go_at_call 57;refine(eJ.calls A2 c2 l l _ (Kd.aj b5 (fH (al (Below.refl _ _) _))) b_ (by unfold eJ.f clone.f;rw[if_pos (by omega)])).mono ?_;rintro e w1 ⟨v0,rfl,hR,hB⟩;obtain⟨o,I,rfl⟩:=Kd.a7 hR))
 rename_i hHeld
 have a0:WoodAt (w1.alloc (.cells ((Tryz.zeroCells252.setIfInBounds 0 (.int .i64 n)).setIfInBounds 145 (.slice o l.length I)) 252)) w1.heap.size n (fun _ _=>0) (.slice o l.length I) (fun _=>false):=⟨_,by simpa using heap_alloc_new w1 _,m7.new _ _⟩
 have bk:Below w.heap.size w (w1.alloc (.cells ((Tryz.zeroCells252.setIfInBounds 0 (.int .i64 n)).setIfInBounds 145 (.slice o l.length I)) 252)):=al (kf (fH (al (Below.refl _ _) _)) (by simp) hB) _
 have bn:Kd.R (Kd.int .i64) 3 (w1.alloc (.cells ((Tryz.zeroCells252.setIfInBounds 0 (.int .i64 n)).setIfInBounds 145 (.slice o l.length I)) 252)) w.heap.size (fun _=>True) (.slice o l.length I) l:=Kd.aM (Kd.aD hR _) (by simp)
 have hg:w.heap.size<w1.heap.size:=by have:=hB.size;simp at this;omega
 clear hB hR
 generalize cb:w1.heap.size=g at a0 hg⊢
 generalize (w1.alloc (.cells ((Tryz.zeroCells252.setIfInBounds 0 (.int .i64 n)).setIfInBounds 145 (.slice o l.length I)) 252))=W0 at a0 hHeld bk bn⊢
 clear cb
 obtain⟨c4,c5⟩:=hHeld
 go_wp2
 go_loopw [19] (fun u wr=>∃k:Nat,k<=E.length∧u= .int .i64 k∧Aside0 (WoodAt wr g n (af (E.take k)) (.slice o l.length I) (fun _=>false))∧Aside0 (Kd.R (Kd.int .i64) 3 wr w.heap.size (fun _=>True) (.slice o l.length I) l)∧Aside0 (Below w.heap.size w wr)) (fun u _=>E.length- (intOf u).toNat)
 case atStart=>exact⟨0,Nat.zero_le _,rfl,⟨by simpa [af] using a0⟩,⟨bn⟩,⟨bk⟩⟩
 case round=>
  obtain⟨k,hk,rfl,HW,HR,HB⟩:=hrel
  have c6:=bg.2.1
  by_cases bo:k<E.length
  ·obtain⟨e0,e1,e2,e3,e4,e5⟩:=hE.get k bo
   have b2:=sm E k bo
   have a3:=Lib.hid b2
   clear b2
   obtain⟨ad,rfl,ak,an,ar⟩:=dK bg k (by omega) (by omega)
   rw[Int.toNat_natCast] at ak an ar
   replace ak:=(HB.out.cell (World.block_lt_of_cell? w _ ak)).trans ak
   replace an:=(HB.out.cell (World.block_lt_of_cell? w _ an)).trans an
   replace ar:=(HB.out.cell (World.block_lt_of_cell? w _ ar)).trans ar
   generalize ae E k=x at e0 e1 e2 e3 e4 e5 ak an ar a3
   obtain⟨a,b,m⟩:=x
   simp only at e0 e1 e2 e3 e4 e5 ak an ar
   obtain⟨a,rfl⟩:=Int.eq_ofNat_of_zero_le e0
   obtain⟨b,rfl⟩:=Int.eq_ofNat_of_zero_le e2
   have U:a<12:=by omega
   have aa:b<12:=by omega
   by_cases aB:a=b
   ·have cc:((a:Int) != (b:Int))=false:=by rw[aB];simp
    have bf:=Lib.hid aB
    clear aB
    go_wp2
    go_roundw
    case rel=>exact⟨k+1,by omega,by go_num,⟨by rw[a3.out];simp only[dc];rw[if_pos (by rw[bf.out])];exact HW.out.below (al (Below.refl _ _) _)⟩,⟨Kd.aD HR.out _⟩,⟨al HB.out _⟩⟩
    case measure=>simp[intOf];omega
   ·have cc:((a:Int) != (b:Int))=true:=by rw[bne_iff_ne];omega
    have c7:1+a*12+b≠1+b*12+a:=by omega
    have c8:1+b*12+a≠1+a*12+b:=by omega
    have bf:=Lib.hid aB
    clear aB
    have c9:=HW.out.lt
    have J:=Aside0.mk (HW.out.below (al (Below.refl _ _) (.cells #[.int .i64 a,.int .i64 b,.int .i64 m] 83)))
    have f1:=J.out.frozen (1+a*12+b)
    have f2:=J.out.frozen (1+b*12+a)
    have c1:=J.out.lQ a b U aa
    have c2:=J.out.lQ b a aa U
    go_wp2
    have s0:(wr.alloc (.cells #[.int .i64 a,.int .i64 b,.int .i64 m] 83)).cell? ⟨wr.heap.size,0,none⟩=some (.int .i64 a):=by go_simp
    have s1:(wr.alloc (.cells #[.int .i64 a,.int .i64 b,.int .i64 m] 83)).cell? ⟨wr.heap.size,1,none⟩=some (.int .i64 b):=by go_simp
    have s2:(wr.alloc (.cells #[.int .i64 a,.int .i64 b,.int .i64 m] 83)).cell? ⟨wr.heap.size,2,none⟩=some (.int .i64 m):=by go_simp
    have b3:=Aside0.mk (Kd.aD HR.out (.cells #[.int .i64 a,.int .i64 b,.int .i64 m] 83))
    have b4:=Aside0.mk (al HB.out (.cells #[.int .i64 a,.int .i64 b,.int .i64 m] 83))
    have cd:g≠wr.heap.size:=by omega
    have cf:wr.heap.size≠g:=by omega
    generalize (wr.alloc (.cells #[.int .i64 a,.int .i64 b,.int .i64 m] 83))=W2 at s0 s1 s2 J b3 b4 f1 f2 c1 c2⊢
    generalize wr.heap.size=eb at cd cf s0 s1 s2⊢
    have d1:=(J.out.lR b a aa U m).lQ a b U aa
    have d2:=(J.out.lR a b U aa m).lQ b a aa U
    go_region
    have aF:=(J.out.lR a b U aa m).lR b a aa U m
    have aL:=(J.out.lR a b U aa m).eo (J.out.eo b3.out (by decide) (1+a*12+b) (.int .i64 m)) (by decide) (1+b*12+a) (.int .i64 m)
    have aO:=dJ (dJ b4.out (g:=g) (j:=1+a*12+b) (v:=.int .i64 m) (by omega)) (g:=g) (j:=1+b*12+a) (v:=.int .i64 m) (by omega)
    generalize ((W2.setCell ⟨g,1+a*12+b,none⟩ (.int .i64 m)).setCell ⟨g,1+b*12+a,none⟩ (.int .i64 m))=W3 at aF aL aO⊢
    replace aF:=Aside0.mk aF
    replace aL:=Aside0.mk aL
    replace aO:=Aside0.mk aO
    go_wp2
    go_roundw
    case rel=>exact⟨k+1,by omega,by go_num,⟨by rw[a3.out];simp only[dc];rw[if_neg (by have:=bf.out;omega)];exact aF.out.drew⟩,⟨Kd.a8 aL.out⟩,⟨fH aO.out⟩⟩
    case measure=>simp[intOf];omega
  ·obtain rfl:k=E.length:=by omega
   have fq:=HW.out.frozen (146+q)
   have cq:=HW.out.kH q (by omega)
   have ch:=Aside0.mk (HW.out.sZ q (by omega) true)
   have cj:=Aside0.mk (HW.out.eo HR.out (by decide) (146+q) (.bool true))
   have ck:=Aside0.mk (dJ HB.out (g:=g) (j:=146+q) (v:=.bool true) (by omega))
   go_wp2
   go_ret
   exact⟨g,o,I,rfl,by simpa using ch.out,cj.out,ck.out,by omega⟩
def fy.f (j:Int):Option (Bool):=if j>=(-1048576) then(some (decide (j<=1048576))) else(some false)
theorem fy.calls (j:Int) (r:Bool) (w:World) (h:fy.f j=some r):
  Calls Tryz.prog 119 #[.int .i64 j] w fun e w'=>e= .returned (.bool r)∧ax w w':=by
 have H:(if j>=(-1048576) then(some (decide (j<=1048576))) else(some false))=some r:=h
 clear h
 by_cases c2:j>=(-1048576)
 ·rw[if_pos c2] at H
  have o:decide ((-1048576)<=j)=true:=decide_eq_true c2
  clear c2
  obtain rfl:=Option.some.inj H
  go_enter Tryz.func119,Tryz.ntmps119
  go_wp2
  go_ret
  exact⟨zT,by repeat(first|exact ax.refl _|apply ax.step)⟩
 ·rw[if_neg c2] at H
  have o:decide ((-1048576)<=j)=false:=decide_eq_false c2
  clear c2
  obtain rfl:=Option.some.inj H
  go_enter Tryz.func119,Tryz.ntmps119
  go_wp2
  go_ret
  exact⟨zT,by repeat(first|exact ax.refl _|apply ax.step)⟩
def gB.f (j:Int):Option (Int):=if j<1 then(some 2) else(if j>12 then(some 2) else(some 0))
theorem gB.calls (j:Int) (r:Int) (w:World) (h:gB.f j=some r):
  Calls Tryz.prog 141 #[.int .i64 j] w fun e w'=>e= .returned (.int .i64 r)∧ax w w':=by
 have H:(if j<1 then(some 2) else(if j>12 then(some 2) else(some 0)))=some r:=h
 clear h
 by_cases c2:j<1
 ·rw[if_pos c2] at H
  have o:decide (j<1)=true:=decide_eq_true c2
  clear c2
  obtain rfl:=Option.some.inj H
  go_enter Tryz.func141,Tryz.ntmps141
  go_wp2
  go_ret
  exact⟨zT,by repeat(first|exact ax.refl _|apply ax.step)⟩
 ·rw[if_neg c2] at H
  have o:decide (j<1)=false:=decide_eq_false c2
  clear c2
  by_cases c3:j>12
  ·rw[if_pos c3] at H
   have I:decide (12<j)=true:=decide_eq_true c3
   clear c3
   obtain rfl:=Option.some.inj H
   go_enter Tryz.func141,Tryz.ntmps141
   go_wp2
   go_ret
   exact⟨zT,by repeat(first|exact ax.refl _|apply ax.step)⟩
  ·rw[if_neg c3] at H
   have I:decide (12<j)=false:=decide_eq_false c3
   clear c3
   obtain rfl:=Option.some.inj H
   go_enter Tryz.func141,Tryz.ntmps141
   go_wp2
   go_ret
   exact⟨zT,by repeat(first|exact ax.refl _|apply ax.step)⟩
def aW.l0:Nat->List Int->Int->Int->Option (Int)
 |0,_,_,_=>none
 |k+1,o,I,j=>if j<I then(if 0<=j then(if j<(o.length:Int) then((fy.f (rd o j)).bind fun t192=>(if t192=true then(aW.l0 k o I (wrap64 (j+1))) else(some 2))) else(none)) else(none)) else(some 0)
def aW.f (k:Nat) (l0:List Int) (j:Int):Option (Int):=(gB.f j).bind fun t190=>(if t190=0 then(if(l0.length:Int)=j then(aW.l0 k l0 (l0.length:Int) 0) else(some 8)) else(some t190))
theorem aW.db:∀k,(∀j o I,ah (aW.l0 k j o I) (aW.l0 (k+1) j o I))
 |0=>fun _ _ _ r h=>by simp[aW.l0] at h
 |k+1=>by
  have J:=aW.db k
  ·intro j o I
   unfold aW.l0
   repeat' first
   |(with_reducible exact J _ _ _)
   |(with_reducible exact ah.refl _)
   |(with_reducible exact ah.none _)
   |(with_reducible refine ah.ite ?_ ?_)
   |(with_reducible refine ah.bind ?_ (fun _=>?_))
   |exact J _ _ _
   |exact ah.none _
   |refine ah.ite ?_ ?_
   |refine ah.bind ?_ (fun _=>?_)
theorem aW.mono:∀j o k,ah (aW.f k j o) (aW.f (k+1) j o):=by
 intro j o k
 have I:=aW.db k
 unfold aW.f
 repeat' first
   |(with_reducible exact I _ _ _)
   |(with_reducible exact ah.refl _)
   |(with_reducible exact ah.none _)
   |(with_reducible refine ah.ite ?_ ?_)
   |(with_reducible refine ah.bind ?_ (fun _=>?_))
   |exact I _ _ _
   |exact ah.none _
   |refine ah.ite ?_ ?_
   |refine ah.bind ?_ (fun _=>?_)
theorem aW.calls (k:Nat) (A0:Option Addr) (c0:Nat) (l0:List Int) (o:Int) (r:Int) (w:World) (aF:Kd.C (Kd.int .i64) w A0 l0.length l0) (aL:l0.length<=c0) (h:aW.f k l0 o=some r):
  Calls Tryz.prog 87 #[.slice A0 l0.length c0,.int .i64 o] w fun e w'=>e= .returned (.int .i64 r)∧ax w w':=by
 have aO:=Aside0.mk aF
 have b1:=Aside0.mk aL
 clear aF aL
 have H:((gB.f o).bind fun t190=>(if t190=0 then(if(l0.length:Int)=o then(aW.l0 k l0 (l0.length:Int) 0) else(some 8)) else(some t190)))=some r:=h
 clear h
 replace H:=Option.bind_eq_some_iff.mp H
 obtain⟨t190,aP,H⟩:=H
 replace H:(if t190=0 then(if(l0.length:Int)=o then(aW.l0 k l0 (l0.length:Int) 0) else(some 8)) else(some t190))=some r:=H
 have A3:=Aside0.mk aP
 clear aP
 by_cases c4:t190=0
 ·rw[if_pos c4] at H
  have aS:(t190==0)=true:=beq_iff_eq.mpr c4
  have a0:(t190 != 0)=false:=bne_eq_false_iff_eq.mpr c4
  clear c4
  by_cases I:(l0.length:Int)=o
  ·rw[if_pos I] at H
   have a2:((l0.length:Int)==o)=true:=beq_iff_eq.mpr I
   have a3:((l0.length:Int) != o)=false:=bne_eq_false_iff_eq.mpr I
   clear I
   have H':=Aside0.mk H
   clear H
   go_enter Tryz.func87,Tryz.ntmps87
   go_wp2_with (first|((with_reducible refine au (f:=141) rfl ?_);refine zL (some 9) Tryz.func141 #[.int .i64 o] ?_;(with_reducible refine(gB.calls o t190 _ A3.out).mono ?_);rintro e w' ⟨rfl,⟨nd,rfl⟩⟩;refine⟨_,rfl,?_⟩))
   go_loopg [19] k (fun kq bo w'=>∃(j:Int),bo= .int .i64 j∧Aside0 (aW.l0 kq l0 (l0.length:Int) j=some r)∧Aside0 (kq<=k)∧ax w w')
   case atStart=>exact⟨(0),zT,H',⟨Nat.le_refl _⟩,by repeat(first|exact ax.refl _|apply ax.step)⟩
   case round=>
    clear H'
    try clear c1
    try clear p2
    try clear c4
    try clear aS
    try clear a0
    try clear I
    try clear a2
    try clear a3
    obtain⟨j,rfl,HA,bg,⟨m1,rfl⟩⟩:=hrel
    cases gk with
    |zero=>exact absurd HA.out (by simp[aW.l0])
    |succ k1=>
     have H:=HA.out
     clear HA
     simp only[aW.l0] at H
     by_cases U:j<(l0.length:Int)
     ·rw[if_pos U] at H
      have bw:decide (j<(l0.length:Int))=true:=decide_eq_true U
      clear U
      by_cases c7:0<=j
      ·rw[if_pos c7] at H
       have b4:decide (0<=j)=true:=decide_eq_true c7
       clear c7
       by_cases c8:j<(l0.length:Int)
       ·rw[if_pos c8] at H
        have b5:decide (j<(l0.length:Int))=true:=decide_eq_true c8
        clear c8
        replace H:=Option.bind_eq_some_iff.mp H
        obtain⟨t192,bk,H⟩:=H
        replace H:(if t192=true then(aW.l0 k1 l0 (l0.length:Int) (wrap64 (j+1))) else(some 2))=some r:=H
        have A9:=Aside0.mk bk
        clear bk
        by_cases ak:t192=true
        ·subst ak
         have H1:(aW.l0 k1 l0 (l0.length:Int) (wrap64 (j+1)))=some r:=by rw[if_pos rfl] at H;exact H
         clear H
         have H:=H1
         clear H1
         have H':=Aside0.mk H
         clear H
         have J:0<=(j:Int):=of_decide_eq_true ‹_›
         have R:j<(l0.length:Int):=of_decide_eq_true ‹_›
         obtain⟨bx,aB,b0⟩:=Kd.bD aO.out j J R
         cases aB
         replace J:=eq_true J
         replace R:=eq_true R
         go_wp2_with (first|((with_reducible refine au (f:=119) rfl ?_);refine zL (some 24) Tryz.func119 #[.int .i64 (rd l0 j)] ?_;(with_reducible refine(fy.calls (rd l0 j) true _ A9.out).mono ?_);rintro e w' ⟨rfl,⟨nd,rfl⟩⟩;refine⟨_,rfl,?_⟩))
         go_roundg k1
         case measure=>have:=bg.out;omega
         case rel=>exact⟨(wrap64 (j+1)),zT,H',⟨by have:=bg.out;omega⟩,by repeat(first|exact ax.refl _|apply ax.step)⟩
        ·replace ak:=Bool.eq_false_iff.mpr ak
         subst ak
         have H1:(some 2)=some r:=by rw[if_neg (show ¬(false=true) by decide)] at H;exact H
         clear H
         have H:=H1
         clear H1
         obtain rfl:=Option.some.inj H
         have J:0<=(j:Int):=of_decide_eq_true ‹_›
         have R:j<(l0.length:Int):=of_decide_eq_true ‹_›
         obtain⟨bx,aB,b0⟩:=Kd.bD aO.out j J R
         cases aB
         replace J:=eq_true J
         replace R:=eq_true R
         go_wp2_with (first|((with_reducible refine au (f:=119) rfl ?_);refine zL (some 24) Tryz.func119 #[.int .i64 (rd l0 j)] ?_;(with_reducible refine(fy.calls (rd l0 j) false _ A9.out).mono ?_);rintro e w' ⟨rfl,⟨nd,rfl⟩⟩;refine⟨_,rfl,?_⟩))
         go_ret
         exact⟨zT,by repeat(first|exact ax.refl _|apply ax.step)⟩
       ·rw[if_neg c8] at H
        exact absurd H (by simp)
      ·rw[if_neg c7] at H
       exact absurd H (by simp)
     ·rw[if_neg U] at H
      have bw:decide (j<(l0.length:Int))=false:=decide_eq_false U
      clear U
      obtain rfl:=Option.some.inj H
      go_wp2
      go_ret
      exact⟨zT,by repeat(first|exact ax.refl _|apply ax.step)⟩
  ·rw[if_neg I] at H
   have a2:((l0.length:Int)==o)=false:=beq_eq_false_iff_ne.mpr I
   have a3:((l0.length:Int) != o)=true:=bne_iff_ne.mpr I
   obtain rfl:=Option.some.inj H
   go_enter Tryz.func87,Tryz.ntmps87
   go_wp2_with (first|((with_reducible refine au (f:=141) rfl ?_);refine zL (some 9) Tryz.func141 #[.int .i64 o] ?_;(with_reducible refine(gB.calls o t190 _ A3.out).mono ?_);rintro e w' ⟨rfl,⟨nd,rfl⟩⟩;refine⟨_,rfl,?_⟩))
   go_ret
   exact⟨zT,by repeat(first|exact ax.refl _|apply ax.step)⟩
 ·rw[if_neg c4] at H
  have aS:(t190==0)=false:=beq_eq_false_iff_ne.mpr c4
  have a0:(t190 != 0)=true:=bne_iff_ne.mpr c4
  obtain rfl:=Option.some.inj H
  go_enter Tryz.func87,Tryz.ntmps87
  go_wp2_with (first|((with_reducible refine au (f:=141) rfl ?_);refine zL (some 9) Tryz.func141 #[.int .i64 o] ?_;(with_reducible refine(gB.calls o t190 _ A3.out).mono ?_);rintro e w' ⟨rfl,⟨nd,rfl⟩⟩;refine⟨_,rfl,?_⟩))
  go_ret
  exact⟨zT,by repeat(first|exact ax.refl _|apply ax.step)⟩
def cI.l0:Nat->Int->List Int->Int->Int->Option (Int)
 |0,_,_,_,_=>none
 |k+1,x1,o,I,j=>if j<I then(if 0<=j then(if j<(o.length:Int) then(if j=x1 then(cI.l0 k x1 o I (wrap64 (j+1))) else(if(rd o j)<0 then(some 2) else(cI.l0 k x1 o I (wrap64 (j+1))))) else(none)) else(none)) else(some 0)
def cI.f (k:Nat) (j:Int) (R:List (S83)) (o:Int) (l2:List Int):Option (Int):=(cN.f k j R o).bind fun I=>(if I=0 then((aW.f k l2 j).bind fun J=>(if J=0 then(cI.l0 k o l2 (l2.length:Int) 0) else(some J))) else(some I))
theorem cI.calls (k:Nat) (I:Int) (ar:Option Addr) (av:Nat) (U:List (S83)) (J:Int) (A2:Option Addr) (c2:Nat) (l2:List Int) (r:Int) (w:World) (b4:Kd.C aG w ar U.length U) (b5:U.length<=av) (b_:Kd.C (Kd.int .i64) w A2 l2.length l2) (b':l2.length<=c2) (h:cI.f k I U J l2=some r):
  Calls Tryz.prog 224 #[.agg #[.int .i64 I,.slice ar U.length av],.int .i64 J,.slice A2 l2.length c2] w fun e w'=>e= .returned (.int .i64 r)∧Below w.heap.size w w':=by
 have ek:=Tryz.underlying24
 have bx:=Aside0.mk b4
 have b0:=Aside0.mk b5
 clear b4 b5
 have bf:=Aside0.mk b_
 have ca:=Aside0.mk b'
 clear b_ b'
 have o:=Aside0.mk (Below.refl w.heap.size w)
 have H:((cN.f k I U J).bind fun ab=>(if ab=0 then((aW.f k l2 I).bind fun aa=>(if aa=0 then(cI.l0 k J l2 (l2.length:Int) 0) else(some aa))) else(some ab)))=some r:=h
 clear h
 replace H:=Option.bind_eq_some_iff.mp H
 obtain⟨ab,cb,H⟩:=H
 replace H:(if ab=0 then((aW.f k l2 I).bind fun aa=>(if aa=0 then(cI.l0 k J l2 (l2.length:Int) 0) else(some aa))) else(some ab))=some r:=H
 have A4:=Aside0.mk cb
 clear cb
 by_cases c5:ab=0
 ·rw[if_pos c5] at H
  have cc:(ab==0)=true:=beq_iff_eq.mpr c5
  have cd:(ab != 0)=false:=bne_eq_false_iff_eq.mpr c5
  clear c5
  replace H:=Option.bind_eq_some_iff.mp H
  obtain⟨aa,cf,H⟩:=H
  replace H:(if aa=0 then(cI.l0 k J l2 (l2.length:Int) 0) else(some aa))=some r:=H
  have A6:=Aside0.mk cf
  clear cf
  by_cases c7:aa=0
  ·rw[if_pos c7] at H
   have cj:(aa==0)=true:=beq_iff_eq.mpr c7
   have ck:(aa != 0)=false:=bne_eq_false_iff_eq.mpr c7
   clear c7
   have H':=Aside0.mk H
   clear H
   go_enter Tryz.func224,Tryz.ntmps224
   go_wp2_with (first|((with_reducible refine aA (N:=3) rfl ?_);refine zX 3 #[.int .i64 I,.slice ar U.length av] 24 ?_;intro b2 hg w8 aP hb;have R:=Aside0.mk (aP);have cl:=zG o hg;have cq:=zG o hg;replace o:=zS o hb;clear hb aP hg;obtain⟨c0,c1,c3,c4⟩:=ao R)|((with_reducible refine au (f:=211) rfl ?_);refine zL (some 13) Tryz.func211 #[.agg #[.int .i64 I,.slice ar U.length av],.int .i64 J] ?_;(with_reducible refine(cN.calls k I _ _ U J ab _ ?aB ?aF A4.out).mono ?_);(case aB=>exact Kd.aj bx.out zB);(case aF=>exact b0.out);rintro e ev ⟨rfl,hb⟩;refine⟨_,rfl,?_⟩;replace R:=zb R hb;replace o:=zS o hb;(try clear hb);obtain⟨c6,c9,c',dd⟩:=ao R)|((with_reducible refine au (f:=87) rfl ?_);refine zL (some 20) Tryz.func87 #[.slice A2 l2.length c2,.int .i64 I] ?_;(with_reducible refine(aW.calls k _ _ l2 I aa _ ?aB ?aF A6.out).mono ?_);(case aB=>exact Kd.aj bf.out zB);(case aF=>exact ca.out);rintro e w' ⟨rfl,⟨nd,rfl⟩⟩;refine⟨_,rfl,?_⟩))
   go_loopg [26] k (fun kq dv w'=>∃(j:Int),dv= .int .i64 j∧Aside0 (cI.l0 kq J l2 (l2.length:Int) j=some r)∧Aside0 (kq<=k)∧Aside0 (w'.heap[b2]? =some (.cells #[.int .i64 I,(.slice ar U.length av)] 24 (0,0)))∧Aside0 (Below w.heap.size w w'))
   case atStart=>exact⟨(0),zT,H',⟨Nat.le_refl _⟩,⟨zK R⟩,⟨zB⟩⟩
   case round=>
    clear H'
    try clear c2
    try clear p2
    try clear c5
    try clear cc
    try clear cd
    try clear c7
    try clear cj
    try clear ck
    try clear c8
    try clear c6
    try clear c9
    try clear c0
    try clear c1
    try clear c'
    try clear dd
    try clear c3
    try clear c4
    obtain⟨j,rfl,HA,bn,R,o⟩:=hrel
    cases gk with
    |zero=>exact absurd HA.out (by simp[cI.l0])
    |succ k1=>
     have H:=HA.out
     clear HA
     simp only[cI.l0] at H
     by_cases a2:j<(l2.length:Int)
     ·rw[if_pos a2] at H
      have ea:decide (j<(l2.length:Int))=true:=decide_eq_true a2
      clear a2
      by_cases bo:0<=j
      ·rw[if_pos bo] at H
       have e0:decide (0<=j)=true:=decide_eq_true bo
       clear bo
       by_cases bw:j<(l2.length:Int)
       ·rw[if_pos bw] at H
        have e1:decide (j<(l2.length:Int))=true:=decide_eq_true bw
        clear bw
        by_cases aS:j=J
        ·rw[if_pos aS] at H
         have eb:(j==J)=true:=beq_iff_eq.mpr aS
         have ed:(j != J)=false:=bne_eq_false_iff_eq.mpr aS
         clear aS
         have H':=Aside0.mk H
         clear H
         have ag:0<=(j:Int):=of_decide_eq_true ‹_›
         have ak:j<(l2.length:Int):=of_decide_eq_true ‹_›
         obtain⟨cx,bg,an⟩:=Kd.bD bf.out j ag ak
         cases bg
         replace an:=(o.out.cell (World.block_lt_of_cell? w _ an)).trans an
         replace ag:=eq_true ag
         replace ak:=eq_true ak
         go_wp2
         go_roundg k1
         case measure=>have:=bn.out;omega
         case rel=>exact⟨(wrap64 (j+1)),zT,H',⟨by have:=bn.out;omega⟩,⟨zK R⟩,⟨zB⟩⟩
        ·rw[if_neg aS] at H
         have eb:(j==J)=false:=beq_eq_false_iff_ne.mpr aS
         have ed:(j != J)=true:=bne_iff_ne.mpr aS
         by_cases a3:(rd l2 j)<0
         ·rw[if_pos a3] at H
          have eg:decide ((rd l2 j)<0)=true:=decide_eq_true a3
          clear a3
          obtain rfl:=Option.some.inj H
          have ag:0<=(j:Int):=of_decide_eq_true ‹_›
          have ak:j<(l2.length:Int):=of_decide_eq_true ‹_›
          obtain⟨cx,bg,an⟩:=Kd.bD bf.out j ag ak
          cases bg
          replace an:=(o.out.cell (World.block_lt_of_cell? w _ an)).trans an
          replace ag:=eq_true ag
          replace ak:=eq_true ak
          go_wp2
          go_ret
          exact⟨zE,zB⟩
         ·rw[if_neg a3] at H
          have eg:decide ((rd l2 j)<0)=false:=decide_eq_false a3
          clear a3
          have H':=Aside0.mk H
          clear H
          have ag:0<=(j:Int):=of_decide_eq_true ‹_›
          have ak:j<(l2.length:Int):=of_decide_eq_true ‹_›
          obtain⟨cx,bg,an⟩:=Kd.bD bf.out j ag ak
          cases bg
          replace an:=(o.out.cell (World.block_lt_of_cell? w _ an)).trans an
          replace ag:=eq_true ag
          replace ak:=eq_true ak
          go_wp2
          go_roundg k1
          case measure=>have:=bn.out;omega
          case rel=>exact⟨(wrap64 (j+1)),zT,H',⟨by have:=bn.out;omega⟩,⟨zK R⟩,⟨zB⟩⟩
       ·rw[if_neg bw] at H
        exact absurd H (by simp)
      ·rw[if_neg bo] at H
       exact absurd H (by simp)
     ·rw[if_neg a2] at H
      have ea:decide (j<(l2.length:Int))=false:=decide_eq_false a2
      clear a2
      obtain rfl:=Option.some.inj H
      go_wp2
      go_ret
      exact⟨zE,zB⟩
  ·rw[if_neg c7] at H
   have cj:(aa==0)=false:=beq_eq_false_iff_ne.mpr c7
   have ck:(aa != 0)=true:=bne_iff_ne.mpr c7
   obtain rfl:=Option.some.inj H
   go_enter Tryz.func224,Tryz.ntmps224
   go_wp2_with (first|((with_reducible refine aA (N:=3) rfl ?_);refine zX 3 #[.int .i64 I,.slice ar U.length av] 24 ?_;intro b2 hg e2 aP hb;have R:=Aside0.mk (aP);have cl:=zG o hg;have cq:=zG o hg;replace o:=zS o hb;clear hb aP hg;obtain⟨e3,e4,e5,e6⟩:=ao R)|((with_reducible refine au (f:=211) rfl ?_);refine zL (some 13) Tryz.func211 #[.agg #[.int .i64 I,.slice ar U.length av],.int .i64 J] ?_;(with_reducible refine(cN.calls k I _ _ U J ab _ ?aB ?aF A4.out).mono ?_);(case aB=>exact Kd.aj bx.out zB);(case aF=>exact b0.out);rintro e e_ ⟨rfl,hb⟩;refine⟨_,rfl,?_⟩;replace R:=zb R hb;replace o:=zS o hb;(try clear hb);obtain⟨e',fb,fo,fq⟩:=ao R)|((with_reducible refine au (f:=87) rfl ?_);refine zL (some 20) Tryz.func87 #[.slice A2 l2.length c2,.int .i64 I] ?_;(with_reducible refine(aW.calls k _ _ l2 I aa _ ?aB ?aF A6.out).mono ?_);(case aB=>exact Kd.aj bf.out zB);(case aF=>exact ca.out);rintro e w' ⟨rfl,⟨nd,rfl⟩⟩;refine⟨_,rfl,?_⟩))
   go_ret
   exact⟨zE,zB⟩
 ·rw[if_neg c5] at H
  have cc:(ab==0)=false:=beq_eq_false_iff_ne.mpr c5
  have cd:(ab != 0)=true:=bne_iff_ne.mpr c5
  obtain rfl:=Option.some.inj H
  go_enter Tryz.func224,Tryz.ntmps224
  go_wp2_with (first|((with_reducible refine aA (N:=3) rfl ?_);refine zX 3 #[.int .i64 I,.slice ar U.length av] 24 ?_;intro b2 hg fr aP hb;have R:=Aside0.mk (aP);have cl:=zG o hg;have cq:=zG o hg;replace o:=zS o hb;clear hb aP hg;obtain⟨ft,fv,f',gb⟩:=ao R)|((with_reducible refine au (f:=211) rfl ?_);refine zL (some 13) Tryz.func211 #[.agg #[.int .i64 I,.slice ar U.length av],.int .i64 J] ?_;(with_reducible refine(cN.calls k I _ _ U J ab _ ?aB ?aF A4.out).mono ?_);(case aB=>exact Kd.aj bx.out zB);(case aF=>exact b0.out);rintro e gd ⟨rfl,hb⟩;refine⟨_,rfl,?_⟩;replace R:=zb R hb;replace o:=zS o hb;(try clear hb)))
  go_ret
  exact⟨zE,zB⟩
end Go.Proofs.YtffdiakgjakngaaGreat.P

