/- TopRochUnwinnable answers true whatever the input (text 14 of 19): own walks and plain laws; no conditions. -/
import Derived.BigQuiet
import Derived.Deep.QuietTactic
import Derived.StillTailTactics
import Derived.Test.YtffdiakgjakngaaGreatRoch13
namespace Go.Proofs.YtffdiakgjakngaaGreat.P
open Go.RowKit Go.Proofs.YtffdiakgjakngaaGreatW.PrintWords Go.Proofs.YtffdiakgjakngaaGreatW.PrintLast Go.Proofs.YtffdiakgjakngaaGreatW.PrintMore
set_option linter.unusedVariables false
set_option linter.unusedSimpArgs false
set_option maxHeartbeats 8000000
set_option maxRecDepth 100000
section
attribute [local go_sem] Oper.semAt_some
theorem C_ (g n:Nat) (A0:Option Addr) (c0:Nat) (E:List S83) (q:Int) (dv sv:Value) (er:Int) (v:Nat) (lb:Array Value) (B:Nat->Bool) (w:World) (bw:Kd.C aG w A0 E.length E) (hE:dp n E) (hn:n<=1000) (hv:v<n) (J:fz w g n (.slice A0 E.length c0) q dv sv er)
  (hB:∀(W:World) (u:Int),Below w.heap.size w W->0<=u->u<n->Calls Tryz.prog 169 (#[.int .i64 u]++lb) W fun e w'=>e= .returned (.bool (B u.toNat))∧Below W.heap.size W w'):
  Calls Tryz.prog 168 #[.pointer (some ⟨g,0,none⟩),.int .i64 v,.func (.func 169) #[] lb] w fun e w'=>e= .returned (.int .i64 (df B (bL E v E.length)))∧Below w.heap.size w w':=by
 have c2:=Aside0.mk hB
 have HE:=Aside0.mk hE
 have b4:=Aside0.mk J
 clear hB hE J
 refine(callsIn_wide (n:=10)).1 ?_
 refine callsIn_of_wp_marks Tryz.func168 rfl trivial ?_ rfl
 simp only[Tryz.ntmps168,List.size_toArray,List.length_cons,List.length_nil,Nat.reduceAdd,Nat.reduceSub,Array.replicate_succ,Array.replicate_zero,List.push_toArray,List.append_toArray,List.nil_append,List.cons_append]
 gi_wp2_with (refine⟨trivial,?_⟩;gi_at_call 194;refine(callsIn_wide.2 (kJ g v _)).mono ?_;rintro e w3 ⟨rfl,rfl⟩)
 obtain⟨U,b5⟩:∃o:Obj,o= .cells #[.func (.func 169) #[] lb] 121:=⟨_,rfl⟩
 obtain⟨on,b_⟩:∃o:Obj,o= .cells #[.int .i64 0] 3:=⟨_,rfl⟩
 obtain⟨ox,b'⟩:∃o:Obj,o= .cells #[.pointer (some ⟨g,0,none⟩)] 135:=⟨_,rfl⟩
 obtain⟨ov,ca⟩:∃o:Obj,o= .cells #[.int .i64 v] 3:=⟨_,rfl⟩
 have Z0:=heap_alloc_new w U
 have Z1:=heap_alloc_new (w.alloc U) on
 have Z2:=heap_alloc_new ((w.alloc U).alloc on) ox
 have Z3:=heap_alloc_new (((w.alloc U).alloc on).alloc ox) ov
 simp only[World.size_alloc] at Z1 Z2 Z3
 have H0:=Aside0.mk ((aq (aq (aq Z0 on) ox) ov).trans (by rw[b5]:_=some (.cells #[.func (.func 169) #[] lb] 121 (0,0))))
 have H1:=Aside0.mk ((aq (aq Z1 ox) ov).trans (by rw[b_]:_=some (.cells #[.int .i64 0] 3 (0,0))))
 have H2:=Aside0.mk ((aq Z2 ov).trans (by rw[b']:_=some (.cells #[.pointer (some ⟨g,0,none⟩)] 135 (0,0))))
 have H3:=Aside0.mk (Z3.trans (by rw[ca]:_=some (.cells #[.int .i64 v] 3 (0,0))))
 have ad:=Aside0.mk (al (al (al (al (Below.refl w.heap.size w) U) on) ox) ov)
 have ch:Aside0 (fz ((((w.alloc U).alloc on).alloc ox).alloc ov) g n (.slice A0 E.length c0) q dv sv er):=⟨aE b4.out ad.out⟩
 have ed:g<w.heap.size:=aw b4.out
 have c4:=Aside0.mk (Kd.aj bw ad.out)
 clear Z0 Z1 Z2 Z3
 subst b5 b_ b' ca
 have c6:=ad.out.size
 have c7:((((w.alloc (.cells #[.func (.func 169) #[] lb] 121)).alloc (.cells #[.int .i64 0] 3)).alloc (.cells #[.pointer (some ⟨g,0,none⟩)] 135)).alloc (.cells #[.int .i64 v] 3)).heap.size=w.heap.size+4:=by simp
 generalize ((((w.alloc (.cells #[.func (.func 169) #[] lb] 121)).alloc (.cells #[.int .i64 0] 3)).alloc (.cells #[.pointer (some ⟨g,0,none⟩)] 135)).alloc (.cells #[.int .i64 v] 3))=R at H0 H1 H2 H3 ad ch c4 c6 c7⊢
 refine iB (σ:=Unit) (α:=Int×Int) (F:=Fence.wide) (n:=10) rfl (by decide) (gf:=207) (lb:=#[.pointer (some ⟨w.heap.size+1+1,0,none⟩),.pointer (some ⟨w.heap.size+1+1+1,0,none⟩)]) rfl trivial (enters_of Tryz.func207 (by kernel_rfl) rfl)
  (fun o=>nc (w.heap.size+1+1) (w.heap.size+1+1+1) g n A0 c0 E q dv sv er v w _ bw HE.out hn hv (al (al ad.out _) _) (aq (aq H2.out _) _) (aq (aq H3.out _) _) (aq (aq ch.out _) _)) (fun _=>rfl)
  (fun _=>True) ?c8 ?st ?ar
  (fun _ pre W=>R.heap.size<=W.heap.size∧W.heap[w.heap.size]? =some (.cells #[.func (.func 169) #[] lb] 121 (0,0))∧W.heap[w.heap.size+1]? =some (.cells #[.int .i64 (df B pre)] 3 (0,0))∧Below w.heap.size w W) (fun _ _ _ _=>False)
  ?is (fun _ _ _ _ _ _ h _=>h) ?ib (fun _ _ _ _ _ h _=>h) ?kt ?h0 ?a1 ?assign ?body ?done (fun _ _ _ _ _ _ _ h=>h.elim)
 case assign=>
  intro l x W K hK
  gi_wp2
  exact hK
 case c8=>
  intro o s W1 h
  exact⟨trivial,by rw[h];exact bJ.refl _ _⟩
 case st=>intro s A B _ h;exact cH h
 case ar=>intro s x A B _ h;exact cH h.2
 case is=>
  rintro s pre A B _ ⟨hs,h1,h2,h3⟩ J
  exact⟨Nat.le_trans hs J.size,aE h1 J,aE h2 J,aN h3 J⟩
 case ib=>
  rintro s pre A B ⟨hs,h1,h2,h3⟩ hb
  exact⟨by rw[hb.size];exact hs,hb.cells h1,hb.cells h2,h3.trans (hb.below w.heap.size (by omega))⟩
 case kt=>
  intro s A B C D aL cj ck
  refine⟨fun aK=>((aL.below w.heap.size (by omega)).trans (cj.1 (by rw[aL.size];exact aK))).trans (ck.below w.heap.size (by omega)),fun k hk an=>?_⟩
  have cl:k≠R.heap.size+1:=by rcases hk with rfl|rfl|rfl<;>omega
  exact(ck.heap k cl).trans ((cj.2 k hk (by rw[aL.size];exact an)).trans (aL.heap k cl))
 case h0=>
  rintro o s W1 rfl
  exact⟨by simp;omega,aq (aq H0.out _) _,aq (aq H1.out _) _,al (al ad.out _) _⟩
 case body=>
  rintro l s pre ⟨u,m⟩ Wb W1 W _ ⟨hs,i1,i2,i3⟩ ⟨bk,av⟩ ea I
  have b1:=Aside0.mk (I.cells (aE i1 av))
  have b2:=Aside0.mk (I.cells (aE i2 av))
  have b3:=Aside0.mk ((aN i3 av).trans (I.below w.heap.size (by omega)))
  have ev:R.heap.size<=W.heap.size:=by have:=I.size;have:=av.size;omega
  clear i1 i2 i3 av I ea
  simp only at bk
  have ew:W.cell? ⟨w.heap.size,0,none⟩=some (.func (.func 169) #[] lb):=(ai b1.out 0).trans rfl
  have HU:=Aside0.mk (c2.out W u b3.out bk.1 bk.2.1)
  have aF:=Aside0.mk (pC B pre (u,m))
  generalize df B pre=s0 at b2 aF
  cases aP:B u.toNat with
  |true=>
   rw[aP] at HU aF
   clear aP
   gi_wp2_with (refine⟨trivial,?_⟩;gi_at_call 169;refine(callsIn_wide.2 HU.out).mono ?_;rintro e w5 ⟨rfl,ag⟩;have j:=Aside0.mk ag;have D2:=Aside0.mk (aE b2.out ag);have c5:w5.cell? ⟨w.heap.size+1,0,none⟩=some (.int .i64 s0):=(ai D2.out 0).trans rfl;have f5:=a9 D2.out 0;clear ag)
   have aK:=j.out.size
   refine⟨(cH j.out).trans (eQ _ _ (by show w.heap.size+1<R.heap.size;omega)),⟨fun aK=>Below.setCell (j.out.mono aK) (by show w.heap.size<=w.heap.size+1;omega) _,fun k hk an=>?_⟩,by simp;omega,?_,?_,Below.setCell (aN b3.out j.out) (by show w.heap.size<=w.heap.size+1;omega) _⟩
   ·rw[Below.heap_setCell _ _ _ _ (by rcases hk with rfl|rfl|rfl<;>(show _≠w.heap.size+1)<;>omega)]
    exact j.out.block k an
   ·rw[Below.heap_setCell _ _ _ _ (by show w.heap.size≠w.heap.size+1;omega)]
    exact aE b1.out j.out
   ·have h:=bt D2.out 0 (.int .i64 (wrap64 (s0+m)))
    rw[aF.out]
    simpa using h
  |false=>
   rw[aP] at HU aF
   clear aP
   gi_wp2_with (refine⟨trivial,?_⟩;gi_at_call 169;refine(callsIn_wide.2 HU.out).mono ?_;rintro e w5 ⟨rfl,ag⟩;have j:=Aside0.mk ag;clear ag)
   have aK:=j.out.size
   exact⟨cH j.out,⟨fun aK=>j.out.mono aK,fun k hk an=>j.out.block k an⟩,by omega,aE b1.out j.out,by rw[aF.out];exact aE b2.out j.out,aN b3.out j.out⟩
 case done=>
  rintro s xs W W' _ rfl ⟨hs,i1,i2,i3⟩ I cr
  have b2:=Aside0.mk (I.cells i2)
  have b3:=Aside0.mk (i3.trans (I.below w.heap.size (by omega)))
  have cv:=Aside0.mk cr
  clear i1 i2 i3 cr
  have hc:W'.cell? ⟨w.heap.size+1,0,none⟩=some (.int .i64 (df B (bL E v E.length))):=(ai b2.out 0).trans rfl
  gi_wp2_with fail
  have eb:Bk R.heap.size W' (W'.putObj R.heap.size (.deferred none)):=⟨_,_,cv.out,rfl,rfl⟩
  exact jk (D:=R.heap.size) rfl cv.out (results_tmp rfl _ _ _) ⟨rfl,b3.out.trans (eb.below w.heap.size (by omega))⟩
end
section
attribute [local go_sem] Oper.semAt_some jG jH jI jJ
theorem C' (gb j cr n:Nat) (B:Nat->Bool) (ok:Nat->Prop) (base:Nat) (W:World) (u:Int) (hb:W.heap[gb]? =some (.cells #[.slice (some ⟨j,0,none⟩) n cr] 43 (0,0))) (o:Kd.bool.R 4 W base ok (.slice (some ⟨j,0,none⟩) n cr) ((List.range n).map B)) (h0:0<=u) (I:u<n):
  Calls Tryz.prog 169 #[.int .i64 u,.pointer (some ⟨gb,0,none⟩)] W fun e w'=>e= .returned (.bool (B u.toNat))∧Below W.heap.size W w':=by
 have J:W.cell? ⟨gb,0,none⟩=some (.slice (some ⟨j,0,none⟩) n cr):=(ai hb 0).trans rfl
 have hc:=(Kd.bB false o u h0 I).1
 have e:bl false ((List.range n).map B) u=B u.toNat:=by
  obtain⟨m,rfl⟩:=Int.eq_ofNat_of_zero_le h0
  have:m<n:=by omega
  simp[bl,List.getD_eq_getElem?_getD,List.getElem?_map,List.getElem?_range this]
 rw[e] at hc
 have hc:W.cell? ⟨j,u.toNat,none⟩=some (.bool (B u.toNat)):=hc
 clear o hb e
 go_enter Tryz.func169,Tryz.ntmps169
 go_wp2
 go_ret
 exact⟨rfl,Below.refl _ _⟩
theorem Da (A:Option Addr) (c n:Nat) (xs:List Int) (w:World) (j:xs.length=n) (hr:Kd.C (Kd.int .i64) w A xs.length xs) (h1:1<=n):
  Calls Tryz.prog 167 #[.slice A n c] w fun e w'=>e= .returned (.int .i64 (eX xs (n-1)))∧Below w.heap.size w w':=by
 subst j;exact C9 A c xs w hr h1
theorem vi (xs:List Int):∀k i:Nat,i<=k->rd xs (i:Int)<=eX xs k
 |0,i,h=>by
  obtain rfl:i=0:=by omega
  exact Int.le_refl _
 |k+1,i,h=>by
  unfold eX
  by_cases e:i=k+1
  ·subst e;split<;>omega
  ·have:=vi xs k i (by omega)
   split<;>omega
theorem vj (xs:List Int):∀k:Nat,∃i,i<=k∧eX xs k=rd xs (i:Int)
 |0=>⟨0,Nat.le_refl _,rfl⟩
 |k+1=>by
  unfold eX
  split
  ·exact⟨k+1,Nat.le_refl _,rfl⟩
  ·obtain⟨i,h1,h2⟩:=vj xs k
   exact⟨i,by omega,h2⟩
structure Db (n q:Nat) (t:Nat->Nat->Int) (out:List Int):Prop where
 len:out.length=n
 q0:rd out (q:Int)=0
 pos:∀v:Nat,v<n->0<=rd out (v:Int)∧rd out (v:Int)<n
 vk:∀u v:Nat,u<n->v<n->0<t u v->rd out (v:Int)<=rd out (u:Int)+1
 back:∀v:Nat,v<n->v≠q->∃u:Nat,u<n∧0<t v u∧rd out (u:Int)+1=rd out (v:Int)
theorem qt {n:Nat} {E:List S83} (h:ba n E) {u v:Nat} (hu:u<n) (o:v<n):ka E v u↔0<af E v u:=by
 have h1:∀L:List (Int×Int),(∀x∈L,0<=x.1∧x.1<n∧x.1≠v∧1<=x.2∧x.2<=50)->0<=cT (fun w=>if w=u then 1 else 0) L∧(0<cT (fun w=>if w=u then 1 else 0) L↔∃m,((u:Int),m)∈L):=by
  intro L
  induction L with
  |nil=>intro _;simp[cT]
  |cons x L I=>
   intro j
   obtain⟨i1,i2⟩:=I (fun y J=>j y (List.mem_cons_of_mem _ J))
   have R:=j x (List.mem_cons_self ..)
   simp only[cT]
   by_cases e:x.1.toNat=u
   ·rw[if_pos e,Int.mul_one]
    refine⟨by omega,fun _=>⟨x.2,?_⟩,fun _=>by omega⟩
    have:x=((u:Int),x.2):=by rw[<-e];ext<;>simp;omega
    rw[<-this];exact List.mem_cons_self ..
   ·rw[if_neg e,Int.mul_zero,Int.zero_add]
    refine⟨i1,fun h=>?_,fun⟨m,hm⟩=>?_⟩
    ·obtain⟨m,hm⟩:=i2.1 h
     exact⟨m,List.mem_cons_of_mem _ hm⟩
    ·rcases List.mem_cons.1 hm with rfl|hm
     ·exact absurd (show ((u:Int)).toNat=u by simp) e
     ·exact i2.2 ⟨m,hm⟩
 have h2:=h1 _ (nk h E.length (Nat.le_refl _) (v:=v))
 rw[nj h _ o,T.ij hu (fun w _ hw=>by rw[if_neg hw,Int.mul_zero]),if_pos rfl,Int.mul_one] at h2
 exact h2.2.symm
theorem Bf.dst {n q:Nat} {E:List S83} (h:ba n E) (hc:T.cR n (af E)) (hq:q<n) {out:List Int} {D:Int} (hb:Bf n q (ka E) out [] D (fun _ _=>False)):Db n q (af E) out:=by
 have o:∀v:Nat,v<n->0<=rd out (v:Int):=by
  intro v j
  refine Classical.byContradiction fun U=>?_
  obtain⟨a,b,J,R,h1,h2,I⟩:=hc (fun v=>decide (0<=rd out (v:Int))) ⟨q,hq,by simp[hb.q0]⟩ ⟨v,j,by simpa using U⟩
  have:=hb.jn a J (of_decide_eq_true h1) (by simp) b R ((qt h R J).2 I) (fun f=>f)
  exact(of_decide_eq_false h2) this.1
 refine⟨hb.len,hb.q0,fun v j=>⟨o v j,?_⟩,fun u v hu j ht=>(hb.jn u hu (o u hu) (by simp) v j ((qt h j hu).2 ht) (fun f=>f)).2,fun v j ab=>?_⟩
 ·have h1:=hb.hi v j
  have h2:=il out
  rw[hb.len] at h2
  omega
 ·obtain⟨u,hu,h1,h2,I⟩:=hb.back v j ab (o v j)
  exact⟨u,hu,by rw[h.wt.sym];exact(qt h j hu).1 h1,I⟩
structure LI (w0 w:World) (g gd gs go cd cs co n:Nat) (A0:Option Addr) (c0:Nat) (E:List S83) (q:Int) (out d s:List Int) (W:World):Prop where
 si:SI w0 g gd gs cd cs n A0 c0 E q d s W
 fo:(Kd.int .i64).R 3 W w.heap.size (fun _=>True) (.slice (some ⟨go,0,none⟩) n co) out
 hw:w0.heap.size<=w.heap.size∧gd<w.heap.size∧gs<w.heap.size∧g<w.heap.size∧w.heap.size<=go
namespace LI
variable {w0 w W W':World} {g gd gs go cd cs co n c0 l:Nat} {A0:Option Addr} {E:List S83} {q:Int} {out d s:List Int}
theorem below (h:LI w0 w g gd gs go cd cs co n A0 c0 E q out d s W) (hb:Below W.heap.size W W'):LI w0 w g gd gs go cd cs co n A0 c0 E q out d s W':=⟨h.si.below hb,Kd.bY h.fo hb,h.hw⟩
theorem alloc (h:LI w0 w g gd gs go cd cs co n A0 c0 E q out d s W) (o:Obj):LI w0 w g gd gs go cd cs co n A0 c0 E q out d s (W.alloc o):=h.below (al (Below.refl _ _) o)
theorem drewN (h:LI w0 w g gd gs go cd cs co n A0 c0 E q out d s W) (m:Nat):LI w0 w g gd gs go cd cs co n A0 c0 E q out d s (W.drewN m):=h.below (bC (Below.refl _ _) m)
theorem drew (h:LI w0 w g gd gs go cd cs co n A0 c0 E q out d s W):LI w0 w g gd gs go cd cs co n A0 c0 E q out d s W.drew:=h.drewN 1
theorem fR (h:LI w0 w g gd gs go cd cs co n A0 c0 E q out d s W) (p:Addr) (v:Value) (h0:w.heap.size<=p.block) (h1:p.block≠go):LI w0 w g gd gs go cd cs co n A0 c0 E q out d s (W.setCell p v):=
 ⟨h.si.fR p v (by have:=h.hw;omega) (by have:=h.hw;omega),Kd.aR (Kd.en (Kd.fp rfl h.fo) (fun k hk=>Below.heap_setCell _ _ _ _ (fun e=>h1 (by rw[<-e];injection hk)))) (fun _ _=>trivial),h.hw⟩
theorem iP (h:LI w0 w g gd gs go cd cs co n A0 c0 E q out d s W) (v:Nat) (j:v<n):W.cell? ⟨go,v,none⟩=some (.int .i64 (rd out v)):=by
 have:=(Kd.bB 0 h.fo (v:Int) (by omega) (by omega)).1
 rw[Int.toNat_natCast] at this
 exact this
theorem Dc (h:LI w0 w g gd gs go cd cs co n A0 c0 E q out d s W) {d' s':List Int} (j:SI w0 g gd gs cd cs n A0 c0 E q d' s' W') (hk:∀k,k<W.heap.size->k≠gd->k≠gs->W'.heap[k]? =W.heap[k]?):LI w0 w g gd gs go cd cs co n A0 c0 E q out d' s' W':=
 ⟨j,Kd.aR (Kd.en (Kd.fp rfl h.fo) (fun k e=>by
  injection e with e
  subst e
  have h1:=h.hw
  exact hk _ (Kd.bq h.fo _ rfl) (by omega) (by omega))) (fun _ _=>trivial),h.hw⟩
end LI
theorem Dd (g gd gs cd cs n:Nat) (A0:Option Addr) (c0:Nat) (E:List S83) (q:Nat) (d:List Int) (w0 w:World) (bw:Kd.C aG w0 A0 E.length E) (hE:ba n E) (hl:E.length<=1000) (hC:gV n E) (hn:n<=12) (hq:q<n) (bf:T.sN (T.val n (af E)) n<=19)
  (hd:∀v:Nat,v<n-> -200<=rd d v∧rd d v<=200) (c7:d.length=n) (h:SI w0 g gd gs cd cs n A0 c0 E q d (List.replicate n 0) w):
  Calls Tryz.prog 110 #[.pointer (some ⟨g,0,none⟩)] w fun e w'=>e= .returned (.tuple #[])∧∃(d' s':List Int),d'.length=n∧s'.length=n∧SI w0 g gd gs cd cs n A0 c0 E q d' s' w'∧(∀v:Nat,v<n->v≠q->0<=rd d' v)∧∃dist:Nat->Int,T.dZ n (af E) (fun v=>rd d (v:Nat)) dist 200 0 (fun v=>rd d' (v:Nat)) (fun v=>rd s' (v:Nat)):=by
 have hX:=Tryz.underlying188
 have hu:=Tryz.underlying24
 have U:=Aside0.mk hE
 have HC:=Aside0.mk hC
 have HD:=Aside0.mk hd
 have c8:=h.hb.size
 obtain⟨q1,q2,q3,q4,q5⟩:=h.ld
 have HS:=Aside0.mk h
 have gf:1<=n:=by omega
 clear hE hC hd h
 go_enter Tryz.func110,Tryz.ntmps110
 go_wp2_with (first|(go_at_call 165;refine(C8 g n A0 c0 E q _ _ 0 _ (Kd.aj bw HS.out.hb) U.out.iG (by omega) hq HS.out.st).mono ?_;rintro e w1 ⟨go,co,out,D,rfl,hO,hB,c9⟩;have HF:=Aside0.mk (Bf.dst U.out (U.out.conn HC.out) hq c9);have b5:Aside0 (LI w0 w g gd gs go cd cs co n A0 c0 E q out d (List.replicate n 0) w1):=⟨HS.out.below hB,hO,c8,q1,q2,q3,Kd.br hO go rfl⟩;clear hO hB c9)|(go_at_call 167;refine(Da _ _ n out _ HF.out.len (Kd.aC b5.out.fo).2.2 gf).mono ?_;rintro e w2 ⟨rfl,hB⟩;have aB:=Aside0.mk (b5.out.below hB);clear hB b5))
 obtain⟨im,gg,gi⟩:=vj out (n-1)
 obtain⟨km,b_⟩:∃km:Nat,eX out (n-1)=km:=⟨(eX out (n-1)).toNat,by have:=HF.out.pos im (by omega);omega⟩
 have b':km<=n:=by have:=HF.out.pos im (by omega);omega
 have HM:Aside0 (∀v:Nat,v<n->rd out (v:Int)<=km):=⟨fun v I=>by rw[<-b_];exact vi out (n-1) v (by omega)⟩
 have ds:Aside0 (T.dZ n (af E) (fun v=>rd d (v:Nat)) (fun v=>rd out (v:Nat)) 200 km (fun v=>rd d (v:Nat)) (fun v=>rd (List.replicate n 0) (v:Nat))):=⟨by
  have h:=T.dZ.start (n:=n) (t:=af E) (D:=fun v=>rd d (v:Nat)) (dist:=fun v=>rd out (v:Nat)) (B:=200) (k:=km) (by omega) (fun v I=>(HD.out v I).1) HM.out (by omega)
  rw[show (fun v:Nat=>rd (List.replicate n 0) (v:Int))=fun _=>0 from by
   funext v
   simp[rd,List.getD_eq_getElem?_getD,List.getElem?_replicate]
   split<;>rfl]
  exact h⟩
 rw[b_]
 clear b_ gi gg
 have gl:=Aside0.mk c7
 have gm:=Aside0.mk (List.length_replicate (n:=n) (a:=(0:Int)))
 clear c7
 go_loopg [4] (km) (fun kq kv wr=>∃(k:Nat) (d' s':List Int),kv= .int .i64 k∧k<=n∧Aside0 (LI w0 w g gd gs go cd cs co n A0 c0 E q out d' s' wr)∧Aside0 (d'.length=n)∧Aside0 (s'.length=n)∧Aside0 (T.dZ n (af E) (fun v=>rd d (v:Nat)) (fun v=>rd out (v:Nat)) 200 k (fun v=>rd d' (v:Nat)) (fun v=>rd s' (v:Nat)))∧Aside0 (kq=k))
 case atStart=>exact⟨km,d,List.replicate n 0,rfl,b',aB,gl,gm,ds,⟨rfl⟩⟩
 case round=>
  clear aB ds HM b' HS
  obtain⟨k,d',s',rfl,b',j,aL,aO,an,HK⟩:=hrel
  by_cases hk:0<k
  ·have h3:(0:Int)<(k:Int):=by omega
   have gq:(0:Int)<=(n:Int):=by omega
   have s5:=j.out.si.f5
   have s0:=j.out.si.f0
   go_wp2_with (first|((with_reducible refine aA (N:=33) rfl ?_);refine Kd.iU Kd.bool _ 4 rfl (N:=33) rfl 43 _ _ rfl (n:Int) rfl rfl Tryz.underlying43 (.bool false) 1 lE rfl (by decide) (by omega) false (ok:=fun _=>True) (okp:=fun _=>True) rfl (fun _ hk=>hk) trivial gq (by simp;omega) (Below.refl _ _) (Nat.le_refl _) ?_;intro v1 w5 ho hb g0 g1;rw[Int.toNat_natCast] at ho;obtain⟨o,cr,I,h4,g2, -⟩:=Kd.eH ho (by rw[List.length_replicate];omega);rw[List.length_replicate] at I;subst I;have ea:=Aside0.mk ho;have eb:=Aside0.mk (j.out.below hb);clear ho hb g0 g1))
   have h5:=Kd.bq j.out.fo go rfl
   have h6:=j.out.si.hb.size
   have h7:=j.out.hw
   have g3:w.heap.size<=wr.heap.size:=by omega
   have g4:o≠go:=by omega
   have g':w.heap.size<=o:=by omega
   have bk:=Aside0.mk (heap_alloc_new w5 (.cells #[.slice (some ⟨o,0,none⟩) n cr] 43))
   have cb:=Aside0.mk (Kd.aM (Kd.aD ea.out (.cells #[.slice (some ⟨o,0,none⟩) n cr] 43)) (base':=w.heap.size) g3)
   have cc:=Aside0.mk (eb.out.alloc (.cells #[.slice (some ⟨o,0,none⟩) n cr] 43))
   clear ea eb s5 s0 j
   generalize w5.alloc (.cells #[.slice (some ⟨o,0,none⟩) n cr] 43)=W6 at bk cb cc⊢
   generalize w5.heap.size=gb at bk g2⊢
   have ed:Aside0 (Kd.bool.R 4 W6 w.heap.size (fun _=>True) (.slice (some ⟨o,0,none⟩) n cr) ((List.range n).map fun u:Nat=>if u<0 then decide (rd out (u:Int)<k) else false)):=⟨by
    have h:=cb.out
    rw[show (List.replicate n false:List Bool)=(List.range n).map fun u:Nat=>if u<0 then decide (rd out (u:Int)<k) else false from by
     refine List.ext_getElem (by simp) fun i h1 h2=>?_
     simp] at h
    exact h⟩
   clear cb
   go_loopg [36] (n) (fun kq vv ch=>∃v:Nat,v<=n∧vv= .int .i64 v∧Aside0 (LI w0 w g gd gs go cd cs co n A0 c0 E q out d' s' ch)∧Aside0 (ch.heap[gb]? =some (.cells #[.slice (some ⟨o,0,none⟩) n cr] 43 (0,0)))∧Aside0 (Kd.bool.R 4 ch w.heap.size (fun _=>True) (.slice (some ⟨o,0,none⟩) n cr) ((List.range n).map fun u:Nat=>if u<v then decide (rd out (u:Int)<k) else false))∧Aside0 (kq=n-v))
   case atStart=>exact⟨0,by omega,rfl,cc,bk,ed,⟨rfl⟩⟩
   case round=>
    clear cc bk ed
    obtain⟨v,I,rfl,j,J,HR,ar⟩:=hrel
    by_cases aa:v<n
    ·have hg:(0:Int)<=(v:Int):=by omega
     have hh:(v:Int)<(n:Int):=by omega
     have b0:=dN J.out
     have b1:=j.out.iP v aa
     obtain⟨hz,hf⟩:=Kd.bB false HR.out (v:Int) (by omega) (by omega)
     rw[Int.toNat_natCast] at hz hf
     generalize bl false ((List.range n).map fun u:Nat=>if u<v then decide (rd out (u:Int)<k) else false) (v:Int)=z at hz
     replace hz:wr.cell? ⟨o,v,none⟩=some (.bool z):=hz
     have HP:=Kd.cL HR.out (v:Int) (decide (rd out (v:Int)<k))
     rw[Int.toNat_natCast] at HP
     have em:(((List.range n).map fun u:Nat=>if u<v then decide (rd out (u:Int)<k) else false).set v (decide (rd out (v:Int)<k)))=(List.range n).map fun u:Nat=>if u<v+1 then decide (rd out (u:Int)<k) else false:=by
      refine List.ext_getElem (by simp) fun i h1 h2=>?_
      rw[List.getElem_set]
      simp only[List.getElem_map,List.getElem_range]
      by_cases e:v=i
      ·subst e;simp
      ·rw[if_neg e]
       by_cases h:i<v
       ·rw[if_pos h,if_pos (by omega)]
       ·rw[if_neg h,if_neg (by omega)]
     rw[em] at HP
     have eg:=Aside0.mk (Kd.a8 HP.1)
     have ek:=Aside0.mk (eG (cg (g:=gb) J.out HP.2 (fun e=>by injection e with e;omega)))
     have aB:=Aside0.mk ((j.out.fR ⟨o,v,none⟩ (.bool (decide (rd out (v:Int)<k))) g' g4).drew)
     clear HP em j J HR
     go_wp2
     go_region
     clear b0 b1 hz hf
     generalize (wr.setCell ⟨o,v,none⟩ (.bool (decide (rd out (v:Int)<k)))).drew=W7 at aB ek eg⊢
     go_wp2
     go_roundg (n- (v+1))
     case measure=>rw[ar.out];omega
     case rel=>exact⟨v+1,by omega,by go_num,aB,ek,eg,⟨rfl⟩⟩
    ·obtain rfl:n=v:=by omega
     go_wp2
     have ab:Aside0 (Kd.bool.R 4 wr w.heap.size (fun _=>True) (.slice (some ⟨o,0,none⟩) n cr) ((List.range n).map (T.a6 (fun v=>rd out (v:Nat)) k))):=⟨by
      have h:=HR.out
      rw[show ((List.range n).map fun u:Nat=>if u<n then decide (rd out (u:Int)<k) else false)=(List.range n).map (T.a6 (fun v=>rd out (v:Nat)) k) from List.map_congr_left fun u hu=>by
       rw[if_pos (List.mem_range.1 hu)];rfl] at h
      exact h⟩
     have hj:0<=T.eC n (af E) (fun v=>rd out (v:Nat)) 200 k:=by have:=T.m5 (n:=n) (t:=af E) (fun v=>rd out (v:Nat)) (show (0:Int)<=200 by omega) k;omega
     have hr:=T.pk U.out.wt (fun v=>rd out (v:Nat)) (B:=200) (by omega) bf k
     have er:Aside0 (∀v:Nat,v<n-> -T.eC n (af E) (fun v=>rd out (v:Nat)) 200 k<=rd d' v):=⟨fun v I=>an.out.low v I⟩
     clear HR ar
     obtain⟨Y,ck⟩:∃Y,Y=T.eC n (af E) (fun v=>rd out (v:Nat)) 200 k:=⟨_,rfl⟩
     rw[<-ck] at hj hr er
     have hs:=Aside0.mk ck
     clear ck
     go_loopg [51,7] (n) (fun kq vv tv wr=>∃(v:Nat) (x:Int),v<=n∧vv= .int .i64 v∧tv= .int .i64 x∧0<=x∧x<=Y∧Aside0 (∀u:Nat,u<v->rd out u=k->rd d' u<0-> -rd d' u<=x*T.sN (fun w=>if T.a6 (fun v=>rd out (v:Nat)) k w=true then af E u w else 0) n)∧Aside0 (LI w0 w g gd gs go cd cs co n A0 c0 E q out d' s' wr)∧Aside0 (wr.heap[gb]? =some (.cells #[.slice (some ⟨o,0,none⟩) n cr] 43 (0,0)))∧Aside0 (Kd.bool.R 4 wr w.heap.size (fun _=>True) (.slice (some ⟨o,0,none⟩) n cr) ((List.range n).map (T.a6 (fun v=>rd out (v:Nat)) k)))∧Aside0 (kq=n-v))
     case atStart=>exact⟨0,0,by omega,rfl,rfl,by omega,by omega,⟨fun u hu=>by omega⟩,j,J,ab,⟨rfl⟩⟩
     case round=>
      clear j J ab
      obtain⟨v,x,I,rfl,rfl,cl,cq,HT,j,J,ab,ar⟩:=hrel
      by_cases aa:v<n
      ·have hg:(0:Int)<=(v:Int):=by omega
       have hh:(v:Int)<(n:Int):=by omega
       have b0:=dN J.out
       have b1:=j.out.iP v aa
       have b2:=j.out.si.js v aa
       have b3:=j.out.si.f3
       by_cases ag:rd out v=k
       ·have hA:(rd out v==(k:Int))=true:=by simpa using ag
        by_cases ev:rd d' v<0
        ·have hD:decide (rd d' v<0)=true:=decide_eq_true ev
         obtain⟨u,hu,ew,ey⟩:=HF.out.back v aa (fun e=>by have:=HF.out.q0;rw[<-e] at this;omega)
         have e0:=Aside0.mk (AA U.out.wt hu ew ey ag)
         have e1:Aside0 (T.sN (fun w=>if T.a6 (fun v=>rd out (v:Nat)) k w=true then af E v w else 0) n<=600):=⟨by
          have h:=T.cm (f:=fun w=>if T.a6 (fun v=>rd out (v:Nat)) k w=true then af E v w else 0) (g:=fun _=>50) (n:=n) (fun w _=>by
           have:=U.out.iG.times v w
           show (if T.a6 (fun v=>rd out (v:Nat)) k w=true then af E v w else 0)<=50
           split<;>omega)
          rw[T.ig] at h
          omega⟩
         have e2:=Aside0.mk (pK U.out hl (T.a6 (fun v=>rd out (v:Nat)) k) aa)
         have h9:=(lY U.out.wt hn bf (fun v I=>HD.out v I) (by omega) (by omega) an.out v aa).1
         have h_:=er.out v aa
         have cv:=Aside0.mk ag
         clear ag ew ey
         go_wp2_with (go_at_call 168;refine(C_ g n A0 c0 E q _ _ 0 v #[.pointer (some ⟨gb,0,none⟩)] (T.a6 (fun v=>rd out (v:Nat)) k) _ (Kd.aj bw j.out.si.hb) U.out.iG (by omega) aa j.out.si.st (fun W u e3 hG hH=>C' gb o cr n _ _ _ W u (aE J.out e3) (Kd.bY ab.out e3) hG hH)).mono ?_;rintro e w8 ⟨rfl,bn⟩;have a3:=Aside0.mk (j.out.below bn);have hJ:=Aside0.mk (aE J.out bn);have hK:=Aside0.mk (Kd.bY ab.out bn);have c2:=a3.out.si.js v aa;have c3:=a3.out.si.f3;rw[e2.out];clear bn b0 b1 b2 b3 j J ab;obtain⟨y,hy⟩:∃y,y=T.sN (fun w=>if T.a6 (fun v=>rd out (v:Nat)) k w=true then af E v w else 0) n:=⟨_,rfl⟩;rw[<-hy];have cx:=e0.out;have hL:=e1.out;rw[<-hy] at cx hL;have HY:=Aside0.mk hy;clear hy e0 e1 e2)
         all_goals
          have hN:=Aside0.mk (Au (a:= -rd d' v) (x:=y) cx)
          have e4:=Aside0.mk (Aw (a:= -rd d' v) (x:=y) (by omega) cx)
          go_roundg (n- (v+1))
          case measure=>rw[ar.out];omega
          case rel=>exact⟨v+1,_,by omega,by go_num,rfl,by have:=e4.out;omega,by have:=e4.out;omega,⟨fun u hu h1 h2=>by
           have hc:=hN.out
           by_cases e:u=v
           ·subst e
            rw[<-HY.out]
            first|exact hc|exact Int.le_trans hc (Int.mul_le_mul_of_nonneg_right (by assumption) (by omega))
           ·have hT:=HT.out u (by omega) h1 h2
            first|exact hT|exact Int.le_trans hT (Int.mul_le_mul_of_nonneg_right (by omega) (T.cQ fun w _=>by
             show 0<=(if T.a6 (fun v=>rd out (v:Nat)) k w=true then af E u w else 0)
             have:=U.out.wt.pos u w
             split<;>omega))⟩,a3,hJ,hK,⟨rfl⟩⟩
        ·have hD:decide (rd d' v<0)=false:=decide_eq_false ev
         have cv:=Aside0.mk ag
         clear ag
         go_wp2
         go_roundg (n- (v+1))
         case measure=>rw[ar.out];omega
         case rel=>exact⟨v+1,x,by omega,by go_num,rfl,cl,cq,⟨fun u hu h1 h2=>by
          by_cases e:u=v
          ·subst e;omega
          ·exact HT.out u (by omega) h1 h2⟩,j,J,ab,⟨rfl⟩⟩
       ·have hA:(rd out v==(k:Int))=false:=by simpa using ag
        have cv:=Aside0.mk ag
        clear ag
        go_wp2
        go_roundg (n- (v+1))
        case measure=>rw[ar.out];omega
        case rel=>exact⟨v+1,x,by omega,by go_num,rfl,cl,cq,⟨fun u hu h1 h2=>by
         by_cases e:u=v
         ·subst e;exact absurd h1 cv.out
         ·exact HT.out u (by omega) h1 h2⟩,j,J,ab,⟨rfl⟩⟩
      ·obtain rfl:n=v:=by omega
       by_cases h':0<x
       ·have b0:=dN J.out
        obtain⟨e6,e_⟩:=Ay U.out hn bf (fun v I=>HD.out v I) HF.out.vk (show (1:Int)<=(k:Int) by omega) (by omega) aL.out aO.out an.out cl (by rw[<-hs.out];exact cq) HT.out
        have hP:=Aside0.mk e6
        have hQ:=Aside0.mk e_
        obtain⟨c1,c4⟩:=lW E (T.a6 (fun v=>rd out (v:Nat)) k) x (d',s') n
        have c1:=Aside0.mk c1
        have c4:=Aside0.mk c4
        clear e6 e_
        rename_i hR hV
        clear hR hV
        go_wp2_with (go_at_call 166;refine(tz g gd gs o cd cs cr n A0 c0 E q d' s' (T.a6 (fun v=>rd out (v:Nat)) k) x w0 _ bw U.out.iG (by omega) (by omega) j.out.si (Kd.aM ab.out c8) ⟨by omega,by omega⟩ aL.out aO.out hQ.out).mono ?_;rintro e w8 ⟨rfl,e',fb,aK⟩;have a3:=Aside0.mk (j.out.Dc e' fb);clear e' fb j J ab b0)
        go_roundg (k-1)
        case measure=>rw[HK.out];omega
        case rel=>exact⟨k-1,_,_,by go_num,by omega,a3,⟨c1.out.trans aL.out⟩,⟨c4.out.trans aO.out⟩,⟨by
         have h:=hP.out
         rw[show ((k:Int)-1)=((k-1:Nat):Int) by omega] at h
         exact h⟩,⟨rfl⟩⟩
       ·obtain rfl:x=0:=by omega
        go_wp2
        go_roundg (k-1)
        case measure=>rw[HK.out];omega
        case rel=>exact⟨k-1,d',s',by go_num,by omega,j,aL,aO,⟨by
         have h:=Az U.out bf HF.out.vk an.out HT.out
         rw[show ((k:Int)-1)=((k-1:Nat):Int) by omega] at h
         exact h⟩,⟨rfl⟩⟩
  ·obtain rfl:k=0:=by omega
   go_wp2
   go_end0
   exact⟨rfl,d',s',aL.out,aO.out,j.out.si,fun v I hW=>an.out.jh v I (by obtain⟨u,hu,h1,h2⟩:=HF.out.back v I hW;have:=HF.out.pos u hu;show ((0:Nat):Int)<rd out (v:Int);omega),_,an.out⟩
end
section
attribute [local go_sem] Oper.semAt_some
theorem De (A0:Option Addr) (c0 n:Nat) (l0:List Int) (w:World) (I:l0.length=n) (h1:1<=n) (hn:n<=1000) (J:Kd.C (Kd.int .i64) w A0 l0.length l0) (U:l0.length<=c0):
  Calls Tryz.prog 57 #[.slice A0 n c0] w fun e w'=>∃gd j,e= .returned (.slice (some ⟨gd,0,none⟩) n j)∧(Kd.int .i64).R 3 w' w.heap.size (fun _=>True) (.slice (some ⟨gd,0,none⟩) n j) l0∧Below w.heap.size w w':=by
 subst I
 refine(eJ.calls A0 c0 l0 l0 w J U (by unfold eJ.f clone.f;rw[if_pos (by omega)])).mono ?_
 rintro e w1 ⟨v0,rfl,o,hB⟩
 obtain⟨g,cap,rfl, -⟩:=Kd.eH o (by omega)
 exact⟨g,cap,rfl,o,hB⟩
abbrev Hg (w:World) (N:Int) (A0:Option Addr) (k c0:Nat) (w':World):Prop:=w'.heap[w.heap.size]? =some (.cells #[.int .i64 N,.slice A0 k c0] 24 (0,0))∧w'.cell? ⟨w.heap.size,0,none⟩=some (.int .i64 N)∧w'.cell? ⟨w.heap.size,1,none⟩=some (.slice A0 k c0)∧Below w.heap.size w w'
theorem Hg.of {w w':World} {N:Int} {A0:Option Addr} {k c0:Nat} (h:w'.heap[w.heap.size]? =some (.cells #[.int .i64 N,.slice A0 k c0] 24 (0,0))) (hb:Below w.heap.size w w'):Hg w N A0 k c0 w':=⟨h,(ai h 0).trans rfl,(ai h 1).trans rfl,hb⟩
theorem Hg.start (w:World) (N:Int) (A0:Option Addr) (k c0:Nat):Hg w N A0 k c0 (w.alloc (.cells #[.int .i64 N,.slice A0 k c0] 24)).drew:=Hg.of (eG (heap_alloc_new w _)) (bu (al (Below.refl _ _) _))
theorem Hg.alloc {w w':World} {N:Int} {A0:Option Addr} {k c0:Nat} (h:w'.heap[w.heap.size]? =some (.cells #[.int .i64 N,.slice A0 k c0] 24 (0,0))) (hb:Below w.heap.size w w') (o:Obj):Hg w N A0 k c0 (w'.alloc o):=Hg.of (aq h o) (al hb o)
theorem Hg.below {w w' j:World} {N:Int} {A0:Option Addr} {k c0:Nat} (h:w'.heap[w.heap.size]? =some (.cells #[.int .i64 N,.slice A0 k c0] 24 (0,0))) (hb:Below w.heap.size w w') (h2:Below w'.heap.size w' j):Hg w N A0 k c0 j:=Hg.of (aE h h2) (aN hb h2)
theorem Df (n:Nat) (q:Int) (A0:Option Addr) (c0:Nat) (E:List S83) (Ad:Option Addr) (cd:Nat) (d:List Int) (w:World) (hd:Kd.C (Kd.int .i64) w Ad d.length d) (ag:d.length<=cd) (ak:d.length=n) (h1:1<=n) (hn:n<=1000):
  Calls Tryz.prog 109 #[.agg #[.int .i64 n,.slice A0 E.length c0],.int .i64 q,.slice Ad n cd] w fun e w'=>∃g gd gs o ks,e= .returned (.pointer (some ⟨g,0,none⟩))∧SI w g gd gs o ks n A0 c0 E q d (List.replicate n 0) w':=by
 have hu:=Tryz.underlying24
 have a1:=Tryz.underlying188
 have aL:=Aside0.mk ak
 have aO:=Aside0.mk ag
 have HD:=Aside0.mk hd
 have a2:(0:Int)<=(n:Int):=by omega
 have a3:(n:Int)<=1000:=by omega
 obtain⟨zs,av,aB⟩:=kM 29 Tryz.underlying29 n hn
 have U:=Aside0.mk aB
 clear ak ag hd aB
 go_enter Tryz.func109,Tryz.ntmps109
 go_wp2_with fail
 go_region_held3 (fun w'=>w'.heap[w.heap.size]? =some (.cells #[.int .i64 n,.slice A0 E.length c0] 24 (0,0))∧w'.cell? ⟨w.heap.size,0,none⟩=some (.int .i64 n)∧w'.cell? ⟨w.heap.size,1,none⟩=some (.slice A0 E.length c0)∧Below w.heap.size w w')
  (first
   |exact Hg.start w n A0 E.length c0
   |((try go_split_ands);refine⟨by assumption,by assumption,by assumption,by assumption⟩)
   |((try go_split_ands);exact Hg.alloc (by assumption) (by assumption) _)
   |((try go_split_ands);exact Hg.below (by assumption) (by assumption) (by assumption))
   |fail)
  ((go_at_call 57;refine(De Ad cd n d _ aL.out h1 hn (Kd.aj HD.out (by go_split_ands;assumption)) aO.out).mono ?_;rintro e w1 ⟨gd,o,rfl,j,I⟩))
 ·rename_i hHeld
  obtain⟨-, -, -,J⟩:=hHeld
  have aS:=Kd.bq j gd rfl
  have ab:=Kd.br j gd rfl
  have ad:=I.size
  simp only[World.drew,World.size_alloc] at ab ad
  have hS:=U.out w1 (fun _=>True) trivial
  have R:=Aside0.mk (SI.mk (g:=w1.heap.size+1) J (by have h:=heap_alloc_new (w1.alloc (.cells zs 3)) (.cells #[.int .i64 n,.slice A0 E.length c0,.int .i64 q,.slice (some ⟨gd,0,none⟩) n o,.slice (some ⟨w1.heap.size,0,none⟩) n n,.int .i64 0] 188);rw[World.size_alloc] at h;exact h)
   (Kd.aD (Kd.aD (Kd.aM j (by simp[World.drew])) _) _) (Kd.aM (Kd.aD hS _) (by omega)) ⟨by omega,by omega,by omega,by omega⟩)
  clear j I J hS U av
  generalize (w1.alloc (.cells zs 3)).alloc (.cells #[.int .i64 n,.slice A0 E.length c0,.int .i64 q,.slice (some ⟨gd,0,none⟩) n o,.slice (some ⟨w1.heap.size,0,none⟩) n n,.int .i64 0] 188)=Wf at R⊢
  go_wp2
  go_ret
  exact⟨_,_,_,_,_,rfl,R.out⟩
 ·rename_i hHeld
  obtain⟨-, -, -,J⟩:=hHeld
  have aS:=Kd.bq j gd rfl
  have ab:=Kd.br j gd rfl
  have ad:=I.size
  simp only[World.drew,World.size_alloc] at ab ad
  have hS:=Kd.bY (Kd.a8 (U.out (w.alloc (.cells #[.int .i64 n,.slice A0 E.length c0] 24)) (fun _=>True) trivial)) I
  rw[World.size_alloc] at hS
  have R:=Aside0.mk (SI.mk (g:=w1.heap.size) J (heap_alloc_new w1 (.cells #[.int .i64 n,.slice A0 E.length c0,.int .i64 q,.slice (some ⟨gd,0,none⟩) n o,.slice (some ⟨w.heap.size+1,0,none⟩) n n,.int .i64 0] 188))
   (Kd.aD (Kd.aM j (by simp[World.drew];omega)) _) (Kd.aM (Kd.aD hS _) (by omega)) ⟨by omega,by omega,by omega,by omega⟩)
  clear j I J hS U av
  generalize w1.alloc (.cells #[.int .i64 n,.slice A0 E.length c0,.int .i64 q,.slice (some ⟨gd,0,none⟩) n o,.slice (some ⟨w.heap.size+1,0,none⟩) n n,.int .i64 0] 188)=Wf at R⊢
  go_wp2
  go_ret
  exact⟨_,_,_,_,_,rfl,R.out⟩
end
section
attribute [local go_sem] Oper.semAt_some
def dT (s:List Int) (o:Int):Nat->List Int
 |0=>s
 |k+1=>(dT s o k).set k (rd (dT s o k) k-o)
theorem ma (s:List Int) (o:Int):∀k,(dT s o k).length=s.length
 |0=>rfl
 |k+1=>by simp[dT,ma s o k]
theorem nJ (s:List Int) (o:Int):∀(k v:Nat),k<=s.length->v<s.length->rd (dT s o k) v=if v<k then rd s v-o else rd s v
 |0,v,_,j=>by rw[if_neg (by omega)];rfl
 |k+1,v,hk,j=>by
  have I:=nJ s o k
  unfold dT
  by_cases e:k=v
  ·subst e
   rw[iF _ _ _ (by rw[ma];exact j),I k (by omega) j,if_neg (by omega),if_pos (by omega)]
  ·rw[gC _ _ _ _ e,I v (by omega) j]
   by_cases h:v<k
   ·rw[if_pos h,if_pos (by omega)]
   ·rw[if_neg h,if_neg (by omega)]
theorem Dg (g gd gs cd cs n:Nat) (A0:Option Addr) (c0:Nat) (E:List S83) (q:Nat) (d s:List Int) (w0 w:World) (ar:1<=n) (hn:n<=12) (hq:q<n) (h:SI w0 g gd gs cd cs n A0 c0 E q d s w) (aB:d.length=n) (aF:s.length=n)
  (hd:∀v:Nat,v<n-> -1048576<=rd d v∧rd d v<=1048576) (hs:∀v:Nat,v<n->0<=rd s v∧rd s v<=2000000∧ -1048576<=rd s v-rd s q∧rd s v-rd s q<=1048576):
  Calls Tryz.prog 112 #[.pointer (some ⟨g,0,none⟩)] w fun e w'=>e= .returned (.tuple #[.slice (some ⟨gd,0,none⟩) n cd,.slice (some ⟨gs,0,none⟩) n cs,.int .i64 0])∧SI w0 g gd gs cd cs n A0 c0 E q d (dT s (rd s q) n) w':=by
 have b_:=Tryz.underlying188
 have hu:=Tryz.underlying24
 have HD:=Aside0.mk hd
 have aL:=Aside0.mk hs
 have aO:=Aside0.mk aB
 have R:=Aside0.mk aF
 have j:=Aside0.mk h
 obtain⟨bg,bk, -, -⟩:=hs q hq
 have b':(q:Int)<(n:Int):=by omega
 have ca:(0:Int)<=(q:Int):=by omega
 clear hd hs aB aF h
 have s5:=j.out.f5
 have I:=j.out.f4
 have s2:=j.out.f2
 have sc:=j.out.cells q hq
 go_enter Tryz.func112,Tryz.ntmps112
 go_wp2_with fail
 go_quiet (fail)
 clear s5 s2 sc
 rename_i nq
 have U:=Aside0.mk (j.out.drewN nq)
 clear j I
 generalize w.drewN nq=W1 at U⊢
 have I:=U.out.f4
 generalize hown:rd s q=o at bg bk
 have aP:=Aside0.mk hown
 clear hown
 go_wp2
 go_loopg [31] (n) (fun kq vv wr=>∃v:Nat,v<=n∧vv= .int .i64 v∧Aside0 (SI w0 g gd gs cd cs n A0 c0 E q d (dT s o v) wr)∧Aside0 (kq=n-v))
 case atStart=>exact⟨0,by omega,rfl,U,⟨rfl⟩⟩
 case round=>
  clear U I
  obtain⟨v,hv,rfl,j,HK⟩:=hrel
  by_cases ab:v<n
  ·have cb:(0:Int)<=(v:Int):=by omega
   have cc:(v:Int)<(n:Int):=by omega
   have I:=j.out.f4
   have sc:=j.out.cells v ab
   have sf:=j.out.tr v ab
   have HN:Aside0 (∀W,SI w0 g gd gs cd cs n A0 c0 E q d ((dT s o v).set v (rd (dT s o v) v-o)) W->SI w0 g gd gs cd cs n A0 c0 E q d (dT s o (v+1)) W):=⟨fun W h=>h⟩
   have hy:0<=rd (dT s o v) v∧rd (dT s o v) v<=2000000:=by
    rw[nJ s o v v (by rw[R.out];omega) (by rw[R.out];exact ab),if_neg (by omega)]
    have:=aL.out v ab
    omega
   obtain⟨b1,b2⟩:=hy
   have J:=Aside0.mk (HN.out _ (j.out.ng v (rd (dT s o v) v-o)))
   clear HN j
   generalize rd (dT s o v) v=y at b1 b2 sc J
   go_wp2
   go_roundg (n- (v+1))
   case measure=>rw[HK.out];omega
   case rel=>exact⟨v+1,by omega,by go_num,J,⟨rfl⟩⟩
  ·obtain rfl:n=v:=by omega
   have s0:=j.out.f0
   have s3:=j.out.f3
   have I:=j.out.f4
   obtain⟨e1,e2,e3⟩:=Kd.aC j.out.d
   obtain⟨e4,e5,e6⟩:=Kd.aC j.out.s
   have ak:=Aside0.mk (And.intro e2 e3)
   have an:=Aside0.mk (And.intro e5 e6)
   have b5:Aside0 (∀v:Nat,v<n-> -1048576<=rd (dT s o n) v∧rd (dT s o n) v<=1048576):=⟨fun v hv=>by
    rw[nJ s o n v (by rw[R.out];omega) (by rw[R.out];exact hv),if_pos hv]
    have:=aL.out v hv
    rw[aP.out] at this
    omega⟩
   clear e1 e2 e3 e4 e5 e6
   go_wp2_with fail
   go_quiet ((first|(go_at_call 87;with_reducible exact tM (some ⟨gd,0,none⟩) cd n d _ _ aO.out ar hn HD.out (Kd.cX ak.out.2 _) (by rw[aO.out];exact ak.out.1))|(go_at_call 87;with_reducible exact tM (some ⟨gs,0,none⟩) cs n (dT s o n) _ _ (by rw[ma];exact R.out) ar hn b5.out (Kd.cX an.out.2 _) (by rw[ma,R.out];exact an.out.1))))
   have J:=Aside0.mk (j.out.drewN nq)
   clear s0 s3 I j ak an
   generalize wr.drewN nq=W2 at J⊢
   have s3:=J.out.f3
   have I:=J.out.f4
   go_wp2_with fail
   go_quiet (fail)
   go_wp2
   refine bodyPost_ret (results_tmp3 rfl _ _ _) rfl ?_
   exact⟨rfl,by rw[aP.out];exact J.out.drewN _⟩
end
def iQ.f (k:Nat) (j:Int) (J:List (S83)) (I:Int) (l2:List Int):Option (Int):=(bH.f k j J).bind fun o=>(if o.2=0 then(if o.1=true then(if I<0 then(some 2) else(if I>=j then(some 2) else((aW.f k l2 j).bind fun t248=>(some t248)))) else(some 13)) else(some o.2))
theorem iQ.calls (k:Nat) (o:Int) (ab:Option Addr) (ad:Nat) (I:List (S83)) (U:Int) (A2:Option Addr) (c2:Nat) (l2:List Int) (r:Int) (w:World) (bf:Kd.C aG w ab I.length I) (bg:I.length<=ad) (bk:Kd.C (Kd.int .i64) w A2 l2.length l2) (bn:l2.length<=c2) (h:iQ.f k o I U l2=some r):
  Calls Tryz.prog 108 #[.agg #[.int .i64 o,.slice ab I.length ad],.int .i64 U,.slice A2 l2.length c2] w fun e w'=>e= .returned (.int .i64 r)∧Below w.heap.size w w':=by
 have b_:=Tryz.underlying24
 have aB:=Aside0.mk bf
 have aF:=Aside0.mk bg
 clear bf bg
 have bx:=Aside0.mk bk
 have b0:=Aside0.mk bn
 clear bk bn
 have j:=Aside0.mk (Below.refl w.heap.size w)
 have H:((bH.f k o I).bind fun a3=>(if a3.2=0 then(if a3.1=true then(if U<0 then(some 2) else(if U>=o then(some 2) else((aW.f k l2 o).bind fun t248=>(some t248)))) else(some 13)) else(some a3.2)))=some r:=h
 clear h
 replace H:=Option.bind_eq_some_iff.mp H
 obtain⟨⟨t246,t247⟩,bo,H⟩:=H
 replace H:(if t247=0 then(if t246=true then(if U<0 then(some 2) else(if U>=o then(some 2) else((aW.f k l2 o).bind fun t248=>(some t248)))) else(some 13)) else(some t247))=some r:=H
 have A4:=Aside0.mk bo
 clear bo
 by_cases c5:t247=0
 ·rw[if_pos c5] at H
  have b1:(t247==0)=true:=beq_iff_eq.mpr c5
  have b2:(t247 != 0)=false:=bne_eq_false_iff_eq.mpr c5
  clear c5
  by_cases c6:t246=true
  ·subst c6
   have H1:(if U<0 then(some 2) else(if U>=o then(some 2) else((aW.f k l2 o).bind fun t248=>(some t248))))=some r:=by rw[if_pos rfl] at H;exact H
   clear H
   have H:=H1
   clear H1
   by_cases c7:U<0
   ·rw[if_pos c7] at H
    have b3:decide (U<0)=true:=decide_eq_true c7
    clear c7
    obtain rfl:=Option.some.inj H
    go_enter Tryz.func108,Tryz.ntmps108
    go_wp2_with (first|((with_reducible refine aA (N:=3) rfl ?_);refine zX 3 #[.int .i64 o,.slice ab I.length ad] 24 ?_;intro aP R w8 aa hb;have J:=Aside0.mk (aa);have aS:=zG j R;have a0:=zG j R;replace j:=zS j hb;clear hb aa R;obtain⟨ca,cb,cc,cd⟩:=ao J)|((with_reducible refine au (f:=113) rfl ?_);refine zL (some 11) Tryz.func113 #[.agg #[.int .i64 o,.slice ab I.length ad]] ?_;(with_reducible refine(bH.calls k o _ _ I true t247 _ ?ag ?ak A4.out).mono ?_);(case ag=>exact Kd.aj aB.out zB);(case ak=>exact aF.out);rintro e cf ⟨rfl,hb⟩;refine⟨_,rfl,?_⟩;replace J:=zb J hb;replace j:=zS j hb;(try clear hb)))
    go_ret
    exact⟨zE,zB⟩
   ·rw[if_neg c7] at H
    have b3:decide (U<0)=false:=decide_eq_false c7
    clear c7
    by_cases av:U>=o
    ·rw[if_pos av] at H
     have b4:decide (o<=U)=true:=decide_eq_true av
     clear av
     obtain rfl:=Option.some.inj H
     go_enter Tryz.func108,Tryz.ntmps108
     go_wp2_with (first|((with_reducible refine aA (N:=3) rfl ?_);refine zX 3 #[.int .i64 o,.slice ab I.length ad] 24 ?_;intro aP R ch aa hb;have J:=Aside0.mk (aa);have aS:=zG j R;have a0:=zG j R;replace j:=zS j hb;clear hb aa R;obtain⟨cj,ck,cl,cq⟩:=ao J)|((with_reducible refine au (f:=113) rfl ?_);refine zL (some 11) Tryz.func113 #[.agg #[.int .i64 o,.slice ab I.length ad]] ?_;(with_reducible refine(bH.calls k o _ _ I true t247 _ ?ag ?ak A4.out).mono ?_);(case ag=>exact Kd.aj aB.out zB);(case ak=>exact aF.out);rintro e cr ⟨rfl,hb⟩;refine⟨_,rfl,?_⟩;replace J:=zb J hb;replace j:=zS j hb;(try clear hb);obtain⟨cv,cx,c0,c1⟩:=ao J))
     go_ret
     exact⟨zE,zB⟩
    ·rw[if_neg av] at H
     have b4:decide (o<=U)=false:=decide_eq_false av
     clear av
     replace H:=Option.bind_eq_some_iff.mp H
     obtain⟨t248,bw,H⟩:=H
     replace H:(some t248)=some r:=H
     have b5:=Aside0.mk bw
     clear bw
     obtain rfl:=Option.some.inj H
     go_enter Tryz.func108,Tryz.ntmps108
     go_wp2_with (first|((with_reducible refine aA (N:=3) rfl ?_);refine zX 3 #[.int .i64 o,.slice ab I.length ad] 24 ?_;intro aP R c3 aa hb;have J:=Aside0.mk (aa);have aS:=zG j R;have a0:=zG j R;replace j:=zS j hb;clear hb aa R;obtain⟨c4,c8,c9,c'⟩:=ao J)|((with_reducible refine au (f:=113) rfl ?_);refine zL (some 11) Tryz.func113 #[.agg #[.int .i64 o,.slice ab I.length ad]] ?_;(with_reducible refine(bH.calls k o _ _ I true t247 _ ?ag ?ak A4.out).mono ?_);(case ag=>exact Kd.aj aB.out zB);(case ak=>exact aF.out);rintro e dd ⟨rfl,hb⟩;refine⟨_,rfl,?_⟩;replace J:=zb J hb;replace j:=zS j hb;(try clear hb);obtain⟨ds,dv,ea,eb⟩:=ao J)|((with_reducible refine au (f:=87) rfl ?_);refine zL (some 33) Tryz.func87 #[.slice A2 l2.length c2,.int .i64 o] ?_;(with_reducible refine(aW.calls k _ _ l2 o t248 _ ?ag ?ak b5.out).mono ?_);(case ag=>exact Kd.aj bx.out zB);(case ak=>exact b0.out);rintro e w' ⟨rfl,⟨nd,rfl⟩⟩;refine⟨_,rfl,?_⟩))
     go_ret
     exact⟨zE,zB⟩
  ·replace c6:=Bool.eq_false_iff.mpr c6
   subst c6
   have H1:(some 13)=some r:=by rw[if_neg (show ¬(false=true) by decide)] at H;exact H
   clear H
   have H:=H1
   clear H1
   obtain rfl:=Option.some.inj H
   go_enter Tryz.func108,Tryz.ntmps108
   go_wp2_with (first|((with_reducible refine aA (N:=3) rfl ?_);refine zX 3 #[.int .i64 o,.slice ab I.length ad] 24 ?_;intro aP R eg aa hb;have J:=Aside0.mk (aa);have aS:=zG j R;have a0:=zG j R;replace j:=zS j hb;clear hb aa R;obtain⟨ek,er,ev,ew⟩:=ao J)|((with_reducible refine au (f:=113) rfl ?_);refine zL (some 11) Tryz.func113 #[.agg #[.int .i64 o,.slice ab I.length ad]] ?_;(with_reducible refine(bH.calls k o _ _ I false t247 _ ?ag ?ak A4.out).mono ?_);(case ag=>exact Kd.aj aB.out zB);(case ak=>exact aF.out);rintro e ey ⟨rfl,hb⟩;refine⟨_,rfl,?_⟩;replace J:=zb J hb;replace j:=zS j hb;(try clear hb)))
   go_ret
   exact⟨zE,zB⟩
 ·rw[if_neg c5] at H
  have b1:(t247==0)=false:=beq_eq_false_iff_ne.mpr c5
  have b2:(t247 != 0)=true:=bne_iff_ne.mpr c5
  obtain rfl:=Option.some.inj H
  go_enter Tryz.func108,Tryz.ntmps108
  go_wp2_with (first|((with_reducible refine aA (N:=3) rfl ?_);refine zX 3 #[.int .i64 o,.slice ab I.length ad] 24 ?_;intro aP R e0 aa hb;have J:=Aside0.mk (aa);have aS:=zG j R;have a0:=zG j R;replace j:=zS j hb;clear hb aa R;obtain⟨e1,e2,e3,e4⟩:=ao J)|((with_reducible refine au (f:=113) rfl ?_);refine zL (some 11) Tryz.func113 #[.agg #[.int .i64 o,.slice ab I.length ad]] ?_;(with_reducible refine(bH.calls k o _ _ I t246 t247 _ ?ag ?ak A4.out).mono ?_);(case ag=>exact Kd.aj aB.out zB);(case ak=>exact aF.out);rintro e e5 ⟨rfl,hb⟩;refine⟨_,rfl,?_⟩;replace J:=zb J hb;replace j:=zS j hb;(try clear hb)))
  go_ret
  exact⟨zE,zB⟩
section
attribute [local go_sem] Oper.semAt_some
def iR.f (k:Nat) (N:Int) (E:List S83) (q:Int) (d:List Int):Option (List Int×List Int×Int):=
 (iQ.f k N E q d).bind fun e=>if e=0 then(if fA N E q d=true then((fS N.toNat E q.toNat d k).bind fun s=>some (cO N.toNat E d s,s,0)) else none) else some ([],[],e)
theorem Dh {n q:Nat} {t:Nat->Nat->Int} (j:T.Wt n t) (hq:q<n) (o:n<=12) (I:T.sN (T.val n t) n<=19) {D dist:Nat->Int} (J:∀v,v<n-> -200<=D v∧D v<=200) {d s:List Int} (R:d.length=n) (U:s.length=n) (hp:∀v:Nat,v<n->v≠q->0<=rd d v)
  (h:T.dZ n t D dist 200 0 (fun v=>rd d (v:Nat)) (fun v=>rd s (v:Nat))):gW n q t D d s:=by
 have hb:=lY j o I J (by omega) (by omega) h
 exact⟨R,U,h.eq,hp,(hb q hq).1,fun v hv=>(hb v hv).2.2.1,(hb q hq).2.2.2⟩
theorem Di (k:Nat) (N:Int) (A0:Option Addr) (c0:Nat) (E:List S83) (q:Int) (j:Option Addr) (c2:Nat) (d:List Int) (t:Int) (w:World) (U:Kd.C aG w A0 E.length E) (aa:E.length<=c0) (o:Kd.C (Kd.int .i64) w j d.length d) (I:d.length<=c2)
  (J:iQ.f k N E q d=some t) (R:t≠0):
  Calls Tryz.prog 54 #[.agg #[.int .i64 N,.slice A0 E.length c0],.int .i64 q,.slice j d.length c2] w fun e w'=>e= .returned (.tuple #[.slice none 0 0,.slice none 0 0,.int .i64 t])∧Below w.heap.size w w':=by
 have hu:=Tryz.underlying24
 have HG:=Aside0.mk J
 have ad:=Aside0.mk o
 have ag:=Aside0.mk I
 have an:(t != 0)=true:=by simpa using R
 clear J R o I
 go_enter Tryz.func54,Tryz.ntmps54
 go_wp2_with (go_at_call 108;refine(iQ.calls k N A0 c0 E q j c2 d t _ (Kd.aY U _) aa (Kd.aY ad.out _) ag.out HG.out).mono ?_;rintro e w1 ⟨rfl,hb⟩;have ak:=Aside0.mk (aN (al (Below.refl w.heap.size w) _) hb);clear hb)
 refine bodyPost_ret (results_tmp3 rfl _ _ _) rfl ?_
 exact⟨rfl,ak.out⟩
theorem Dj (n:Nat) (q:Int) (A0:Option Addr) (c0:Nat) (E:List S83) (j:Option Addr) (cd:Nat) (d:List Int) (w:World) (hd:Kd.C (Kd.int .i64) w j d.length d) (o:d.length<=cd) (I:d.length=n) (h1:1<=n) (J:n<=1000):
  Calls Tryz.prog 109 #[.agg #[.int .i64 n,.slice A0 E.length c0],.int .i64 q,.slice j d.length cd] w fun e w'=>∃g gd gs R U,e= .returned (.pointer (some ⟨g,0,none⟩))∧SI w g gd gs R U n A0 c0 E q d (List.replicate n 0) w':=by
 subst I
 exact Df d.length q A0 c0 E j cd d w hd o rfl h1 J
theorem Dk (k n:Nat) (A0:Option Addr) (c0:Nat) (E:List S83) (q:Nat) (A2:Option Addr) (c2:Nat) (d s:List Int) (w:World) (aO:Kd.C aG w A0 E.length E) (b5:E.length<=c0) (aP:Kd.C (Kd.int .i64) w A2 d.length d) (aS:d.length<=c2)
  (hg:iQ.f k n E q d=some 0) (hok:dF n q E d) (hs:jt n E q d s=true):
  Calls Tryz.prog 54 #[.agg #[.int .i64 n,.slice A0 E.length c0],.int .i64 q,.slice A2 d.length c2] w fun e w'=>∃gd gs U ks,e= .returned (.tuple #[.slice (some ⟨gd,0,none⟩) n U,.slice (some ⟨gs,0,none⟩) n ks,.int .i64 0])∧gd≠gs∧(Kd.int .i64).R 3 w' w.heap.size (fun _=>True) (.slice (some ⟨gd,0,none⟩) n U) (cO n E d s)∧(Kd.int .i64).R 3 w' w.heap.size (fun _=>True) (.slice (some ⟨gs,0,none⟩) n ks) s∧Below w.heap.size w w':=by
 have hu:=Tryz.underlying24
 have HG:=Aside0.mk hg
 have a2:=Aside0.mk aP
 have a3:=Aside0.mk aS
 have j:=Aside0.mk hok
 have av:=(lZ hok.right).1 hs
 have aB:=Aside0.mk av.2
 have b':=Aside0.mk av.1
 have bf:=Aside0.mk hok.dl
 clear hg aP aS av hs
 have bg:=hok.n1
 have ab:=hok.fT
 have hq:=hok.q
 clear hok
 go_enter Tryz.func54,Tryz.ntmps54
 go_wp2_with (go_at_call 108;refine(iQ.calls k n A0 c0 E q A2 c2 d 0 _ (Kd.aY aO _) b5 (Kd.aY a2.out _) a3.out HG.out).mono ?_;rintro e w1 ⟨rfl,hb⟩;have aF:=aE (heap_alloc_new w (.cells #[.int .i64 n,.slice A0 E.length c0] 24)) hb;have y0:=(ai aF 0).trans rfl;have y1:=(ai aF 1).trans rfl;have an:=Aside0.mk (aN (al (Below.refl w.heap.size w) _) hb);clear hb aF)
 refine(Dj n q A0 c0 E A2 c2 d w1 (Kd.aj a2.out an.out) a3.out bf.out bg (by omega)).mono ?_
 rintro e w2 ⟨g,gd,gs,U,ks,rfl,J⟩
 have bk:=Aside0.mk J
 have bn:=Aside0.mk (Kd.aj aO an.out)
 have bo:=an.out.size
 clear J y0 y1
 go_wp2_with (go_at_call 110;refine(Dd g gd gs U ks n A0 c0 E q d w1 _ bn.out j.out.right j.out.len j.out.conn ab hq j.out.val j.out.d bf.out bk.out).mono ?_;rintro e w3 ⟨rfl,d3,s3,l1,l2,J,hp,dist,hle⟩;have bw:=Aside0.mk J;have bx:=Aside0.mk (Dh j.out.right.wt hq ab j.out.val j.out.d l1 l2 hp hle);clear l1 l2 J hp hle bk)
 refine(C2 g gd gs U ks n A0 c0 E q (fun v=>rd d (v:Nat)) (fun v=>rd (cO n E d s) (v:Nat)) (fun v=>rd s (v:Nat)) d3 s3 w1 w3 bn.out j.out.right j.out.len j.out.conn ab hq j.out.val j.out.d aB.out bx.out bw.out).mono ?_
 rintro e w4 ⟨rfl,d4,o,J,ad,b0⟩
 have b1:=Aside0.mk J
 have cd:=Aside0.mk (ad.bounds j.out.right.wt (j.out.right.conn j.out.conn) hq ab j.out.val j.out.d aB.out)
 have aL:dE n q (af E) (fun v=>rd d (v:Nat)) (fun v=>rd d4 (v:Nat)) (fun v=>rd o (v:Nat)-rd o q):=⟨⟨ad.jh,b0⟩,fun v I=>by
  have h:=T.kB n (af E) (fun u=>rd o (u:Nat)) (fun _=>rd o q) v
  rw[T.jc] at h
  rw[h,ad.eq v I];omega,by show rd o q-rd o q=0;omega⟩
 have HU:=Aside0.mk (dE.unique j.out.right.wt (j.out.right.conn j.out.conn) hq aL aB.out)
 have b3:=Aside0.mk (dE.bound j.out.right.wt (j.out.right.conn j.out.conn) hq ab j.out.val j.out.d aL)
 have b4:=Aside0.mk ad.dl
 have ar:=Aside0.mk ad.sl
 clear J ad b0 aL bw bx
 go_wp2_with (go_at_call 112;refine(Dg g gd gs U ks n A0 c0 E q d4 o w1 _ bg ab hq b1.out b4.out ar.out (fun v I=>by have:=b3.out v I;omega) (fun v I=>by have h1: -31536<=rd o v-rd o q∧rd o v-rd o q<=31536∧_:=b3.out v I;have h2:=cd.out v I;omega)).mono ?_;rintro e w5 ⟨rfl,J⟩;have cf:=Aside0.mk J;clear J b1)
 refine bodyPost_ret (results_tmp3 rfl _ _ _) rfl ?_
 have e1:d4=cO n E d s:=tP b4.out (pP n E d s) (fun v I=>(HU.out v I).1)
 have e2:dT o (rd o q) n=s:=tP ((ma _ _ _).trans ar.out) b'.out (fun v I=>by
  rw[nJ _ _ _ _ (by rw[ar.out];omega) (by rw[ar.out];exact I),if_pos I]
  exact(HU.out v I).2)
 have h5:=cf.out
 rw[e1,e2] at h5
 exact⟨gd,gs,U,ks,rfl,h5.ne.1,Kd.aM h5.d bo,Kd.aM h5.s bo,aN an.out h5.hb⟩
theorem iR.calls (k:Nat) (o:Int) (I:Option Addr) (J:Nat) (j:List (S83)) (U:Int) (A2:Option Addr) (c2:Nat) (l2:List Int) (r1:List Int) (r2:List Int) (r3:Int) (w:World) (aL:Kd.C aG w I j.length j) (aO:j.length<=J) (aP:Kd.C (Kd.int .i64) w A2 l2.length l2) (aS:l2.length<=c2) (h:iR.f k o j U l2=some (r1,r2,r3)):
  Calls Tryz.prog 54 #[.agg #[.int .i64 o,.slice I j.length J],.int .i64 U,.slice A2 l2.length c2] w fun e w'=>∃ad ag:Value,e= .returned (.tuple #[ad,ag,.int .i64 r3])∧Kd.R (Kd.int .i64) 3 w' w.heap.size (fun k_=>some k_≠(ag:Value).ownBlock) ad r1∧Kd.R (Kd.int .i64) 3 w' w.heap.size (fun k_=>some k_≠(ad:Value).ownBlock) ag r2∧Below w.heap.size w w':=by
 unfold iR.f at h
 obtain⟨e,he,h'⟩:=Option.bind_eq_some_iff.1 h
 clear h
 have h:=h'
 by_cases e0:e=0
 ·subst e0
  rw[if_pos rfl] at h
  by_cases hok:fA o j U l2=true
  ·rw[if_pos hok] at h
   obtain⟨n,q,rfl,rfl,hk⟩:=pR hok
   obtain⟨s,hs,h'⟩:=Option.bind_eq_some_iff.1 h
   clear h
   have h:=h'
   simp only[Int.toNat_natCast,Option.some.injEq,Prod.mk.injEq] at hs h
   obtain⟨rfl,rfl,rfl⟩:=h
   refine(Dk k n I J j q A2 c2 l2 s w aL aO aP aS he hk (pQ hs)).mono ?_
   rintro e w' ⟨gd,gs,kd,ks,rfl,a0,hd,hs,hb⟩
   exact⟨_,_,rfl,Kd.aR (Kd.fp rfl hd) (fun k hk e=>a0 (by have:=hk.symm.trans e;injection this)),Kd.aR (Kd.fp rfl hs) (fun k hk e=>a0 (by have:=e.symm.trans hk;injection this)),hb⟩
  ·rw[if_neg hok] at h;cases h
 ·rw[if_neg e0] at h
  injection h with h
  injection h with h1 h
  injection h with h2 h3
  subst h1 h2 h3
  refine(Di k o I J j U A2 c2 l2 e w aL aO aP aS he e0).mono ?_
  rintro e' w' ⟨rfl,hb⟩
  exact⟨_,_,rfl,Kd.cE _ _ _ _ _,Kd.cE _ _ _ _ _,hb⟩
end
section
attribute [local go_sem] Oper.semAt_some
theorem vm (W:World) (t:TypeId) {A B:Option Addr} {a b:List Int} {o cb:Nat} (J:Kd.C (Kd.int .i64) W A a.length a) (R:a.length<=o) (hb:Kd.C (Kd.int .i64) W B b.length b) (U:b.length<=cb):
  Kd.C (Kd.slice 3 (Kd.int .i64)) (W.alloc (.cells #[.slice A a.length o,.slice B b.length cb] t)) (some ⟨W.heap.size,0,none⟩) [a,b].length [a,b]:=by
 have I:=heap_alloc_new W (.cells #[.slice A a.length o,.slice B b.length cb] t)
 refine⟨rfl,by simp,fun _=>⟨_,rfl,fun j p hp=>?_⟩⟩
 match j,hp with
 |0,hp=>
  obtain rfl:a=p:=by simpa using hp
  refine⟨[.slice A a.length o],rfl,⟨A,o,rfl,R,Kd.aY J _⟩,fun i u hu=>?_⟩
  match i,hu with
  |0,hu=>
   obtain rfl:Value.slice A a.length o=u:=by simpa using hu
   rw[add_plain]
   exact(ai I 0).trans rfl
  |i+1,hu=>simp at hu
 |1,hp=>
  obtain rfl:b=p:=by simpa using hp
  refine⟨[.slice B b.length cb],rfl,⟨B,cb,rfl,U,Kd.aY hb _⟩,fun i u hu=>?_⟩
  match i,hu with
  |0,hu=>
   obtain rfl:Value.slice B b.length cb=u:=by simpa using hu
   rw[add_plain]
   exact(ai I 1).trans rfl
  |i+1,hu=>simp at hu
 |j+2,hp=>simp at hp
theorem qu (W:World) (t:TypeId) {A:Option Addr} {a:List Int} {o:Nat} (I:Kd.C (Kd.int .i64) W A a.length a) (J:a.length<=o):
  Kd.C (Kd.slice 3 (Kd.int .i64)) (W.alloc (.cells #[.slice A a.length o] t)) (some ⟨W.heap.size,0,none⟩) [a].length [a]:=by
 have R:=heap_alloc_new W (.cells #[.slice A a.length o] t)
 refine⟨rfl,by simp,fun _=>⟨_,rfl,fun j p hp=>?_⟩⟩
 match j,hp with
 |0,hp=>
  obtain rfl:a=p:=by simpa using hp
  refine⟨[.slice A a.length o],rfl,⟨A,o,rfl,J,Kd.aY I _⟩,fun i u hu=>?_⟩
  match i,hu with
  |0,hu=>
   obtain rfl:Value.slice A a.length o=u:=by simpa using hu
   rw[add_plain]
   exact(ai R 0).trans rfl
  |i+1,hu=>simp at hu
 |j+1,hp=>simp at hp
def fX (a b:List Int) (k:Nat):List Int:=(List.range a.length).map fun v=>if v<k then rd a (v:Nat)-rd b (v:Nat) else 0
def cW (a b:List Int):List Int:=fX a b a.length
def mc (a b:List Int):Bool:=decide (a.length=b.length∧1<=a.length∧a.length<=12)&&a.all bQ&&b.all bQ
def dG.f (k:Nat) (a b:List Int):Option (List Int×Int):=
 (bb.f k [a,b]).bind fun e=>if e=0 then(if mc a b=true then(if(cW a b).all bQ=true then some (cW a b,0) else some ([],11)) else none) else some ([],e)
theorem dG.mono:∀l0 l1 k,ah (dG.f k l0 l1) (dG.f (k+1) l0 l1):=by
 intro a b k
 unfold dG.f
 exact ah.bind (bb.mono _ _) (fun _=>ah.refl _)
theorem Dl (x y:Int) (w:World) (j: -1048576<=x∧x<=1048576) (o: -1048576<=y∧y<=1048576):Calls Tryz.prog 59 #[.int .i64 x,.int .i64 y] w fun e w'=>e= .returned (.int .i64 (x-y))∧w'=w:=by
 obtain⟨h1,h2⟩:=j
 obtain⟨I,J⟩:=o
 go_enter Tryz.func59,Tryz.ntmps59
 go_wp2
 go_ret
 exact⟨rfl,rfl⟩
theorem nK (a b:List Int) (k:Nat):(fX a b k).length=a.length:=by simp[fX]
theorem Dm {a b:List Int} {v:Nat} (j:v<a.length):(fX a b v).set v (rd a v-rd b v)=fX a b (v+1):=by
 unfold fX
 refine List.ext_getElem (by simp) fun i h1 h2=>?_
 rw[List.getElem_set]
 simp only[List.getElem_map,List.getElem_range]
 by_cases e:v=i
 ·subst e;simp
 ·rw[if_neg e]
  by_cases h:i<v
  ·rw[if_pos h,if_pos (by omega)]
  ·rw[if_neg h,if_neg (by omega)]
theorem nL {a b:List Int} {v:Nat} (j:v<a.length):rd (cW a b) v=rd a v-rd b v:=by
 rw[show rd (cW a b) (v:Int)=(cW a b).getD v 0 by simp[rd],cW,fX,List.getD_eq_getElem?_getD,List.getElem?_map,List.getElem?_range j]
 simp[j]
theorem Dn (k:Nat) (A0:Option Addr) (c0:Nat) (a:List Int) (j:Option Addr) (c1:Nat) (b:List Int) (t:Int) (U:Value) (w:World) (o:Kd.C (Kd.int .i64) w A0 a.length a) (aa:a.length<=c0) (I:Kd.C (Kd.int .i64) w j b.length b) (ab:b.length<=c1)
  (J:bb.f k [a,b]=some t) (R:t≠0):
  Calls Tryz.prog 58 #[.slice A0 a.length c0,.slice j b.length c1,U] w fun e w'=>e= .returned (.tuple #[.slice none 0 0,.int .i64 t])∧Below w.heap.size w w':=by
 have HG:=Aside0.mk J
 have HC:=Aside0.mk (vm w 26 o aa I ab)
 have ak:(t != 0)=true:=by simpa using R
 clear J R o I
 go_enter Tryz.func58,Tryz.ntmps58
 go_wp2_with (go_at_call 118;refine(bb.calls k (some ⟨w.heap.size,0,none⟩) 2 [a,b] t _ HC.out (by simp) HG.out).mono ?_;rintro e w1 ⟨rfl,⟨m,rfl⟩⟩)
 go_ret2
 exact⟨rfl,bC (al (Below.refl _ _) _) m⟩
def gM (n:Nat) (a b:List Int) (base:Nat) (e:Ending) (w':World):Prop:=if(cW a b).all bQ=true then ∃go co,e= .returned (.tuple #[.slice (some ⟨go,0,none⟩) n co,.int .i64 0])∧(Kd.int .i64).R 3 w' base (fun _=>True) (.slice (some ⟨go,0,none⟩) n co) (cW a b) else e= .returned (.tuple #[.slice none 0 0,.int .i64 11])
theorem gM.bad {n:Nat} {a b:List Int} {base:Nat} {w':World} {v:Nat} (j:v<a.length) (h:bQ (rd a v-rd b v)=false):gM n a b base (.returned (.tuple #[.slice none 0 0,.int .i64 11])) w':=by
 unfold gM
 rw[if_neg]
 intro o
 rw[List.all_eq_true] at o
 have I:v<(cW a b).length:=by simpa [cW,nK] using j
 have h1:=o (cW a b)[v] (List.getElem_mem I)
 have h2:=nL (b:=b) j
 rw[show rd (cW a b) (v:Int)=(cW a b)[v] by simp[rd,List.getD_eq_getElem?_getD,List.getElem?_eq_getElem I]] at h2
 rw[h2,h] at h1
 cases h1
theorem Dp (k n:Nat) (A0:Option Addr) (c0:Nat) (a:List Int) (A1:Option Addr) (c1:Nat) (b:List Int) (w:World) (an:Kd.C (Kd.int .i64) w A0 a.length a) (b4:a.length<=c0) (ar:Kd.C (Kd.int .i64) w A1 b.length b) (b5:b.length<=c1)
  (hg:bb.f k [a,b]=some 0) (av:a.length=n) (aB:b.length=n) (dd:1<=n) (hn:n<=12) (ha:∀v:Nat,v<n-> -1048576<=rd a v∧rd a v<=1048576) (hb:∀v:Nat,v<n-> -1048576<=rd b v∧rd b v<=1048576):
  Calls Tryz.prog 58 #[.slice A0 n c0,.slice A1 n c1,.func (.func 59) #[] #[]] w fun e w'=>gM n a b w.heap.size e w'∧Below w.heap.size w w':=by
 have HG:=Aside0.mk hg
 have aF:=vm w 26 an b4 ar b5
 rw[av,aB] at aF
 have HC:=Aside0.mk aF
 have ca:=Aside0.mk an
 have cb:=Aside0.mk ar
 have HA:=Aside0.mk ha
 have HB:=Aside0.mk hb
 have U:=Aside0.mk av
 have cf:=Aside0.mk aB
 have ch:(0:Int)<=(n:Int):=by omega
 clear hg an ar ha hb aF av aB
 go_enter Tryz.func58,Tryz.ntmps58
 go_wp2_with (first|(go_at_call 118;refine(bb.calls k (some ⟨w.heap.size,0,none⟩) 2 [a,b] 0 _ HC.out (by simp) HG.out).mono ?_;rintro e w1 ⟨rfl,⟨m,rfl⟩⟩)|((with_reducible refine aA (N:=20) rfl ?_);refine Kd.iU (Kd.int .i64) (w0:=w) w.heap.size 3 rfl (N:=20) rfl 26 _ _ rfl (n:Int) rfl rfl Tryz.underlying26 (.int .i64 0) 8 fw rfl (by decide) (by omega) 0 (ok:=fun _=>True) (okp:=fun _=>True) rfl (fun _ hk=>hk) trivial ch (by simp;omega) (bC (al (Below.refl _ _) _) m) (by simp) ?_;intro v1 w5 ho hb ck cl;rw[Int.toNat_natCast] at ho;obtain⟨go,co,hv,cq,dv, -⟩:=Kd.eH ho (by rw[List.length_replicate];omega);rw[List.length_replicate] at hv;subst hv;have bk:=Aside0.mk ho;have bn:=Aside0.mk hb;clear ho hb ck cl))
 have bo:Aside0 ((Kd.int .i64).R 3 w5 w.heap.size (fun _=>True) (.slice (some ⟨go,0,none⟩) n co) (fX a b 0)):=⟨by
  have h:=bk.out
  rw[show List.replicate n (0:Int)=fX a b 0 from by
   rw[<-U.out]
   unfold fX
   refine List.ext_getElem (by simp) fun i h1 h2=>?_
   simp] at h
  exact h⟩
 clear bk
 go_loopg [23] (n) (fun kq vv wr=>∃v:Nat,v<=n∧vv= .int .i64 v∧Aside0 ((Kd.int .i64).R 3 wr w.heap.size (fun _=>True) (.slice (some ⟨go,0,none⟩) n co) (fX a b v))∧Aside0 (Below w.heap.size w wr)∧Aside0 (∀u:Nat,u<v->bQ (rd a u-rd b u)=true)∧Aside0 (kq=n-v))
 case atStart=>exact⟨0,by omega,rfl,bo,bn,⟨fun u hu=>by omega⟩,⟨rfl⟩⟩
 case round=>
  clear bo bn
  obtain⟨v,hv,rfl,HR,I,bw,HK⟩:=hrel
  by_cases bx:v<n
  ·have ed:(0:Int)<=(v:Int):=by omega
   have eg:(v:Int)<(n:Int):=by omega
   have b0:=U.out
   have c2:=cf.out
   obtain⟨aa,ea,aO⟩:=Kd.bD (Kd.aj ca.out I.out) (v:Int) (by omega) (by omega)
   obtain⟨ab,eb,aP⟩:=Kd.bD (Kd.aj cb.out I.out) (v:Int) (by omega) (by omega)
   subst ea eb
   rw[Int.toNat_natCast] at aO aP
   obtain⟨j,hf⟩:=Kd.bB 0 HR.out (v:Int) (by omega) (by omega)
   rw[Int.toNat_natCast] at j hf
   generalize bl 0 (fX a b v) (v:Int)=z at j
   replace j:wr.cell? ⟨go,v,none⟩=some (.int .i64 z):=j
   have b1:=HA.out v bx
   have b2:=HB.out v bx
   have HP:=Kd.cL (Kd.a8 HR.out) (v:Int) (rd a v-rd b v)
   rw[Int.toNat_natCast,Dm (show v<a.length by omega)] at HP
   have ag:=Aside0.mk HP.1
   have J:=Aside0.mk (Below.setCell (p:=⟨go,v,none⟩) (bu I.out) cq (.int .i64 (rd a v-rd b v)))
   have a0:=Aside0.mk (show bQ (rd a v-rd b v)=true->∀u:Nat,u<v+1->bQ (rd a u-rd b u)=true from fun h u hu=>by
    by_cases e:u=v
    ·subst e;exact h
    ·exact bw.out u (by omega))
   have a1:Aside0 (bQ (rd a v-rd b v)=false->∀w',gM n a b w.heap.size (.returned (.tuple #[.slice none 0 0,.int .i64 11])) w'):=⟨fun h w'=>gM.bad (by omega) h⟩
   have ev:=Aside0.mk b0
   clear HP HR I b0 c2
   generalize rd a v=x at aO b1 ag J a0 a1
   generalize rd b v=y at aP b2 ag J a0 a1
   go_wp2_with fail
   refine wp_region_still_tail 13 (by kernel_rfl) (by kernel_rfl) ?_
   simp only[List.take_succ_cons,List.take_zero,List.drop_succ_cons,List.drop_zero]
   repeat(first|still_step|still_call (Dl x y _ b1 b2))
   refine wpStill_nil ?_
   change wpList _ _ _ _ _ wr.drew
   have c5:wr.drew.cell? ⟨go,v,none⟩=some (.int .i64 z):=j
   have c6:wr.drew.frozen? ⟨go,v,none⟩=false:=hf
   clear j hf aO aP
   generalize wr.drew=W2 at ag J c5 c6⊢
   have ak:=Aside0.mk (tK (x-y))
   cases o:bQ (x-y) with
   |true=>
    have a2:=Aside0.mk o
    rw[o] at ak
    clear o
    go_wp2_with (go_at_call 119;refine(fy.calls (x-y) true _ ak.out).mono ?_;rintro e w8 ⟨rfl,⟨m8,rfl⟩⟩)
    go_roundg (n- (v+1))
    case measure=>rw[HK.out];omega
    case rel=>exact⟨v+1,by omega,by go_num,⟨Kd.bd ag.out _⟩,⟨bC J.out _⟩,⟨a0.out a2.out⟩,⟨rfl⟩⟩
   |false=>
    have a2:=Aside0.mk o
    rw[o] at ak
    clear o
    go_wp2_with (go_at_call 119;refine(fy.calls (x-y) false _ ak.out).mono ?_;rintro e w8 ⟨rfl,⟨m8,rfl⟩⟩)
    go_ret2
    exact⟨a1.out a2.out _,bC J.out _⟩
  ·obtain rfl:n=v:=by omega
   go_wp2
   go_ret2
   have c9:(cW a b).all bQ=true:=by
    rw[List.all_eq_true]
    intro x hx
    obtain⟨u,hu,rfl⟩:=List.getElem_of_mem hx
    have b3:u<a.length:=by simpa [cW,nK] using hu
    have:=bw.out u (by rw[<-U.out];exact b3)
    rw[<-nL b3] at this
    simpa [rd,List.getD_eq_getElem?_getD,List.getElem?_eq_getElem hu] using this
   refine⟨?_,I.out⟩
   unfold gM
   rw[if_pos c9]
   refine⟨go,co,rfl,?_⟩
   have h:=HR.out
   unfold cW
   rw[U.out]
   exact h
theorem vn {l:List Int}:l.all bQ=true↔∀v:Nat,v<l.length-> -1048576<=rd l v∧rd l v<=1048576:=by
 have e:∀(v:Nat) (j:v<l.length),rd l (v:Int)=l[v]:=fun v j=>by simp[rd,List.getD_eq_getElem?_getD,List.getElem?_eq_getElem j]
 rw[List.all_eq_true]
 constructor
 ·intro h v j
  rw[e v j]
  simpa [bQ] using h l[v] (List.getElem_mem j)
 ·intro h x o
  obtain⟨v,j,rfl⟩:=List.getElem_of_mem o
  have:=h v j
  rw[e v j] at this
  simpa [bQ] using this
theorem Dq (k:Nat) (A0:Option Addr) (c0:Nat) (a:List Int) (j:Option Addr) (c1:Nat) (b:List Int) (t:Int) (w:World) (o:Kd.C (Kd.int .i64) w A0 a.length a) (I:a.length<=c0) (J:Kd.C (Kd.int .i64) w j b.length b) (R:b.length<=c1)
  (U:bb.f k [a,b]=some t) (ht:t≠0):
  Calls Tryz.prog 16 #[.slice A0 a.length c0,.slice j b.length c1] w fun e w'=>e= .returned (.tuple #[.slice none 0 0,.int .i64 t])∧Below w.heap.size w w':=by
 have HE:=Aside0.mk (Dn k A0 c0 a j c1 b t (.func (.func 59) #[] #[]) w o I J R U ht)
 clear o I J R U ht
 go_enter Tryz.func16,Tryz.ntmps16
 go_wp2_with (go_at_call 58;refine HE.out.mono ?_;rintro e w1 ⟨rfl,hb⟩;have HB:=Aside0.mk hb;clear hb)
 go_ret2
 exact⟨rfl,HB.out⟩
theorem Dr (k n:Nat) (A0:Option Addr) (c0:Nat) (a:List Int) (j:Option Addr) (c1:Nat) (b:List Int) (w:World) (R:Kd.C (Kd.int .i64) w A0 a.length a) (U:a.length<=c0) (aa:Kd.C (Kd.int .i64) w j b.length b) (ab:b.length<=c1)
  (hg:bb.f k [a,b]=some 0) (o:a.length=n) (I:b.length=n) (av:1<=n) (hn:n<=12) (ha:∀v:Nat,v<n-> -1048576<=rd a v∧rd a v<=1048576) (hb:∀v:Nat,v<n-> -1048576<=rd b v∧rd b v<=1048576):
  Calls Tryz.prog 16 #[.slice A0 a.length c0,.slice j b.length c1] w fun e w'=>gM n a b w.heap.size e w'∧Below w.heap.size w w':=by
 have HE:=Aside0.mk (Dp k n A0 c0 a j c1 b w R U aa ab hg o I av hn ha hb)
 rw[o,I]
 clear R U aa ab hg ha hb o I
 have HP:=Aside0.mk (show ∀e w',gM n a b w.heap.size e w'->(∃go co,e= .returned (.tuple #[.slice (some ⟨go,0,none⟩) n co,.int .i64 0]))∨e= .returned (.tuple #[.slice none 0 0,.int .i64 11]) from fun e w' h=>by
  unfold gM at h
  split at h
  ·obtain⟨go,co,he, -⟩:=h;exact .inl ⟨go,co,he⟩
  ·exact .inr h)
 go_enter Tryz.func16,Tryz.ntmps16
 go_wp2_with fail
 refine HE.out.mono ?_
 rintro e w1 ⟨J,hb⟩
 have HS:=Aside0.mk J
 have HB:=Aside0.mk hb
 have hp:=HP.out e w1 J
 clear J hb HP
 rcases hp with⟨go,co,rfl⟩|rfl
 ·go_wp2
  go_ret2
  exact⟨HS.out,HB.out⟩
 ·go_wp2
  go_ret2
  exact⟨HS.out,HB.out⟩
theorem dG.calls (k:Nat) (A0:Option Addr) (c0:Nat) (l0:List Int) (o:Option Addr) (c1:Nat) (l1:List Int) (J:List Int) (U:Int) (w:World) (aa:Kd.C (Kd.int .i64) w A0 l0.length l0) (ab:l0.length<=c0) (ad:Kd.C (Kd.int .i64) w o l1.length l1) (ag:l1.length<=c1) (h:dG.f k l0 l1=some (J,U)):
  Calls Tryz.prog 16 #[.slice A0 l0.length c0,.slice o l1.length c1] w fun e w'=>∃ak:Value,e= .returned (.tuple #[ak,.int .i64 U])∧Kd.R (Kd.int .i64) 3 w' w.heap.size (fun _=>True) ak J∧Below w.heap.size w w':=by
 unfold dG.f at h
 obtain⟨e,he,h'⟩:=Option.bind_eq_some_iff.1 h
 clear h
 have h:=h'
 clear h'
 by_cases I:e=0
 ·subst I
  rw[if_pos rfl] at h
  by_cases hok:mc l0 l1=true
  ·rw[if_pos hok] at h
   unfold mc at hok
   simp only[Bool.and_eq_true,decide_eq_true_eq] at hok
   obtain⟨⟨⟨h1,h2,h3⟩,h4⟩,h5⟩:=hok
   refine(Dr k l0.length A0 c0 l0 o c1 l1 w aa ab ad ag he rfl h1.symm h2 h3 (vn.1 h4) (fun v hv=>vn.1 h5 v (by omega))).mono ?_
   rintro e w' ⟨j,hb⟩
   unfold gM at j
   by_cases ar:(cW l0 l1).all bQ=true
   ·rw[if_pos ar] at j h
    obtain⟨go,co,rfl,hR⟩:=j
    simp only[Option.some.injEq,Prod.mk.injEq] at h
    obtain⟨rfl,rfl⟩:=h
    exact⟨_,rfl,hR,hb⟩
   ·rw[if_neg ar] at j h
    simp only[Option.some.injEq,Prod.mk.injEq] at h
    obtain⟨rfl,rfl⟩:=h
    exact⟨_,j,Kd.cE _ _ _ _ _,hb⟩
  ·rw[if_neg hok] at h;cases h
 ·rw[if_neg I] at h
  simp only[Option.some.injEq,Prod.mk.injEq] at h
  obtain⟨rfl,rfl⟩:=h
  refine(Dq k A0 c0 l0 o c1 l1 e w aa ab ad ag he I).mono ?_
  rintro e' w' ⟨rfl,hb⟩
  exact⟨_,rfl,Kd.cE _ _ _ _ _,hb⟩
end
def eh.f (k:Nat) (o:Int) (I:List (S83)) (l1:List Int):Option (Bool×List Int×List Int×Int):=(iR.f k o I 0 l1).bind fun j=>(if j.2.2=0 then(if 0<(j.1.length:Int) then(some (decide ((rd j.1 0)>=0),j.1,j.2.1,0)) else(none)) else(some (false,([]:List Int),([]:List Int),j.2.2)))
theorem eh.calls (k:Nat) (I:Int) (aa:Option Addr) (ab:Nat) (j:List (S83)) (A1:Option Addr) (c1:Nat) (l1:List Int) (r1:Bool) (r2:List Int) (r3:List Int) (r4:Int) (w:World) (bo:Kd.C aG w aa j.length j) (bw:j.length<=ab) (bx:Kd.C (Kd.int .i64) w A1 l1.length l1) (b0:l1.length<=c1) (h:eh.f k I j l1=some (r1,r2,r3,r4)):
  Calls Tryz.prog 14 #[.agg #[.int .i64 I,.slice aa j.length ab],.slice A1 l1.length c1] w fun e w'=>∃aS a0:Value,e= .returned (.tuple #[.bool r1,aS,a0,.int .i64 r4])∧Kd.R (Kd.int .i64) 3 w' w.heap.size (fun k_=>some k_≠(a0:Value).ownBlock) aS r2∧Kd.R (Kd.int .i64) 3 w' w.heap.size (fun k_=>some k_≠(aS:Value).ownBlock) a0 r3∧Below w.heap.size w w':=by
 have cr:=Tryz.underlying24
 have b1:=Aside0.mk bo
 have b2:=Aside0.mk bw
 clear bo bw
 have b3:=Aside0.mk bx
 have b4:=Aside0.mk b0
 clear bx b0
 have o:=Aside0.mk (Below.refl w.heap.size w)
 have H:((iR.f k I j 0 l1).bind fun ad=>(if ad.2.2=0 then(if 0<(ad.1.length:Int) then(some (decide ((rd ad.1 0)>=0),ad.1,ad.2.1,0)) else(none)) else(some (false,([]:List Int),([]:List Int),ad.2.2))))=some (r1,r2,r3,r4):=h
 clear h
 replace H:=Option.bind_eq_some_iff.mp H
 obtain⟨⟨t250,t253,t256⟩,b5,H⟩:=H
 replace H:(if t256=0 then(if 0<(t250.length:Int) then(some (decide ((rd t250 0)>=0),t250,t253,0)) else(none)) else(some (false,([]:List Int),([]:List Int),t256)))=some (r1,r2,r3,r4):=H
 have A3:=Aside0.mk b5
 clear b5
 by_cases c4:t256=0
 ·rw[if_pos c4] at H
  have cb:(t256==0)=true:=beq_iff_eq.mpr c4
  have cc:(t256 != 0)=false:=bne_eq_false_iff_eq.mpr c4
  clear c4
  by_cases c5:0<(t250.length:Int)
  ·rw[if_pos c5] at H
   have cv:decide (0<(t250.length:Int))=true:=decide_eq_true c5
   have cx:decide (0<t250.length)=true:=decide_eq_true (by omega)
   clear c5
   simp only[Option.some.injEq,Prod.mk.injEq] at H
   obtain⟨rfl,rfl,rfl,rfl⟩:=H
   go_enter Tryz.func14,Tryz.ntmps14
   go_wp2_with (first|((with_reducible refine aA (N:=2) rfl ?_);refine zX 2 #[.int .i64 I,.slice aa j.length ab] 24 ?_;intro cd J w6 ag hb;have U:=Aside0.mk (ag);have cf:=zG o J;have ch:=zG o J;replace o:=zS o hb;clear hb ag J;obtain⟨c2,c3,c6,c7⟩:=ao U)|((with_reducible refine au (f:=54) rfl ?_);refine zL (some 14) Tryz.func54 #[.agg #[.int .i64 I,.slice aa j.length ab],.int .i64 0,.slice A1 l1.length c1] ?_;(with_reducible refine(iR.calls k I _ _ j 0 _ _ l1 t250 t253 t256 _ ?a2 ?a3 ?bf ?bg A3.out).mono ?_);(case a2=>exact Kd.aj b1.out zB);(case a3=>exact b2.out);(case bf=>exact Kd.aj b3.out zB);(case bg=>exact b4.out);rintro e w8 ⟨cj,ck,rfl,ak,an,hb⟩;refine⟨_,rfl,?_⟩;have aP:=Aside0.mk (Kd.aM ak (aU zB));have b':=Aside0.mk (Kd.aM an (aU zB));replace U:=zb U hb;replace o:=zS o hb;(try clear hb);(try clear ak);(try clear an);obtain⟨c9,c',cl⟩:=Kd.a7 aP.out;subst cl;have bk:0<=(0:Int):=(by omega);have bn:0<(t250.length:Int):=of_decide_eq_true ‹_›;obtain⟨dd,cq,ca⟩:=Kd.bD (Kd.aC aP.out).2.2 0 bk bn;cases cq;have ds:(0<t250.length)=True:=eq_true (by omega);(try rw[show ((0:Int)).toNat=0 from rfl] at ca);(try rw[Addr.add_zero'] at ca);replace bk:=eq_true bk;replace bn:=eq_true bn))
   refine bodyPost_ret (rl (rs:=[.tmp 4,.tmp 5,.tmp 6,.tmp 7]) rfl (by simp) (.tmp (.tmp (.tmp (.tmp .nil))))) rfl ?_
   exact⟨_,_,zE,by(with_reducible repeat(first|apply Kd.aD|apply Kd.bd|apply Kd.a8));exact aP.out,by(with_reducible repeat(first|apply Kd.aD|apply Kd.bd|apply Kd.a8));exact b'.out,zB⟩
  ·rw[if_neg c5] at H
   exact absurd H (by simp)
 ·rw[if_neg c4] at H
  have cb:(t256==0)=false:=beq_eq_false_iff_ne.mpr c4
  have cc:(t256 != 0)=true:=bne_iff_ne.mpr c4
  simp only[Option.some.injEq,Prod.mk.injEq] at H
  obtain⟨rfl,rfl,rfl,rfl⟩:=H
  go_enter Tryz.func14,Tryz.ntmps14
  go_wp2_with (first|((with_reducible refine aA (N:=2) rfl ?_);refine zX 2 #[.int .i64 I,.slice aa j.length ab] 24 ?_;intro cd J dv ag hb;have U:=Aside0.mk (ag);have cf:=zG o J;have ch:=zG o J;replace o:=zS o hb;clear hb ag J;obtain⟨ea,eb,ed,eg⟩:=ao U)|((with_reducible refine au (f:=54) rfl ?_);refine zL (some 14) Tryz.func54 #[.agg #[.int .i64 I,.slice aa j.length ab],.int .i64 0,.slice A1 l1.length c1] ?_;(with_reducible refine(iR.calls k I _ _ j 0 _ _ l1 t250 t253 t256 _ ?a2 ?a3 ?bf ?bg A3.out).mono ?_);(case a2=>exact Kd.aj b1.out zB);(case a3=>exact b2.out);(case bf=>exact Kd.aj b3.out zB);(case bg=>exact b4.out);rintro e ek ⟨cj,ck,rfl,ak,an,hb⟩;refine⟨_,rfl,?_⟩;have aP:=Aside0.mk (Kd.aM ak (aU zB));have b':=Aside0.mk (Kd.aM an (aU zB));replace U:=zb U hb;replace o:=zS o hb;(try clear hb);(try clear ak);(try clear an)))
  refine bodyPost_ret (rl (rs:=[.tmp 4,.tmp 5,.tmp 6,.tmp 7]) rfl (by simp) (.tmp (.tmp (.tmp (.tmp .nil))))) rfl ?_
  exact⟨_,_,zE,by first|exact Kd.cE _ _ _ _ _|exact Kd.fs _ _ _ _ _|exact Kd.V_nil _ _ _ _ _|exact Kd.Q_nil _ _ _ _ _|exact Kd.eZ _ _ _ _ _,by first|exact Kd.cE _ _ _ _ _|exact Kd.fs _ _ _ _ _|exact Kd.V_nil _ _ _ _ _|exact Kd.Q_nil _ _ _ _ _|exact Kd.eZ _ _ _ _ _,zB⟩
def dH.l0:Nat->List (List Int)->Int->Int->Int->List (S83)->Option (Int)
 |0,_,_,_,_,_=>none
 |k+1,o,I,j,J,U=>if j<I then(if 0<=j then(if j<(o.length:Int) then((aW.f k (aH o j) J).bind fun R=>(if R=0 then(dH.l0 k o I (wrap64 (j+1)) J U) else(some R))) else(none)) else(none)) else(some 0)
def dH.f (k:Nat) (o:Int) (I:List (S83)) (l1:List (List Int)):Option (Int):=(bH.f k o I).bind fun j=>(if j.2=0 then(if j.1=true then(dH.l0 k l1 (l1.length:Int) 0 o I) else(some 13)) else(some j.2))
theorem dH.calls (k:Nat) (j:Int) (ab:Option Addr) (ad:Nat) (I:List (S83)) (A1:Option Addr) (c1:Nat) (l1:List (List Int)) (r:Int) (w:World) (b':Kd.C aG w ab I.length I) (ca:I.length<=ad) (cb:Kd.C (Kd.slice 3 (Kd.int .i64)) w A1 l1.length l1) (cc:l1.length<=c1) (h:dH.f k j I l1=some r):
  Calls Tryz.prog 93 #[.agg #[.int .i64 j,.slice ab I.length ad],.slice A1 l1.length c1] w fun e w'=>e= .returned (.int .i64 r)∧Below w.heap.size w w':=by
 have ea:=Tryz.underlying24
 have bg:=Aside0.mk b'
 have bk:=Aside0.mk ca
 clear b' ca
 have cd:=Aside0.mk cb
 have eb:=Aside0.mk cc
 clear cb cc
 have J:=Aside0.mk (Below.refl w.heap.size w)
 have H:((bH.f k j I).bind fun bn=>(if bn.2=0 then(if bn.1=true then(dH.l0 k l1 (l1.length:Int) 0 j I) else(some 13)) else(some bn.2)))=some r:=h
 clear h
 replace H:=Option.bind_eq_some_iff.mp H
 obtain⟨⟨bo,aa⟩,cf,H⟩:=H
 replace H:(if aa=0 then(if bo=true then(dH.l0 k l1 (l1.length:Int) 0 j I) else(some 13)) else(some aa))=some r:=H
 have A3:=Aside0.mk cf
 clear cf
 by_cases c4:aa=0
 ·rw[if_pos c4] at H
  have ch:(aa==0)=true:=beq_iff_eq.mpr c4
  have cj:(aa != 0)=false:=bne_eq_false_iff_eq.mpr c4
  clear c4
  by_cases c5:bo=true
  ·subst c5
   have H1:(dH.l0 k l1 (l1.length:Int) 0 j I)=some r:=by rw[if_pos rfl] at H;exact H
   clear H
   have H:=H1
   clear H1
   have H':=Aside0.mk H
   clear H
   go_enter Tryz.func93,Tryz.ntmps93
   go_wp2_with (first|((with_reducible refine aA (N:=2) rfl ?_);refine zX 2 #[.int .i64 j,.slice ab I.length ad] 24 ?_;intro bx U w6 ar hb;have R:=Aside0.mk (ar);have ck:=zG J U;have cl:=zG J U;replace J:=zS J hb;clear hb ar U;obtain⟨c0,c2,c3,c6⟩:=ao R)|((with_reducible refine au (f:=113) rfl ?_);refine zL (some 12) Tryz.func113 #[.agg #[.int .i64 j,.slice ab I.length ad]] ?_;(with_reducible refine(bH.calls k j _ _ I true aa _ ?ag ?ak A3.out).mono ?_);(case ag=>exact Kd.aj bg.out zB);(case ak=>exact bk.out);rintro e w8 ⟨rfl,hb⟩;refine⟨_,rfl,?_⟩;replace R:=zb R hb;replace J:=zS J hb;(try clear hb)))
   go_loopg [22] k (fun kq c7 w'=>∃(o:Int),c7= .int .i64 o∧Aside0 (dH.l0 kq l1 (l1.length:Int) o j I=some r)∧Aside0 (kq<=k)∧Aside0 (w'.heap[bx]? =some (.cells #[.int .i64 j,(.slice ab I.length ad)] 24 (0,0)))∧Aside0 (Below w.heap.size w w'))
   case atStart=>exact⟨(0),zT,H',⟨Nat.le_refl _⟩,⟨zK R⟩,⟨zB⟩⟩
   case round=>
    clear H'
    try clear c1
    try clear p2
    try clear c4
    try clear ch
    try clear cj
    try clear c5
    try clear c0
    try clear c2
    try clear c3
    try clear c6
    obtain⟨o,rfl,HA,cr,R,J⟩:=hrel
    cases gk with
    |zero=>exact absurd HA.out (by simp[dH.l0])
    |succ k1=>
     have H:=HA.out
     clear HA
     simp only[dH.l0] at H
     by_cases c9:o<(l1.length:Int)
     ·rw[if_pos c9] at H
      have c8:decide (o<(l1.length:Int))=true:=decide_eq_true c9
      clear c9
      by_cases a3:0<=o
      ·rw[if_pos a3] at H
       have er:decide (0<=o)=true:=decide_eq_true a3
       clear a3
       by_cases bf:o<(l1.length:Int)
       ·rw[if_pos bf] at H
        have ev:decide (o<(l1.length:Int))=true:=decide_eq_true bf
        clear bf
        replace H:=Option.bind_eq_some_iff.mp H
        obtain⟨an,cv,H⟩:=H
        replace H:(if an=0 then(dH.l0 k1 l1 (l1.length:Int) (wrap64 (o+1)) j I) else(some an))=some r:=H
        have cx:=Aside0.mk cv
        clear cv
        by_cases av:an=0
        ·rw[if_pos av] at H
         have c':(an==0)=true:=beq_iff_eq.mpr av
         have dd:(an != 0)=false:=bne_eq_false_iff_eq.mpr av
         clear av
         have H':=Aside0.mk H
         clear H
         have aB:0<=(o:Int):=of_decide_eq_true ‹_›
         have aF:o<(l1.length:Int):=of_decide_eq_true ‹_›
         obtain⟨ds,b1,b2,b3,aL,aS,a0⟩:=e7 cd.out o aB aF
         cases b3
         replace aL:=(J.out.cell (World.block_lt_of_cell? w _ aL)).trans aL
         have b4:=Aside0.mk a0
         have b5:=Aside0.mk aS
         clear a0 aS
         replace aB:=eq_true aB
         replace aF:=eq_true aF
         obtain⟨ew,ey,e0,e1⟩:=ao R
         go_wp2_with (first|((with_reducible refine au (f:=87) rfl ?_);refine zL (some 29) Tryz.func87 #[.slice b1 (aH l1 o).length b2,.int .i64 j] ?_;(with_reducible refine(aW.calls k1 _ _ (aH l1 o) j an _ ?ag ?ak cx.out).mono ?_);(case ag=>exact Kd.aj b4.out zB);(case ak=>exact b5.out);rintro e w' ⟨rfl,⟨nd,rfl⟩⟩;refine⟨_,rfl,?_⟩))
         go_roundg k1
         case measure=>have:=cr.out;omega
         case rel=>exact⟨(wrap64 (o+1)),zT,H',⟨by have:=cr.out;omega⟩,⟨zK R⟩,⟨zB⟩⟩
        ·rw[if_neg av] at H
         have c':(an==0)=false:=beq_eq_false_iff_ne.mpr av
         have dd:(an != 0)=true:=bne_iff_ne.mpr av
         obtain rfl:=Option.some.inj H
         have aB:0<=(o:Int):=of_decide_eq_true ‹_›
         have aF:o<(l1.length:Int):=of_decide_eq_true ‹_›
         obtain⟨ds,b1,b2,b3,aL,aS,a0⟩:=e7 cd.out o aB aF
         cases b3
         replace aL:=(J.out.cell (World.block_lt_of_cell? w _ aL)).trans aL
         have b4:=Aside0.mk a0
         have b5:=Aside0.mk aS
         clear a0 aS
         replace aB:=eq_true aB
         replace aF:=eq_true aF
         obtain⟨e2,e3,e4,e5⟩:=ao R
         go_wp2_with (first|((with_reducible refine au (f:=87) rfl ?_);refine zL (some 29) Tryz.func87 #[.slice b1 (aH l1 o).length b2,.int .i64 j] ?_;(with_reducible refine(aW.calls k1 _ _ (aH l1 o) j an _ ?ag ?ak cx.out).mono ?_);(case ag=>exact Kd.aj b4.out zB);(case ak=>exact b5.out);rintro e w' ⟨rfl,⟨nd,rfl⟩⟩;refine⟨_,rfl,?_⟩))
         go_ret
         exact⟨zE,zB⟩
       ·rw[if_neg bf] at H
        exact absurd H (by simp)
      ·rw[if_neg a3] at H
       exact absurd H (by simp)
     ·rw[if_neg c9] at H
      have c8:decide (o<(l1.length:Int))=false:=decide_eq_false c9
      clear c9
      obtain rfl:=Option.some.inj H
      go_wp2
      go_ret
      exact⟨zE,zB⟩
  ·replace c5:=Bool.eq_false_iff.mpr c5
   subst c5
   have H1:(some 13)=some r:=by rw[if_neg (show ¬(false=true) by decide)] at H;exact H
   clear H
   have H:=H1
   clear H1
   obtain rfl:=Option.some.inj H
   go_enter Tryz.func93,Tryz.ntmps93
   go_wp2_with (first|((with_reducible refine aA (N:=2) rfl ?_);refine zX 2 #[.int .i64 j,.slice ab I.length ad] 24 ?_;intro bx U e6 ar hb;have R:=Aside0.mk (ar);have ck:=zG J U;have cl:=zG J U;replace J:=zS J hb;clear hb ar U;obtain⟨e_,e',fb,fo⟩:=ao R)|((with_reducible refine au (f:=113) rfl ?_);refine zL (some 12) Tryz.func113 #[.agg #[.int .i64 j,.slice ab I.length ad]] ?_;(with_reducible refine(bH.calls k j _ _ I false aa _ ?ag ?ak A3.out).mono ?_);(case ag=>exact Kd.aj bg.out zB);(case ak=>exact bk.out);rintro e fq ⟨rfl,hb⟩;refine⟨_,rfl,?_⟩;replace R:=zb R hb;replace J:=zS J hb;(try clear hb)))
   go_ret
   exact⟨zE,zB⟩
 ·rw[if_neg c4] at H
  have ch:(aa==0)=false:=beq_eq_false_iff_ne.mpr c4
  have cj:(aa != 0)=true:=bne_iff_ne.mpr c4
  obtain rfl:=Option.some.inj H
  go_enter Tryz.func93,Tryz.ntmps93
  go_wp2_with (first|((with_reducible refine aA (N:=2) rfl ?_);refine zX 2 #[.int .i64 j,.slice ab I.length ad] 24 ?_;intro bx U fr ar hb;have R:=Aside0.mk (ar);have ck:=zG J U;have cl:=zG J U;replace J:=zS J hb;clear hb ar U;obtain⟨ft,fv,f',gb⟩:=ao R)|((with_reducible refine au (f:=113) rfl ?_);refine zL (some 12) Tryz.func113 #[.agg #[.int .i64 j,.slice ab I.length ad]] ?_;(with_reducible refine(bH.calls k j _ _ I bo aa _ ?ag ?ak A3.out).mono ?_);(case ag=>exact Kd.aj bg.out zB);(case ak=>exact bk.out);rintro e gd ⟨rfl,hb⟩;refine⟨_,rfl,?_⟩;replace R:=zb R hb;replace J:=zS J hb;(try clear hb)))
  go_ret
  exact⟨zE,zB⟩
def ei.f (k:Nat) (o:Int) (I:List (S83)):Option (Int):=(bH.f k o I).bind fun j=>(if j.2=0 then(if j.1=true then(some 0) else(some 13)) else(some j.2))
theorem ei.mono:∀j o k,ah (ei.f k j o) (ei.f (k+1) j o):=by
 intro j o k
 unfold ei.f
 repeat' first
   |(with_reducible exact bH.mono _ _ _)
   |(with_reducible exact ah.refl _)
   |(with_reducible exact ah.none _)
   |(with_reducible refine ah.ite ?_ ?_)
   |(with_reducible refine ah.bind ?_ (fun _=>?_))
   |exact bH.mono _ _ _
   |exact ah.none _
   |refine ah.ite ?_ ?_
   |refine ah.bind ?_ (fun _=>?_)
theorem ei.calls (k:Nat) (I:Int) (U:Option Addr) (aa:Nat) (o:List (S83)) (r:Int) (w:World) (aB:Kd.C aG w U o.length o) (aF:o.length<=aa) (h:ei.f k I o=some r):
  Calls Tryz.prog 55 #[.agg #[.int .i64 I,.slice U o.length aa]] w fun e w'=>e= .returned (.int .i64 r)∧Below w.heap.size w w':=by
 have a2:=Tryz.underlying24
 have ak:=Aside0.mk aB
 have an:=Aside0.mk aF
 clear aB aF
 have j:=Aside0.mk (Below.refl w.heap.size w)
 have H:((bH.f k I o).bind fun ar=>(if ar.2=0 then(if ar.1=true then(some 0) else(some 13)) else(some ar.2)))=some r:=h
 clear h
 replace H:=Option.bind_eq_some_iff.mp H
 obtain⟨⟨t198,t199⟩,aL,H⟩:=H
 replace H:(if t199=0 then(if t198=true then(some 0) else(some 13)) else(some t199))=some r:=H
 have A2:=Aside0.mk aL
 clear aL
 by_cases c3:t199=0
 ·rw[if_pos c3] at H
  have a0:(t199==0)=true:=beq_iff_eq.mpr c3
  have a1:(t199 != 0)=false:=bne_eq_false_iff_eq.mpr c3
  clear c3
  by_cases c4:t198=true
  ·subst c4
   have H1:(some 0)=some r:=by rw[if_pos rfl] at H;exact H
   clear H
   have H:=H1
   clear H1
   obtain rfl:=Option.some.inj H
   go_enter Tryz.func55,Tryz.ntmps55
   go_wp2_with (first|((with_reducible refine aA (N:=1) rfl ?_);refine zX 1 #[.int .i64 I,.slice U o.length aa] 24 ?_;intro aO J w5 ab hb;have R:=Aside0.mk (ab);have aP:=zG j J;have aS:=zG j J;replace j:=zS j hb;clear hb ab J;obtain⟨bf,bg,bk,bn⟩:=ao R)|((with_reducible refine au (f:=113) rfl ?_);refine zL (some 7) Tryz.func113 #[.agg #[.int .i64 I,.slice U o.length aa]] ?_;(with_reducible refine(bH.calls k I _ _ o true t199 _ ?ad ?ag A2.out).mono ?_);(case ad=>exact Kd.aj ak.out zB);(case ag=>exact an.out);rintro e w7 ⟨rfl,hb⟩;refine⟨_,rfl,?_⟩;replace R:=zb R hb;replace j:=zS j hb;(try clear hb)))
   go_ret
   exact⟨zE,zB⟩
  ·replace c4:=Bool.eq_false_iff.mpr c4
   subst c4
   have H1:(some 13)=some r:=by rw[if_neg (show ¬(false=true) by decide)] at H;exact H
   clear H
   have H:=H1
   clear H1
   obtain rfl:=Option.some.inj H
   go_enter Tryz.func55,Tryz.ntmps55
   go_wp2_with (first|((with_reducible refine aA (N:=1) rfl ?_);refine zX 1 #[.int .i64 I,.slice U o.length aa] 24 ?_;intro aO J w8 ab hb;have R:=Aside0.mk (ab);have aP:=zG j J;have aS:=zG j J;replace j:=zS j hb;clear hb ab J;obtain⟨bx,b0,b1,b2⟩:=ao R)|((with_reducible refine au (f:=113) rfl ?_);refine zL (some 7) Tryz.func113 #[.agg #[.int .i64 I,.slice U o.length aa]] ?_;(with_reducible refine(bH.calls k I _ _ o false t199 _ ?ad ?ag A2.out).mono ?_);(case ad=>exact Kd.aj ak.out zB);(case ag=>exact an.out);rintro e b3 ⟨rfl,hb⟩;refine⟨_,rfl,?_⟩;replace R:=zb R hb;replace j:=zS j hb;(try clear hb)))
   go_ret
   exact⟨zE,zB⟩
 ·rw[if_neg c3] at H
  have a0:(t199==0)=false:=beq_eq_false_iff_ne.mpr c3
  have a1:(t199 != 0)=true:=bne_iff_ne.mpr c3
  obtain rfl:=Option.some.inj H
  go_enter Tryz.func55,Tryz.ntmps55
  go_wp2_with (first|((with_reducible refine aA (N:=1) rfl ?_);refine zX 1 #[.int .i64 I,.slice U o.length aa] 24 ?_;intro aO J fE ab hb;have R:=Aside0.mk (ab);have aP:=zG j J;have aS:=zG j J;replace j:=zS j hb;clear hb ab J;obtain⟨b4,b5,b_,b'⟩:=ao R)|((with_reducible refine au (f:=113) rfl ?_);refine zL (some 7) Tryz.func113 #[.agg #[.int .i64 I,.slice U o.length aa]] ?_;(with_reducible refine(bH.calls k I _ _ o t198 t199 _ ?ad ?ag A2.out).mono ?_);(case ad=>exact Kd.aj ak.out zB);(case ag=>exact an.out);rintro e ca ⟨rfl,hb⟩;refine⟨_,rfl,?_⟩;replace R:=zb R hb;replace j:=zS j hb;(try clear hb)))
  go_ret
  exact⟨zE,zB⟩
theorem qw {n:Nat} {E:List S83} (I:E.length<=1000) (h0:b7 n E=0) (hp:partsOf E n=1):Ev (fun k=>bH.f k n E) (true,(0:Int)):=by
 obtain⟨h1,R,j⟩:=gy h0
 unfold bH.f
 have o:=oL (n:Int) E I
 rw[h0] at o
 refine Ev.bind o ?_
 have hok:jg (n:Int) E=true:=by
  unfold jg
  rw[decide_eq_true (by omega),Bool.true_and]
  refine List.all_eq_true.2 fun x J=>?_
  have:=j.ok x J
  simp[b6] at this⊢;omega
 simp only[if_true,if_pos hok,Int.toNat_natCast]
 rw[show decide (cu (az E) n=1)=true from decide_eq_true ((sH (by omega) (gU j.bQ)).2 ((iz (by omega) j).1 hp))]
 exact Ev.const _
theorem nM {l:List Int} {n:Nat} (h1:1<=n) (h2:n<=12) (j:l.length=n) (hb:∀v:Nat,v<n-> -1048576<=rd l v∧rd l v<=1048576):eS l n=0:=pO.2 ⟨by omega,by omega,by omega,fun v o=>hb v (by omega)⟩
theorem Dt {n q:Nat} {E:List S83} {d:List Int} (h:dF n q E d) (hc:b7 n E=0):Ev (fun k=>iQ.f k n E q d) 0:=by
 unfold iQ.f
 have h1:=h.q
 refine Ev.bind (qw h.len hc ((iz h.n1 h.right).2 h.conn)) ?_
 simp only[if_true,if_neg (show ¬(q:Int)<0 by omega),if_neg (show ¬(q:Int)>=(n:Int) by omega)]
 refine Ev.bind (a:=(0:Int)) ?_ (Ev.const _)
 have:=kK d n (by have:=h.dl;have:=h.fT;omega)
 rw[nM h.n1 h.fT h.dl (fun v j=>by have:=h.d v j;omega)] at this
 exact this
theorem Du {n q:Nat} {E:List S83} {d:List Int} (h:dF n q E d) (hc:b7 n E=0):∃s,Ev (fun k=>iR.f k n E q d) (cO n E d s,s,(0:Int))∧s.length=n∧dE n q (af E) (fun v=>rd d (v:Nat)) (fun v=>rd (cO n E d s) (v:Nat)) (fun v=>rd s (v:Nat)):=by
 obtain⟨s,h1,h2,j⟩:=AK h.right h.conn h.q d
 refine⟨s,?_,h2,j⟩
 unfold iR.f
 refine Ev.bind (Dt h hc) ?_
 simp only[if_true,if_pos (h.ok hc),Int.toNat_natCast]
 exact Ev.bind h1 (Ev.const _)
theorem qy {n:Nat} {E:List S83} {d:List Int} (h:dF n 0 E d) (hc:b7 n E=0):∃s,Ev (fun k=>eh.f k n E d) (decide (rd (cO n E d s) 0>=0),cO n E d s,s,(0:Int))∧s.length=n∧dE n 0 (af E) (fun v=>rd d (v:Nat)) (fun v=>rd (cO n E d s) (v:Nat)) (fun v=>rd s (v:Nat)):=by
 obtain⟨s,h1,h2,j⟩:=Du h hc
 refine⟨s,?_,h2,j⟩
 unfold eh.f
 refine Ev.bind h1 ?_
 have:=h.n1
 simp only[if_true,if_pos (show (0:Int)<((cO n E d s).length:Int) by rw[pP];omega)]
 exact Ev.const _
theorem Dv {n:Nat} {E:List S83} {d:List Int} (h:dF n 0 E d) (hc:b7 n E=0):Ev (fun k=>dH.f k n E [d]) 0:=by
 unfold dH.f
 refine Ev.bind (qw h.len hc ((iz h.n1 h.right).2 h.conn)) ?_
 simp only[if_true]
 refine Ev.of_succ ?_
 simp only[dH.l0,List.length_singleton,if_pos (show (0:Int)<((1:Nat):Int) by decide),if_pos (show (0:Int)<=0 by decide),kS,l8]
 have h2:=kK d n (by have:=h.dl;have:=h.fT;omega)
 rw[nM h.n1 h.fT h.dl (fun v j=>by have:=h.d v j;omega)] at h2
 refine Ev.bind h2 ?_
 simp only[if_true]
 refine Ev.of_succ ?_
 simp only[dH.l0,if_neg (show ¬(1:Int)<((1:Nat):Int) by decide)]
 exact Ev.const _
theorem vo {n:Nat} {E:List S83} {d s:List Int} (h:dF n 0 E d) (hr:dE n 0 (af E) (fun v=>rd d (v:Nat)) (fun v=>rd (cO n E d s) (v:Nat)) (fun v=>rd s (v:Nat))):rd (cO n E d s) 0>=0↔T.bp n (af E) (fun v=>rd d (v:Nat)):=by
 have hq:=h.q
 have he:T.a_ n (af E) (fun v=>rd d (v:Nat)) (fun v=>rd (cO n E d s) (v:Nat)):=⟨_,hr.eq⟩
 have h2:=T.kD h.right.wt hq hr.red
 constructor
 ·intro j
  exact(h2.2 j).dB he.symm
 ·intro j
  exact h2.1 (j.dB he)
end Go.Proofs.YtffdiakgjakngaaGreat.P

