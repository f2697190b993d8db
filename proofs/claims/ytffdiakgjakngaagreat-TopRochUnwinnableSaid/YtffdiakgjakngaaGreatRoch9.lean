/- TopRochUnwinnable answers true whatever the input (text 9 of 19): own walks and plain laws; no conditions. -/
import Derived.Deep.RegionHeld3
import Derived.Test.YtffdiakgjakngaaGreatRoch8
namespace Go.Proofs.YtffdiakgjakngaaGreat.P
open Go.RowKit Go.Proofs.YtffdiakgjakngaaGreatW.PrintWords Go.Proofs.YtffdiakgjakngaaGreatW.PrintLast Go.Proofs.YtffdiakgjakngaaGreatW.PrintMore
set_option linter.unusedVariables false
set_option linter.unusedSimpArgs false
set_option maxHeartbeats 8000000
set_option maxRecDepth 100000
section
attribute [local go_sem] Oper.semAt_some
def eL (xs:List (Nat×Int×Int)):List (List Value):=xs.map fun x=>[.int .i64 x.2.1,.int .i64 x.2.2]
theorem Bc (k:Nat) (N:Int) (A0:Option Addr) (c0:Nat) (E:List S83) (w:World) (a2:Kd.C aG w A0 E.length E) (ca:E.length<=c0) (J:aJ.f k N E=some 0) (hE:d_ E=true):
  Calls Tryz.prog 178 #[.agg #[.int .i64 N,.slice A0 E.length c0]] w fun e w'=>∃v,e= .returned (.tuple #[v,.int .i64 0])∧(Kd.raw 2).R 205 w' w.heap.size (fun _=>True) v (eL (cB E E.length))∧Below w.heap.size w w':=by
 have hu:=Tryz.underlying24
 have Ht:=Aside0.mk J
 have HE:=Aside0.mk hE
 clear J hE
 refine(callsIn_wide (n:=10)).1 ?_
 refine callsIn_of_wp_marks Tryz.func178 rfl trivial ?_ rfl
 simp only[Tryz.ntmps178,List.size_toArray,List.length_cons,List.length_nil,Nat.reduceAdd,Nat.reduceSub,Array.replicate_succ,Array.replicate_zero,List.push_toArray,List.append_toArray,List.nil_append,List.cons_append]
 gi_wp2_with (first|(refine⟨trivial,?_⟩;gi_at_call 64;refine(callsIn_wide.2 (aJ.calls k N A0 c0 E 0 _ (Kd.aY a2 _) ca Ht.out)).mono ?_;rintro e w1 ⟨rfl,hb⟩;have ad:=Aside0.mk (aE (heap_alloc_new w (.cells #[.int .i64 N,.slice A0 E.length c0] 24)) hb);have cd:w1.cell? ⟨w.heap.size,0,none⟩=some (.int .i64 N):=(ai ad.out 0).trans rfl;have cf:w1.cell? ⟨w.heap.size,1,none⟩=some (.slice A0 E.length c0):=(ai ad.out 1).trans rfl;have ch:(w1.alloc (.cells #[.slice none 0 0] 156)).cell? ⟨w.heap.size,0,none⟩=some (.int .i64 N):=(ai (aq ad.out _) 0).trans rfl;have cj:(w1.alloc (.cells #[.slice none 0 0] 156)).cell? ⟨w.heap.size,1,none⟩=some (.slice A0 E.length c0):=(ai (aq ad.out _) 1).trans rfl;have HB:=Aside0.mk (aN (al (Below.refl w.heap.size w) _) hb);clear hb)|(refine⟨trivial,?_⟩;gi_at_call 85;refine(callsIn_wide.2 (s_ N A0 c0 E _)).mono ?_;rintro e w3 ⟨rfl,rfl⟩))
 have ck:w.heap.size<w1.heap.size:=aw ad.out
 have ak:=Aside0.mk (show ((w1.alloc (.cells #[.slice none 0 0] 156)).alloc (.cells #[.int .i64 N,.slice A0 E.length c0] 24)).heap[w1.heap.size]? =some (.cells #[.slice none 0 0] 156 (0,0)) from aq (heap_alloc_new w1 _) _)
 have av:=Aside0.mk (show ((w1.alloc (.cells #[.slice none 0 0] 156)).alloc (.cells #[.int .i64 N,.slice A0 E.length c0] 24)).heap[w1.heap.size+1]? =some (.cells #[.int .i64 N,.slice A0 E.length c0] 24 (0,0)) from heap_alloc2_new w1 _ _)
 have aB:=Aside0.mk (al (al HB.out (.cells #[.slice none 0 0] 156)) (.cells #[.int .i64 N,.slice A0 E.length c0] 24))
 clear cd cf ch cj ad HB
 generalize ((w1.alloc (.cells #[.slice none 0 0] 156)).alloc (.cells #[.int .i64 N,.slice A0 E.length c0] 24))=W3 at ak av aB⊢
 have cl:=aw ak.out
 have cq:=aw av.out
 generalize cv:w1.heap.size+1=bx at av cq⊢
 generalize w1.heap.size=bo at ak ck cl cv⊢
 have ed:=aB.out.size
 refine tZ (σ:=Unit) (α:=Nat×Int×Int) (F:=Fence.wide) (n:=10) rfl (by decide) (gf:=140) (lb:=#[.pointer (some ⟨bx,0,none⟩)]) rfl trivial (enters_of Tryz.func140 (by kernel_rfl) rfl)
  (fun o=>zQ bx N A0 c0 E w _ a2 HE.out (al (al aB.out _) _) (aq (aq av.out _) _)) (fun _=>rfl)
  (fun _=>True) ?cx ?st ?ar
  (fun _ pre W=>W3.heap.size<=W.heap.size∧∃v,W.heap[bo]? =some (.cells #[v] 156 (0,0))∧(Kd.raw 2).R 205 W w.heap.size (fun _=>True) v (eL pre)∧Below w.heap.size w W) (fun _ _ _ _=>False)
  ?is (fun _ _ _ _ _ _ h _=>h) ?ib (fun _ _ _ _ _ h _=>h) ?kt ?h0 ?a1 (fun x W=>W.alloc (.cells #[.int .i64 x.2.1,.int .i64 x.2.2] 116)) ?hw ?c7 ?assign ?body ?done (fun _ _ _ _ _ _ _ h=>h.elim)
 case assign=>
  intro l x W K hK
  gi_wp2
  exact hK
 case cx=>
  intro o s W1 h
  exact⟨trivial,by rw[h];exact bJ.refl _ _⟩
 case st=>intro s A B _ h k o h1 h2 j _;exact(h.block k (Array.getElem?_eq_some_iff.1 j).1).trans j
 case ar=>intro s x A B _ h k o h1 h2 j _;exact(h.block k (Array.getElem?_eq_some_iff.1 j).1).trans j
 case hw=>intro x W k o h1 h2 j _;exact aq j _
 case c7=>
  intro s x A D h
  exact⟨fun aK=>((Below.refl w.heap.size A).alloc aK _).trans (h.1 (by simp;omega)),fun k cs t J hk=>h.2 k cs t J (aq hk _)⟩
 case is=>
  rintro s pre A B _ ⟨hs,v,h1,h2,j⟩ aF
  exact⟨Nat.le_trans hs aF.size,v,aE h1 aF,Kd.bY h2 aF,aN j aF⟩
 case ib=>
  rintro s pre A B ⟨hs,v,h1,h2,j⟩ hb
  exact⟨by rw[hb.size];exact hs,v,hb.cells h1,dr h2 hb,j.trans (hb.below w.heap.size (by omega))⟩
 case kt=>
  intro s A B C D aP bk bn
  exact⟨fun aK=>((aP.below w.heap.size (by omega)).trans (bk.1 (by rw[aP.size];exact aK))).trans (bn.below w.heap.size (by omega)),fun k cs t J hk=>bn.cells (bk.2 k cs t J (aP.cells hk))⟩
 case h0=>
  rintro o s W1 rfl
  exact⟨by simp;omega,_,aq (aq ak.out _) _,Kd.cE _ _ _ _ _,al (al aB.out _) _⟩
 case body=>
  rintro l s pre ⟨i,a,b⟩ Wb W1 W _ ⟨hs,v,i1,i2,i3⟩ an er I
  have c1:=aE i1 an
  have c2:=Kd.bY i2 an
  have c3:=aN i3 an
  have c9:W3.heap.size<=W1.heap.size:=Nat.le_trans hs an.size
  have U:=Aside0.mk (I.cells (aq c1 (.cells #[.int .i64 a,.int .i64 b] 116)))
  have b2:=Aside0.mk (dr (Kd.aD c2 (.cells #[.int .i64 a,.int .i64 b] 116)) I)
  have b3:=Aside0.mk ((al c3 (.cells #[.int .i64 a,.int .i64 b] 116)).trans (I.below w.heap.size (by omega)))
  have b4:=Aside0.mk (I.cells (heap_alloc_new W1 (.cells #[.int .i64 a,.int .i64 b] 116)))
  have aK:W.heap.size=W1.heap.size+1:=by rw[I.size];simp
  have ev:W3.heap.size<=W.heap.size:=by omega
  clear i1 i2 i3 an I c1 c2 c3 aK c9 hs
  generalize W1.heap.size=pb at b4⊢
  obtain⟨Ar,cr,rfl⟩:=Kd.a7 b2.out
  have b0:(eL pre).length=pre.length:=by simp[eL]
  rw[b0] at U b2
  have hc:=dN U.out
  have hf:=a9 U.out 0
  have ey:W.cell? ⟨pb,0,none⟩=some (.int .i64 a):=(ai b4.out 0).trans rfl
  have e0:W.cell? ⟨pb,1,none⟩=some (.int .i64 b):=(ai b4.out 1).trans rfl
  have LN:Aside0 (((eL pre).length+1)*16<=140737488355328):=⟨by rw[b0];omega⟩
  have e1:=Tryz.underlying116
  gi_wp2_with (gi_at_builtin;go_loud (refine pr (Kd.raw 2) (w0:=w) w.heap.size rfl (.tmp 17) (.tmp 23) 156 205 (.agg #[.int .i64 0,.int .i64 0]) 16 rfl Tryz.underlying156 sY rfl (by decide) (by omega) _ _ [.int .i64 a,.int .i64 b] [.int .i64 a,.int .i64 b] (fun _=>True) (fun _=>False) rfl rfl ⟨rfl,rfl,by simp[Value.oneCell']⟩ (fun _ hk=>hk.elim) (fun _ _=>trivial) b2.out b3.out b3.out.size LN.out ?_;intro v1 e2 hown hb aS dd;obtain⟨A1,c1,rfl⟩:=Kd.a7 hown;have X1:=Aside0.mk ((aS.block bo (aw U.out) (Kd.dj b2.out U.out (by decide))).trans U.out);have e3:=dN X1.out;have e4:=a9 X1.out 0;have ds:=Aside0.mk hown;have dv:=Aside0.mk hb;have aO:=Aside0.mk aS;clear hown hb aS dd))
  have ea:(eL pre++[[Value.int .i64 a,Value.int .i64 b]]).length=pre.length+1:=by simp[eL]
  refine⟨(pv b2.out aO.out).trans (eQ _ _ (aw ak.out)),⟨fun aK=>Below.setCell ((Below.refl w.heap.size W).grown aO.out aK (Kd.br b2.out)) (by show w.heap.size<=bo;omega) _,fun k cs t J hk=>?_⟩,by have:=aO.out.size;simp;omega,.slice A1 (pre.length+1) c1,by simpa using bt X1.out 0 (.slice A1 (pre.length+1) c1),?_,dJ dv.out (by show w.heap.size<=bo;omega)⟩
  ·have eb:k≠bo:=by
    rintro rfl
    have h1:=hk.symm.trans U.out
    injection h1 with h1
    injection h1 with _ h1 _
    rcases J with rfl|rfl<;>exact absurd h1 (by decide)
   rw[Below.heap_setCell _ _ _ _ eb]
   exact(aO.out.block k (aw hk) (Kd.dj b2.out hk (by rcases J with rfl|rfl<;>decide))).trans hk
  ·have h:=Kd.eo ds.out X1.out (by decide) 0 (.slice A1 (pre.length+1) c1)
   rw[ea] at h
   simpa [eL] using h
 case done=>
  rintro s xs W W' _ rfl ⟨hs,v,i1,i2,i3⟩ I b5
  have U:=Aside0.mk (I.cells i1)
  have b2:=Aside0.mk (dr i2 I)
  have b3:=Aside0.mk (i3.trans (I.below w.heap.size (by omega)))
  have b_:=Aside0.mk b5
  clear i1 i2 i3 b5
  have hc:=dN U.out
  gi_wp2_with fail
  have b':Bk W3.heap.size W' (W'.putObj W3.heap.size (.deferred none)):=⟨_,_,b_.out,rfl,rfl⟩
  exact jk (D:=W3.heap.size) rfl b_.out (results_tmp2 rfl _ _ _) ⟨_,rfl,dr b2.out b',b3.out.trans (b'.below w.heap.size (by omega))⟩
end
section
theorem t_ (L:List (Nat×Int×Int)):(eL L).length=L.length:=by simp[eL]
theorem t' {s:Nat} {a b:Int}:∀{j:Nat} {x:Nat×Int×Int},x∈fc s a b j->x.2.1=a∧x.2.2=b
 |0,x,h=>absurd h (by simp[fc])
 |j+1,x,h=>by
  simp only[fc,List.mem_append,List.mem_singleton] at h
  rcases h with h|rfl
  ·exact t' h
  ·exact⟨rfl,rfl⟩
theorem ua {n:Nat} {E:List S83} (h:∀k,k<E.length->0<=(ae E k).f0∧(ae E k).f0<n∧0<=(ae E k).f1∧(ae E k).f1<n∧1<=(ae E k).f2∧(ae E k).f2<=50):
  ∀k,k<=E.length->∀x∈cB E k,0<=x.2.1∧x.2.1<n∧0<=x.2.2∧x.2.2<n
 |0,_=>fun x j=>absurd j (by simp[cB])
 |k+1,hk=>fun x j=>by
  simp only[cB,List.mem_append] at j
  rcases j with j|j
  ·exact ua h k (by omega) x j
  ·obtain⟨h1,h2⟩:=t' j
   have:=h k (by omega)
   omega
theorem Be {n:Nat} {E:List S83} (h:∀k,k<E.length->0<=(ae E k).f0∧(ae E k).f0<n∧0<=(ae E k).f1∧(ae E k).f1<n∧1<=(ae E k).f2∧(ae E k).f2<=50):
  ∀x∈cB E E.length,0<=x.2.1∧x.2.1<n∧0<=x.2.2∧x.2.2<n:=ua h _ (Nat.le_refl _)
theorem ub {E:List S83} (h:d_ E=true):(cB E E.length).length<=2000:=by
 obtain⟨h1,h2⟩:=pn h
 have:=m6 h2 E.length (Nat.le_refl _)
 rw[px];omega
def gG (l:List Int) (v:Nat):List Int:=l.set v (rd l v+1)
def fB (l:List Int) (x:Nat×Int×Int):List Int:=if x.2.1=x.2.2 then l else gG (gG l x.2.1.toNat) x.2.2.toNat
def cU (n:Nat) (L:List (Nat×Int×Int)) (k:Nat):List Int:=(L.take k).foldl fB (List.replicate n 0)
theorem Bg (l:List Int) (v:Nat):(gG l v).length=l.length:=by simp[gG]
theorem Bh (l:List Int) (x:Nat×Int×Int):(fB l x).length=l.length:=by
 unfold fB
 split<;>simp[Bg]
theorem uc:∀(L:List (Nat×Int×Int)) (l:List Int),(L.foldl fB l).length=l.length
 |[],l=>rfl
 |x::L,l=>by rw[List.foldl_cons,uc L,Bh]
theorem ud (n:Nat) (L:List (Nat×Int×Int)) (k:Nat):(cU n L k).length=n:=by simp[cU,uc]
theorem Bi (n:Nat) (L:List (Nat×Int×Int)) (k:Nat) (hk:k<L.length):cU n L (k+1)=fB (cU n L k) L[k]:=by
 unfold cU
 rw[List.take_succ_eq_append_getElem hk,List.foldl_append]
 rfl
theorem Bj {l:List Int} {v:Nat} {B:Int} {x:Int} (h:∀i:Nat,0<=rd l i∧rd l i<=B) (j:0<=x∧x<=B+1) (i:Nat):0<=rd (l.set v x) i∧rd (l.set v x) i<=B+1:=by
 have hi:=h i
 simp only[rd,Int.toNat_natCast,List.getD_eq_getElem?_getD,List.getElem?_set] at hi⊢
 split
 ·split
  ·simpa using j
  ·simp;omega
 ·omega
theorem pV {l:List Int} {v:Nat} {B:Int} (h:∀i:Nat,0<=rd l i∧rd l i<=B) (i:Nat):0<=rd (gG l v) i∧rd (gG l v) i<=B+1:=
 Bj h (by have:=h v;omega) i
theorem Bl {l:List Int} {x:Nat×Int×Int} {B:Int} (h:∀i:Nat,0<=rd l i∧rd l i<=B) (i:Nat):0<=rd (fB l x) i∧rd (fB l x) i<=B+2:=by
 unfold fB
 split
 ·have:=h i;omega
 ·have:=pV (v:=x.2.2.toNat) (pV (v:=x.2.1.toNat) h) i;omega
theorem ue:∀(L:List (Nat×Int×Int)) (l:List Int) (B:Int),(∀i:Nat,0<=rd l i∧rd l i<=B)->∀i:Nat,0<=rd (L.foldl fB l) i∧rd (L.foldl fB l) i<=B+2*L.length
 |[],l,B,h=>fun i=>by have:=h i;simpa using this
 |x::L,l,B,h=>fun i=>by
  have:=ue L (fB l x) (B+2) (Bl h) i
  simp only[List.foldl_cons,List.length_cons]
  omega
theorem uf (n:Nat) (L:List (Nat×Int×Int)) (k:Nat) (i:Nat):0<=rd (cU n L k) i∧rd (cU n L k) i<=2*L.length:=by
 have h:=ue (L.take k) (List.replicate n 0) 0 (fun i=>by simp[rd,List.getD_eq_getElem?_getD,List.getElem?_replicate];split<;>simp) i
 have j:(L.take k).length<=L.length:=by simp;omega
 unfold cU
 omega
theorem Bm {W:World} {gb n:Nat} {ok:Nat->Prop} {g0 len cap:Nat} {rows:List (List Int)} (h:Kd.S (Kd.slice 3 (Kd.int .i64)) 25 W gb ok (.slice (some ⟨g0,0,none⟩) len cap) rows) (hl:rows.length=len) (R:∀y∈rows,y.length=n) (a b:Nat) (ha:a<len) (hb:b<n):
  ∃(gi ci:Nat) (z:Int),W.cell? ⟨g0,a,none⟩=some (.slice (some ⟨gi,0,none⟩) n ci)∧W.cell? ⟨gi,b,none⟩=some (.int .i64 z)∧W.frozen? ⟨gi,b,none⟩=false∧ok gi∧gb<=gi∧(∃cells,W.heap[gi]? =some (.cells cells 3 (0,0)))∧
   ∀x:Int,∃o:List (List Int),o.length=len∧(∀y∈o,y.length=n)∧Kd.S (Kd.slice 3 (Kd.int .i64)) 25 (W.setCell ⟨gi,b,none⟩ (.int .i64 x)) gb ok (.slice (some ⟨g0,0,none⟩) len cap) o:=by
 obtain⟨oki,c,aB,⟨ev,rfl,j⟩,I,ag,J⟩:=Kd.xo h [] (a:Int) (by omega) (by omega)
 rw[Int.toNat_natCast] at j I J
 have U:(rows.getD a []).length=n:=by
  rw[List.getD_eq_getElem?_getD,List.getElem?_eq_getElem (by omega)]
  exact R _ (List.getElem_mem (by omega))
 obtain⟨gi,ci,rfl,ak,aF,cells,an⟩:=Kd.eH j (by omega)
 rw[U] at j J I
 obtain⟨aa,ab⟩:=Kd.bB (0:Int) j (b:Int) (by omega) (by omega)
 rw[Int.toNat_natCast] at aa ab
 have h0:=I 0 _ rfl
 refine⟨gi,ci,_,?_,aa,ab,(ag gi (j.1 gi rfl)).1,ak,⟨cells,an⟩,fun x=>⟨rows.set a ((rows.getD a []).set b x),by simp[hl],?_,?_⟩⟩
 ·rw[show (⟨g0,0,none⟩:Addr).add (a*(Kd.slice 3 (Kd.int .i64)).sz+0)=⟨g0,a,none⟩ from by simp[Kd.slice,Addr.add];intro e;exact e.symm] at h0
  exact h0
 ·intro y hy
  rcases List.mem_or_eq_of_mem_set hy with h1|h1
  ·exact R y h1
  ·subst h1;simpa using U
 ·have hp:=Kd.cL j (b:Int) x
  rw[Int.toNat_natCast] at hp
  exact J hp.2 (fun k hk=>by cases hk;exact j.1 gi rfl) ⟨_,rfl,hp.1⟩
theorem Bn {w:World} {A:Option Addr} {n:Nat} {L:List (Nat×Int×Int)} (h:Kd.C (Kd.raw 2) w A n (eL L)) (j:Nat) (R:j<n) (J:j<L.length):∃ad,A=some ad∧w.cell? (ad.add (j*2))=some (.int .i64 L[j].2.1)∧w.cell? ⟨(ad.add (j*2)).block,(ad.add (j*2)).off+1,none⟩=some (.int .i64 L[j].2.2):=by
 obtain⟨ad,c,e,_,o,I⟩:=Kd.nV h [] (j:Int) (by omega) (by omega)
 rw[Int.toNat_natCast] at o I
 have hr:(eL L).getD j []=[.int .i64 L[j].2.1,.int .i64 L[j].2.2]:=by
  rw[List.getD_eq_getElem?_getD,List.getElem?_eq_getElem (by simpa [eL] using J)]
  simp[eL]
 rw[hr] at o
 obtain rfl:=o.1
 have hc:∀k u,[Value.int .i64 L[j].2.1,.int .i64 L[j].2.2][k]? =some u->w.cell? (ad.add (j*2+k))=some u:=I
 exact⟨ad,e,hc 0 _ rfl,by rw[<-nS _ _ 1 (by omega)];exact hc 1 _ rfl⟩
structure PS (w:World) (gb n gp bv g0 cr:Nat) (q:Int) (dv:Value) (dl:List Int) (ev:Value) (L:List (Nat×Int×Int)) (W:World) (rows:List (List Int)) (vl:List Int):Prop where
 len:rows.length=n
 all:∀y∈rows,y.length=n
 gH:PileAt W gp dv q (.slice (some ⟨g0,0,none⟩) n cr) (.slice (some ⟨bv,0,none⟩) n n) (fun _=>false)
 d:(Kd.int .i64).R 3 W gb (fun k=>k≠bv) dv dl
 val:(Kd.int .i64).R 3 W gb (fun k=>some k≠dv.ownBlock) (.slice (some ⟨bv,0,none⟩) n n) vl
 rows:Kd.S (Kd.slice 3 (Kd.int .i64)) 25 W gb (fun k=>some k≠dv.ownBlock∧k≠bv) (.slice (some ⟨g0,0,none⟩) n cr) rows
 ends:(Kd.raw 2).R 205 W gb (fun _=>True) ev (eL L)
 below:Below gb w W
namespace PS
variable {w:World} {gb n gp bv g0 cr:Nat} {q:Int} {dv:Value} {dl:List Int} {ev:Value} {L:List (Nat×Int×Int)} {W:World} {rows:List (List Int)} {vl:List Int}
theorem drewN (h:PS w gb n gp bv g0 cr q dv dl ev L W rows vl) (m:Nat):PS w gb n gp bv g0 cr q dv dl ev L (W.drewN m) rows vl:=
 ⟨h.len,h.all,h.gH,Kd.bd h.d m,Kd.bd h.val m,Kd.xd h.rows m,Kd.bd h.ends m,bC h.below m⟩
theorem row (h:PS w gb n gp bv g0 cr q dv dl ev L W rows vl) (a b:Nat) (J:a<n) (hb:b<n):∃(gi ci:Nat) (z:Int),W.cell? ⟨g0,a,none⟩=some (.slice (some ⟨gi,0,none⟩) n ci)∧W.cell? ⟨gi,b,none⟩=some (.int .i64 z)∧W.frozen? ⟨gi,b,none⟩=false∧
  ∀x:Int,∃j,PS w gb n gp bv g0 cr q dv dl ev L (W.setCell ⟨gi,b,none⟩ (.int .i64 x)) j vl:=by
 obtain⟨gi,ci,z,h1,h2,R,⟨U,h5⟩,h6,⟨cells,I⟩,h8⟩:=Bm h.rows h.len h.all a b J hb
 refine⟨gi,ci,z,h1,h2,R,fun x=>?_⟩
 obtain⟨j,l1,l2,l3⟩:=h8 x
 have o:W.grownBy (W.setCell ⟨gi,b,none⟩ (.int .i64 x)) (some gi):=tX (Below.refl _ _)
 refine⟨j,l1,l2,h.gH.grown o (fun e=>?_),Kd.ga h.d rfl o U,Kd.ga h.val rfl o (fun e=>h5 (by simpa [Value.ownBlock] using e)),l3,Kd.eo h.ends I (by decide) _ _,Below.setCell h.below h6 _⟩
 obtain⟨cs,hp,_⟩:=h.gH
 injection e with e
 subst e
 rw[I] at hp
 injection hp with hp
 injection hp with _ hp _
 exact absurd hp (by decide)
theorem ug (h:PS w gb n gp bv g0 cr q dv dl ev L W rows vl) (a:Nat) (I:a<n):W.cell? ⟨bv,a,none⟩=some (.int .i64 (rd vl a))∧W.frozen? ⟨bv,a,none⟩=false∧
  ∀x:Int,PS w gb n gp bv g0 cr q dv dl ev L (W.setCell ⟨bv,a,none⟩ (.int .i64 x)) rows (vl.set a x):=by
 obtain⟨h1,h2⟩:=Kd.bB (0:Int) h.val (a:Int) (by omega) (by omega)
 rw[Int.toNat_natCast] at h1 h2
 obtain⟨cells,hb⟩:=Kd.fI h.val bv rfl
 refine⟨h1,h2,fun x=>?_⟩
 have hp:=Kd.cL h.val (a:Int) x
 rw[Int.toNat_natCast] at hp
 have o:=hp.2
 refine⟨h.len,h.all,h.gH.grown o (fun e=>?_),Kd.ga h.d rfl o (fun e=>h.d.1 bv e.symm rfl),hp.1,Kd.rB h.rows o (fun k hk e=>hk.2 (by injection e)),Kd.eo h.ends hb (by decide) _ _,Below.setCell h.below (Kd.br h.val bv rfl) _⟩
 obtain⟨cs,j,_⟩:=h.gH
 injection e with e
 subst e
 rw[hb] at j
 injection j with j
 injection j with _ j _
 exact absurd j (by decide)
end PS
def eT (n:Nat) (E:List S83):List Int:=cU n (cB E E.length) (cB E E.length).length
theorem Bo (g v n:Nat) (q:Int) (o I:Option Addr) (cd J:Nat) (dl vl:List Int) (rows:Value) (waits:Nat->Bool) (w:World) (R:v<12) (U:v<dl.length) (aa:vl.length=n) (ab:v<n)
  (hw:PileAt w g (.slice o dl.length cd) q rows (.slice I n J) waits) (hd:Kd.C (Kd.int .i64) w o dl.length dl) (hr:Kd.C (Kd.int .i64) w I n vl):
  Calls Tryz.prog 218 #[.pointer (some ⟨g,0,none⟩),.int .i64 v] w fun e w'=>e= .returned (.tuple #[])∧PileAt w' g (.slice o dl.length cd) q rows (.slice I n J) (fun j=>if j=v then gF q vl dl v else waits j)∧w.grownBy w' (some g):=by
 subst aa
 exact Bb g v q o I cd J dl vl rows waits w R U ab hw hd hr
theorem Bp (q:Int) (vl dl:List Int) (v:Nat):(fun j=>if j=v then gF q vl dl v else(if j<v then gF q vl dl j else false))=fun j=>if j<v+1 then gF q vl dl j else false:=by
 funext j
 by_cases e:j=v
 ·subst e;simp
 ·by_cases h:j<v
  ·rw[if_neg e,if_pos h,if_pos (by omega)]
  ·rw[if_neg e,if_neg h,if_neg (by omega)]
end
theorem kM (t:TypeId) (I:Tryz.prog.underlying t=some (.slice 3)) (n:Nat) (hn:n<=1000):∃j:Array Value,(∀W:World,(Instr.makeSlice t (.int .i64 n) (.int .i64 n)).run Tryz.prog W= .ok (.slice (some ⟨W.heap.size,0,none⟩) n n) (W.alloc (.cells j 3)))∧
  ∀(W:World) (ok:Nat->Prop),ok W.heap.size->(Kd.int .i64).R 3 (W.alloc (.cells j 3)) W.heap.size ok (.slice (some ⟨W.heap.size,0,none⟩) n n) (List.replicate n 0):=by
 obtain⟨i0,hi,o⟩:=Option.map_eq_some_iff.1 fw
 simp only[Prod.mk.injEq] at o
 obtain⟨J,U,aa⟩:=o
 refine⟨madeCells (Value.int .i64 0).cells (n*1),fun W=>?_,fun W ok hok=>⟨fun k hk=>?_,(madeCells (Value.int .i64 0).cells (n*1)).toList,?_,?_⟩⟩
 ·have hr:=run_make (P:=Tryz.prog) W t 3 i0 (.int .i64 0) I hi J .i64 .i64 (n:Int) (n:Int) (by omega) (by omega) (by rw[aa];omega) (by omega)
  simp only[Int.toNat_natCast] at hr
  rw[U] at hr
  exact hr
 ·have:W.heap.size=k:=by simpa [Value.ownBlock] using hk
  subst this;exact hok
 ·have h:=World.ownsRow_lit (base:=W.heap.size) (e:=3) (size:=1) W (madeCells (Value.int .i64 0).cells (n*1)) n (Nat.le_refl _) (by simp only[maxLen];omega) (size_madeCells _ _)
  rw[List.length_replicate]
  exact h
 ·exact Kd.qT (R:=(Kd.int .i64).M (W.alloc (.cells (madeCells (Value.int .i64 0).cells (n*1)) 3)) W.heap.size (fun k=>ok k∧some k≠(Value.slice (some ⟨W.heap.size,0,none⟩) n n).ownBlock)) (size:=1) (z:=Value.int .i64 0) (z0:=(0:Int)) rfl (by decide) rfl n
theorem Bq {w W:World} {gb:Nat} {v:Value} {cs:Array Value} {t:TypeId} (h1:W.heap[gb]? =some (.cells cs t (0,0))) (h2:W.cell? ⟨gb,0,none⟩=some v) (j:Below gb w W):W.drew.heap[gb]? =some (.cells cs t (0,0))∧W.drew.cell? ⟨gb,0,none⟩=some v∧Below gb w W.drew:=⟨h1,h2,bu j⟩
theorem Br {w W:World} {gb:Nat} {v:Value} {cs:Array Value} {t:TypeId} {o:Obj} (h1:W.heap[gb]? =some (.cells cs t (0,0))) (h2:W.cell? ⟨gb,0,none⟩=some v) (j:Below gb w W):(W.alloc o).heap[gb]? =some (.cells cs t (0,0))∧(W.alloc o).cell? ⟨gb,0,none⟩=some v∧Below gb w (W.alloc o):=
 ⟨aq h1 _,by rw[ai (aq h1 _) 0,<-ai h1 0];exact h2,j.alloc (Nat.le_of_lt (aw h1)) _⟩
theorem Bs {w W W1:World} {gb:Nat} {v:Value} {cs:Array Value} {t:TypeId} (h1:W.heap[gb]? =some (.cells cs t (0,0))) (h2:W.cell? ⟨gb,0,none⟩=some v) (j:Below gb w W) (hb:Below W.heap.size W W1):W1.heap[gb]? =some (.cells cs t (0,0))∧W1.cell? ⟨gb,0,none⟩=some v∧Below gb w W1:=
 ⟨aE h1 hb,by rw[ai (aE h1 hb) 0,<-ai h1 0];exact h2,j.trans ⟨hb.os,hb.tape,hb.output,hb.size,fun k hk=>hb.block k (by have:=aw h1;omega)⟩⟩
theorem kN {W:World} {o:Obj} {g:Nat} (h:g=W.heap.size):(W.alloc o).heap[g]? =some o:=by rw[h];exact heap_alloc_new W o
theorem kO {j w1 W':World} {gb bv:Nat} {v:Value} {dl:List Int} (hr:(Kd.int .i64).R 3 w1 j.heap.size (fun _=>True) v dl) (o:gb<=j.heap.size)
  (I:∀{ok:Nat->Prop},(Kd.int .i64).R 3 w1 gb ok v dl->(Kd.int .i64).R 3 W' gb ok v dl) (J:bv<j.heap.size∨w1.heap.size<=bv):(Kd.int .i64).R 3 W' gb (fun k=>k≠bv) v dl:=
 I (Kd.aM (Kd.aR (Kd.dR hr) (fun k hk=>by have U:=hk.2.1;have a2:=hk.2.2.1;omega)) o)
theorem cZ {o w1 W' Y:World} {gb bv n:Nat} {v:Value} {dl:List Int} {j:Array Value} (I:(Kd.int .i64).R 3 (Y.alloc (.cells j 3)) Y.heap.size (fun k=>k=Y.heap.size) (.slice (some ⟨Y.heap.size,0,none⟩) n n) (List.replicate n 0)) (J:bv=Y.heap.size)
  (hb:Below (Y.alloc (.cells j 3)).heap.size (Y.alloc (.cells j 3)) W') (hr:(Kd.int .i64).R 3 w1 o.heap.size (fun _=>True) v dl) (U:gb<=bv) (aa:bv<o.heap.size∨w1.heap.size<=bv):
  (Kd.int .i64).R 3 W' gb (fun k=>some k≠v.ownBlock) (.slice (some ⟨bv,0,none⟩) n n) (List.replicate n 0):=by
 subst J
 refine Kd.aM (Kd.aR (Kd.bY I hb) (fun k hk e=>?_)) U
 have h1:=Kd.br hr k e.symm
 have h2:=Kd.bq hr k e.symm
 omega
theorem Bt (k n:Nat) (A0:Option Addr) (c0:Nat) (E:List S83) (q:Int) (Ad:Option Addr) (cd:Nat) (dl:List Int) (w:World) (hM:Kd.C aG w A0 E.length E) (hN:E.length<=c0) (hd:Kd.C (Kd.int .i64) w Ad dl.length dl) (hO:dl.length<=cd)
  (hn:n<=12) (ek:dl.length=n) (ht:aJ.f k n E=some 0) (hE:d_ E=true) (ew:dp n E):
  Calls Tryz.prog 212 #[.agg #[.int .i64 n,.slice A0 E.length c0],.int .i64 q,.slice Ad dl.length cd] w fun e w'=>∃(gp:Nat) (U ey:Option Addr) (aa e0:Nat) (rv:Value),e= .returned (.tuple #[.pointer (some ⟨gp,0,none⟩),.int .i64 0])∧PileAt w' gp (.slice U dl.length aa) q rv (.slice ey n e0) (fun x=>if x<dl.length then gF q (eT n E) dl x else false)∧(Kd.int .i64).R 3 w' w.heap.size (fun _=>True) (.slice ey n e0) (eT n E)∧Below w.heap.size w w':=by
 have hu:=Tryz.underlying24
 have m8:=Tryz.underlying236
 have m':=Tryz.underlying234
 have nb:=Tryz.underlying205
 have nd:dl.length<=12:=by omega
 have hP:=Aside0.mk ek
 clear ek
 have Ht:=Aside0.mk ht
 have HE:=Aside0.mk hE
 have HI:=Aside0.mk ew.get
 clear ht hE ew
 have HC:=Aside0.mk (fun W h=>lU.calls Ad cd dl dl W h hO (by unfold lU.f clone.f;rw[if_pos (by omega)]))
 obtain⟨J,nr,e3⟩:=kM 25 Tryz.underlying25 n (by omega)
 have HZ:=Aside0.mk e3
 clear e3
 go_enter Tryz.func212,Tryz.ntmps212
 go_wp2_with fail
 have bn:=Aside0.mk (show (w.alloc (.cells #[.int .i64 n,.slice A0 E.length c0] 24)).heap[w.heap.size]? =some (.cells #[.int .i64 n,.slice A0 E.length c0] 24 (0,0)) from heap_alloc_new w _)
 have aF:(w.alloc (.cells #[.int .i64 n,.slice A0 E.length c0] 24)).cell? ⟨w.heap.size,0,none⟩=some (.int .i64 n):=(ai bn.out 0).trans rfl
 have HB:=Aside0.mk (al (Below.refl w.heap.size w) (.cells #[.int .i64 n,.slice A0 E.length c0] 24))
 generalize (w.alloc (.cells #[.int .i64 n,.slice A0 E.length c0] 24))=W0 at aF bn HB⊢
 have e4:=aw bn.out
 have e5:=fun W h=>Kd.aj (w:=w) (w1:=W) hd h
 have ck:=Aside0.mk e5
 clear e5
 generalize cl:w.heap.size=gb at aF bn e4 HB ck⊢
 refine Code.wp_mono (Q:=fun e a W'=>e=Exit.normal∧∃(gp bv bf aa:Nat) (U:Option Addr) (u16 e_ e' fb fo fq fr ft fv f' gd:Value),a={tmps:=#[.agg #[.int .i64 n,.slice A0 E.length c0],.int .i64 q,.slice Ad dl.length cd,.pointer (some ⟨gb,0,none⟩),undef,undef,.pointer none,.int .i64 0,.pointer (some ⟨gp,0,none⟩),undef,undef,undef,undef,undef,undef,undef,u16,e_,e',fb,fo,fq,fr,ft,fv,f',gd,undef,undef,undef,undef,undef,undef,undef,undef,undef,undef,undef,undef,undef,undef,undef,undef,undef,undef,undef,undef,undef,undef,undef,undef,undef,undef,undef,undef,undef,undef,undef,undef,undef,undef,undef,undef,undef,undef,undef,undef,undef,undef,undef,undef,undef,undef,undef,undef,undef,undef,undef,undef,undef,undef,undef,undef,undef,undef,undef,undef,undef,undef,undef,undef,undef,undef,undef,undef,undef,undef,undef,undef,undef,undef,undef,undef,undef,undef,undef,undef,undef,undef,undef,undef,undef,undef,undef,undef,undef,undef,undef,undef,undef,undef],defers:=[]}∧gb<gp∧W'.heap[gp]? =some (.cells #[.slice U dl.length aa,.int .i64 q,.slice none 0 0,.slice (some ⟨bv,0,none⟩) n n,.slice (some ⟨bf,0,none⟩) n n,.int .i64 0,.bool false,.bool false,.bool false,.bool false,.bool false,.bool false,.bool false,.bool false,.bool false,.bool false,.bool false,.bool false] 236 (0,0))∧(Kd.int .i64).R 3 W' gb (fun k=>k≠bv) (.slice U dl.length aa) dl∧(Kd.int .i64).R 3 W' gb (fun k=>some k≠(Value.slice U dl.length aa).ownBlock) (.slice (some ⟨bv,0,none⟩) n n) (List.replicate n 0)∧W'.heap[gb]? =some (.cells #[.int .i64 n,.slice A0 E.length c0] 24 (0,0))∧Below gb w W') ?_ ?_
 ·rintro e a W' ⟨rfl,gp,bv,bf,aa,U,u16,e_,e',fb,fo,fq,fr,ft,fv,f',gd,rfl,nu,gf,gg,gl,cq,hB⟩
  dsimp only
  have HP:=Aside0.mk (show PileAt W' gp (.slice U dl.length aa) q (.slice none 0 0) (.slice (some ⟨bv,0,none⟩) n n) (fun _=>false) from⟨_,gf,rfl,rfl,rfl,rfl,rfl,fun i hi=>by match i,hi with|0,_=>rfl|1,_=>rfl|2,_=>rfl|3,_=>rfl|4,_=>rfl|5,_=>rfl|6,_=>rfl|7,_=>rfl|8,_=>rfl|9,_=>rfl|10,_=>rfl|11,_=>rfl⟩)
  have a1:=Aside0.mk gg
  have a2:=Aside0.mk gl
  have ar:=Aside0.mk cq
  have gq:=Aside0.mk hB
  have b_:W'.cell? ⟨gb,0,none⟩=some (.int .i64 n):=(ai cq 0).trans rfl
  clear gf gg gl cq hB aF bn HB e4 HC ck
  clear W0
  go_wp2
  go_loopw [29] (fun i wr=>∃(j:Nat) (rv:Value) (rows:List (List Int)),j<=n∧i= .int .i64 j∧Aside0 (rows.length=j)∧Aside0 (∀y∈rows,y.length=n)∧Aside0 (PileAt wr gp (.slice U dl.length aa) q rv (.slice (some ⟨bv,0,none⟩) n n) (fun _=>false))∧Aside0 ((Kd.int .i64).R 3 wr gb (fun k=>k≠bv) (.slice U dl.length aa) dl)∧Aside0 ((Kd.int .i64).R 3 wr gb (fun k=>some k≠(Value.slice U dl.length aa).ownBlock) (.slice (some ⟨bv,0,none⟩) n n) (List.replicate n 0))∧Aside0 (Kd.S (Kd.slice 3 (Kd.int .i64)) 25 wr gb (fun k=>some k≠(Value.slice U dl.length aa).ownBlock∧k≠bv) rv rows)∧Aside0 (wr.heap[gb]? =some (.cells #[.int .i64 n,.slice A0 E.length c0] 24 (0,0)))∧Aside0 (Below gb w wr)) (fun i _=>n- (intOf i).toNat)
  case atStart=>exact⟨0,_,[],by omega,rfl,⟨rfl⟩,⟨fun y hy=>absurd hy (by simp)⟩,HP,a1,a2,⟨Kd.eZ _ _ _ _ _⟩,ar,gq⟩
  case round=>
   clear HP a1 a2 ar gq b_
   obtain⟨j,rv,rows,hj,rfl,HL,HY,HP,a1,a2,HS,ar,HB⟩:=hrel
   by_cases nv:j<n
   ·have aK:=aw ar.out
    obtain⟨Ar,cr,rfl⟩:=Kd.kn HS.out
    have hT:=(ai ar.out 0).trans (show _=some (.int .i64 n) from rfl)
    have hV:(wr.alloc (.cells J 3)).drew.cell? ⟨gb,0,none⟩=some (.int .i64 n):=(ai (aq ar.out _) 0).trans rfl
    have hW:=HP.out.kL
    have hX:(wr.alloc (.cells J 3)).drew.cell? ⟨gp,2,none⟩=some (.slice Ar rows.length cr):=(HP.out.below (al (Below.refl _ _) _)).kL
    have hY:((wr.alloc (.cells J 3)).alloc (.cells #[.slice (some ⟨wr.heap.size,0,none⟩) n n] 25)).drew.cell? ⟨gp,2,none⟩=some (.slice Ar rows.length cr):=(HP.out.below (al (al (Below.refl _ _) _) _)).kL
    have nw:rows.length<=12:=by have:=HL.out;omega
    have c1:∀k,wr.heap.size<=k->some k≠(Value.slice U dl.length aa).ownBlock∧k≠bv:=fun k hk=>⟨fun e=>by have:=Kd.bq a1.out k e.symm;omega,fun e=>by have:=Kd.bq a2.out bv (by simp[Value.ownBlock]);omega⟩
    have h0:=Aside0.mk (Kd.mi (Kd.a8 (Kd.aM (HZ.out wr (fun k=>k=wr.heap.size) rfl) (Nat.le_of_lt aK))))
    have h6:=Aside0.mk (Kd.rA (Kd.om (Kd.jF (ok':=fun k=>(some k≠(Value.slice U dl.length aa).ownBlock∧k≠bv)∧¬k=wr.heap.size) (Kd.lq HS.out) (fun k hk=>⟨hk.1,by have:=hk.2.2.1;omega⟩)) (.cells J 3)))
    have h7:=Aside0.mk (bu (HB.out.alloc (Nat.le_of_lt aK) (.cells J 3)))
    have h8:Aside0 (∀k,k=wr.heap.size->(some k≠(Value.slice U dl.length aa).ownBlock∧k≠bv)∧some k≠(Value.slice Ar rows.length cr).ownBlock):=⟨fun k hk=>⟨c1 k (by omega),fun e=>by have:=Kd.xg HS.out k e.symm;omega⟩⟩
    have h9:Aside0 (∀k,(wr.alloc (.cells J 3)).drew.heap.size<=k->some k≠(Value.slice U dl.length aa).ownBlock∧k≠bv):=⟨fun k hk=>c1 k (by have h1:(wr.alloc (.cells J 3)).drew.heap.size=wr.heap.size+1:=World.size_alloc wr _;omega)⟩
    have h_:Aside0 (gb<=(wr.alloc (.cells J 3)).drew.heap.size):=⟨by have h1:(wr.alloc (.cells J 3)).drew.heap.size=wr.heap.size+1:=World.size_alloc wr _;omega⟩
    have gr:=Aside0.mk (show PileAt (wr.alloc (.cells J 3)).drew gp (.slice U dl.length aa) q (.slice Ar rows.length cr) (.slice (some ⟨bv,0,none⟩) n n) (fun _=>false) from(HP.out.below (al (Below.refl wr.heap.size wr) (.cells J 3))).drew)
    have gx:=Aside0.mk (show (wr.alloc (.cells J 3)).drew.heap[gb]? =some (.cells #[.int .i64 n,.slice A0 E.length c0] 24 (0,0)) from aq ar.out _)
    have b':=Aside0.mk (Kd.rA (Kd.om HS.out (.cells J 3)))
    have h':=Aside0.mk (Kd.a8 (Kd.aD a1.out (.cells J 3)))
    have ib:=Aside0.mk (Kd.a8 (Kd.aD a2.out (.cells J 3)))
    clear c1
    have ih:=Aside0.mk (show (wr.alloc (.cells J 3)).drew.heap.size=wr.heap.size+1 from World.size_alloc wr _)
    go_wp2
    go_region_law ((refine Kd.xj (Kd.slice 3 (Kd.int .i64)) (w0:=w) (W:=(wr.alloc (.cells J 3)).drew) gb (by rfl) (.tmp 35) (.tmp 39) 73 25 (.slice none 0 0) 24 (by rfl) Tryz.underlying73 rY rfl (by decide) (by omega) _ rows (List.replicate n 0) [.slice (some ⟨wr.heap.size,0,none⟩) n n] (fun k=>some k≠(Value.slice U dl.length aa).ownBlock∧k≠bv) (fun k=>k=wr.heap.size) (by rfl) (by rw[ih.out];rfl) h0.out h8.out h9.out h6.out h7.out h_.out (by omega) ?_;intro v4 w4 c2 g1 b0 iv;obtain⟨A4,c4,g2⟩:=Kd.kn c2;rw[show (rows++[List.replicate n (0:Int)]).length=rows.length+1 by simp] at g2;subst g2;have g3:=Aside0.mk c2;have g4:=Aside0.mk g1;have bk:=Aside0.mk (gr.out.grown b0 (gr.out.pU (Kd.mz b'.out) (by decide)));have g':=Aside0.mk (cg gx.out b0 (Kd.xh b'.out gx.out (by decide)));have hc:=Aside0.mk (Kd.re h'.out (Kd.mz b'.out) (by decide) b0);have hf:=Aside0.mk (Kd.re ib.out (Kd.mz b'.out) (by decide) b0);have jj:=bk.out.kL;have j0:=bk.out.frozen 2;clear c2 g1 b0 iv))
    all_goals have n0:=Aside0.mk (bk.out.A_ (.slice A4 (rows.length+1) c4))
    all_goals have n1:=Aside0.mk (bk.out.eo hc.out (by decide) 2 (.slice A4 (rows.length+1) c4))
    all_goals have n2:=Aside0.mk (bk.out.eo hf.out (by decide) 2 (.slice A4 (rows.length+1) c4))
    all_goals have n3:=Aside0.mk (bk.out.ot g3.out (by decide) 2 (.slice A4 (rows.length+1) c4))
    all_goals have n4:=Aside0.mk (ay (p:=⟨gp,2,none⟩) g'.out (show gb≠gp by omega) (.slice A4 (rows.length+1) c4))
    all_goals have n5:=Aside0.mk (g4.out.setCell (p:=⟨gp,2,none⟩) (by show gb<=gp;omega) (.slice A4 (rows.length+1) c4))
    all_goals clear jj j0 hT hV hW hX hY bk g' hc hf g4 g3
    all_goals generalize (w4.setCell ⟨gp,2,none⟩ (.slice A4 (rows.length+1) c4))=w5 at n0 n1 n2 n3 n4 n5⊢
    all_goals go_wp2
    all_goals exact⟨⟨j+1,_,_,by omega,by go_num,⟨by simp[HL.out]⟩,⟨fun y hy=>by rcases List.mem_append.1 hy with h|h;exact HY.out y h;(simp at h;subst h;simp)⟩,n0,n1,n2,n3,n4,n5⟩,(show n- ((j:Int)+1).toNat<n- ((j:Int)).toNat by omega)⟩
   ·obtain rfl:n=j:=by omega
    have b_:wr.cell? ⟨gb,0,none⟩=some (.int .i64 n):=(ai ar.out 0).trans rfl
    have o:wr.cell? ⟨gb,1,none⟩=some (.slice A0 E.length c0):=(ai ar.out 1).trans rfl
    have aK:=aw ar.out
    have hq:=Aside0.mk (Bc k n A0 c0 E wr (Kd.aj hM (by rw[cl];exact HB.out)) hN Ht.out HE.out)
    go_wp2_with (first|(go_at_call 178;refine hq.out.mono ?_;rintro e w1 ⟨v9,rfl,c3,bo⟩;obtain⟨A9,c9,hr⟩:=Kd.a7 c3;rw[t_] at hr;subst hr;have b1:=Aside0.mk c3;have hs:=Aside0.mk (HP.out.below bo);have c5:=Aside0.mk (Kd.my HS.out bo);have hv:=Aside0.mk (Kd.bY a1.out bo);have c6:=Aside0.mk (Kd.bY a2.out bo);have hx:=Aside0.mk (HB.out.trans (bo.mono (Nat.le_of_lt aK)));clear c3 bo))
    all_goals go_wp2
    have c7:=Aside0.mk (Be (n:=n) HI.out)
    have c8:=Aside0.mk (ub HE.out)
    obtain⟨Ar,cr,bw⟩:=Kd.kn c5.out
    rw[HL.out] at bw
    subst bw
    replace b1:=Aside0.mk (Kd.aM (Kd.mB b1.out) (Nat.le_of_lt aK))
    have ca:=Aside0.mk (show eT n E=cU n (cB E E.length) (cB E E.length).length from rfl)
    generalize cB E E.length=L at b1 c7 c8 ca⊢
    have j_:=c8.out
    have hz:List.replicate n (0:Int)=cU n L 0:=rfl
    rw[hz] at c6
    clear hz hq HP HS a1 a2 HB ar b_ o aK
    go_loopw [54] (fun i wr=>∃(j:Nat) (rows:List (List Int)),j<=L.length∧i= .int .i64 j∧Aside0 (rows.length=n)∧Aside0 (∀y∈rows,y.length=n)∧Aside0 (PileAt wr gp (.slice U dl.length aa) q (.slice Ar n cr) (.slice (some ⟨bv,0,none⟩) n n) (fun _=>false))∧Aside0 ((Kd.int .i64).R 3 wr gb (fun k=>k≠bv) (.slice U dl.length aa) dl)∧Aside0 ((Kd.int .i64).R 3 wr gb (fun k=>some k≠(Value.slice U dl.length aa).ownBlock) (.slice (some ⟨bv,0,none⟩) n n) (cU n L j))∧Aside0 (Kd.S (Kd.slice 3 (Kd.int .i64)) 25 wr gb (fun k=>some k≠(Value.slice U dl.length aa).ownBlock∧k≠bv) (.slice Ar n cr) rows)∧Aside0 ((Kd.raw 2).R 205 wr gb (fun _=>True) (.slice A9 L.length c9) (eL L))∧Aside0 (Below gb w wr)) (fun i _=>L.length- (intOf i).toNat)
    case atStart=>exact⟨0,_,by omega,rfl,HL,HY,hs,hv,c6,c5,b1,hx⟩
    case round=>
     clear hs hv c6 c5 b1 hx HL HY
     obtain⟨j,rows,hj,rfl,HL,HY,HP,HD,HV,HS,HR,HB⟩:=hrel
     by_cases b2:j<L.length
     ·obtain⟨-, -,hA⟩:=Kd.aC HR.out
      obtain⟨ad,rfl,aF,b3⟩:=Bn hA j (by rw[t_];exact b2) b2
      have a0:=c7.out _ (List.getElem_mem b2)
      have c':=Lib.hid (Bi n L j b2)
      generalize L[j]=x at aF b3 a0 c'
      obtain⟨i,a,b⟩:=x
      simp only at aF b3 a0
      obtain⟨a,rfl⟩:=Int.eq_ofNat_of_zero_le a0.1
      obtain⟨b,rfl⟩:=Int.eq_ofNat_of_zero_le a0.2.2.1
      have ha:a<n:=by omega
      have hb:b<n:=by omega
      have n_:(0:Int)<=(j:Int):=by omega
      have n':(j:Int)<(L.length:Int):=by omega
      clear a0 hA
      have HO:=Aside0.mk (show (wr.alloc (.cells #[.int .i64 a,.int .i64 b] 205)).heap[wr.heap.size]? =some (.cells #[.int .i64 a,.int .i64 b] 205 (0,0)) from heap_alloc_new wr _)
      obtain⟨g0,j',bw, -, -, -⟩:=Kd.ou HS.out (by have:=HL.out;omega)
      injection bw with bw _ kd
      subst bw
      have an:=Aside0.mk (PS.mk (L:=L) HL.out HY.out (HP.out.below (al (Below.refl _ _) (.cells #[.int .i64 a,.int .i64 b] 205))) (Kd.aD HD.out (.cells #[.int .i64 a,.int .i64 b] 205)) (Kd.aD HV.out (.cells #[.int .i64 a,.int .i64 b] 205)) (Kd.om HS.out (.cells #[.int .i64 a,.int .i64 b] 205)) (Kd.aD HR.out (.cells #[.int .i64 a,.int .i64 b] 205)) (HB.out.alloc (by have:=HB.out.size;omega) (.cells #[.int .i64 a,.int .i64 b] 205)))
      go_wp2
      clear HP HD HV HS HR HB aF b3 HL HY kd j'
      generalize (wr.alloc (.cells #[.int .i64 a,.int .i64 b] 205))=W1 at HO an⊢
      generalize wr.heap.size=ob at HO⊢
      have aF:W1.cell? ⟨ob,0,none⟩=some (.int .i64 a):=(ai HO.out 0).trans rfl
      have b3:W1.cell? ⟨ob,1,none⟩=some (.int .i64 b):=(ai HO.out 1).trans rfl
      go_quiet (fail)
      replace an:=Aside0.mk (an.out.drewN nq)
      clear aF b3 HO
      generalize W1.drewN nq=W2 at an⊢
      clear W1
      have oc:(0:Int)<=(a:Int):=by omega
      have og:(a:Int)<(n:Int):=by omega
      have b_:(0:Int)<=(b:Int):=by omega
      have o:(b:Int)<(n:Int):=by omega
      by_cases a0:a=b
      ·subst a0
       have hG:cU n L j=cU n L (j+1):=by rw[c'.out];unfold fB;rw[if_pos rfl]
       rw[hG] at an
       clear hG
       go_wp2
       exact⟨⟨j+1,rows,by omega,by go_num,⟨an.out.len⟩,⟨an.out.all⟩,⟨an.out.gH⟩,⟨an.out.d⟩,⟨an.out.val⟩,⟨an.out.rows⟩,⟨an.out.ends⟩,⟨an.out.below⟩⟩,(show L.length- ((j:Int)+1).toNat<L.length- ((j:Int)).toNat by omega)⟩
      ·have oi:((a:Int) != (b:Int))=true:=by simp;omega
       have oj:=an.out.gH.kL
       have ds:=uf n L j
       have kk:=ds a
       obtain⟨gi,ci,z,oo,oq,ov,hH⟩:=an.out.row a b ha hb
       obtain⟨ox,h3⟩:=hH (wrap64 (z+1))
       have H3:=Aside0.mk h3
       have oy:=h3.gH.kL
       obtain⟨oz,o0,z3,o1,o2,o3,hI⟩:=h3.row b a hb ha
       obtain⟨ks,h4⟩:=hI (wrap64 (z3+1))
       have H4:=Aside0.mk h4
       have o4:=h4.gH.nn
       obtain⟨kv,o',hJ⟩:=h4.ug a ha
       have h5:=hJ (rd (cU n L j) a+1)
       have H5:=Aside0.mk h5
       have k0:=h5.gH.nn
       obtain⟨dv,k1,ea⟩:=h5.ug b hb
       have hK:=pV (v:=a) ds b
       rw[show (cU n L j).set a (rd (cU n L j) a+1)=gG (cU n L j) a from rfl] at dv ea
       have H6:=Aside0.mk (ea (rd (gG (cU n L j) a) b+1))
       rw[show (gG (cU n L j) a).set b (rd (gG (cU n L j) a) b+1)=cU n L (j+1) from by rw[c'.out];unfold fB;rw[if_neg (show ¬((i,(a:Int),(b:Int)).2.1=(i,(a:Int),(b:Int)).2.2) from fun e=>a0 (Int.ofNat.inj e))];rfl] at H6
       clear hH hI hJ ea h3 h4 h5 ds H3 H4 H5
       generalize rd (cU n L j) a=va at kk kv k0 dv k1 hK H6
       generalize rd (gG (cU n L j) a) b=vb at hK dv H6
       go_wp2
       exact⟨⟨j+1,ks,by omega,by go_num,⟨H6.out.len⟩,⟨H6.out.all⟩,⟨H6.out.gH⟩,⟨H6.out.d⟩,⟨H6.out.val⟩,⟨H6.out.rows⟩,⟨H6.out.ends⟩,⟨H6.out.below⟩⟩,(show L.length- ((j:Int)+1).toNat<L.length- ((j:Int)).toNat by omega)⟩
     ·obtain rfl:j=L.length:=by omega
      have k2:=HP.out.tY
      go_wp2
      have eb:=Aside0.mk (ud n L L.length)
      generalize cU n L L.length=vl at HV eb ca⊢
      clear HS HR HL HY k2 j_ c7 c8 b2 hj
      go_loopw [113] (fun i wr=>∃(j:Nat),j<=dl.length∧i= .int .i64 j∧Aside0 (PileAt wr gp (.slice U dl.length aa) q (.slice Ar n cr) (.slice (some ⟨bv,0,none⟩) n n) (fun x=>if x<j then gF q vl dl x else false))∧Aside0 ((Kd.int .i64).R 3 wr gb (fun k=>k≠bv) (.slice U dl.length aa) dl)∧Aside0 ((Kd.int .i64).R 3 wr gb (fun k=>some k≠(Value.slice U dl.length aa).ownBlock) (.slice (some ⟨bv,0,none⟩) n n) vl)∧Aside0 (Below gb w wr)) (fun i _=>dl.length- (intOf i).toNat)
      case atStart=>exact⟨0,by omega,rfl,⟨by simpa using HP.out⟩,HD,HV,HB⟩
      case round=>
       clear HP HD HV HB
       obtain⟨j,hj,rfl,HP,HD,HV,HB⟩:=hrel
       by_cases k3:j<dl.length
       ·obtain⟨-, -,hL⟩:=Kd.aC HD.out
        obtain⟨-, -,ed⟩:=Kd.aC HV.out
        rw[eb.out] at ed
        have HW:=Aside0.mk (Bo gp j n q U (some ⟨bv,0,none⟩) aa n dl vl (.slice Ar n cr) _ wr (by omega) k3 eb.out (by have:=hP.out;omega) HP.out hL ed)
        clear hL ed
        go_wp2_with (go_at_call 218;refine HW.out.mono ?_;rintro e w5 ⟨rfl,eg,cj⟩;rw[Bp] at eg;have k5:=Aside0.mk eg;have k6:=Aside0.mk (Kd.ga HD.out rfl cj (HP.out.pU (Kd.fI HD.out) (by decide)));have k7:=Aside0.mk (Kd.ga HV.out rfl cj (HP.out.pU (Kd.fI HV.out) (by decide)));have k8:=Aside0.mk (jz HB.out (some gp) (by have:=HB.out.size;omega) cj (fun k e=>by cases e;omega));clear eg cj)
        all_goals go_wp2
        all_goals go_roundw
        case rel=>exact⟨j+1,by omega,by go_num,k5,k6,k7,k8⟩
        case measure=>exact(show dl.length- ((j:Int)+1).toNat<dl.length- ((j:Int)).toNat by omega)
       ·obtain rfl:j=dl.length:=by omega
        go_wp2
        go_ret2
        exact⟨gp,U,_,aa,n,_,rfl,by rw[ca.out];exact HP.out,by rw[ca.out,cl];exact Kd.aR HV.out (fun _ _=>trivial),by rw[cl];exact HB.out⟩
 ·go_region_held3 (fun w'=>w'.heap[gb]? =some (.cells #[.int .i64 n,.slice A0 E.length c0] 24 (0,0))∧w'.cell? ⟨gb,0,none⟩=some (.int .i64 n)∧Below gb w w')
   (first
    |exact Bq bn.out aF HB.out
    |((try go_split_ands);refine⟨by assumption,by assumption,by assumption⟩)
    |((try go_split_ands);exact Br (by assumption) (by assumption) (by assumption))
    |((try go_split_ands);exact Bs (by assumption) (by assumption) (by assumption) (by assumption))
    |fail)
   ((go_at_call 217;refine(HC.out _ (ck.out _ (by go_split_ands;assumption))).mono ?_;rintro e w1 ⟨v1,rfl,I,o⟩;obtain⟨U,aa,rfl⟩:=Kd.a7 I))
  ·refine⟨rfl,?pj,?ps,?p0,?p1,?p2,?p3,?p6,?p7,?p8,?qn,?qs,?qv,?qx,?q0,?q1,?q2,?k9,?k_,?la,?lb,?ld,by(go_split_ands;assumption),by(go_split_ands;assumption)⟩
   case k9=>rfl
   case la=>(refine kN ?_;first|rfl|(simp;done))
   case k_=>(have h1:=o.size;first|omega|(simp at h1⊢;done)|(simp at h1⊢;omega)|(have h2:W0.drew.heap.size=W0.heap.size:=rfl;simp[World.drew] at h1⊢;omega))
   case lb=>
    refine kO I ?_ ?_ ?_
    ·(have h1:=o.size;first|omega|(simp at h1⊢;done)|(simp at h1⊢;omega)|(have h2:W0.drew.heap.size=W0.heap.size:=rfl;simp[World.drew] at h1⊢;omega))
    ·(first|exact fun h=>h|exact fun h=>Kd.aD h _|exact fun h=>Kd.aD (Kd.aD h _) _|exact fun h=>Kd.aD (Kd.aD (Kd.aD h _) _) _)
    ·(have h1:=o.size;first|omega|(simp at h1⊢;done)|(simp at h1⊢;omega)|(have h2:W0.drew.heap.size=W0.heap.size:=rfl;simp[World.drew] at h1⊢;omega))
   case ld=>
    first
     |(refine cZ (Y:=w1) (HZ.out _ _ rfl) ?_ ?_ I ?_ ?_;(focus (first|rfl|(simp;done)));(focus ((repeat(first|exact Below.refl _ _|apply al|apply bu|refine aN ?_ o));done));(focus (have h1:=o.size;first|omega|(simp at h1⊢;done)|(simp at h1⊢;omega)|(have h2:W0.drew.heap.size=W0.heap.size:=rfl;simp[World.drew] at h1⊢;omega)));(focus (have h1:=o.size;first|omega|(simp at h1⊢;done)|(simp at h1⊢;omega)|(have h2:W0.drew.heap.size=W0.heap.size:=rfl;simp[World.drew] at h1⊢;omega))))
     |(refine cZ (Y:=(w1.alloc (.cells J 3))) (HZ.out _ _ rfl) ?_ ?_ I ?_ ?_;(focus (first|rfl|(simp;done)));(focus ((repeat(first|exact Below.refl _ _|apply al|apply bu|refine aN ?_ o));done));(focus (have h1:=o.size;first|omega|(simp at h1⊢;done)|(simp at h1⊢;omega)|(have h2:W0.drew.heap.size=W0.heap.size:=rfl;simp[World.drew] at h1⊢;omega)));(focus (have h1:=o.size;first|omega|(simp at h1⊢;done)|(simp at h1⊢;omega)|(have h2:W0.drew.heap.size=W0.heap.size:=rfl;simp[World.drew] at h1⊢;omega))))
     |(refine cZ (Y:=W0) (HZ.out _ _ rfl) ?_ ?_ I ?_ ?_;(focus (first|rfl|(simp;done)));(focus ((repeat(first|exact Below.refl _ _|apply al|apply bu|refine aN ?_ o));done));(focus (have h1:=o.size;first|omega|(simp at h1⊢;done)|(simp at h1⊢;omega)|(have h2:W0.drew.heap.size=W0.heap.size:=rfl;simp[World.drew] at h1⊢;omega)));(focus (have h1:=o.size;first|omega|(simp at h1⊢;done)|(simp at h1⊢;omega)|(have h2:W0.drew.heap.size=W0.heap.size:=rfl;simp[World.drew] at h1⊢;omega))))
     |(refine cZ (Y:=(W0.alloc (.cells J 3))) (HZ.out _ _ rfl) ?_ ?_ I ?_ ?_;(focus (first|rfl|(simp;done)));(focus ((repeat(first|exact Below.refl _ _|apply al|apply bu|refine aN ?_ o));done));(focus (have h1:=o.size;first|omega|(simp at h1⊢;done)|(simp at h1⊢;omega)|(have h2:W0.drew.heap.size=W0.heap.size:=rfl;simp[World.drew] at h1⊢;omega)));(focus (have h1:=o.size;first|omega|(simp at h1⊢;done)|(simp at h1⊢;omega)|(have h2:W0.drew.heap.size=W0.heap.size:=rfl;simp[World.drew] at h1⊢;omega))))
     |fail
  ·refine⟨rfl,?q3,?q4,?q5,?q7,?q8,?q',?ra,?rb,?rm,?rq,?r0,?r1,?r2,?r3,?r4,?r5,?eq_1,?lg,?lj,?lk,?lo,by(go_split_ands;assumption),by(go_split_ands;assumption)⟩
   case eq_1=>rfl
   case lj=>(refine kN ?_;first|rfl|(simp;done))
   case lg=>(have h1:=o.size;first|omega|(simp at h1⊢;done)|(simp at h1⊢;omega)|(have h2:W0.drew.heap.size=W0.heap.size:=rfl;simp[World.drew] at h1⊢;omega))
   case lk=>
    refine kO I ?_ ?_ ?_
    ·(have h1:=o.size;first|omega|(simp at h1⊢;done)|(simp at h1⊢;omega)|(have h2:W0.drew.heap.size=W0.heap.size:=rfl;simp[World.drew] at h1⊢;omega))
    ·(first|exact fun h=>h|exact fun h=>Kd.aD h _|exact fun h=>Kd.aD (Kd.aD h _) _|exact fun h=>Kd.aD (Kd.aD (Kd.aD h _) _) _)
    ·(have h1:=o.size;first|omega|(simp at h1⊢;done)|(simp at h1⊢;omega)|(have h2:W0.drew.heap.size=W0.heap.size:=rfl;simp[World.drew] at h1⊢;omega))
   case lo=>
    first
     |(refine cZ (Y:=w1) (HZ.out _ _ rfl) ?_ ?_ I ?_ ?_;(focus (first|rfl|(simp;done)));(focus ((repeat(first|exact Below.refl _ _|apply al|apply bu|refine aN ?_ o));done));(focus (have h1:=o.size;first|omega|(simp at h1⊢;done)|(simp at h1⊢;omega)|(have h2:W0.drew.heap.size=W0.heap.size:=rfl;simp[World.drew] at h1⊢;omega)));(focus (have h1:=o.size;first|omega|(simp at h1⊢;done)|(simp at h1⊢;omega)|(have h2:W0.drew.heap.size=W0.heap.size:=rfl;simp[World.drew] at h1⊢;omega))))
     |(refine cZ (Y:=(w1.alloc (.cells J 3))) (HZ.out _ _ rfl) ?_ ?_ I ?_ ?_;(focus (first|rfl|(simp;done)));(focus ((repeat(first|exact Below.refl _ _|apply al|apply bu|refine aN ?_ o));done));(focus (have h1:=o.size;first|omega|(simp at h1⊢;done)|(simp at h1⊢;omega)|(have h2:W0.drew.heap.size=W0.heap.size:=rfl;simp[World.drew] at h1⊢;omega)));(focus (have h1:=o.size;first|omega|(simp at h1⊢;done)|(simp at h1⊢;omega)|(have h2:W0.drew.heap.size=W0.heap.size:=rfl;simp[World.drew] at h1⊢;omega))))
     |(refine cZ (Y:=W0) (HZ.out _ _ rfl) ?_ ?_ I ?_ ?_;(focus (first|rfl|(simp;done)));(focus ((repeat(first|exact Below.refl _ _|apply al|apply bu|refine aN ?_ o));done));(focus (have h1:=o.size;first|omega|(simp at h1⊢;done)|(simp at h1⊢;omega)|(have h2:W0.drew.heap.size=W0.heap.size:=rfl;simp[World.drew] at h1⊢;omega)));(focus (have h1:=o.size;first|omega|(simp at h1⊢;done)|(simp at h1⊢;omega)|(have h2:W0.drew.heap.size=W0.heap.size:=rfl;simp[World.drew] at h1⊢;omega))))
     |(refine cZ (Y:=(W0.alloc (.cells J 3))) (HZ.out _ _ rfl) ?_ ?_ I ?_ ?_;(focus (first|rfl|(simp;done)));(focus ((repeat(first|exact Below.refl _ _|apply al|apply bu|refine aN ?_ o));done));(focus (have h1:=o.size;first|omega|(simp at h1⊢;done)|(simp at h1⊢;omega)|(have h2:W0.drew.heap.size=W0.heap.size:=rfl;simp[World.drew] at h1⊢;omega)));(focus (have h1:=o.size;first|omega|(simp at h1⊢;done)|(simp at h1⊢;omega)|(have h2:W0.drew.heap.size=W0.heap.size:=rfl;simp[World.drew] at h1⊢;omega))))
     |fail
  ·refine⟨rfl,?r',?sc,?sf,?si,?sq,?sv,?sz,?sN,?s0,?s3,?s4,?s5,?s',?tm,?ts,?tv,?eq_2,?lp,?lv,?l0,?l1,by(go_split_ands;assumption),by(go_split_ands;assumption)⟩
   case eq_2=>rfl
   case lv=>(refine kN ?_;first|rfl|(simp;done))
   case lp=>(have h1:=o.size;first|omega|(simp at h1⊢;done)|(simp at h1⊢;omega)|(have h2:W0.drew.heap.size=W0.heap.size:=rfl;simp[World.drew] at h1⊢;omega))
   case l0=>
    refine kO I ?_ ?_ ?_
    ·(have h1:=o.size;first|omega|(simp at h1⊢;done)|(simp at h1⊢;omega)|(have h2:W0.drew.heap.size=W0.heap.size:=rfl;simp[World.drew] at h1⊢;omega))
    ·(first|exact fun h=>h|exact fun h=>Kd.aD h _|exact fun h=>Kd.aD (Kd.aD h _) _|exact fun h=>Kd.aD (Kd.aD (Kd.aD h _) _) _)
    ·(have h1:=o.size;first|omega|(simp at h1⊢;done)|(simp at h1⊢;omega)|(have h2:W0.drew.heap.size=W0.heap.size:=rfl;simp[World.drew] at h1⊢;omega))
   case l1=>
    first
     |(refine cZ (Y:=w1) (HZ.out _ _ rfl) ?_ ?_ I ?_ ?_;(focus (first|rfl|(simp;done)));(focus ((repeat(first|exact Below.refl _ _|apply al|apply bu|refine aN ?_ o));done));(focus (have h1:=o.size;first|omega|(simp at h1⊢;done)|(simp at h1⊢;omega)|(have h2:W0.drew.heap.size=W0.heap.size:=rfl;simp[World.drew] at h1⊢;omega)));(focus (have h1:=o.size;first|omega|(simp at h1⊢;done)|(simp at h1⊢;omega)|(have h2:W0.drew.heap.size=W0.heap.size:=rfl;simp[World.drew] at h1⊢;omega))))
     |(refine cZ (Y:=(w1.alloc (.cells J 3))) (HZ.out _ _ rfl) ?_ ?_ I ?_ ?_;(focus (first|rfl|(simp;done)));(focus ((repeat(first|exact Below.refl _ _|apply al|apply bu|refine aN ?_ o));done));(focus (have h1:=o.size;first|omega|(simp at h1⊢;done)|(simp at h1⊢;omega)|(have h2:W0.drew.heap.size=W0.heap.size:=rfl;simp[World.drew] at h1⊢;omega)));(focus (have h1:=o.size;first|omega|(simp at h1⊢;done)|(simp at h1⊢;omega)|(have h2:W0.drew.heap.size=W0.heap.size:=rfl;simp[World.drew] at h1⊢;omega))))
     |(refine cZ (Y:=W0) (HZ.out _ _ rfl) ?_ ?_ I ?_ ?_;(focus (first|rfl|(simp;done)));(focus ((repeat(first|exact Below.refl _ _|apply al|apply bu|refine aN ?_ o));done));(focus (have h1:=o.size;first|omega|(simp at h1⊢;done)|(simp at h1⊢;omega)|(have h2:W0.drew.heap.size=W0.heap.size:=rfl;simp[World.drew] at h1⊢;omega)));(focus (have h1:=o.size;first|omega|(simp at h1⊢;done)|(simp at h1⊢;omega)|(have h2:W0.drew.heap.size=W0.heap.size:=rfl;simp[World.drew] at h1⊢;omega))))
     |(refine cZ (Y:=(W0.alloc (.cells J 3))) (HZ.out _ _ rfl) ?_ ?_ I ?_ ?_;(focus (first|rfl|(simp;done)));(focus ((repeat(first|exact Below.refl _ _|apply al|apply bu|refine aN ?_ o));done));(focus (have h1:=o.size;first|omega|(simp at h1⊢;done)|(simp at h1⊢;omega)|(have h2:W0.drew.heap.size=W0.heap.size:=rfl;simp[World.drew] at h1⊢;omega)));(focus (have h1:=o.size;first|omega|(simp at h1⊢;done)|(simp at h1⊢;omega)|(have h2:W0.drew.heap.size=W0.heap.size:=rfl;simp[World.drew] at h1⊢;omega))))
     |fail
  ·refine⟨rfl,?uv,?vc,?vs,?vv,?v3,?v5,?v7,?v8,?v',?wb,?wo,?wq,?w2,?w6,?w7,?w8,?eq_3,?l2,?l3,?l',?mb,by(go_split_ands;assumption),by(go_split_ands;assumption)⟩
   case eq_3=>rfl
   case l3=>(refine kN ?_;first|rfl|(simp;done))
   case l2=>(have h1:=o.size;first|omega|(simp at h1⊢;done)|(simp at h1⊢;omega)|(have h2:W0.drew.heap.size=W0.heap.size:=rfl;simp[World.drew] at h1⊢;omega))
   case l'=>
    refine kO I ?_ ?_ ?_
    ·(have h1:=o.size;first|omega|(simp at h1⊢;done)|(simp at h1⊢;omega)|(have h2:W0.drew.heap.size=W0.heap.size:=rfl;simp[World.drew] at h1⊢;omega))
    ·(first|exact fun h=>h|exact fun h=>Kd.aD h _|exact fun h=>Kd.aD (Kd.aD h _) _|exact fun h=>Kd.aD (Kd.aD (Kd.aD h _) _) _)
    ·(have h1:=o.size;first|omega|(simp at h1⊢;done)|(simp at h1⊢;omega)|(have h2:W0.drew.heap.size=W0.heap.size:=rfl;simp[World.drew] at h1⊢;omega))
   case mb=>
    first
     |(refine cZ (Y:=w1) (HZ.out _ _ rfl) ?_ ?_ I ?_ ?_;(focus (first|rfl|(simp;done)));(focus ((repeat(first|exact Below.refl _ _|apply al|apply bu|refine aN ?_ o));done));(focus (have h1:=o.size;first|omega|(simp at h1⊢;done)|(simp at h1⊢;omega)|(have h2:W0.drew.heap.size=W0.heap.size:=rfl;simp[World.drew] at h1⊢;omega)));(focus (have h1:=o.size;first|omega|(simp at h1⊢;done)|(simp at h1⊢;omega)|(have h2:W0.drew.heap.size=W0.heap.size:=rfl;simp[World.drew] at h1⊢;omega))))
     |(refine cZ (Y:=(w1.alloc (.cells J 3))) (HZ.out _ _ rfl) ?_ ?_ I ?_ ?_;(focus (first|rfl|(simp;done)));(focus ((repeat(first|exact Below.refl _ _|apply al|apply bu|refine aN ?_ o));done));(focus (have h1:=o.size;first|omega|(simp at h1⊢;done)|(simp at h1⊢;omega)|(have h2:W0.drew.heap.size=W0.heap.size:=rfl;simp[World.drew] at h1⊢;omega)));(focus (have h1:=o.size;first|omega|(simp at h1⊢;done)|(simp at h1⊢;omega)|(have h2:W0.drew.heap.size=W0.heap.size:=rfl;simp[World.drew] at h1⊢;omega))))
     |(refine cZ (Y:=W0) (HZ.out _ _ rfl) ?_ ?_ I ?_ ?_;(focus (first|rfl|(simp;done)));(focus ((repeat(first|exact Below.refl _ _|apply al|apply bu|refine aN ?_ o));done));(focus (have h1:=o.size;first|omega|(simp at h1⊢;done)|(simp at h1⊢;omega)|(have h2:W0.drew.heap.size=W0.heap.size:=rfl;simp[World.drew] at h1⊢;omega)));(focus (have h1:=o.size;first|omega|(simp at h1⊢;done)|(simp at h1⊢;omega)|(have h2:W0.drew.heap.size=W0.heap.size:=rfl;simp[World.drew] at h1⊢;omega))))
     |(refine cZ (Y:=(W0.alloc (.cells J 3))) (HZ.out _ _ rfl) ?_ ?_ I ?_ ?_;(focus (first|rfl|(simp;done)));(focus ((repeat(first|exact Below.refl _ _|apply al|apply bu|refine aN ?_ o));done));(focus (have h1:=o.size;first|omega|(simp at h1⊢;done)|(simp at h1⊢;omega)|(have h2:W0.drew.heap.size=W0.heap.size:=rfl;simp[World.drew] at h1⊢;omega)));(focus (have h1:=o.size;first|omega|(simp at h1⊢;done)|(simp at h1⊢;omega)|(have h2:W0.drew.heap.size=W0.heap.size:=rfl;simp[World.drew] at h1⊢;omega))))
     |fail
  ·refine⟨rfl,?w9,?xa,?xb,?xl,?xq,?xv,?xy,?x0,?x1,?x2,?x3,?x4,?x5,?x6,?x7,?x8,?eq_4,?ml,?mn,?mv,?mx,by(go_split_ands;assumption),by(go_split_ands;assumption)⟩
   case eq_4=>rfl
   case mn=>(refine kN ?_;first|rfl|(simp;done))
   case ml=>(have h1:=o.size;first|omega|(simp at h1⊢;done)|(simp at h1⊢;omega)|(have h2:W0.drew.heap.size=W0.heap.size:=rfl;simp[World.drew] at h1⊢;omega))
   case mv=>
    refine kO I ?_ ?_ ?_
    ·(have h1:=o.size;first|omega|(simp at h1⊢;done)|(simp at h1⊢;omega)|(have h2:W0.drew.heap.size=W0.heap.size:=rfl;simp[World.drew] at h1⊢;omega))
    ·(first|exact fun h=>h|exact fun h=>Kd.aD h _|exact fun h=>Kd.aD (Kd.aD h _) _|exact fun h=>Kd.aD (Kd.aD (Kd.aD h _) _) _)
    ·(have h1:=o.size;first|omega|(simp at h1⊢;done)|(simp at h1⊢;omega)|(have h2:W0.drew.heap.size=W0.heap.size:=rfl;simp[World.drew] at h1⊢;omega))
   case mx=>
    first
     |(refine cZ (Y:=w1) (HZ.out _ _ rfl) ?_ ?_ I ?_ ?_;(focus (first|rfl|(simp;done)));(focus ((repeat(first|exact Below.refl _ _|apply al|apply bu|refine aN ?_ o));done));(focus (have h1:=o.size;first|omega|(simp at h1⊢;done)|(simp at h1⊢;omega)|(have h2:W0.drew.heap.size=W0.heap.size:=rfl;simp[World.drew] at h1⊢;omega)));(focus (have h1:=o.size;first|omega|(simp at h1⊢;done)|(simp at h1⊢;omega)|(have h2:W0.drew.heap.size=W0.heap.size:=rfl;simp[World.drew] at h1⊢;omega))))
     |(refine cZ (Y:=(w1.alloc (.cells J 3))) (HZ.out _ _ rfl) ?_ ?_ I ?_ ?_;(focus (first|rfl|(simp;done)));(focus ((repeat(first|exact Below.refl _ _|apply al|apply bu|refine aN ?_ o));done));(focus (have h1:=o.size;first|omega|(simp at h1⊢;done)|(simp at h1⊢;omega)|(have h2:W0.drew.heap.size=W0.heap.size:=rfl;simp[World.drew] at h1⊢;omega)));(focus (have h1:=o.size;first|omega|(simp at h1⊢;done)|(simp at h1⊢;omega)|(have h2:W0.drew.heap.size=W0.heap.size:=rfl;simp[World.drew] at h1⊢;omega))))
     |(refine cZ (Y:=W0) (HZ.out _ _ rfl) ?_ ?_ I ?_ ?_;(focus (first|rfl|(simp;done)));(focus ((repeat(first|exact Below.refl _ _|apply al|apply bu|refine aN ?_ o));done));(focus (have h1:=o.size;first|omega|(simp at h1⊢;done)|(simp at h1⊢;omega)|(have h2:W0.drew.heap.size=W0.heap.size:=rfl;simp[World.drew] at h1⊢;omega)));(focus (have h1:=o.size;first|omega|(simp at h1⊢;done)|(simp at h1⊢;omega)|(have h2:W0.drew.heap.size=W0.heap.size:=rfl;simp[World.drew] at h1⊢;omega))))
     |(refine cZ (Y:=(W0.alloc (.cells J 3))) (HZ.out _ _ rfl) ?_ ?_ I ?_ ?_;(focus (first|rfl|(simp;done)));(focus ((repeat(first|exact Below.refl _ _|apply al|apply bu|refine aN ?_ o));done));(focus (have h1:=o.size;first|omega|(simp at h1⊢;done)|(simp at h1⊢;omega)|(have h2:W0.drew.heap.size=W0.heap.size:=rfl;simp[World.drew] at h1⊢;omega)));(focus (have h1:=o.size;first|omega|(simp at h1⊢;done)|(simp at h1⊢;omega)|(have h2:W0.drew.heap.size=W0.heap.size:=rfl;simp[World.drew] at h1⊢;omega))))
     |fail
  ·refine⟨rfl,?x9,?x',?ys,?y0,?y1,?y2,?y3,?y4,?y5,?y6,?y7,?y8,?y9,?y_,?y',?zb,?eq_5,?m0,?m1,?m2,?m3,by(go_split_ands;assumption),by(go_split_ands;assumption)⟩
   case eq_5=>rfl
   case m1=>(refine kN ?_;first|rfl|(simp;done))
   case m0=>(have h1:=o.size;first|omega|(simp at h1⊢;done)|(simp at h1⊢;omega)|(have h2:W0.drew.heap.size=W0.heap.size:=rfl;simp[World.drew] at h1⊢;omega))
   case m2=>
    refine kO I ?_ ?_ ?_
    ·(have h1:=o.size;first|omega|(simp at h1⊢;done)|(simp at h1⊢;omega)|(have h2:W0.drew.heap.size=W0.heap.size:=rfl;simp[World.drew] at h1⊢;omega))
    ·(first|exact fun h=>h|exact fun h=>Kd.aD h _|exact fun h=>Kd.aD (Kd.aD h _) _|exact fun h=>Kd.aD (Kd.aD (Kd.aD h _) _) _)
    ·(have h1:=o.size;first|omega|(simp at h1⊢;done)|(simp at h1⊢;omega)|(have h2:W0.drew.heap.size=W0.heap.size:=rfl;simp[World.drew] at h1⊢;omega))
   case m3=>
    first
     |(refine cZ (Y:=w1) (HZ.out _ _ rfl) ?_ ?_ I ?_ ?_;(focus (first|rfl|(simp;done)));(focus ((repeat(first|exact Below.refl _ _|apply al|apply bu|refine aN ?_ o));done));(focus (have h1:=o.size;first|omega|(simp at h1⊢;done)|(simp at h1⊢;omega)|(have h2:W0.drew.heap.size=W0.heap.size:=rfl;simp[World.drew] at h1⊢;omega)));(focus (have h1:=o.size;first|omega|(simp at h1⊢;done)|(simp at h1⊢;omega)|(have h2:W0.drew.heap.size=W0.heap.size:=rfl;simp[World.drew] at h1⊢;omega))))
     |(refine cZ (Y:=(w1.alloc (.cells J 3))) (HZ.out _ _ rfl) ?_ ?_ I ?_ ?_;(focus (first|rfl|(simp;done)));(focus ((repeat(first|exact Below.refl _ _|apply al|apply bu|refine aN ?_ o));done));(focus (have h1:=o.size;first|omega|(simp at h1⊢;done)|(simp at h1⊢;omega)|(have h2:W0.drew.heap.size=W0.heap.size:=rfl;simp[World.drew] at h1⊢;omega)));(focus (have h1:=o.size;first|omega|(simp at h1⊢;done)|(simp at h1⊢;omega)|(have h2:W0.drew.heap.size=W0.heap.size:=rfl;simp[World.drew] at h1⊢;omega))))
     |(refine cZ (Y:=W0) (HZ.out _ _ rfl) ?_ ?_ I ?_ ?_;(focus (first|rfl|(simp;done)));(focus ((repeat(first|exact Below.refl _ _|apply al|apply bu|refine aN ?_ o));done));(focus (have h1:=o.size;first|omega|(simp at h1⊢;done)|(simp at h1⊢;omega)|(have h2:W0.drew.heap.size=W0.heap.size:=rfl;simp[World.drew] at h1⊢;omega)));(focus (have h1:=o.size;first|omega|(simp at h1⊢;done)|(simp at h1⊢;omega)|(have h2:W0.drew.heap.size=W0.heap.size:=rfl;simp[World.drew] at h1⊢;omega))))
     |(refine cZ (Y:=(W0.alloc (.cells J 3))) (HZ.out _ _ rfl) ?_ ?_ I ?_ ?_;(focus (first|rfl|(simp;done)));(focus ((repeat(first|exact Below.refl _ _|apply al|apply bu|refine aN ?_ o));done));(focus (have h1:=o.size;first|omega|(simp at h1⊢;done)|(simp at h1⊢;omega)|(have h2:W0.drew.heap.size=W0.heap.size:=rfl;simp[World.drew] at h1⊢;omega)));(focus (have h1:=o.size;first|omega|(simp at h1⊢;done)|(simp at h1⊢;omega)|(have h2:W0.drew.heap.size=W0.heap.size:=rfl;simp[World.drew] at h1⊢;omega))))
     |fail
theorem jX {k:Nat} {N:Int} {E:List S83} {q:Int} (h:cN.f k N E q=some 0):aJ.f k N E=some 0∧(0<=N∧N<=12)∧cu (az E) N.toNat=1∧0<=q∧q<N:=by
 unfold cN.f bH.f at h
 simp only[Option.bind_assoc] at h
 obtain⟨t,j,h⟩:=Option.bind_eq_some_iff.1 h
 by_cases h0:t=0
 ·subst h0
  rw[if_pos rfl] at h
  by_cases hk:jg N E=true
  ·rw[if_pos hk] at h
   simp only[Option.bind_some,if_pos] at h
   simp only[jg,Bool.and_eq_true,decide_eq_true_eq] at hk
   refine⟨j,hk.1,?_⟩
   by_cases hr:cu (az E) N.toNat=1
   ·simp only[hr,decide_true,if_true] at h
    by_cases h1:q<0
    ·rw[if_pos h1] at h;exact absurd (Option.some.inj h) (by decide)
    ·rw[if_neg h1] at h
     by_cases h2:q>=N
     ·rw[if_pos h2] at h;exact absurd (Option.some.inj h) (by decide)
     ·exact⟨hr,by omega,by omega⟩
   ·simp[hr] at h
  ·rw[if_neg hk] at h;cases h
 ·rw[if_neg h0] at h
  simp[h0] at h
def jY (N:Int) (E:List S83):Bool:=d_ E&&gw N E
def fV (j:Nat->Nat):Nat->List Int->List (List Int)
 |0,p=>[p]
 |k+1,p=>(List.range (j p.length+1)).flatMap fun (x:Nat)=>fV j k (p++[(x:Int)])
def cF (q B:Nat) (calm:List Int->Bool):Nat->List Int->List (List Int)
 |0,p=>[p]
 |k+1,p=>if p.length=q then cF q B calm k (p++[0]) else((List.range B).takeWhile fun (x:Nat)=>calm (p++(x:Int)::List.replicate k 0)).flatMap fun (x:Nat)=>cF q B calm k (p++[(x:Int)])
def cV:List Int->List Int->Prop
 |[],[]=>True
 |x::a,y::b=>x<=y∧cV a b
 |_,_=>False
theorem cV.refl:∀l,cV l l
 |[]=>trivial
 |x::l=>⟨Int.le_refl x,cV.refl l⟩
theorem cV.append {a b c d:List Int} (h:cV a b) (h2:cV c d):cV (a++c) (b++d):=by
 induction a generalizing b with
 |nil=>cases b with|nil=>exact h2|cons=>exact h.elim
 |cons x a j=>cases b with|nil=>exact h.elim|cons y b=>exact⟨h.1,j h.2⟩
theorem cV.trans {a b c:List Int} (h:cV a b) (h2:cV b c):cV a c:=by
 induction a generalizing b c with
 |nil=>cases b with|nil=>exact h2|cons=>exact h.elim
 |cons x a j=>cases b with
  |nil=>exact h.elim
  |cons y b=>cases c with|nil=>exact h2.elim|cons z c=>exact⟨Int.le_trans h.1 h2.1,j h.2 h2.2⟩
theorem cV.length {a b:List Int} (h:cV a b):a.length=b.length:=by
 induction a generalizing b with
 |nil=>cases b with|nil=>rfl|cons=>exact h.elim
 |cons x a j=>cases b with|nil=>exact h.elim|cons y b=>simp[j h.2]
theorem Bu (j:Nat->Nat):∀(k:Nat) (p l:List Int),l∈fV j k p->cV (p++List.replicate k 0) l:=by
 intro k
 induction k with
 |zero=>intro p l h;simp[fV] at h;subst h;simpa using cV.refl l
 |succ k o=>
  intro p l h
  simp only[fV,List.mem_flatMap] at h
  obtain⟨x,J,I⟩:=h
  refine cV.trans ?_ (o _ _ I)
  rw[List.replicate_succ,List.append_assoc]
  exact(cV.refl p).append ⟨by omega,cV.refl _⟩
theorem range_split {B m:Nat} (h:m<=B):List.range B=List.range m++(List.range (B-m)).map (m+ ·):=by
 conv=>lhs;rw[show B=m+(B-m) by omega,List.range_add]
theorem Bv {α:Type} (P:Nat->Bool) (F:Nat->List α) (I:∀x y,y<=x->P x=true->P y=true):∀(B:Nat),((List.range B).takeWhile P).flatMap F=(List.range B).flatMap fun x=>if P x then F x else[]:=by
 intro B
 induction B with
 |zero=>rfl
 |succ B J=>
  rw[List.range_succ,List.flatMap_append,<-J]
  by_cases h:∀x∈List.range B,P x=true
  ·rw[List.takeWhile_append_of_pos h,List.flatMap_append]
   have h2:(List.range B).takeWhile P=List.range B:=by
    have:=List.takeWhile_append_of_pos (l₂:=[]) h
    simpa using this
   rw[h2]
   congr 1
   cases j:P B<;>simp[j]
  ·have j:P B=false:=by
    cases j:P B with
    |false=>rfl
    |true=>exact absurd (fun x o=>I B x (by have:=List.mem_range.1 o;omega) j) h
   rw[List.takeWhile_append,if_neg ?_]
   ·simp[j]
   ·intro e
    refine h fun x o=>?_
    have R:(List.range B).takeWhile P=List.range B:=(List.takeWhile_prefix P).eq_of_length e
    rw[<-R] at o
    exact List.all_eq_true.1 (List.all_takeWhile) x o
theorem Bw {α:Type} (P:Nat->Bool) (F:Nat->List α) (M B:Nat) (j:M<=B) (hM:∀x,P x=true->x<M):((List.range B).flatMap fun x=>if P x then F x else[])=(List.range M).flatMap fun x=>if P x then F x else[]:=by
 rw[range_split j,List.flatMap_append]
 rw[show ((List.range (B-M)).map (M+ ·)).flatMap (fun x=>if P x then F x else[])=[] from ?_]
 ·simp
 ·rw[List.flatMap_eq_nil_iff]
  intro x o
  obtain⟨y,_,rfl⟩:=List.mem_map.1 o
  cases h:P (M+y) with
  |false=>simp
  |true=>have:=hM _ h;omega
theorem Bx (q B:Nat) (calm:List Int->Bool) (j:Nat->Nat) (n:Nat) (I:∀a b,a.length=n->cV a b->calm b=true->calm a=true) (U:∀l v,l.length=n->v<n->v≠q->calm l=true->rd l v<=(j v:Int)) (hq:j q=0) (hB:∀v,v<n->j v+1<=B):
  ∀(k:Nat) (p:List Int),p.length+k=n->(calm (p++List.replicate k 0)=true∨∃v,p.length<=v∧v<n∧v≠q)->cF q B calm k p=(fV j k p).filter calm:=by
 intro k
 induction k with
 |zero=>
  rintro p hp (h|⟨v,h1,h2,_⟩)
  ·simp at h;simp[cF,fV,h]
  ·omega
 |succ k J=>
  intro p hp h
  have an:(p++[(0:Int)]).length=p.length+1:=by simp
  by_cases e:p.length=q
  ·rw[cF,if_pos e,fV,e,hq]
   simp only[Nat.zero_add,List.range_one,List.flatMap_cons,List.flatMap_nil,List.append_nil,Int.natCast_zero,Int.ofNat_zero]
   refine J (p++[0]) (by simp;omega) ?_
   rcases h with h|⟨v,h1,h2,h3⟩
   ·left;rw[List.append_assoc];simpa [List.replicate_succ] using h
   ·right;exact⟨v,by simp;omega,h2,h3⟩
  ·rw[cF,if_neg e,fV,List.filter_flatMap]
   have ad:∀x y:Nat,y<=x->calm (p++(x:Int)::List.replicate k 0)=true->calm (p++(y:Int)::List.replicate k 0)=true:=fun x y ar o=>I _ _ (by simp;omega) ((cV.refl p).append (show cV ((y:Int)::List.replicate k 0) ((x:Int)::List.replicate k 0) from⟨by omega,cV.refl _⟩)) o
   rw[Bv (fun x:Nat=>calm (p++(x:Int)::List.replicate k 0)) _ ad]
   rw[Bw (fun x:Nat=>calm (p++(x:Int)::List.replicate k 0)) _ (j p.length+1) B (hB _ (by omega)) (fun x o=>by
    have:=U _ p.length (by simp;omega) (by omega) e o
    have hr:rd (p++(x:Int)::List.replicate k 0) p.length=x:=by simp[rd,List.getD_eq_getElem?_getD]
    rw[hr] at this;omega)]
   congr 1
   funext x
   have R:(p++[(x:Int)])++List.replicate k 0=p++(x:Int)::List.replicate k 0:=by simp
   cases hc:calm (p++(x:Int)::List.replicate k 0) with
   |true=>
    rw[if_pos rfl]
    exact J _ (by simp;omega) (.inl (by rw[R];exact hc))
   |false=>
    rw[if_neg (by simp)]
    symm
    rw[List.filter_eq_nil_iff]
    intro l ag
    have h1:=Bu j k _ l ag
    rw[R] at h1
    cases ak:calm l with
    |false=>simp
    |true=>have:=I _ _ (by simp;omega) h1 ak;rw[hc] at this;cases this
def jZ (j:Nat->Nat) (v:Nat) (L:List (List Int)):List (List Int):=L.flatMap fun p=>(List.range (j v+1)).map fun (x:Nat)=>p++[(x:Int)]
def dt (j:Nat->Nat):Nat->List (List Int)
 |0=>[[]]
 |v+1=>jZ j v (dt j v)
theorem np (j:Nat->Nat):∀(v:Nat) (l:List Int),l∈dt j v->l.length=v
 |0,l,h=>by simp[dt] at h;subst h;rfl
 |v+1,l,h=>by
  simp only[dt,jZ,List.mem_flatMap,List.mem_map] at h
  obtain⟨p,hp,x,_,rfl⟩:=h
  simp[np j v p hp]
theorem uh {α β:Type} {f g:α->List β}:∀(l:List α),(∀x∈l,f x=g x)->l.flatMap f=l.flatMap g
 |[],_=>rfl
 |x::l,h=>by simp only[List.flatMap_cons];rw[h x (by simp),uh l (fun y j=>h y (by simp[j]))]
theorem By (j:Nat->Nat) (k:Nat):∀v,(dt j v).flatMap (fV j k)=dt j (v+k):=by
 induction k with
 |zero=>intro v;simp only[Nat.add_zero];rw[show fV j 0=fun p=>[p] from rfl];simp
 |succ k o=>
  intro v
  rw[show v+(k+1)=(v+1)+k by omega,<-o (v+1),dt,jZ,List.flatMap_assoc]
  refine uh _ fun p hp=>?_
  rw[fV,np j v p hp,List.flatMap_map]
theorem Bz (j:Nat->Nat) (n:Nat):dt j n=fV j n []:=by
 have h:=By j n 0
 simpa [dt] using h.symm
def gY.f (k:Nat) (o:Int) (I:List (S83)) (J:Int) (l2:List Int):Option (Bool×Int):=(jl.f k o I J l2).bind fun j=>(if j.2.2=0 then(some (((j.2.1.length:Int)==0),j.2.2)) else(some (false,j.2.2)))
theorem gY.calls (k:Nat) (J:Int) (ad:Option Addr) (ag:Nat) (j:List (S83)) (R:Int) (A2:Option Addr) (c2:Nat) (l2:List Int) (r1:Bool) (r2:Int) (w:World) (a3:Kd.C aG w ad j.length j) (bf:j.length<=ag) (bg:Kd.C (Kd.int .i64) w A2 l2.length l2) (bk:l2.length<=c2) (h:gY.f k J j R l2=some (r1,r2)):
  Calls Tryz.prog 201 #[.agg #[.int .i64 J,.slice ad j.length ag],.int .i64 R,.slice A2 l2.length c2] w fun e w'=>e= .returned (.tuple #[.bool r1,.int .i64 r2])∧Below w.heap.size w w':=by
 have ch:=Tryz.underlying24
 have bn:=Aside0.mk a3
 have bo:=Aside0.mk bf
 clear a3 bf
 have bw:=Aside0.mk bg
 have bx:=Aside0.mk bk
 clear bg bk
 have o:=Aside0.mk (Below.refl w.heap.size w)
 have H:((jl.f k J j R l2).bind fun aL=>(if aL.2.2=0 then(some (((aL.2.1.length:Int)==0),aL.2.2)) else(some (false,aL.2.2))))=some (r1,r2):=h
 clear h
 replace H:=Option.bind_eq_some_iff.mp H
 obtain⟨⟨b0,aO,I⟩,b1,H⟩:=H
 replace H:(if I=0 then(some (((aO.length:Int)==0),I)) else(some (false,I)))=some (r1,r2):=H
 have A4:=Aside0.mk b1
 clear b1
 by_cases U:I=0
 ·rw[if_pos U] at H
  have b4:(I==0)=true:=beq_iff_eq.mpr U
  have b5:(I != 0)=false:=bne_eq_false_iff_eq.mpr U
  clear U
  simp only[Option.some.injEq,Prod.mk.injEq] at H
  obtain⟨rfl,rfl⟩:=H
  go_enter Tryz.func201,Tryz.ntmps201
  go_wp2_with (first|((with_reducible refine aA (N:=3) rfl ?_);(try(refine dk (by rfl) ?_;dsimp only));refine zX 3 #[.int .i64 J,.slice ad j.length ag] 24 ?_;intro b_ hg w6 ak hb;have ab:=Aside0.mk (ak);have b':=zG o hg;have ca:=zG o hg;replace o:=zS o hb;clear hb ak hg;obtain⟨ck,cl,cq,cr⟩:=ao ab)|((with_reducible refine au (f:=213) rfl ?_);refine zL (some 15) Tryz.func213 #[.agg #[.int .i64 J,.slice ad j.length ag],.int .i64 R,.slice A2 l2.length c2] ?_;(with_reducible refine(jl.calls k J _ _ j R _ _ l2 b0 aO I _ ?aP ?aS ?a0 ?a2 A4.out).mono ?_);(case aP=>exact Kd.aj bn.out zB);(case aS=>exact bo.out);(case a0=>exact Kd.aj bw.out zB);(case a2=>exact bx.out);rintro e w8 ⟨cb,cc,rfl,an,ar,hb⟩;refine⟨_,rfl,?_⟩;have cd:=Aside0.mk (Kd.aM an (aU zB));have b3:=Aside0.mk (Kd.aM ar (aU zB));replace ab:=zb ab hb;replace o:=zS o hb;(try clear hb);(try clear an);(try clear ar);obtain⟨cx,c0,cf⟩:=Kd.a7 b3.out;subst cf))
  go_ret2
  exact⟨zE,zB⟩
 ·rw[if_neg U] at H
  have b4:(I==0)=false:=beq_eq_false_iff_ne.mpr U
  have b5:(I != 0)=true:=bne_iff_ne.mpr U
  simp only[Option.some.injEq,Prod.mk.injEq] at H
  obtain⟨rfl,rfl⟩:=H
  go_enter Tryz.func201,Tryz.ntmps201
  go_wp2_with (first|((with_reducible refine aA (N:=3) rfl ?_);(try(refine dk (by rfl) ?_;dsimp only));refine zX 3 #[.int .i64 J,.slice ad j.length ag] 24 ?_;intro b_ hg c1 ak hb;have ab:=Aside0.mk (ak);have b':=zG o hg;have ca:=zG o hg;replace o:=zS o hb;clear hb ak hg;obtain⟨c3,c4,c6,c7⟩:=ao ab)|((with_reducible refine au (f:=213) rfl ?_);refine zL (some 15) Tryz.func213 #[.agg #[.int .i64 J,.slice ad j.length ag],.int .i64 R,.slice A2 l2.length c2] ?_;(with_reducible refine(jl.calls k J _ _ j R _ _ l2 b0 aO I _ ?aP ?aS ?a0 ?a2 A4.out).mono ?_);(case aP=>exact Kd.aj bn.out zB);(case aS=>exact bo.out);(case a0=>exact Kd.aj bw.out zB);(case a2=>exact bx.out);rintro e c8 ⟨cb,cc,rfl,an,ar,hb⟩;refine⟨_,rfl,?_⟩;have cd:=Aside0.mk (Kd.aM an (aU zB));have b3:=Aside0.mk (Kd.aM ar (aU zB));replace ab:=zb ab hb;replace o:=zS o hb;(try clear hb);(try clear an);(try clear ar)))
  go_ret2
  exact⟨zE,zB⟩
def fC.f (k:Nat) (o:Int) (I:List (S83)) (J:Int) (l2:List Int):Option (Bool):=(gY.f k o I J l2).bind fun j=>(if j.1=true then(some (j.2==0)) else(some false))
theorem fC.calls (k:Nat) (I:Int) (aa:Option Addr) (ab:Nat) (j:List (S83)) (J:Int) (A2:Option Addr) (c2:Nat) (l2:List Int) (r:Bool) (w:World) (aL:Kd.C aG w aa j.length j) (aO:j.length<=ab) (aP:Kd.C (Kd.int .i64) w A2 l2.length l2) (aS:l2.length<=c2) (h:fC.f k I j J l2=some r):
  Calls Tryz.prog 176 #[.agg #[.int .i64 I,.slice aa j.length ab],.int .i64 J,.slice A2 l2.length c2] w fun e w'=>e= .returned (.bool r)∧Below w.heap.size w w':=by
 have b1:=Tryz.underlying24
 have a0:=Aside0.mk aL
 have a2:=Aside0.mk aO
 clear aL aO
 have a3:=Aside0.mk aP
 have bf:=Aside0.mk aS
 clear aP aS
 have o:=Aside0.mk (Below.refl w.heap.size w)
 have H:((gY.f k I j J l2).bind fun bg=>(if bg.1=true then(some (bg.2==0)) else(some false)))=some r:=h
 clear h
 replace H:=Option.bind_eq_some_iff.mp H
 obtain⟨⟨bk,ak⟩,bn,H⟩:=H
 replace H:(if bk=true then(some (ak==0)) else(some false))=some r:=H
 have A4:=Aside0.mk bn
 clear bn
 by_cases c5:bk=true
 ·subst c5
  have H1:(some (ak==0))=some r:=by rw[if_pos rfl] at H;exact H
  clear H
  have H:=H1
  clear H1
  obtain rfl:=Option.some.inj H
  go_enter Tryz.func176,Tryz.ntmps176
  go_wp2_with (first|((with_reducible refine aA (N:=3) rfl ?_);refine zX 3 #[.int .i64 I,.slice aa j.length ab] 24 ?_;intro bw R w6 ad hb;have U:=Aside0.mk (ad);have bx:=zG o R;have b0:=zG o R;replace o:=zS o hb;clear hb ad R;obtain⟨b3,b4,b5,b_⟩:=ao U)|((with_reducible refine au (f:=201) rfl ?_);refine zL (some 13) Tryz.func201 #[.agg #[.int .i64 I,.slice aa j.length ab],.int .i64 J,.slice A2 l2.length c2] ?_;(with_reducible refine(gY.calls k I _ _ j J _ _ l2 true ak _ ?ar ?av ?aB ?aF A4.out).mono ?_);(case ar=>exact Kd.aj a0.out zB);(case av=>exact a2.out);(case aB=>exact Kd.aj a3.out zB);(case aF=>exact bf.out);rintro e w8 ⟨rfl,hb⟩;refine⟨_,rfl,?_⟩;replace U:=zb U hb;replace o:=zS o hb;(try clear hb)))
  go_ret
  exact⟨zE,zB⟩
 ·replace c5:=Bool.eq_false_iff.mpr c5
  subst c5
  have H1:(some false)=some r:=by rw[if_neg (show ¬(false=true) by decide)] at H;exact H
  clear H
  have H:=H1
  clear H1
  obtain rfl:=Option.some.inj H
  go_enter Tryz.func176,Tryz.ntmps176
  go_wp2_with (first|((with_reducible refine aA (N:=3) rfl ?_);refine zX 3 #[.int .i64 I,.slice aa j.length ab] 24 ?_;intro bw R w9 ad hb;have U:=Aside0.mk (ad);have bx:=zG o R;have b0:=zG o R;replace o:=zS o hb;clear hb ad R;obtain⟨cb,cc,cd,cf⟩:=ao U)|((with_reducible refine au (f:=201) rfl ?_);refine zL (some 13) Tryz.func201 #[.agg #[.int .i64 I,.slice aa j.length ab],.int .i64 J,.slice A2 l2.length c2] ?_;(with_reducible refine(gY.calls k I _ _ j J _ _ l2 false ak _ ?ar ?av ?aB ?aF A4.out).mono ?_);(case ar=>exact Kd.aj a0.out zB);(case av=>exact a2.out);(case aB=>exact Kd.aj a3.out zB);(case aF=>exact bf.out);rintro e fE ⟨rfl,hb⟩;refine⟨_,rfl,?_⟩;replace U:=zb U hb;replace o:=zS o hb;(try clear hb)))
  go_ret
  exact⟨zE,zB⟩
end Go.Proofs.YtffdiakgjakngaaGreat.P

