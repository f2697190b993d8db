/- TopRochUnwinnable answers true whatever the input (text 8 of 19): own walks and plain laws; no conditions. -/
import Derived.BigQuiet
import Derived.BigRegionIn
import Derived.Deep.QuietTactic
import Derived.Deep.RegionLaw
import Derived.Lib.Hide
import Derived.Outline
import Derived.Sort.QuietIn
import Derived.WalkSpells
import Derived.Test.YtffdiakgjakngaaGreatRoch7
namespace Go.Proofs.YtffdiakgjakngaaGreat.P
open Go.RowKit Go.Proofs.YtffdiakgjakngaaGreatW.PrintWords Go.Proofs.YtffdiakgjakngaaGreatW.PrintLast Go.Proofs.YtffdiakgjakngaaGreatW.PrintMore
set_option linter.unusedVariables false
set_option linter.unusedSimpArgs false
set_option maxHeartbeats 8000000
set_option maxRecDepth 100000
section
attribute [local go_sem] Oper.semAt_some jG jH jI jJ mF mG mH mI
def gE (t:Int) (v:Nat) (d:List Int) (x:Int×Int):List Int:=
 (d.set v (wrap64 (rd d v-wrap64 (x.2*t)))).set x.1.toNat (wrap64 (rd (d.set v (wrap64 (rd d v-wrap64 (x.2*t)))) x.1+wrap64 (x.2*t)))
def eR (t:Int) (v:Nat) (d:List Int) (L:List (Int×Int)):List Int:=L.foldl (gE t v) d
theorem Al (t:Int) (v:Nat) (d:List Int) (L:List (Int×Int)) (x:Int×Int):eR t v d (L++[x])=gE t v (eR t v d L) x:=by simp[eR,List.foldl_append]
theorem tx (t:Int) (v:Nat) (d:List Int) (x:Int×Int):(gE t v d x).length=d.length:=by simp[gE]
theorem pH (t:Int) (v:Nat):∀(L:List (Int×Int)) (d:List Int),(eR t v d L).length=d.length
 |[],_=>rfl
 |x::L,d=>(pH t v L _).trans (tx t v d x)
def a4 (E:List S83) (In:Nat->Bool) (t:Int):Nat->List Int×List Int->List Int×List Int
 |0,p=>p
 |k+1,p=>if In k=true then(eR t k (a4 E In t k p).1 (bL E k E.length),(a4 E In t k p).2.set k (wrap64 (rd (a4 E In t k p).2 k+t))) else a4 E In t k p
theorem lW (E:List S83) (In:Nat->Bool) (t:Int) (p:List Int×List Int):∀k,(a4 E In t k p).1.length=p.1.length∧(a4 E In t k p).2.length=p.2.length
 |0=>⟨rfl,rfl⟩
 |k+1=>by
  have h:=lW E In t p k
  unfold a4
  split
  ·exact⟨(pH ..).trans h.1,by rw[List.length_set];exact h.2⟩
  ·exact h
structure FI (w0 w:World) (g gd gs gi cd cs ci n:Nat) (A0:Option Addr) (c0:Nat) (E:List S83) (q:Int) (In:Nat->Bool) (t:Int) (d s:List Int) (W:World):Prop where
 si:SI w0 g gd gs cd cs n A0 c0 E q d s W
 x1:W.heap[w.heap.size]? =some (.cells #[.pointer (some ⟨g,0,none⟩)] 135 (0,0))
 x2:W.heap[w.heap.size+1]? =some (.cells #[.int .i64 t] 3 (0,0))
 hi:Kd.bool.R 4 W w0.heap.size (fun _=>True) (.slice (some ⟨gi,0,none⟩) n ci) ((List.range n).map In)
 hf:∀k,k<w.heap.size->k≠gd->k≠gs->W.heap[k]? =w.heap[k]?
 aK:w.heap.size+2<=W.heap.size
 hw:w0.heap.size<=w.heap.size∧gd<w.heap.size∧gs<w.heap.size∧g<w.heap.size∧gd≠gi∧gs≠gi
namespace FI
variable {w0 w W W':World} {g gd gs gi cd cs ci n c0 l:Nat} {A0:Option Addr} {E:List S83} {q t:Int} {In:Nat->Bool} {d s:List Int}
theorem below (h:FI w0 w g gd gs gi cd cs ci n A0 c0 E q In t d s W) (hb:Below W.heap.size W W'):FI w0 w g gd gs gi cd cs ci n A0 c0 E q In t d s W':=⟨h.si.below hb,aE h.x1 hb,aE h.x2 hb,Kd.bY h.hi hb,fun k h1 h2 j=>(hb.block k (by have:=h.aK;omega)).trans (h.hf k h1 h2 j),Nat.le_trans h.aK hb.size,h.hw⟩
theorem alloc (h:FI w0 w g gd gs gi cd cs ci n A0 c0 E q In t d s W) (o:Obj):FI w0 w g gd gs gi cd cs ci n A0 c0 E q In t d s (W.alloc o):=h.below (al (Below.refl _ _) o)
theorem drewN (h:FI w0 w g gd gs gi cd cs ci n A0 c0 E q In t d s W) (m:Nat):FI w0 w g gd gs gi cd cs ci n A0 c0 E q In t d s (W.drewN m):=h.below (bC (Below.refl _ _) m)
theorem drew (h:FI w0 w g gd gs gi cd cs ci n A0 c0 E q In t d s W):FI w0 w g gd gs gi cd cs ci n A0 c0 E q In t d s W.drew:=h.drewN 1
theorem bk (h:FI w0 w g gd gs gi cd cs ci n A0 c0 E q In t d s W) (hb:Bk l W W') (j:w.heap.size<=l):FI w0 w g gd gs gi cd cs ci n A0 c0 E q In t d s W':=⟨h.si.bk hb (Nat.le_trans h.hw.1 j),hb.cells h.x1,hb.cells h.x2,dr h.hi hb,fun k h1 h2 o=>(hb.heap k (by omega)).trans (h.hf k h1 h2 o),by rw[hb.size];exact h.aK,h.hw⟩
theorem nf (h:FI w0 w g gd gs gi cd cs ci n A0 c0 E q In t d s W) (v:Nat) (x:Int):FI w0 w g gd gs gi cd cs ci n A0 c0 E q In t (d.set v x) s (W.setCell ⟨gd,v,none⟩ (.int .i64 x)):=
 ⟨h.si.nf v x,ay h.x1 (by show w.heap.size≠gd;have:=h.hw;omega) _,ay h.x2 (by show w.heap.size+1≠gd;have:=h.hw;omega) _,by
  have j:=Kd.cL h.si.d (v:Int) x
  rw[Int.toNat_natCast] at j
  exact Kd.ga h.hi rfl j.2 (fun e=>by cases e;exact h.hw.2.2.2.2.1 rfl),fun k h1 h2 o=>(Below.heap_setCell _ _ _ _ h2).trans (h.hf k h1 h2 o),by simpa using h.aK,h.hw⟩
theorem ng (h:FI w0 w g gd gs gi cd cs ci n A0 c0 E q In t d s W) (v:Nat) (x:Int):FI w0 w g gd gs gi cd cs ci n A0 c0 E q In t d (s.set v x) (W.setCell ⟨gs,v,none⟩ (.int .i64 x)):=
 ⟨h.si.ng v x,ay h.x1 (by show w.heap.size≠gs;have:=h.hw;omega) _,ay h.x2 (by show w.heap.size+1≠gs;have:=h.hw;omega) _,by
  have j:=Kd.cL h.si.s (v:Int) x
  rw[Int.toNat_natCast] at j
  exact Kd.ga h.hi rfl j.2 (fun e=>by cases e;exact h.hw.2.2.2.2.2 rfl),fun k h1 h2 o=>(Below.heap_setCell _ _ _ _ o).trans (h.hf k h1 h2 o),by simpa using h.aK,h.hw⟩
theorem c1 (h:FI w0 w g gd gs gi cd cs ci n A0 c0 E q In t d s W):W.cell? ⟨w.heap.size,0,none⟩=some (.pointer (some ⟨g,0,none⟩)):=(ai h.x1 0).trans rfl
theorem c2 (h:FI w0 w g gd gs gi cd cs ci n A0 c0 E q In t d s W):W.cell? ⟨w.heap.size+1,0,none⟩=some (.int .i64 t):=(ai h.x2 0).trans rfl
theorem Am (h:FI w0 w g gd gs gi cd cs ci n A0 c0 E q In t d s W) (v:Nat) (o:v<n):W.cell? ⟨gi,v,none⟩=some (.bool (In v)):=by
 have j:=(Kd.bB false h.hi (v:Int) (by omega) (by omega)).1
 rw[Int.toNat_natCast,show bl false ((List.range n).map In) (v:Int)=In v from by simp[bl,List.getD_eq_getElem?_getD,List.getElem?_map,List.getElem?_range o]] at j
 exact j
end FI
theorem tz (g gd gs gi cd cs ci n:Nat) (A0:Option Addr) (c0:Nat) (E:List S83) (q:Int) (d s:List Int) (In:Nat->Bool) (t:Int) (w0 w:World) (hN:Kd.C aG w0 A0 E.length E) (hE:dp n E) (hn:n<=1000) (ks:0<n)
  (h:SI w0 g gd gs cd cs n A0 c0 E q d s w) (hi:Kd.bool.R 4 w w0.heap.size (fun _=>True) (.slice (some ⟨gi,0,none⟩) n ci) ((List.range n).map In)) (e0:gd≠gi∧gs≠gi) (hP:d.length=n) (hQ:s.length=n)
  (hok:∀v,v<n-> -2097152<=rd (a4 E In t n (d,s)).1 v∧rd (a4 E In t n (d,s)).1 v<=2097152∧ -2097152<=rd (a4 E In t n (d,s)).2 v∧rd (a4 E In t n (d,s)).2 v<=2097152):
  Calls Tryz.prog 166 #[.pointer (some ⟨g,0,none⟩),.slice (some ⟨gi,0,none⟩) n ci,.int .i64 t] w fun e w'=>e= .returned (.tuple #[])∧SI w0 g gd gs cd cs n A0 c0 E q (a4 E In t n (d,s)).1 (a4 E In t n (d,s)).2 w'∧(∀k,k<w.heap.size->k≠gd->k≠gs->w'.heap[k]? =w.heap[k]?)∧w.heap.size<=w'.heap.size:=by
 have kv:=Tryz.underlying188
 have hu:=Tryz.underlying24
 have HE:=Aside0.mk hE
 have e2:=Aside0.mk hok
 clear hE hok
 refine(callsIn_wide (n:=10)).1 ?_
 refine callsIn_of_wp_marks Tryz.func166 rfl trivial ?_ rfl
 simp only[Tryz.ntmps166,List.size_toArray,List.length_cons,List.length_nil,Nat.reduceAdd,Nat.reduceSub,Array.replicate_succ,Array.replicate_zero,List.push_toArray,List.append_toArray,List.nil_append,List.cons_append]
 obtain⟨q1,q2,q3,q4,q5⟩:=h.ld
 have e4:=h.hb.size
 have k0:g≠gd:=h.ne.2.1
 have aa:Aside0 (FI w0 w g gd gs gi cd cs ci n A0 c0 E q In t d s ((w.alloc (.cells #[.pointer (some ⟨g,0,none⟩)] 135)).alloc (.cells #[.int .i64 t] 3))):=⟨(h.alloc _).alloc _,aq (heap_alloc_new w (.cells #[.pointer (some ⟨g,0,none⟩)] 135)) (.cells #[.int .i64 t] 3),heap_alloc2_new w (.cells #[.pointer (some ⟨g,0,none⟩)] 135) (.cells #[.int .i64 t] 3),Kd.aD (Kd.aD hi (.cells #[.pointer (some ⟨g,0,none⟩)] 135)) (.cells #[.int .i64 t] 3),fun k hk _ _=>by rw[Below.heap_alloc _ _ _ (by simp;omega),Below.heap_alloc _ _ _ hk],by simp,e4,q1,q2,q3,e0.1,e0.2⟩
 gi_wp2
 clear h hi
 generalize ((w.alloc (.cells #[.pointer (some ⟨g,0,none⟩)] 135)).alloc (.cells #[.int .i64 t] 3))=W2 at aa⊢
 have hW:=aa.out.aK
 refine tl w.heap.size (fun kq tm wr=>∃(u6 u7 e_ e' u16 fb fo fq fr fv f' gb gg gl gm gp gq gr gx g0 u32 g1:Value) (v:Nat),v<=n∧Aside0 (FI w0 w g gd gs gi cd cs ci n A0 c0 E q In t (a4 E In t v (d,s)).1 (a4 E In t v (d,s)).2 wr)∧Aside0 (kq=n-v)∧tm=#[.pointer (some ⟨g,0,none⟩),.slice (some ⟨gi,0,none⟩) n ci,.int .i64 t,.pointer (some ⟨w.heap.size,0,none⟩),undef,.pointer (some ⟨w.heap.size+1,0,none⟩),u6,u7,undef,undef,undef,.slice (some ⟨gi,0,none⟩) n ci,.int .i64 n,.int .i64 v,e_,e',u16,fb,fo,fq,fr,fv,f',gb,gg,gl,gm,gp,gq,gr,gx,g0,u32,undef,undef,undef,undef,undef,undef,undef,undef,undef,undef,undef,undef,undef,undef,undef,undef,undef,undef,undef,undef,undef,undef,undef,undef,undef,undef,g1,undef,undef,undef,undef,undef,undef,undef,undef,undef,undef,undef,undef,undef,undef,undef,undef,undef,undef,undef,undef,undef,undef,undef,undef,undef,undef,undef,undef,undef,undef,undef,undef,undef,undef,undef,undef,undef,undef,undef,undef,undef,undef,undef,undef,undef,undef,undef,undef,undef,undef,undef]) n ⟨_,_,_,_,_,_,_,_,_,_,_,_,_,_,_,_,_,_,_,_,_,_,0,by omega,aa,⟨rfl⟩,rfl⟩ (w.heap.size) (by omega) (bN.nil _ _ _) ?_
 clear aa hW
 rintro gk tm wr ⟨u6,u7,e_,e',u16,fb,fo,fq,fr,fv,f',gb,gg,gl,gm,gp,gq,gr,gx,g0,u32,g1,v,hv,HH,HK,rfl⟩ ds b hb g3 J K hJ hK
 have cl:=Aside0.mk g3
 have HJ:=Aside0.mk hJ
 have aK:=HH.out.aK
 clear g3 hJ
 obtain⟨l1,l2⟩:=lW E In t (d,s) v
 have L1:=Aside0.mk (show (a4 E In t v (d,s)).1.length=n from l1.trans hP)
 have L2:=Aside0.mk (show (a4 E In t v (d,s)).2.length=n from l2.trans hQ)
 clear l1 l2
 by_cases aB:v<n
 ·have k2:(0:Int)<=(v:Int):=by omega
  have k3:(v:Int)<(n:Int):=by omega
  have a0:=Aside0.mk (show a4 E In t (v+1) (d,s)=if In v=true then(eR t v (a4 E In t v (d,s)).1 (bL E v E.length),(a4 E In t v (d,s)).2.set v (wrap64 (rd (a4 E In t v (d,s)).2 v+t))) else a4 E In t v (d,s) from rfl)
  have cv:=HH.out.Am v aB
  cases hIn:In v with
  |false=>
   rw[hIn] at cv
   rw[hIn,if_neg (by decide)] at a0
   have ad:=Aside0.mk (HH.out.alloc (.cells #[.int .i64 v] 3))
   gi_wp2
   exact jU.intro (n- (v+1)) (by rw[HK.out];omega) (HJ.out _ _ _ ⟨_,_,_,_,_,_,_,_,_,_,_,_,_,_,_,_,_,_,_,_,_,_,v+1,by omega,by rw[a0.out];exact ad,⟨rfl⟩,rfl⟩) b (by simp;omega) (cl.out.below (al (Below.refl _ _) _))
  |true=>
   rw[hIn] at cv
   rw[hIn,if_pos rfl] at a0
   generalize a4 E In t v (d,s)=U at HH a0 L1 L2
   clear hIn
   gi_wp2
   have BV:=Aside0.mk (heap_alloc_new wr (.cells #[.int .i64 v] 3))
   have ad:=Aside0.mk (HH.out.alloc (.cells #[.int .i64 v] 3))
   have cx:=Aside0.mk (cl.out.below (al (Below.refl _ _) (.cells #[.int .i64 v] 3)))
   have ha:=Aside0.mk (show (wr.alloc (.cells #[.int .i64 v] 3)).heap.size=wr.heap.size+1 from by simp)
   generalize wr.alloc (.cells #[.int .i64 v] 3)=W1 at BV ad cx ha⊢
   have y0:=ad.out.c1
   have y1:=ad.out.c2
   have y2:=(ai BV.out 0).trans rfl
   have y4:=ad.out.si.f4
   have y5:=ad.out.si.cells v aB
   have y6:=ad.out.si.tr v aB
   gi_region
   gi_wp2_with (refine⟨trivial,?_⟩;gi_at_call 194;refine(callsIn_wide.2 (kJ g v _)).mono ?_;rintro e w3 ⟨rfl,rfl⟩)
   have k4:W1.heap.size=wr.heap.size+1:=ha.out
   have b0:=Aside0.mk ((((ad.out.ng v (wrap64 (rd U.2 v+t))).alloc (.cells #[.pointer (some ⟨g,0,none⟩)] 135)).alloc (.cells #[.int .i64 v] 3)).drew)
   obtain⟨k5,k6,k7,k8,k9⟩:=ad.out.si.ld
   have h4:wr.heap.size≠gs:=by omega
   have c6:=Aside0.mk (eG (aq (aq (ay (p:=⟨gs,v,none⟩) BV.out h4 (.int .i64 (wrap64 (rd U.2 v+t)))) (.cells #[.pointer (some ⟨g,0,none⟩)] 135)) (.cells #[.int .i64 v] 3)))
   have ca:=Aside0.mk (eG (aq (heap_alloc_new (W1.setCell ⟨gs,v,none⟩ (.int .i64 (wrap64 (rd U.2 v+t)))) (.cells #[.pointer (some ⟨g,0,none⟩)] 135)) (.cells #[.int .i64 v] 3)))
   have cb:=Aside0.mk (eG (heap_alloc2_new (W1.setCell ⟨gs,v,none⟩ (.int .i64 (wrap64 (rd U.2 v+t)))) (.cells #[.pointer (some ⟨g,0,none⟩)] 135) (.cells #[.int .i64 v] 3)))
   have c7:Aside0 (bN w.heap.size b ds (((W1.setCell ⟨gs,v,none⟩ (.int .i64 (wrap64 (rd U.2 v+t)))).alloc (.cells #[.pointer (some ⟨g,0,none⟩)] 135)).alloc (.cells #[.int .i64 v] 3)).drew):=⟨by
    obtain⟨inner,ho⟩:=Kd.ic ad.out.si.s
    obtain⟨cells,hc⟩:=ia ho gs rfl
    exact(((cx.out.set (p:=⟨gs,v,none⟩) hc _).below (al (Below.refl _ _) _)).below (al (Below.refl _ _) _)).below (bu (Below.refl _ _))⟩
   have h5:((((W1.setCell ⟨gs,v,none⟩ (.int .i64 (wrap64 (rd U.2 v+t)))).alloc (.cells #[.pointer (some ⟨g,0,none⟩)] 135)).alloc (.cells #[.int .i64 v] 3)).drew).heap.size=W1.heap.size+2:=by simp
   simp only[World.size_setCell] at ca cb
   clear ad cx BV y0 y1 y2 y4 y5 y6
   generalize (((W1.setCell ⟨gs,v,none⟩ (.int .i64 (wrap64 (rd U.2 v+t)))).alloc (.cells #[.pointer (some ⟨g,0,none⟩)] 135)).alloc (.cells #[.int .i64 v] 3)).drew=W3 at b0 c6 ca cb c7 h5⊢
   generalize U.2.set v (wrap64 (rd U.2 v+t))=s2 at b0 a0
   have c8:=b0.out.si
   refine iB (σ:=Unit) (α:=Int×Int) (F:=Fence.wide) (n:=10) rfl (by decide) (gf:=207) (lb:=#[.pointer (some ⟨W1.heap.size,0,none⟩),.pointer (some ⟨W1.heap.size+1,0,none⟩)]) rfl trivial (enters_of Tryz.func207 (by kernel_rfl) rfl)
    (fun o=>nc (W1.heap.size) (W1.heap.size+1) g n A0 c0 E q (.slice (some ⟨gd,0,none⟩) n cd) (.slice (some ⟨gs,0,none⟩) n cs) 0 v w0 _ hN HE.out hn aB (al (al c8.hb _) _) (aq (aq ca.out _) _) (aq (aq cb.out _) _) (aq (aq c8.st _) _)) (fun _=>rfl)
    (fun _=>True) ?h6 ?st ?ar
    (fun _ pre W=>W3.heap.size<=W.heap.size∧FI w0 w g gd gs gi cd cs ci n A0 c0 E q In t (eR t v U.1 pre) s2 W∧W.heap[wr.heap.size]? =some (.cells #[.int .i64 v] 3 (0,0))∧bN w.heap.size b ds W) (fun _ _ _ _=>False)
    ?is (fun _ _ _ _ _ _ h _=>h) ?ib (fun _ _ _ _ _ h _=>h) ?kt ?h0 ?a1 ?assign ?body ?done (fun _ _ _ _ _ _ _ h=>h.elim)
   case assign=>
    intro l x W K hK
    gi_wp2
    exact hK
   case h6=>
    intro o s W1 h
    exact⟨trivial,by rw[h];exact bJ.refl _ _⟩
   case st=>intro s A B _ h;exact cH h
   case ar=>intro s x A B _ h;exact cH h.2
   case is=>
    rintro s pre A B _ ⟨hs,h1,h2,h3⟩ cc
    exact⟨Nat.le_trans hs cc.size,h1.below cc,aE h2 cc,h3.below cc⟩
   case ib=>
    rintro s pre A B ⟨hs,h1,h2,h3⟩ hb
    exact⟨by rw[hb.size];exact hs,h1.bk hb (by omega),hb.cells h2,h3.bk hb (by omega)⟩
   case kt=>
    intro s A B C D cf hg hh
    refine⟨fun aK=>((cf.below w0.heap.size (by omega)).trans (hg.1 (by rw[cf.size];exact aK))).trans (hh.below w0.heap.size (by omega)),fun k hk h_=>?_⟩
    have hj:k≠W3.heap.size+1:=by rcases hk with rfl|rfl|rfl<;>omega
    exact(hh.heap k hj).trans ((hg.2 k hk (by rw[cf.size];exact h_)).trans (cf.heap k hj))
   case h0=>
    rintro o s W1 rfl
    exact⟨by simp;omega,(b0.out.alloc _).alloc _,aq (aq c6.out _) _,(c7.out.below (al (Below.refl _ _) _)).below (al (Below.refl _ _) _)⟩
   case body=>
    rintro l s' pre ⟨u,m⟩ Wb Wc W _ ⟨hs,i1,i2,i3⟩ ⟨hq,b3⟩ h' aF
    have I1:=Aside0.mk ((i1.below b3).bk aF (by omega))
    have I2:=Aside0.mk (aF.cells (aE i2 b3))
    have I3:=Aside0.mk ((i3.below b3).bk aF (by omega))
    have ht:W3.heap.size<=W.heap.size:=by have:=aF.size;have:=b3.size;omega
    clear i1 i2 i3 b3 aF h'
    simp only at hq
    obtain⟨u0,u1,m0,m1⟩:=hq
    obtain⟨u,rfl⟩:=Int.eq_ofNat_of_zero_le u0
    have ch:u<n:=by omega
    have hx:=Aside0.mk (Al t v U.1 pre (u,m))
    have im:=Aside0.mk ((pH t v pre U.1).trans L1.out)
    generalize eR t v U.1 pre=dd at I1 hx im
    have z0:=I1.out.c1
    have z1:=I1.out.c2
    have z2:W.cell? ⟨wr.heap.size,0,none⟩=some (.int .i64 v):=(ai I2.out 0).trans rfl
    have z3:=I1.out.si.f3
    have z4:=I1.out.si.js v aB
    have z5:=I1.out.si.nh v aB
    clear b0 c6 ca cb c7 c8 cv
    gi_wp2
    refine ni [_,_,_,_,_,_,_,_,_,_,_,_] _ rfl (by kernel_rfl) rfl (by kernel_rfl) (by kernel_rfl) (by kernel_rfl) (by kernel_rfl) ?_
    repeat(gi_big_quiet_step (fail))
    refine wpQuietIn_nil ?_
    rintro _ ⟨nq,rfl⟩
    have ag:=Aside0.mk (I1.out.drewN nq)
    have a2:=Aside0.mk (hZ I2.out nq)
    have a3:=Aside0.mk (I3.out.below (bC (Below.refl _ _) nq))
    have bf:W3.heap.size<=(W.drewN nq).heap.size:=by simpa using ht
    have bg:=Aside0.mk (cH (nw:=W3.heap.size) (bC (Below.refl W.heap.size W) nq))
    have bn:=Aside0.mk (bC (Below.refl w0.heap.size W) nq)
    have bw:Aside0 (∀k,k≠gd->(W.drewN nq).heap[k]? =W.heap[k]?):=⟨fun k _=>by simp⟩
    clear z0 z1 z2 z3 z4 z5
    have z4:=ag.out.si.js v aB
    have z5:=ag.out.si.nh v aB
    generalize W.drewN nq=Wq at ag a2 a3 bf bg bn bw z4 z5⊢
    gi_wp2
    have hy:gd<W3.heap.size:=by omega
    have hz:wr.heap.size≠gd:=by omega
    have aP:=Aside0.mk (ag.out.nf v (wrap64 (rd dd v-wrap64 (m*t))))
    have dv:=Aside0.mk (ay (p:=⟨gd,v,none⟩) a2.out hz (.int .i64 (wrap64 (rd dd v-wrap64 (m*t)))))
    have ea:Aside0 (bN w.heap.size b ds (Wq.setCell ⟨gd,v,none⟩ (.int .i64 (wrap64 (rd dd v-wrap64 (m*t)))))):=⟨by
     obtain⟨inner,ho⟩:=Kd.ic ag.out.si.d
     obtain⟨cells,hc⟩:=ia ho gd rfl
     exact a3.out.set (p:=⟨gd,v,none⟩) hc _⟩
    have eb:W3.heap.size<=(Wq.setCell ⟨gd,v,none⟩ (.int .i64 (wrap64 (rd dd v-wrap64 (m*t))))).heap.size:=by simpa using bf
    have ed:=Aside0.mk (bg.out.trans (eQ (bo:=gd) (j:=v) Wq (.int .i64 (wrap64 (rd dd v-wrap64 (m*t)))) hy))
    have eg:=Aside0.mk (Below.setCell (p:=⟨gd,v,none⟩) bn.out q4 (.int .i64 (wrap64 (rd dd v-wrap64 (m*t)))))
    have ek:Aside0 (∀k,k≠gd->(Wq.setCell ⟨gd,v,none⟩ (.int .i64 (wrap64 (rd dd v-wrap64 (m*t))))).heap[k]? =W.heap[k]?):=⟨fun k hk=>(Below.heap_setCell _ _ _ _ hk).trans (bw.out k hk)⟩
    clear z4 z5 ag a2 a3 bf bg bn bw
    generalize Wq.setCell ⟨gd,v,none⟩ (.int .i64 (wrap64 (rd dd v-wrap64 (m*t))))=Wa at aP dv ea eb ed eg ek⊢
    have z0:=aP.out.c1
    have z1:=aP.out.c2
    have z3:=aP.out.si.f3
    have z4:=aP.out.si.js u ch
    have z5:=aP.out.si.nh u ch
    have iv:(u:Int)<(n:Int):=by omega
    refine ni [_,_,_,_,_,_,_,_,_,_,_,_] _ rfl (by kernel_rfl) rfl (by kernel_rfl) (by kernel_rfl) (by kernel_rfl) (by kernel_rfl) ?_
    repeat(gi_big_quiet_step (fail))
    refine wpQuietIn_nil ?_
    rintro _ ⟨nr,rfl⟩
    have ag:=Aside0.mk (aP.out.drewN nr)
    have a2:=Aside0.mk (hZ dv.out nr)
    have a3:=Aside0.mk (ea.out.below (bC (Below.refl _ _) nr))
    have bf:W3.heap.size<=(Wa.drewN nr).heap.size:=by simpa using eb
    have bg:=Aside0.mk (ed.out.trans (cH (nw:=W3.heap.size) (bC (Below.refl Wa.heap.size Wa) nr)))
    have bn:=Aside0.mk (bC eg.out nr)
    have bw:Aside0 (∀k,k≠gd->(Wa.drewN nr).heap[k]? =W.heap[k]?):=⟨fun k hk=>by simpa using ek.out k hk⟩
    clear z0 z1 z3 z4 z5 aP dv ea eb ed eg ek
    have z4:=ag.out.si.js u ch
    have z5:=ag.out.si.nh u ch
    generalize Wa.drewN nr=Wb at ag a2 a3 bf bg bn bw z4 z5⊢
    gi_wp2
    have jj:bN w.heap.size b ds (Wb.setCell ⟨gd,u,none⟩ (.int .i64 (wrap64 (rd (dd.set v (wrap64 (rd dd v-wrap64 (m*t)))) u+wrap64 (m*t))))):=by
     obtain⟨inner,ho⟩:=Kd.ic ag.out.si.d
     obtain⟨cells,hc⟩:=ia ho gd rfl
     exact a3.out.set (p:=⟨gd,u,none⟩) hc _
    refine⟨bg.out.trans (eQ _ _ hy),⟨fun _=>Below.setCell (p:=⟨gd,u,none⟩) bn.out q4 _,fun k hk _=>(Below.heap_setCell _ _ _ _ ?_).trans (bw.out k ?_)⟩,by simpa using bf,?_,ay a2.out hz _,jj⟩
    ·show k≠gd
     rcases hk with rfl|rfl|rfl<;>omega
    ·rcases hk with rfl|rfl|rfl<;>omega
    ·rw[hx.out];exact ag.out.nf u _
   case done=>
    rintro s' xs W W' _ rfl ⟨hs,i1,i2,i3⟩ aF er
    have I1:=Aside0.mk (i1.bk aF (by omega))
    have I3:=Aside0.mk (i3.bk aF (by omega))
    have j0:=Aside0.mk er
    have ht:W3.heap.size<W'.heap.size:=(Array.getElem?_eq_some_iff.1 er).1
    clear i1 i2 i3 er
    gi_wp2
    exact jU.intro (n- (v+1)) (by rw[HK.out];omega) (HJ.out _ _ _ ⟨_,_,_,_,_,_,_,_,_,_,_,_,_,_,_,_,_,_,_,_,_,_,v+1,by omega,by rw[a0.out];exact I1,⟨rfl⟩,rfl⟩) (W3.heap.size+1) (by omega) (I3.out.push (by omega) (by omega) j0.out)
 ·obtain rfl:v=n:=by omega
  have x0:=HH.out.c1
  have s3:=HH.out.si.f3
  have s4:=HH.out.si.f4
  have s5:=HH.out.si.f5
  clear HJ hK
  gi_wp2
  gi_loopg [65] (v) (fun kq uv wq=>∃u:Nat,u<=v∧uv= .int .i64 u∧Aside0 (∃m,wq=wr.drewN m)∧Aside0 (kq=v-u))
  case atStart=>exact⟨0,by omega,rfl,⟨0,rfl⟩,⟨rfl⟩⟩
  case round=>
   obtain⟨u,hu,rfl,⟨⟨m,hm⟩⟩,j2⟩:=hrel
   subst hm
   by_cases ev:u<v
   ·have lo:(0:Int)<=(u:Int):=by omega
    have iv:(u:Int)<(v:Int):=by omega
    have aa:=Aside0.mk (HH.out.drewN m)
    have y6:=aa.out.si.js u ev
    have y7:=aa.out.si.cells u ev
    obtain⟨o1,o2,o3,o4⟩:=e2.out u ev
    have y0:=aa.out.c1
    have y3:=aa.out.si.f3
    have y4:=aa.out.si.f4
    have y5:=aa.out.si.f5
    have HM:Aside0 (∃m',wr.drewN m=wr.drewN m'):=⟨m,rfl⟩
    clear x0 s3 s4 s5 aa
    generalize rd (a4 E In t v (d,s)).1 u=I at y6 o1 o2
    generalize rd (a4 E In t v (d,s)).2 u=xb at y7 o3 o4
    generalize wr.drewN m=wq at y0 y3 y4 y5 y6 y7 HM⊢
    have lp:decide (2097152<(if(if(if I< -I then -I else I)<xb then xb else if I< -I then -I else I)< -xb then -xb else if(if I< -I then -I else I)<xb then xb else if I< -I then -I else I))=false:=by
     rw[decide_eq_false_iff_not]
     repeat' split
     all_goals omega
    gi_wp2
    gi_quiet (fail)
    gi_wp2
    all_goals
     gi_roundg (v- (u+1))
     case measure=>rw[j2.out];omega
     case rel=>exact⟨u+1,by omega,by go_num,⟨by obtain⟨m',km⟩:=HM.out;rw[km];simp only[World.drewN_drewN];exact⟨_,rfl⟩⟩,⟨rfl⟩⟩
   ·obtain rfl:u=v:=by omega
    clear L1 L2 HE e2 x0 s3 s4 s5
    gi_wp2
    refine(tk (cl.out.below (bC (Below.refl _ _) m)) fun w' ew=>?_).1
    exact⟨_,results_none rfl _ _ _,rfl,(HH.out.si.drewN m).fin ew e4,fun k h1 h2 h3=>(ew.jo.block k h1).trans (HH.out.hf k h1 h2 h3),by have:=ew.size;simp at this;omega⟩
end
theorem ba.jV {N:Int} {E:List S83} (h:ba N E) {x:S83} (j:x∈E):0<=x.f0∧x.f0<=x.f1∧x.f1<N∧1<=x.f2∧x.f2<=50:=by
 have h1:=h.ok x j
 have h2:=h.le x j
 simp[b6] at h1
 omega
theorem ba.iG {n:Nat} {E:List S83} (h:ba n E):dp n E:=fun x j=>by
 have:=h.jV j
 omega
theorem ba.take {N:Int} {E:List S83} (h:ba N E) (k:Nat):ba N (E.take k):=⟨fun x j=>h.ok x (List.mem_of_mem_take j),fun x j=>h.le x (List.mem_of_mem_take j),h.order.sublist (List.take_sublist _ _)⟩
theorem tA {E:List S83} (v:Nat):∀(E:List S83) (f:Nat->Nat->Int),(∀x∈E,0<=x.f0∧0<=x.f1)->f v v=0->E.foldl dc f v v=0
 |[],f,_,hf=>hf
 |x::E,f,h,hf=>by
  rw[List.foldl_cons]
  refine tA (E:=E) v E _ (fun y j=>h y (List.mem_cons_of_mem _ j)) ?_
  have o:=h x (List.mem_cons_self ..)
  unfold dc
  split
  ·exact hf
  ·dsimp only
   rw[if_neg (by omega),if_neg (by omega)];exact hf
theorem ba.wt {n:Nat} {E:List S83} (h:ba n E):T.Wt n (af E):=by
 have j:∀v,af E v v=0:=fun v=>tA (E:=E) v E _ (fun x o=>by have:=h.jV o;omega) rfl
 refine⟨fun u v=>?_,fun u v=>?_,j⟩
 ·by_cases e:u=v
  ·subst e;rw[j];omega
  ·rw[jQ h u v e];exact(oX h _ _).1
 ·by_cases e:u=v
  ·subst e;rfl
  ·rw[jQ h u v e,jQ h v u (fun k=>e k.symm),mU]
theorem ba.An {N:Int} {E:List S83} (h:ba N E) {x:S83} (j:x∈E):0<cn E x.f0 x.f1:=by
 unfold cn
 have he:=h.jV j
 have I:(E.find? (e9 x.f0 x.f1)).isSome=true:=List.find?_isSome.2 ⟨x,j,by simp[e9];omega⟩
 obtain⟨y,o⟩:=Option.isSome_iff_exists.1 I
 rw[o]
 have:=h.jV (List.mem_of_find?_eq_some o)
 show 0<y.f2
 omega
theorem ba.conn {n:Nat} {E:List S83} (h:ba n E) (hc:gV n E):T.cR n (af E):=by
 intro S h1 h2
 obtain⟨x,J,o⟩:=hc S h1 h2
 have he:=h.jV J
 have hb:=h.An J
 have R:cn E x.f0 x.f1=af E x.f0.toNat x.f1.toNat:=by
  rw[jQ h _ _ (fun e=>o (by rw[e]))]
  congr 1<;>omega
 rw[R] at hb
 cases I:S x.f0.toNat with
 |true=>
  have j:S x.f1.toNat=false:=by cases j:S x.f1.toNat with|false=>rfl|true=>rw[I,j] at o;exact absurd rfl o
  exact⟨_,_,by omega,by omega,I,j,hb⟩
 |false=>
  have j:S x.f1.toNat=true:=by cases j:S x.f1.toNat with|true=>rfl|false=>rw[I,j] at o;exact absurd rfl o
  exact⟨_,_,by omega,by omega,j,I,by rw[h.wt.sym];exact hb⟩
def cT (φ:Nat->Int):List (Int×Int)->Int
 |[]=>0
 |x::L=>x.2*φ x.1.toNat+cT φ L
theorem tB (φ:Nat->Int):∀A B,cT φ (A++B)=cT φ A+cT φ B
 |[],B=>by simp[cT]
 |x::A,B=>by
  simp only[List.cons_append,cT,tB φ A B];omega
theorem pI {E:List S83} {k:Nat} (hk:k<E.length):ae E k=E[k]:=by simp[ae,List.getD_eq_getElem?_getD,List.getElem?_eq_getElem hk]
theorem Ap {N:Int} {E:List S83} (h:ba N E) {k:Nat} (hk:k<E.length):∀y∈E.take k,jP y (ae E k):=by
 intro y j
 have h1:=h.order
 rw[<-List.take_append_drop k E,List.pairwise_append] at h1
 refine h1.2.2 y j _ ?_
 rw[pI hk,List.drop_eq_getElem_cons hk]
 exact List.mem_cons_self ..
theorem tC {n:Nat} {E:List S83} (h:ba n E) (φ:Nat->Int) {v:Nat} (hv:v<n):∀k,k<=E.length->cT φ (bL E v k)=T.sN (fun u=>af (E.take k) v u*φ u) n
 |0,_=>by
  rw[T.fO (fun u _=>by simp[af])];rfl
 |k+1,hk=>by
  have o:k<E.length:=by omega
  have ih:=tC h φ hv k (by omega)
  have R:=h.jV (show ae E k∈E by rw[pI o];exact List.getElem_mem o)
  have U:=Ap h o
  have av:=(h.take k).wt.self v
  rw[sm E k o]
  simp only[bL,tB,ih]
  generalize ae E k=x at R U
  obtain⟨a,b,m⟩:=x
  simp only at R
  by_cases I:a≠b∧(a=v∨b=v)
  ·rw[if_pos I]
   obtain⟨j,ad⟩:∃j:Nat,(j:Int)=a+b-v:=⟨(a+b-v).toNat,by omega⟩
   have ag:j<n:=by omega
   have ak:v≠j:=by omega
   have hz:af (E.take k) v j=0:=by
    rw[jQ (h.take k) v j ak]
    unfold cn
    rw[ss (fun y hy aB=>by have:=U y hy;unfold jP at this;simp only at this;omega)]
   have J:∀u:Nat,u<n->dc (af (E.take k)) ⟨a,b,m⟩ v u*φ u=af (E.take k) v u*φ u+(if u=j then m*φ u else 0):=fun u hu=>by
    unfold dc
    simp only[if_neg I.1]
    by_cases e:u=j
    ·subst e
     rw[hz,if_pos rfl]
     by_cases e2:v=b.toNat∧u=a.toNat
     ·rw[if_pos e2];omega
     ·rw[if_neg e2,if_pos (by omega)];omega
    ·rw[if_neg e,if_neg (by omega),if_neg (by omega)];omega
   rw[T.bh J,T.dn,T.ij ag (fun u _ hu=>if_neg hu),if_pos rfl]
   simp only[cT,<-ad,Int.toNat_natCast]
   omega
  ·rw[if_neg I]
   have J:∀u:Nat,u<n->dc (af (E.take k)) ⟨a,b,m⟩ v u*φ u=af (E.take k) v u*φ u:=fun u hu=>by
    unfold dc
    by_cases e:a=b
    ·simp only[if_pos e]
    ·simp only[if_neg e]
     rw[if_neg (by omega),if_neg (by omega)]
   rw[T.bh J]
   simp[cT]
theorem nj {n:Nat} {E:List S83} (h:ba n E) (φ:Nat->Int) {v:Nat} (j:v<n):cT φ (bL E v E.length)=T.sN (fun u=>af E v u*φ u) n:=by
 rw[tC h φ j E.length (Nat.le_refl _),List.take_length]
theorem nk {n:Nat} {E:List S83} (h:ba n E) {v:Nat}:∀k,k<=E.length->∀x∈bL E v k,0<=x.1∧x.1<n∧x.1≠v∧1<=x.2∧x.2<=50
 |0,_=>fun x j=>by cases j
 |k+1,hk=>fun x j=>by
  have o:k<E.length:=by omega
  have he:=h.jV (show ae E k∈E by rw[pI o];exact List.getElem_mem o)
  rcases List.mem_append.1 j with j|j
  ·exact nk h k (by omega) x j
  ·split at j
   ·rename_i I
    obtain rfl:=List.mem_singleton.1 j
    simp only
    omega
   ·cases j
theorem tD (E:List S83) (v:Int):∀k,(bL E v k).length<=k
 |0=>Nat.le_refl _
 |k+1=>by
  have:=tD E v k
  simp only[bL,List.length_append]
  split<;>simp<;>omega
theorem pJ (B:Nat->Bool):∀(L:List (Int×Int)) (s:Int),(∀x∈L,1<=x.2∧x.2<=50)->0<=s->s+50*L.length<=1000000000->L.foldl (fun s x=>if B x.1.toNat=true then wrap64 (s+x.2) else s) s=s+cT (T.ind B) L
 |[],s,_,_,_=>by simp[cT]
 |x::L,s,h,h0,o=>by
  have I:=h x (List.mem_cons_self ..)
  simp only[List.length_cons] at o
  rw[List.foldl_cons]
  simp only[cT,T.ind]
  by_cases e:B x.1.toNat=true
  ·rw[if_pos e,if_pos e,lG (by omega),pJ B L _ (fun y j=>h y (List.mem_cons_of_mem _ j)) (by omega) (by omega)]
   unfold T.ind
   omega
  ·rw[if_neg e,if_neg e,pJ B L _ (fun y j=>h y (List.mem_cons_of_mem _ j)) (by omega) (by omega)]
   unfold T.ind
   omega
theorem Aq (t:Nat->Int) (B:Nat->Bool) (n:Nat):T.sN (fun u=>t u*T.ind B u) n=T.sN (fun u=>if B u=true then t u else 0) n:=T.bh fun u _=>by
 unfold T.ind
 split<;>simp
theorem pK {n:Nat} {E:List S83} (h:ba n E) (I:E.length<=1000) (B:Nat->Bool) {v:Nat} (j:v<n):df B (bL E v E.length)=T.sN (fun u=>if B u=true then af E v u else 0) n:=by
 have h1:=tD E v E.length
 unfold df
 rw[pJ B _ 0 (fun x o=>(nk h _ (Nat.le_refl _) x o).2.2.2) (by omega) (by omega),nj h _ j,Aq,Int.zero_add]
theorem lX (t:Nat->Nat->Int) (B:Nat->Bool) (v:Nat):∀n,bX t B v n=T.sN (fun u=>if B u=true then t v u else 0) n
 |0=>rfl
 |n+1=>by
  show bX t B v n+_=T.sN _ n+_
  rw[lX t B v n]
theorem As {n:Nat} {E:List S83} (h:ba n E) (j:E.length<=1000) (B:Nat->Bool) {v:Nat} (o:v<n):df B (bL E v E.length)=bX (af E) B v n:=by rw[pK h j B o,lX]
def Md (a b:Int):Prop:=(a-b)%18446744073709551616=0
def cC (a:Int):Prop:= -9223372036854775808<=a∧a<=9223372036854775807
theorem Md.refl (a:Int):Md a a:=by unfold Md;omega
theorem Md.wrap {a b:Int} (h:Md a b):Md (wrap64 a) b:=by unfold Md wrap64 at*;omega
theorem Md.add {a b c d:Int} (h:Md a b) (j:Md c d):Md (a+c) (b+d):=by unfold Md at*;omega
theorem Md.sub {a b c d:Int} (h:Md a b) (j:Md c d):Md (a-c) (b-d):=by unfold Md at*;omega
theorem Md.eq {a b:Int} (h:Md a b) (j:cC a) (hb:cC b):a=b:=by unfold Md cC at*;omega
theorem pL (a:Int):cC (wrap64 a):=by unfold cC wrap64;omega
theorem tE {d:List Int} (h:∀w:Nat,w<d.length->cC (rd d w)) (v:Nat) (a:Int) (j:cC a):∀w:Nat,w<d.length->cC (rd (d.set v a) w):=fun w hw=>by
 by_cases e:v=w
 ·subst e;rw[iF _ _ _ hw];exact j
 ·rw[gC _ _ _ _ e];exact h w hw
theorem tF (t:Int) {v n:Nat} (U:v<n):∀(L:List (Int×Int)) (d:List Int),d.length=n->(∀x∈L,0<=x.1∧x.1<n∧x.1≠v)->(∀w:Nat,w<n->cC (rd d w))->∀w:Nat,w<n->
  cC (rd (eR t v d L) w)∧Md (rd (eR t v d L) w) (rd d w-t*(if w=v then cT (fun _=>1) L else 0)+t*cT (fun u=>if u=w then 1 else 0) L)
 |[],d,hd,_,o=>fun w hw=>by
  refine⟨o w hw,?_⟩
  simp[eR,cT]
  exact Md.refl _
 |x::L,d,hd,I,o=>fun w hw=>by
  have hx:=I x (List.mem_cons_self ..)
  obtain⟨u,hu⟩:∃u:Nat,(u:Int)=x.1:=⟨x.1.toNat,by omega⟩
  have aa:u<n:=by omega
  have J:u≠v:=by omega
  have ab:(gE t v d x).length=n:=by rw[tx];exact hd
  have ad:∀w:Nat,w<n->cC (rd (gE t v d x) w):=by
   unfold gE
   rw[<-hd] at o⊢
   have h1:=tE o v (wrap64 (rd d v-wrap64 (x.2*t))) (pL _)
   have h2:=tE (d:=d.set v (wrap64 (rd d v-wrap64 (x.2*t)))) (by simpa using h1) x.1.toNat (wrap64 (rd (d.set v (wrap64 (rd d v-wrap64 (x.2*t)))) x.1+wrap64 (x.2*t))) (pL _)
   simpa using h2
  obtain⟨i1,i2⟩:=tF t U L (gE t v d x) ab (fun y hy=>I y (List.mem_cons_of_mem _ hy)) ad w hw
  refine⟨i1,?_⟩
  show Md (rd (eR t v (gE t v d x) L) w) _
  have av:Md (rd (gE t v d x) w) (rd d w-t*(if w=v then x.2 else 0)+t*(if u=w then x.2 else 0)):=by
   unfold gE
   rw[<-hu,Int.toNat_natCast]
   have e1:rd (d.set v (wrap64 (rd d v-wrap64 (x.2*t)))) (u:Int)=rd d u:=gC _ _ _ _ (fun e=>J e.symm)
   have R:Md (wrap64 (x.2*t)) (t*x.2):=by rw[Int.mul_comm];exact(Md.refl _).wrap
   rw[e1]
   by_cases j:u=w
   ·subst j
    rw[iF _ _ _ (by simpa [hd] using aa),if_neg J,if_pos rfl,Int.mul_zero,Int.sub_zero]
    exact((Md.refl _).add R).wrap
   ·rw[gC _ _ _ _ j,if_neg j,Int.mul_zero,Int.add_zero]
    by_cases ev:w=v
    ·subst ev
     rw[iF _ _ _ (by simpa [hd] using hw),if_pos rfl]
     exact((Md.refl _).sub R).wrap
    ·rw[gC _ _ _ _ (fun e=>ev e.symm),if_neg ev,Int.mul_zero,Int.sub_zero]
     exact Md.refl _
  have an:rd d w-t*(if w=v then cT (fun _=>1) (x::L) else 0)+t*cT (fun u=>if u=w then 1 else 0) (x::L)=(rd d w-t*(if w=v then x.2 else 0)+t*(if u=w then x.2 else 0))-t*(if w=v then cT (fun _=>1) L else 0)+t*cT (fun u=>if u=w then 1 else 0) L:=by
   simp only[cT,<-hu,Int.toNat_natCast]
   by_cases ev:w=v
   ·simp only[if_pos ev]
    by_cases j:u=w
    ·simp only[if_pos j,Int.mul_one,Int.mul_add];omega
    ·simp only[if_neg j,Int.mul_one,Int.mul_zero,Int.mul_add];omega
   ·simp only[if_neg ev]
    by_cases j:u=w
    ·simp only[if_pos j,Int.mul_one,Int.mul_add,Int.mul_zero];omega
    ·simp only[if_neg j,Int.mul_zero,Int.mul_add];omega
  rw[an]
  unfold Md at*
  omega
theorem At {n:Nat} {E:List S83} (h:ba n E) (t:Int) {v:Nat} (j:v<n) (d:List Int) (hd:d.length=n) (o:∀w:Nat,w<n->cC (rd d w)):∀w:Nat,w<n->
  cC (rd (eR t v d (bL E v E.length)) w)∧Md (rd (eR t v d (bL E v E.length)) w) (rd d w-t*T.aI n (af E) (T.one v) w):=by
 intro w hw
 obtain⟨h1,h2⟩:=tF t j (bL E v E.length) d hd (fun x I=>by have:=nk h _ (Nat.le_refl _) x I;omega) o w hw
 refine⟨h1,?_⟩
 rw[nj h _ j,nj h _ j] at h2
 have J:T.sN (fun u=>af E v u*1) n=T.val n (af E) v:=T.bh fun u _=>Int.mul_one _
 have e2:T.sN (fun u=>af E v u*(if u=w then 1 else 0)) n=af E v w:=by
  rw[T.ij hw (fun u _ hu=>by rw[if_neg hu,Int.mul_zero]),if_pos rfl,Int.mul_one]
 rw[J,e2] at h2
 by_cases e:w=v
 ·subst e
  rw[T.se h.wt hw]
  rw[if_pos rfl,h.wt.self,Int.mul_zero,Int.add_zero] at h2
  exact h2
 ·rw[T.sg j e,h.wt.sym w v,Int.mul_neg]
  rw[if_neg e,Int.mul_zero,Int.sub_zero] at h2
  rw[show rd d w- -(t*af E v w)=rd d w+t*af E v w by omega]
  exact h2
theorem tG {n:Nat} {E:List S83} (h:ba n E) (In:Nat->Bool) (t:Int) (d s:List Int) (hd:d.length=n) (I:s.length=n) (J:∀w:Nat,w<n->cC (rd d w)) (R:∀w:Nat,w<n->cC (rd s w)):∀k,k<=n->∀w:Nat,w<n->
  (cC (rd (a4 E In t k (d,s)).1 w)∧Md (rd (a4 E In t k (d,s)).1 w) (rd d w-t*T.aI n (af E) (T.ind fun v=>In v&&decide (v<k)) w))∧(cC (rd (a4 E In t k (d,s)).2 w)∧Md (rd (a4 E In t k (d,s)).2 w) (rd s w+t*T.ind (fun v=>In v&&decide (v<k)) w))
 |0,_=>fun w hw=>by
  have e:T.ind (fun v=>In v&&decide (v<0))=fun _=>0:=by funext v;simp[T.ind]
  rw[e,T.jc,Int.mul_zero,Int.sub_zero,Int.add_zero]
  exact⟨⟨J w hw,Md.refl _⟩,R w hw,Md.refl _⟩
 |k+1,hk=>fun w hw=>by
  have U:k<n:=by omega
  have j:=tG h In t d s hd I J R k (by omega)
  obtain⟨L1,L2⟩:=lW E In t (d,s) k
  simp only at L1 L2
  unfold a4
  cases hIn:In k with
  |false=>
   rw[if_neg (by decide)]
   have e:∀u,(In u&&decide (u<k+1))=(In u&&decide (u<k)):=fun u=>by
    by_cases e:u=k
    ·subst e;rw[hIn];rfl
    ·rw[show decide (u<k+1)=decide (u<k) by congr 1;exact propext (by omega)]
   rw[show (fun v=>In v&&decide (v<k+1))=(fun v=>In v&&decide (v<k)) from funext e]
   exact j w hw
  |true=>
   rw[if_pos rfl]
   have e:∀u,T.ind (fun v=>In v&&decide (v<k+1)) u=T.ind (fun v=>In v&&decide (v<k)) u+T.one k u:=fun u=>by
    unfold T.ind T.one
    show (if(In u&&decide (u<k+1))=true then(1:Int) else 0)=(if(In u&&decide (u<k))=true then 1 else 0)+if u=k then 1 else 0
    by_cases e:u=k
    ·subst e;simp[hIn]
    ·rw[show decide (u<k+1)=decide (u<k) by congr 1;exact propext (by omega),if_neg e];omega
   have e2:T.aI n (af E) (T.ind fun v=>In v&&decide (v<k+1)) w=T.aI n (af E) (T.ind fun v=>In v&&decide (v<k)) w+T.aI n (af E) (T.one k) w:=by
    rw[<-T.jN];exact T.kC (fun u _=>e u) hw
   rw[e2,e w]
   obtain⟨j1,j2⟩:=At h t U (a4 E In t k (d,s)).1 (by rw[L1];exact hd) (fun w hw=>(j w hw).1.1) w hw
   refine⟨⟨j1,?_⟩,?_⟩
   ·have j3:=(j w hw).1.2
    rw[Int.mul_add]
    show Md (rd (eR t k (a4 E In t k (d,s)).1 (bL E k E.length)) w) _
    unfold Md at*
    omega
   ·have hl:k<(a4 E In t k (d,s)).2.length:=by rw[L2,I];exact U
    by_cases o:k=w
    ·subst o
     rw[iF _ _ _ hl]
     refine⟨pL _,?_⟩
     have:=(j k hw).2.2
     rw[Int.mul_add,show T.one k k=1 by simp[T.one],Int.mul_one]
     refine Md.wrap ?_
     unfold Md at*
     omega
    ·rw[gC _ _ _ _ o,show T.one k w=0 by unfold T.one;rw[if_neg (fun e=>o e.symm)],Int.add_zero]
     exact(j w hw).2
theorem tH {n:Nat} {E:List S83} (h:ba n E) (In:Nat->Bool) (t:Int) (d s:List Int) (hd:d.length=n) (o:s.length=n) (I:∀w:Nat,w<n->cC (rd d w)) (J:∀w:Nat,w<n->cC (rd s w)) {w:Nat} (hw:w<n):
  (cC (rd d w-t*T.aI n (af E) (T.ind In) w)->rd (a4 E In t n (d,s)).1 w=rd d w-t*T.aI n (af E) (T.ind In) w)∧(cC (rd s w+t*T.ind In w)->rd (a4 E In t n (d,s)).2 w=rd s w+t*T.ind In w):=by
 have e:∀u,u<n->T.ind (fun v=>In v&&decide (v<n)) u=T.ind In u:=fun u hu=>by
  unfold T.ind
  simp[hu]
 obtain⟨⟨h1,h2⟩,R,j⟩:=tG h In t d s hd o I J n (Nat.le_refl _) w hw
 rw[T.kC e hw] at h2
 rw[e w hw] at j
 exact⟨fun hi=>h2.eq h1 hi,fun hi=>j.eq R hi⟩
theorem pM {f:Nat->Int} {n v:Nat} (j:v<n) {a:Int} (o:a<=0) (h:∀u,u<n->a<=f u):f v<=T.sN f n-n*a:=by
 have h1:=T.fP (f:=fun u=>f u-a) j (fun u hu=>by have:=h u hu;show 0<=f u-a;omega)
 rw[T.cM f (fun _=>a) n,T.ig] at h1
 have h2:f v-a<=T.sN f n-n*a:=h1
 omega
theorem lY {n:Nat} {t:Nat->Nat->Int} (o:T.Wt n t) (U:n<=12) (J:T.sN (T.val n t) n<=19) {D dist d s:Nat->Int} (R:∀v,v<n-> -200<=D v∧D v<=200) {k:Int} (hk:0<=k) (aa:k<=n) (h:T.dZ n t D dist 200 k d s):∀v,v<n-> -102400<=d v∧d v<=1231200∧0<=s v∧s v<=1228800:=by
 have ab:T.sN d n=T.sN D n:=by
  rw[T.bh (f:=d) (g:=fun v=>D v-T.aI n t s v) h.eq,T.cM,T.lJ o];omega
 have ad:=(T.mZ (f:=D) (n:=n) (B:=200) R).2
 have I:∀v,v<n-> -102400<=d v:=fun v j=>by
  have h1:=h.low v j
  have h2:=T.pk o dist (B:=200) (by omega) J k
  omega
 intro v j
 have h1:=pM (f:=d) j (a:= -102400) (by omega) I
 have h2:=h.s0 v j
 have h3:((n:Int)-k)*(200*512)<=12*(200*512):=Int.mul_le_mul_of_nonneg_right (by omega) (by omega)
 exact⟨I v j,by omega,h2.1,by omega⟩
theorem Au {a x:Int} (j:1<=x):a<=(a+x-1)/x*x:=by
 have h2:=Int.emod_lt_of_pos (a+x-1) (show 0<x by omega)
 have o:=Int.mul_ediv_add_emod (a+x-1) x
 rw[Int.mul_comm]
 omega
theorem Aw {a x:Int} (j:1<=a) (o:1<=x):(a+x-1)/x<=a:=by
 refine Int.ediv_le_of_le_mul (by omega) ?_
 have:=Int.mul_le_mul_of_nonneg_right (show (1:Int)<=a by omega) (show (0:Int)<=x-1 by omega)
 rw[show a*x=a*(x-1)+a by rw[Int.mul_sub];omega]
 omega
theorem Ay {n:Nat} {E:List S83} (j:ba n E) (I:n<=12) (o:T.sN (T.val n (af E)) n<=19) {D dist:Nat->Int} (J:∀v,v<n-> -200<=D v∧D v<=200) (R:∀u v:Nat,u<n->v<n->0<af E u v->dist v<=dist u+1) {k:Int} (hk:1<=k) (an:k<=n) {d s:List Int} (ar:d.length=n) (av:s.length=n)
  (h:T.dZ n (af E) D dist 200 k (fun v=>rd d (v:Nat)) (fun v=>rd s (v:Nat))) {x:Int} (U:0<=x) (aa:x<=T.eC n (af E) dist 200 k) (hx:∀v:Nat,v<n->dist v=k->rd d v<0-> -rd d v<=x*T.sN (fun u=>if T.a6 dist k u=true then af E v u else 0) n):
  T.dZ n (af E) D dist 200 (k-1) (fun v=>rd (a4 E (T.a6 dist k) x n (d,s)).1 (v:Nat)) (fun v=>rd (a4 E (T.a6 dist k) x n (d,s)).2 (v:Nat))∧
  ∀v:Nat,v<n-> -2097152<=rd (a4 E (T.a6 dist k) x n (d,s)).1 v∧rd (a4 E (T.a6 dist k) x n (d,s)).1 v<=2097152∧ -2097152<=rd (a4 E (T.a6 dist k) x n (d,s)).2 v∧rd (a4 E (T.a6 dist k) x n (d,s)).2 v<=2097152:=by
 have hb:=lY j.wt I o J (by omega) an h
 have h1:=T.dZ.step j.wt (by omega) o R h U aa hx (d':=fun v=>rd d (v:Nat)-x*T.aI n (af E) (T.ind (T.a6 dist k)) v) (s':=fun v=>rd s (v:Nat)+x*T.ind (T.a6 dist k) v) (fun _ _=>rfl) (fun _ _=>rfl)
 have ad:=lY j.wt I o J (show 0<=k-1 by omega) (by omega) h1
 have ag:=fun (w:Nat) (hw:w<n)=>tH j (T.a6 dist k) x d s ar av (fun w hw=>by have:=hb w hw;unfold cC;omega) (fun w hw=>by have:=hb w hw;unfold cC;omega) hw
 have e1:∀w:Nat,w<n->rd (a4 E (T.a6 dist k) x n (d,s)).1 w=rd d w-x*T.aI n (af E) (T.ind (T.a6 dist k)) w:=fun w hw=>(ag w hw).1 (by have:=ad w hw;unfold cC;omega)
 have e2:∀w:Nat,w<n->rd (a4 E (T.a6 dist k) x n (d,s)).2 w=rd s w+x*T.ind (T.a6 dist k) w:=fun w hw=>(ag w hw).2 (by have:=ad w hw;unfold cC;omega)
 have hl:=T.dZ.step j.wt (by omega) o R h U aa hx (d':=fun v=>rd (a4 E (T.a6 dist k) x n (d,s)).1 (v:Nat)) (s':=fun v=>rd (a4 E (T.a6 dist k) x n (d,s)).2 (v:Nat)) e1 e2
 refine⟨hl,fun v hv=>?_⟩
 have:=lY j.wt I o J (show 0<=k-1 by omega) (by omega) hl v hv
 omega
theorem Az {n:Nat} {E:List S83} (j:ba n E) (o:T.sN (T.val n (af E)) n<=19) {D dist:Nat->Int} (I:∀u v:Nat,u<n->v<n->0<af E u v->dist v<=dist u+1) {k:Int} {d s:List Int}
  (h:T.dZ n (af E) D dist 200 k (fun v=>rd d (v:Nat)) (fun v=>rd s (v:Nat))) (J:∀v:Nat,v<n->dist v=k->rd d v<0-> -rd d v<=0*T.sN (fun u=>if T.a6 dist k u=true then af E v u else 0) n):
  T.dZ n (af E) D dist 200 (k-1) (fun v=>rd d (v:Nat)) (fun v=>rd s (v:Nat)):=by
 refine T.dZ.step j.wt (by omega) o I h (T:=0) (by omega) ?_ J (fun v _=>by rw[Int.zero_mul,Int.sub_zero]) (fun v _=>by rw[Int.zero_mul,Int.add_zero])
 have:=T.m5 (n:=n) (t:=af E) dist (show (0:Int)<=200 by omega) k
 omega
theorem AA {n:Nat} {t:Nat->Nat->Int} (j:T.Wt n t) {out:List Int} {k:Int} {v u:Nat} (hu:u<n) (h1:0<t v u) (h2:rd out (u:Int)+1=rd out (v:Int)) (hk:rd out (v:Int)=k):1<=T.sN (fun u=>if T.a6 (fun v=>rd out (v:Nat)) k u=true then t v u else 0) n:=by
 have o:=T.fP (f:=fun u=>if T.a6 (fun v=>rd out (v:Nat)) k u=true then t v u else 0) hu (fun w _=>by
  show 0<=(if T.a6 (fun v=>rd out (v:Nat)) k w=true then t v w else 0)
  have:=j.pos v w
  split<;>omega)
 have I:T.a6 (fun v=>rd out (v:Nat)) k u=true:=by exact decide_eq_true (show rd out (u:Int)<k by omega)
 simp only[I,if_true] at o
 omega
theorem tI (n:Nat) (t:Nat->Nat->Int) (q:Nat) (d:List Int):a5 n t q d q=true:=pD _ (by simp[bK])
theorem AB (n:Nat) (t:Nat->Nat->Int) (q:Nat) (d:List Int) {v:Nat} (j:v<n):bG n t d (a5 n t q d) v=false:=
 pF (n:=n) (c:=bG n t d) (fun b v h=>lT b v h) (cY n (bK q)) (bK q) (Nat.le_refl _) v j
theorem tJ {n:Nat} {t:Nat->Nat->Int} {q:Nat} {d:List Int} {v:Nat} (j:v<n) (h:a5 n t q d v=false):T.sN (fun u=>if a5 n t q d u=true then t v u else 0) n<=rd d v:=by
 have h1:=AB n t q d j
 unfold bG at h1
 rw[h,lX] at h1
 simp at h1
 exact h1
theorem AD {n:Nat} {t:Nat->Nat->Int} (J:T.Wt n t) {q:Nat} {d:List Int} (h:((List.range n).any fun v=> !a5 n t q d v)=false):T.jO n t q (fun v=>rd d (v:Nat)):=by
 have h1:bs n t q d=true:=by
  unfold bs
  rw[List.all_eq_true]
  intro v o
  rw[List.any_eq_false] at h
  have:=h v o
  show a5 n t q d v=true
  simpa using this
 have h2:=(jr (fun i j=>J.pos i j) q d).1 h1
 intro S hS R
 obtain⟨v,o,U,I⟩:=h2 S hS R
 refine⟨v,o,U,?_⟩
 rw[lX] at I
 refine Int.lt_of_lt_of_le I (T.cm fun u _=>?_)
 show (if(!S u)=true then t v u else 0)<=(if S u=false then t v u else 0)
 cases S u<;>simp
theorem AE {n:Nat} {t:Nat->Nat->Int} (hc:T.cR n t) (j:T.Wt n t) {q:Nat} (hq:q<n) {d:List Int} (h:((List.range n).any fun v=> !a5 n t q d v)=true):∃v,v<n∧a5 n t q d v=false∧0<T.sN (fun u=>if a5 n t q d u=true then t v u else 0) n:=by
 obtain⟨v,o,hb⟩:=List.any_eq_true.1 h
 obtain⟨a,b,I,J,h1,h2,U⟩:=hc (a5 n t q d) ⟨q,hq,tI n t q d⟩ ⟨v,List.mem_range.1 o,by simpa using hb⟩
 refine⟨b,J,h2,?_⟩
 have R:=T.fP (f:=fun u=>if a5 n t q d u=true then t b u else 0) I (fun w _=>by
  show 0<=(if a5 n t q d w=true then t b w else 0)
  have:=j.pos b w
  split<;>omega)
 have h5:=j.sym a b
 simp only[h1,if_true] at R
 omega
structure gW (n q:Nat) (t:Nat->Nat->Int) (D:Nat->Int) (d s:List Int):Prop where
 dl:d.length=n
 sl:s.length=n
 eq:∀v:Nat,v<n->rd d v=D v-T.aI n t (fun u=>rd s (u:Nat)) v
 jh:∀v:Nat,v<n->v≠q->0<=rd d v
 low: -102400<=rd d q
 s0:∀v:Nat,v<n->0<=rd s v
 sq:rd s q<=1228800
structure dE (n q:Nat) (t:Nat->Nat->Int) (D c σ:Nat->Int):Prop where
 red:T.iq n t q c
 eq:∀v,v<n->c v=D v-T.aI n t σ v
 q0:σ q=0
theorem AF {n q:Nat} {t:Nat->Nat->Int} (j:T.Wt n t) (hc:T.cR n t) (hq:q<n) (D:Nat->Int):∃c σ,dE n q t D c σ:=by
 obtain⟨c,⟨s,o⟩,hr⟩:=T.oR j hc hq D
 refine⟨c,fun u=>s u-s q,hr,fun v I=>?_,by show s q-s q=0;omega⟩
 have h:=T.kB n t s (fun _=>s q) v
 rw[T.jc] at h
 rw[h,o v I];omega
theorem dE.unique {n q:Nat} {t:Nat->Nat->Int} (R:T.Wt n t) (hc:T.cR n t) (hq:q<n) {D c σ J o:Nat->Int} (h:dE n q t D c σ) (I:dE n q t D J o):∀v,v<n->c v=J v∧σ v=o v:=by
 have e:T.a_ n t c J:=⟨fun u=>o u-σ u,fun v j=>by rw[T.kB,h.eq v j,I.eq v j];omega⟩
 have h1:=T.yB R hc hq h.red I.red e
 have h2:=T.zm R hc hq (s:=σ) (s':=o) (by rw[h.q0,I.q0]) (fun v j=>by
  have a:=h.eq v j
  have b:=I.eq v j
  have c:=h1 v j
  omega)
 exact fun v j=>⟨(h1 v j).symm,h2 v j⟩
theorem pN {n:Nat} {t:Nat->Nat->Int} (j:T.Wt n t) {v:Nat} (o:v<n):T.val n t v<=T.sN (T.val n t) n:=T.fP o (fun u _=>T.cQ fun w _=>j.pos u w)
theorem dE.bound {n q:Nat} {t:Nat->Nat->Int} (o:T.Wt n t) (hc:T.cR n t) (hq:q<n) (hn:n<=12) (J:T.sN (T.val n t) n<=19) {D c σ:Nat->Int} (U:∀v,v<n-> -200<=D v∧D v<=200) (h:dE n q t D c σ):∀v,v<n-> -31536<=σ v∧σ v<=31536∧ -3000<=c v∧c v<=3000∧(v≠q->0<=c v∧c v<19):=by
 have h1:=T.zn o hc hq h.red h.eq h.q0 (B:=200) (V:=19) (by omega) (by omega) U (fun v j=>Int.le_trans (pN o j) J)
 have R:∀v,v<n->v≠q->0<=c v∧c v<=19:=fun v j I=>by
  have a:=h.red.1 v j I
  have b:=T.mY o h.red.2 j I
  have:=Int.le_trans (pN o j) J
  omega
 have aa:∀v,v<n->v≠q->0<=c v∧c v<19:=fun v j I=>by
  have a:=h.red.1 v j I
  have b:=T.mY o h.red.2 j I
  have:=Int.le_trans (pN o j) J
  omega
 have h2:=T.zp (f:=c) hq (a:=0) (b:=19) (by omega) (by omega) R
 have h3:T.sN c n=T.sN D n:=by
  rw[T.bh (f:=c) (g:=fun v=>D v-T.aI n t σ v) h.eq,T.cM,T.lJ o];omega
 have h4:=T.mZ (f:=D) (n:=n) (B:=200) U
 have e1:(n:Int)*(n*(200+19))<=31536:=by
  have a:(n:Int)*(200+19)<=12*(200+19):=Int.mul_le_mul_of_nonneg_right (by omega) (by omega)
  have b:=Int.mul_le_mul_of_nonneg_left a (show (0:Int)<=n by omega)
  have c:(n:Int)*(12*(200+19))<=12*(12*(200+19)):=Int.mul_le_mul_of_nonneg_right (by omega) (by omega)
  omega
 intro v j
 have a:=h1 v j
 refine⟨by omega,by omega,?_,?_,fun I=>aa v j I⟩
 ·by_cases e:v=q
  ·subst e;omega
  ·have:=R v j e;omega
 ·by_cases e:v=q
  ·subst e;omega
  ·have:=R v j e;omega
theorem gW.bounds {n q:Nat} {t:Nat->Nat->Int} (o:T.Wt n t) (hc:T.cR n t) (hq:q<n) (R:n<=12) (U:T.sN (T.val n t) n<=19) {D c σ:Nat->Int} (I:∀v,v<n-> -200<=D v∧D v<=200) (hr:dE n q t D c σ) {d s:List Int} (h:gW n q t D d s):
  ∀v:Nat,v<n-> -102400<=rd d v∧rd d v<=1231200∧0<=rd s v∧rd s v<=σ v+rd s q∧rd s v<=1260336:=by
 have J:∀v:Nat,v<n-> -102400<=rd d v:=fun v j=>by
  by_cases e:v=q
  ·subst e;exact h.low
  ·have:=h.jh v j e;omega
 have aa:T.sN (fun v=>rd d (v:Nat)) n=T.sN D n:=by
  rw[T.bh (f:=fun v=>rd d (v:Nat)) (g:=fun v=>D v-T.aI n t (fun u=>rd s (u:Nat)) v) h.eq,T.cM,T.lJ o];omega
 have ab:=(T.mZ (f:=D) (n:=n) (B:=200) I).2
 have hle:=T.ph o hc hq hr.red hr.eq hr.q0 (d:=fun v=>rd d (v:Nat)) h.eq h.jh
 intro v j
 have h1:rd d v<=T.sN (fun v=>rd d (v:Nat)) n-n* -102400:=pM (f:=fun v=>rd d (v:Nat)) j (a:= -102400) (by omega) J
 have h2:rd s v<=σ v+rd s q:=hle v j
 have h3:=hr.bound o hc hq R U I v j
 have h4:=h.s0 v j
 have h5:=h.sq
 have h6:=J v j
 omega
def iH (n q:Nat) (σ:Nat->Int) (s:List Int):Int:=T.sN (fun v=>σ v+rd s q-rd s v) n
theorem gW.step {n q:Nat} {E:List S83} (o:ba n E) (hc:T.cR n (af E)) (hq:q<n) (hn:n<=12) (av:T.sN (T.val n (af E)) n<=19) {D c σ:Nat->Int} (hD:∀v,v<n-> -200<=D v∧D v<=200) (hr:dE n q (af E) D c σ) {d s:List Int} (h:gW n q (af E) D d s)
  (a1:((List.range n).any fun v=> !a5 n (af E) q d v)=true) {x:Int} (hx:1<=x) (a2:∀v:Nat,v<n->a5 n (af E) q d v=false->x*T.sN (fun u=>if a5 n (af E) q d u=true then af E v u else 0) n<=rd d v):
  gW n q (af E) D (a4 E (fun v=> !a5 n (af E) q d v) x n (d,s)).1 (a4 E (fun v=> !a5 n (af E) q d v) x n (d,s)).2∧
  (∀v:Nat,v<n-> -2097152<=rd (a4 E (fun v=> !a5 n (af E) q d v) x n (d,s)).1 v∧rd (a4 E (fun v=> !a5 n (af E) q d v) x n (d,s)).1 v<=2097152∧ -2097152<=rd (a4 E (fun v=> !a5 n (af E) q d v) x n (d,s)).2 v∧rd (a4 E (fun v=> !a5 n (af E) q d v) x n (d,s)).2 v<=2097152)∧
  0<=iH n q σ (a4 E (fun v=> !a5 n (af E) q d v) x n (d,s)).2∧iH n q σ (a4 E (fun v=> !a5 n (af E) q d v) x n (d,s)).2<iH n q σ s:=by
 obtain⟨L,I⟩:∃L:Nat->Bool,L=fun v=> !a5 n (af E) q d v:=⟨_,rfl⟩
 have aB:L q=false:=by rw[I];simp[tI]
 have ad:=T.zq o.wt (L:=L) (d:=fun v=>rd d (v:Nat)) (T:=x) (by omega) (fun v j hs=>by
  have h1:=a2 v j (by rw[I] at hs;simpa using hs)
  rw[T.bh (f:=fun u=>if L u=false then af E v u else 0) (g:=fun u=>if a5 n (af E) q d u=true then af E v u else 0) (fun u _=>by
   have e:L u= !a5 n (af E) q d u:=by rw[I]
   rw[e]
   cases a5 n (af E) q d u<;>simp)]
  exact h1)
 rw[<-I]
 have hb:=h.bounds o.wt hc hq hn av hD hr
 have ag:∀v:Nat,v<n->v≠q->0<=rd d v-x*T.aI n (af E) (T.ind L) v:=fun v j ak=>by
  cases J:L v with
  |true=>exact(ad v j).1 J
  |false=>have h1:=(ad v j).2 J;have h2:=h.jh v j ak;omega
 have aL: -102400<=rd d q-x*T.aI n (af E) (T.ind L) q:=by
  have h1:=(ad q hq).2 aB;have h2:=h.low;omega
 have an:∀v:Nat,v<n-> -102400<=rd d v-x*T.aI n (af E) (T.ind L) v:=fun v j=>by
  by_cases e:v=q
  ·subst e;exact aL
  ·have:=ag v j e;omega
 have heq:∀v:Nat,v<n->rd d v-x*T.aI n (af E) (T.ind L) v=D v-T.aI n (af E) (fun u=>rd s (u:Nat)+x*T.ind L u) v:=fun v j=>by
  rw[T.jN,T.r_,h.eq v j];omega
 have a3:T.sN (fun v=>rd d (v:Nat)-x*T.aI n (af E) (T.ind L) v) n=T.sN D n:=by
  rw[T.bh heq,T.cM,T.lJ o.wt];omega
 have bn:=(T.mZ (f:=D) (n:=n) (B:=200) hD).2
 have aO:∀v:Nat,v<n->rd d v-x*T.aI n (af E) (T.ind L) v<=1231200:=fun v j=>by
  have h1:rd d v-x*T.aI n (af E) (T.ind L) v<=T.sN (fun v=>rd d (v:Nat)-x*T.aI n (af E) (T.ind L) v) n-n* -102400:=pM (f:=fun v=>rd d (v:Nat)-x*T.aI n (af E) (T.ind L) v) j (a:= -102400) (by omega) an
  rw[a3] at h1
  omega
 have hle:=T.ph o.wt hc hq hr.red hr.eq hr.q0 (d:=fun v=>rd d (v:Nat)-x*T.aI n (af E) (T.ind L) v) (s:=fun u=>rd s (u:Nat)+x*T.ind L u) heq ag
 have R:T.ind L q=0:=by unfold T.ind;rw[aB];rfl
 have bf:∀v,0<=T.ind L v∧T.ind L v<=1:=fun v=>by unfold T.ind;split<;>omega
 have aP:∀v,0<=x*T.ind L v:=fun v=>Int.mul_nonneg (by omega) (bf v).1
 have U:∀v:Nat,v<n->0<=rd s v+x*T.ind L v∧rd s v+x*T.ind L v<=σ v+rd s q∧rd s v+x*T.ind L v<=1260336:=fun v j=>by
  have h1:rd s (v:Nat)+x*T.ind L v<=σ v+(rd s (q:Nat)+x*T.ind L q):=hle v j
  rw[R,Int.mul_zero,Int.add_zero] at h1
  have h2:=h.s0 v j
  have h3:=aP v
  have h4:=hr.bound o.wt hc hq hn av hD v j
  have h5:=h.sq
  omega
 have a0:=fun (w:Nat) (hw:w<n)=>tH o L x d s h.dl h.sl (fun w hw=>by have:=hb w hw;unfold cC;omega) (fun w hw=>by have:=hb w hw;unfold cC;omega) hw
 have e1:∀w:Nat,w<n->rd (a4 E L x n (d,s)).1 w=rd d w-x*T.aI n (af E) (T.ind L) w:=fun w hw=>(a0 w hw).1 (by have:=an w hw;have:=aO w hw;unfold cC;omega)
 have e2:∀w:Nat,w<n->rd (a4 E L x n (d,s)).2 w=rd s w+x*T.ind L w:=fun w hw=>(a0 w hw).2 (by have:=U w hw;unfold cC;omega)
 obtain⟨l1,l2⟩:=lW E L x (d,s) n
 refine⟨⟨l1.trans h.dl,l2.trans h.sl,fun v j=>?_,fun v j ak=>by rw[e1 v j];exact ag v j ak,by rw[e1 q hq];exact aL,fun v j=>by rw[e2 v j];exact(U v j).1,by rw[e2 q hq,R,Int.mul_zero,Int.add_zero];exact h.sq⟩,fun v j=>?_,?_,?_⟩
 ·rw[e1 v j,heq v j,T.kC (s:=fun u=>rd (a4 E L x n (d,s)).2 (u:Nat)) (r:=fun u=>rd s (u:Nat)+x*T.ind L u) (fun u hu=>e2 u hu) j]
 ·rw[e1 v j,e2 v j]
  have:=an v j
  have:=aO v j
  have:=U v j
  omega
 ·refine T.cQ fun v j=>?_
  show 0<=σ v+rd (a4 E L x n (d,s)).2 q-rd (a4 E L x n (d,s)).2 v
  rw[e2 v j,e2 q hq,R,Int.mul_zero,Int.add_zero]
  have:=(U v j).2.1
  omega
 ·obtain⟨v,j,hb⟩:=List.any_eq_true.1 a1
  have bg:=List.mem_range.1 j
  have J:L v=true:=by rw[I];exact hb
  have h1:iH n q σ (a4 E L x n (d,s)).2=T.sN (fun v=>(σ v+rd s q-rd s v)-x*T.ind L v) n:=by
   refine T.bh fun v j=>?_
   show σ v+rd (a4 E L x n (d,s)).2 q-rd (a4 E L x n (d,s)).2 v=_
   rw[e2 v j,e2 q hq,R,Int.mul_zero,Int.add_zero];omega
  rw[h1,T.cM]
  have h2:=T.fP (f:=fun v=>x*T.ind L v) bg (fun u _=>aP u)
  have h3:T.ind L v=1:=by unfold T.ind;rw[J];rfl
  simp only[h3,Int.mul_one] at h2
  show T.sN (fun v=>σ v+rd s q-rd s v) n-T.sN (fun v=>x*T.ind L v) n<T.sN (fun v=>σ v+rd s q-rd s v) n
  omega
def bQ (x:Int):Bool:=decide (-1048576<=x∧x<=1048576)
def eS (l:List Int) (n:Int):Int:=if n<1∨n>12 then 2 else if(l.length:Int)≠n then 8 else if l.all bQ=true then 0 else 2
theorem tK (x:Int):fy.f x=some (bQ x):=by
 unfold fy.f bQ
 by_cases h1:x>= -1048576
 ·by_cases h2:x<=1048576
  ·simp[h1,h2]
  ·simp[h1,h2]
 ·simp[h1]
theorem AG {l:List Int} {i:Nat} (h:i<l.length):l.drop i=rd l i::l.drop (i+1):=by
 rw[List.drop_eq_getElem_cons h];simp[rd,List.getD_eq_getElem?_getD,List.getElem?_eq_getElem h]
theorem tL (l:List Int) (j:l.length<=1000000):∀(m i:Nat),i+m=l.length->Ev (fun k=>aW.l0 k l l.length i) (if(l.drop i).all bQ=true then 0 else 2)
 |0,i,hi=>by
  refine Ev.of_succ ?_
  simp only[aW.l0,if_neg (show ¬((i:Int)<(l.length:Int)) by omega)]
  rw[List.drop_eq_nil_of_le (by omega)]
  exact Ev.const _
 |m+1,i,hi=>by
  have o:=tL l j m (i+1) (by omega)
  refine Ev.of_succ ?_
  simp only[aW.l0,if_pos (show (i:Int)<(l.length:Int) by omega),if_pos (show (0:Int)<=(i:Int) by omega),dA (show i<=1000000 by omega),tK,Option.bind_some]
  rw[AG (show i<l.length by omega),List.all_cons]
  cases hb:bQ (rd l i) with
  |true=>simp only[if_true,Bool.true_and];exact o
  |false=>simp;exact Ev.const _
theorem kK (l:List Int) (n:Int) (o:l.length<=1000000):Ev (fun k=>aW.f k l n) (eS l n):=by
 unfold aW.f eS
 have I:gB.f n=some (if n<1∨n>12 then 2 else 0):=by
  unfold gB.f
  by_cases h1:n<1
  ·simp[h1]
  ·by_cases h2:n>12
   ·simp[h1,h2]
   ·simp[h1,h2]
 rw[I]
 simp only[Option.bind_some]
 by_cases h:n<1∨n>12
 ·simp only[if_pos h];exact Ev.const _
 ·simp only[if_neg h,if_true]
  by_cases j:(l.length:Int)=n
  ·rw[if_neg (by simpa using j)]
   simp only[if_pos j]
   have:=tL l o l.length 0 (by omega)
   simpa using this
  ·rw[if_pos j]
   simp only[if_neg j]
   exact Ev.const _
theorem pO {l:List Int} {n:Int}:eS l n=0↔1<=n∧n<=12∧(l.length:Int)=n∧∀v:Nat,v<l.length-> -1048576<=rd l v∧rd l v<=1048576:=by
 unfold eS
 have J:l.all bQ=true↔∀v:Nat,v<l.length-> -1048576<=rd l v∧rd l v<=1048576:=by
  rw[List.all_eq_true]
  constructor
  ·intro h v j
   have:=h l[v] (List.getElem_mem j)
   rw[show rd l (v:Int)=l[v] by simp[rd,List.getD_eq_getElem?_getD,List.getElem?_eq_getElem j]]
   simpa [bQ] using this
  ·intro h x R
   obtain⟨v,j,rfl⟩:=List.getElem_of_mem R
   have:=h v j
   rw[show rd l (v:Int)=l[v] by simp[rd,List.getD_eq_getElem?_getD,List.getElem?_eq_getElem j]] at this
   simpa [bQ] using this
 by_cases h:n<1∨n>12
 ·rw[if_pos h];constructor
  ·intro h;cases h
  ·intro h2;omega
 ·rw[if_neg h]
  by_cases o:(l.length:Int)=n
  ·rw[if_neg (by simpa using o)]
   by_cases I:l.all bQ=true
   ·rw[if_pos I];exact⟨fun _=>⟨by omega,by omega,o,J.1 I⟩,fun _=>rfl⟩
   ·rw[if_neg I];constructor
    ·intro h;cases h
    ·intro h2;exact absurd (J.2 h2.2.2.2) I
  ·rw[if_pos o];constructor
   ·intro h;cases h
   ·intro h2;exact absurd h2.2.2.1 o
theorem tM (A0:Option Addr) (c0 n:Nat) (l:List Int) (w:World) (m:Nat) (o:l.length=n) (h1:1<=n) (U:n<=12) (hb:∀v:Nat,v<n-> -1048576<=rd l v∧rd l v<=1048576) (I:Kd.C (Kd.int .i64) (w.drewN m) A0 l.length l) (J:l.length<=c0):
  Calls Tryz.prog 87 #[.slice A0 n c0,.int .i64 n] (w.drewN m) fun e R=>e= .returned (.int .i64 0)∧∃j,R=w.drewN j:=by
 subst o
 obtain⟨k,hk⟩:=(kK l l.length (by omega)).get
 rw[pO.2 ⟨by omega,by omega,rfl,hb⟩] at hk
 refine(aW.calls k A0 c0 l l.length 0 _ I J hk).mono ?_
 rintro e w' ⟨rfl,⟨j,rfl⟩⟩
 exact⟨rfl,m+j,by rw[World.drewN_drewN]⟩
theorem nm {n:Nat} {t:Nat->Nat->Int} (U:T.Wt n t) {q:Nat} {d:List Int}:T.jO n t q (fun v=>rd d (v:Nat))↔bs n t q d=true:=by
 rw[jr (fun i j=>U.pos i j) q d]
 have key:∀(S:Nat->Bool) (v:Nat),bX t (fun u=> !S u) v n=T.sN (fun u=>if S u=false then t v u else 0) n:=fun S v=>by
  rw[lX]
  refine T.bh fun u _=>?_
  cases S u<;>simp
 constructor
 ·intro h S hS I
  obtain⟨v,J,R,o⟩:=h S hS I
  exact⟨v,J,R,by rw[key];exact o⟩
 ·intro h S hS I
  obtain⟨v,J,R,o⟩:=h S hS I
  exact⟨v,J,R,by rw[key] at o;exact o⟩
def cO (n:Nat) (E:List S83) (d s:List Int):List Int:=(List.range n).map fun v:Nat=>rd d v-T.aI n (af E) (fun u=>rd s (u:Nat)) v
theorem tN (f:Nat->Int) {n v:Nat} (j:v<n):rd ((List.range n).map f) (v:Int)=f v:=by
 rw[jm,List.getD_eq_getElem?_getD,List.getElem?_map,List.getElem?_range j];rfl
theorem tO (n:Nat) (E:List S83) (d s:List Int) {v:Nat} (j:v<n):rd (cO n E d s) v=rd d v-T.aI n (af E) (fun u=>rd s (u:Nat)) v:=tN _ j
theorem pP (n:Nat) (E:List S83) (d s:List Int):(cO n E d s).length=n:=by simp[cO]
theorem tP {a b:List Int} {n:Nat} (j:a.length=n) (hb:b.length=n) (h:∀v:Nat,v<n->rd a v=rd b v):a=b:=by
 refine List.ext_getElem (by rw[j,hb]) fun i h1 h2=>?_
 have:=h i (by omega)
 rw[jm,jm,List.getD_eq_getElem?_getD,List.getD_eq_getElem?_getD,List.getElem?_eq_getElem h1,List.getElem?_eq_getElem h2] at this
 exact this
def jt (n:Nat) (E:List S83) (q:Nat) (d s:List Int):Bool:=decide (s.length=n)&&decide (rd s q=0)&&((List.range n).all fun v=>decide (v=q)||decide (0<=rd (cO n E d s) v))&&bs n (af E) q (cO n E d s)
def boxes (r q:Nat):Nat->List (List Int)
 |0=>[[]]
 |v+1=>(boxes r q v).flatMap fun s=>if v=q then[s++[0]] else(List.range (2*r+1)).map fun i:Nat=>s++[(i:Int)-r]
theorem tQ (r q:Nat) (σ:Nat->Int) (h0:σ q=0):∀n,(∀v,v<n-> -(r:Int)<=σ v∧σ v<=r)->(List.range n).map σ∈boxes r q n
 |0,_=>by simp[boxes]
 |n+1,h=>by
  unfold boxes
  rw[List.mem_flatMap]
  refine⟨_,tQ r q σ h0 n (fun v j=>h v (by omega)),?_⟩
  rw[show (List.range (n+1)).map σ=(List.range n).map σ++[σ n] by rw[List.range_succ,List.map_append];rfl]
  by_cases e:n=q
  ·rw[if_pos e,e,h0];exact List.mem_singleton.2 rfl
  ·rw[if_neg e,List.mem_map]
   have:=h n (by omega)
   exact⟨(σ n+r).toNat,List.mem_range.2 (by omega),by congr 2;omega⟩
def tR (n:Nat) (E:List S83) (q:Nat) (d:List Int) (r:Nat):Option (List Int):=(boxes r q n).find? (jt n E q d)
def fS (n:Nat) (E:List S83) (q:Nat) (d:List Int):Nat->Option (List Int)
 |0=>none
 |k+1=>match fS n E q d k with
  |some s=>some s
  |none=>tR n E q d k
theorem AH (n:Nat) (E:List S83) (q:Nat) (d:List Int) (k:Nat):ah (fS n E q d k) (fS n E q d (k+1)):=fun r h=>by
 unfold fS
 rw[h]
theorem pQ {n:Nat} {E:List S83} {q:Nat} {d s:List Int}:∀{k:Nat},fS n E q d k=some s->jt n E q d s=true
 |0,h=>by cases h
 |k+1,h=>by
  unfold fS at h
  cases h1:fS n E q d k with
  |some s'=>rw[h1] at h;injection h with h;subst h;exact pQ h1
  |none=>rw[h1] at h;exact List.find?_some h
theorem AI {n:Nat} {E:List S83} {q:Nat} {d s:List Int} {r:Nat} (j:s∈boxes r q n) (hok:jt n E q d s=true):∃s',fS n E q d (r+1)=some s':=by
 unfold fS
 cases h1:fS n E q d r with
 |some s'=>exact⟨s',rfl⟩
 |none=>
  have:(tR n E q d r).isSome=true:=List.find?_isSome.2 ⟨s,j,hok⟩
  obtain⟨s',h⟩:=Option.isSome_iff_exists.1 this
  exact⟨s',h⟩
theorem lZ {n:Nat} {E:List S83} (o:ba n E) {q:Nat} {d s:List Int}:jt n E q d s=true↔s.length=n∧dE n q (af E) (fun v=>rd d (v:Nat)) (fun v=>rd (cO n E d s) (v:Nat)) (fun v=>rd s (v:Nat)):=by
 unfold jt
 simp only[Bool.and_eq_true,decide_eq_true_eq,List.all_eq_true,List.mem_range,Bool.or_eq_true]
 constructor
 ·rintro⟨⟨⟨h1,h2⟩,I⟩,J⟩
  exact⟨h1,⟨fun v j R=>(I v j).resolve_left R,(nm o.wt).2 J⟩,fun v j=>tO n E d s j,h2⟩
 ·rintro⟨h1,h⟩
  exact⟨⟨⟨h1,h.q0⟩,fun v j=>by by_cases e:v=q;exact .inl e;exact .inr (h.red.1 v j e)⟩,(nm o.wt).1 h.red.2⟩
theorem AJ {n q:Nat} {t:Nat->Nat->Int} {D c σ I o:Nat->Int} (h:dE n q t D c σ) (hq:q<n) (hc:∀v,v<n->I v=c v) (J:∀v,v<n->o v=σ v):dE n q t D I o:=by
 refine⟨⟨fun v j R=>by rw[hc v j];exact h.red.1 v j R,fun S hS U=>?_⟩,fun v j=>?_,by rw[J q hq];exact h.q0⟩
 ·obtain⟨v,j,h1,h2⟩:=h.red.2 S hS U
  exact⟨v,j,h1,by rw[hc v j];exact h2⟩
 ·rw[hc v j,h.eq v j,T.kC (s:=o) (r:=σ) J j]
theorem AK {n:Nat} {E:List S83} (o:ba n E) (hC:gV n E) {q:Nat} (hq:q<n) (d:List Int):∃s,Ev (fS n E q d) s∧s.length=n∧dE n q (af E) (fun v=>rd d (v:Nat)) (fun v=>rd (cO n E d s) (v:Nat)) (fun v=>rd s (v:Nat)):=by
 obtain⟨c,σ,h⟩:=AF o.wt (o.conn hC) hq (fun v=>rd d (v:Nat))
 obtain⟨r,hr⟩:∃r:Nat,∀v,v<n-> -(r:Int)<=σ v∧σ v<=r:=by
  refine⟨(T.sN (fun v=>((σ v).natAbs:Int)) n).toNat,fun v j=>?_⟩
  have h1:=T.fP (f:=fun v=>((σ v).natAbs:Int)) j (fun u _=>by show (0:Int)<=((σ u).natAbs:Int);omega)
  have h2:((σ v).natAbs:Int)<=T.sN (fun v=>((σ v).natAbs:Int)) n:=h1
  omega
 have I:∀v,v<n->rd ((List.range n).map σ) (v:Int)=σ v:=fun v j=>tN _ j
 have hok:jt n E q d ((List.range n).map σ)=true:=(lZ o).2 ⟨by simp,AJ h hq (fun v j=>by rw[tO n E d _ j,h.eq v j,T.kC (s:=fun u=>rd ((List.range n).map σ) (u:Nat)) (r:=σ) I j]) I⟩
 obtain⟨s',h1⟩:=AI (tQ r q σ h.q0 n hr) hok
 have h2:=(lZ o).1 (pQ h1)
 exact⟨s',Ev.at_ (AH n E q d) h1,h2.1,h2.2⟩
def fA (N:Int) (E:List S83) (q:Int) (d:List Int):Bool:=decide (1<=N∧N<=12∧0<=q∧q<N∧E.length<=1000∧b7 N E=0∧partsOf E N.toNat=1∧T.sN (T.val N.toNat (af E)) N.toNat<=19∧(d.length:Int)=N)&&d.all fun x=>decide (-200<=x∧x<=200)
structure dF (n q:Nat) (E:List S83) (d:List Int):Prop where
 n1:1<=n
 fT:n<=12
 q:q<n
 len:E.length<=1000
 right:ba n E
 conn:gV n E
 val:T.sN (T.val n (af E)) n<=19
 dl:d.length=n
 d:∀v:Nat,v<n-> -200<=rd d v∧rd d v<=200
theorem tS {d:List Int} {B:Int}:(d.all fun x=>decide (-B<=x∧x<=B))=true↔∀v:Nat,v<d.length-> -B<=rd d v∧rd d v<=B:=by
 rw[List.all_eq_true]
 have e:∀(v:Nat) (j:v<d.length),rd d (v:Int)=d[v]:=fun v j=>by simp[rd,List.getD_eq_getElem?_getD,List.getElem?_eq_getElem j]
 constructor
 ·intro h v j
  rw[e v j]
  simpa using h d[v] (List.getElem_mem j)
 ·intro h x o
  obtain⟨v,j,rfl⟩:=List.getElem_of_mem o
  have:=h v j
  rw[e v j] at this
  simpa using this
theorem pR {N:Int} {E:List S83} {q:Int} {d:List Int} (h:fA N E q d=true):∃n j:Nat,N=n∧q=j∧dF n j E d:=by
 unfold fA at h
 rw[Bool.and_eq_true,decide_eq_true_eq] at h
 obtain⟨⟨h1,h2,R,h4,U,h6,o,I,h9⟩,ab⟩:=h
 obtain⟨n,rfl⟩:=Int.eq_ofNat_of_zero_le (show 0<=N by omega)
 obtain⟨j,rfl⟩:=Int.eq_ofNat_of_zero_le R
 simp only[Int.toNat_natCast] at o I
 have J:=(gy h6).2.2
 refine⟨n,j,rfl,rfl,by omega,by omega,by omega,U,J,(iz (by omega) J).1 o,I,by omega,fun v hv=>tS.1 ab v (by omega)⟩
theorem dF.ok {n q:Nat} {E:List S83} {d:List Int} (h:dF n q E d) (hc:b7 n E=0):fA n E q d=true:=by
 unfold fA
 rw[Bool.and_eq_true,decide_eq_true_eq]
 have:=h.n1;have:=h.fT;have:=h.q;have:=h.dl
 exact⟨⟨by omega,by omega,by omega,by omega,h.len,hc,by simpa using (iz (by omega) h.right).2 h.conn,by simpa using h.val,by omega⟩,tS.2 fun v j=>h.d v (by omega)⟩
theorem AL {n:Nat} {t:Nat->Nat->Int} (o:T.Wt n t) (j:0<n) {D:Nat->Int} (hw:T.bp n t D) {L:Int} (h1:∀v,v<n->∀k,T.bA n t (fun u=>D u-T.one v u) k->L<=k+1) (h2:L=T.sN D n∨∃v,v<n∧∃k,T.bA n t (fun u=>D u-T.one v u) k∧L=k+1):T.bA n t D L:=by
 obtain⟨r,hr⟩:=T.ir o j D
 obtain⟨a,v,R,b⟩:=T.yI o j hw hr
 obtain⟨I,J⟩:=T.ir o j (fun u=>D u-T.one v u)
 have U:=b I J
 have e2:=h1 v R I J
 have h0:0<=r:=by
  have:=hr.1
  by_cases e:r= -1
  ·exact absurd hw ((T.bA.lL j hr).1 e)
  ·omega
 have e3:r<=L:=by
  rcases h2 with h2|⟨u,hu,k,hk,h2⟩
  ·rw[h2];exact hr.oV o j h0
  ·rw[h2];exact a u hu k hk
 have:r=L:=by omega
 rw[<-this];exact hr
theorem tT {n:Nat} {t:Nat->Nat->Int} (o:T.Wt n t) (j:0<n) {D:Nat->Int} (hw:¬T.bp n t D):T.bA n t D (-1):=by
 obtain⟨r,hr⟩:=T.ir o j D
 have:=(T.bA.lL j hr).2 hw
 rw[<-this];exact hr
theorem AM {n:Nat} {t:Nat->Nat->Int} (j:T.Wt n t) (hc:T.cR n t) (o:0<n) {g:Int} (I:T.eA n t g) {D:Nat->Int} (hd:2*g-2<T.sN D n):T.bA n t D (T.sN D n-g):=by
 obtain⟨r,hr⟩:=T.ir j o D
 have:=T.yJ j hc o I hd hr
 rw[<-this];exact hr
def Rk (n:Nat) (t:Nat->Nat->Int) (d:List Int) (r:Int):Prop:=T.bA n t (fun v=>rd d (v:Nat)) r
theorem pS {n:Nat} {t:Nat->Nat->Int} {D D':Nat->Int} (h:∀v,v<n->D' v=D v) {r:Int} (hr:T.bA n t D r):T.bA n t D' r:=hr.dB (T.a_.of_eq h)
theorem AN {c:List Int} {n v:Nat} (j:c.length=n) (o:v<n):∀u,u<n->rd (c.set v (rd c v-1)) (u:Nat)=rd c u-T.one v u:=fun u hu=>by
 unfold T.one
 by_cases e:u=v
 ·subst e;rw[iF _ _ _ (by omega),if_pos rfl]
 ·rw[gC _ _ _ _ (fun k=>e k.symm),if_neg e];omega
theorem AO {c:List Int} {v:Nat} (j:v<c.length) (x:Int):(c.set v x).set v (rd c v)=c:=by
 rw[List.set_set]
 refine List.ext_getElem (by simp) fun i h1 h2=>?_
 rw[List.getElem_set]
 split
 ·rename_i e;subst e;simp[rd,List.getD_eq_getElem?_getD,List.getElem?_eq_getElem j]
 ·rfl
def gX (c:List Int):List Int:=c++List.replicate (12-c.length) 0
theorem AP {c:List Int} (h:c.length<=12):(gX c).length=12:=by simp[gX];omega
def iI (n:Nat) (t:Nat->Nat->Int) (g:Int) (l:List Int) (x:Int):Prop:=∃c:List Int,c.length=n∧l=gX c∧Rk n t c x∧(∀v:Nat,v<n->0<=rd c v)∧(∀v:Nat,v<n->v≠0->rd c v<T.val n t v)∧T.sN (fun v=>rd c (v:Nat)) n<=2*g-2
theorem AQ {n:Nat} {a b:List Int} (j:a.length=n) (hb:b.length=n) (h:gX a=gX b):a=b:=by
 unfold gX at h
 rw[j,hb] at h
 exact List.append_cancel_right h
theorem pT {α:Type} [DecidableEq α]:∀{j L:List α},j.Pairwise (· ≠ ·)->(∀x∈j,x∈L)->j.length<=L.length
 |[],_,_,_=>Nat.zero_le _
 |x::j,L,h,hm=>by
  rw[List.pairwise_cons] at h
  have o:=hm x (List.mem_cons_self ..)
  have h1:=pT (L:=L.erase x) h.2 (fun y I=>(List.mem_erase_of_ne (fun e=>h.1 y I e.symm)).2 (hm y (List.mem_cons_of_mem _ I)))
  have h2:=List.length_erase_of_mem o
  have J:=List.length_pos_of_mem o
  rw[List.length_cons]
  omega
def jW (B:Nat->Nat):Nat->List (List Int)
 |0=>[[]]
 |n+1=>(jW B n).flatMap fun c=>(List.range (B n)).map fun x:Nat=>c++[(x:Int)]
def fU (B:Nat->Nat):Nat->Nat
 |0=>1
 |n+1=>fU B n*B n
theorem tU {α β:Type} {f:α->List β} {m:Nat}:∀{l:List α},(∀x∈l,(f x).length=m)->(l.flatMap f).length=l.length*m
 |[],_=>by simp
 |x::l,h=>by
  rw[List.flatMap_cons,List.length_append,h x (List.mem_cons_self ..),tU (fun y j=>h y (List.mem_cons_of_mem _ j)),List.length_cons,Nat.succ_mul,Nat.add_comm]
theorem tV (B:Nat->Nat):∀n,(jW B n).length=fU B n
 |0=>rfl
 |n+1=>by
  rw[jW,tU (m:=B n) (fun c _=>by simp),tV B n]
  rfl
theorem tW (B:Nat->Nat) (f:Nat->Int):∀n,(∀v,v<n->0<=f v∧f v<B v)->(List.range n).map f∈jW B n
 |0,_=>by simp[jW]
 |n+1,h=>by
  rw[jW,List.mem_flatMap]
  refine⟨(List.range n).map f,tW B f n (fun v j=>h v (by omega)),List.mem_map.2 ⟨(f n).toNat,List.mem_range.2 ?_,?_⟩⟩
  ·have:=h n (by omega)
   omega
  ·have:=h n (by omega)
   rw[List.range_succ,List.map_append,Int.toNat_of_nonneg this.1]
   rfl
theorem AR:∀x:Nat,x<19->x ^ 3<=3 ^ x:=by decide
def fe (n:Nat) (t:Nat->Nat->Int) (v:Nat):Nat:=if v=0 then 17 else(T.val n t v).toNat
theorem AS {n:Nat} {t:Nat->Nat->Int} (j:∀v,v<n->0<=T.val n t v) (R:T.sN (T.val n t) n<=18):∀m,m<=n->0<=T.sN (fun v=>if v=0 then 0 else T.val n t v) m∧T.sN (fun v=>if v=0 then 0 else T.val n t v) m<=18∧fU (fe n t) m ^ 3<=17 ^ 3*3 ^ (T.sN (fun v=>if v=0 then 0 else T.val n t v) m).toNat∧(m=0->fU (fe n t) m ^ 3<=1):=by
 have hle:∀m,m<=n->T.sN (fun v=>if v=0 then 0 else T.val n t v) m<=T.sN (T.val n t) m∧T.sN (T.val n t) m<=18:=by
  intro m hm
  refine⟨T.cm fun v U=>by have:=j v (by omega);show (if v=0 then 0 else T.val n t v)<=_;split<;>omega,?_⟩
  have key:∀k,m+k<=n->T.sN (T.val n t) m<=T.sN (T.val n t) (m+k):=by
   intro k
   induction k with
   |zero=>intro _;exact Int.le_refl _
   |succ k o=>
    intro hk
    have:=o (by omega)
    show _<=T.sN (T.val n t) (m+k)+T.val n t (m+k)
    have:=j (m+k) (by omega)
    omega
  have:=key (n-m) (by omega)
  rw[show m+(n-m)=n by omega] at this
  omega
 intro m
 induction m with
 |zero=>intro _;exact⟨by simp[T.sN],by simp[T.sN],by simp[T.sN,fU],fun _=>by simp[fU]⟩
 |succ m o=>
  intro hm
  obtain⟨i1,i2,i3,i4⟩:=o (by omega)
  have I:=(hle (m+1) hm)
  have hb:=j m (by omega)
  have e:T.sN (fun v=>if v=0 then 0 else T.val n t v) (m+1)=T.sN (fun v=>if v=0 then 0 else T.val n t v) m+(if m=0 then 0 else T.val n t m):=rfl
  refine⟨by rw[e];split<;>omega,by omega,?_,fun h=>by omega⟩
  show (fU (fe n t) m*fe n t m) ^ 3<=_
  rw[Nat.mul_pow]
  by_cases h0:m=0
  ·have h1:=i4 h0
   have h2:fe n t m=17:=if_pos h0
   rw[h2]
   have J:1<=3 ^ (T.sN (fun v=>if v=0 then 0 else T.val n t v) (m+1)).toNat:=Nat.pow_pos (by decide)
   calc fU (fe n t) m ^ 3*17 ^ 3<=1*17 ^ 3:=Nat.mul_le_mul_right _ h1
    _=17 ^ 3*1:=by simp
    _<=_:=Nat.mul_le_mul_left _ J
  ·have h2:fe n t m=(T.val n t m).toNat:=if_neg h0
   rw[e,if_neg h0] at I
   rw[e,if_neg h0,h2,Int.toNat_add i1 hb,Nat.pow_add,<-Nat.mul_assoc]
   exact Nat.mul_le_mul i3 (AR _ (by omega))
theorem AT {n:Nat} {t:Nat->Nat->Int} (j:∀v,v<n->0<=T.val n t v) (o:T.sN (T.val n t) n<=18):fU (fe n t) n<16384:=by
 obtain⟨h1,h2,I, -⟩:=AS j o n (Nat.le_refl n)
 have J:3 ^ (T.sN (fun v=>if v=0 then 0 else T.val n t v) n).toNat<=3 ^ 18:=Nat.pow_le_pow_right (by decide) (by omega)
 have R:fU (fe n t) n ^ 3<=17 ^ 3*3 ^ 18:=Nat.le_trans I (Nat.mul_le_mul_left _ J)
 rcases Nat.lt_or_ge (fU (fe n t) n) 16384 with h|h
 ·exact h
 ·have U:16384 ^ 3<=fU (fe n t) n ^ 3:=Nat.pow_le_pow_left h 3
  have h7:=Nat.le_trans U R
  exact absurd h7 (by decide)
theorem AU {c:List Int}:(List.range c.length).map (fun v:Nat=>rd c (v:Int))=c:=by
 refine List.ext_getElem (by simp) fun i h1 h2=>?_
 simp[rd,List.getD_eq_getElem?_getD,List.getElem?_eq_getElem h2]
theorem AV {n:Nat} {t:Nat->Nat->Int} (I:T.Wt n t) (hn:0<n) {g:Int} (J:T.eA n t g) (ar:T.sN (T.val n t) n<=19) (o:List (List Int)) (hk:o.Pairwise (· ≠ ·)) (R:∀l∈o,∃x,iI n t g l x):o.length<16384:=by
 have U:∀v,v<n->0<=T.val n t v:=fun v _=>T.cQ fun u _=>I.pos v u
 have h1:T.sN (T.can n t) n=T.sN (T.val n t) n-2*n:=by
  have key:∀m:Nat,T.sN (T.can n t) m=T.sN (T.val n t) m-2*m:=by
   intro m
   induction m with
   |zero=>simp[T.sN]
   |succ m ih=>
    show T.sN (T.can n t) m+T.can n t m=T.sN (T.val n t) m+T.val n t m-_
    rw[ih]
    unfold T.can
    omega
  exact key n
 have av:T.sN (T.can n t) n=2*g-2:=J
 have ab:T.sN (T.val n t) n<=18:=by omega
 have hle:=pT (L:=(jW (fe n t) n).map gX) hk (fun l hl=>by
  obtain⟨x,c,hc,rfl, -,h0,ag,hs⟩:=R l hl
  refine List.mem_map.2 ⟨c,?_,rfl⟩
  have:=tW (fe n t) (fun v=>rd c (v:Nat)) n (fun v j=>⟨h0 v j,by
   unfold fe
   split
   ·rename_i e
    subst e
    have h2:=T.fP (f:=fun v=>rd c (v:Nat)) j h0
    have h3:rd c ((0:Nat):Int)<=T.sN (fun v=>rd c (v:Nat)) n:=h2
    show rd c ((0:Nat):Int)<_
    omega
   ·rename_i e
    have h2:=ag v j e
    have h3:=h0 v j
    show rd c (v:Int)<_
    omega⟩)
  rw[<-hc,AU,hc] at this
  exact this)
 rw[List.length_map,tV] at hle
 exact Nat.lt_of_le_of_lt hle (AT U ab)
section
theorem tX {w w1:World} {g j:Nat} {v:Value} (h:Below w.heap.size w w1):w.grownBy (w1.setCell ⟨g,j,none⟩ v) (some g):=
 ⟨h.os,h.tape,h.output,by simpa using h.size,fun k hk o=>(Below.heap_setCell w1 _ v k (fun e=>o (by rw[e]))).trans (h.block k hk)⟩
structure AW (cs:Array Value) (d:Value) (q:Int) (rows val:Value) (waits:Nat->Bool):Prop where
 size:cs.size=18
 d:cs[0]? =some d
 q:cs[1]? =some (.int .i64 q)
 rows:cs[2]? =some rows
 val:cs[3]? =some val
 waits:∀i,i<12->cs[6+i]? =some (.bool (waits i))
def PileAt (w:World) (g:Nat) (d:Value) (q:Int) (rows val:Value) (waits:Nat->Bool):Prop:=
 ∃cs:Array Value,w.heap[g]? =some (.cells cs 236 (0,0))∧AW cs d q rows val waits
namespace PileAt
variable {w w':World} {g:Nat} {d:Value} {q:Int} {rows val:Value} {waits:Nat->Bool}
theorem tY (h:PileAt w g d q rows val waits):w.cell? ⟨g,0,none⟩=some d:=by obtain⟨cs,hb,hc⟩:=h;exact(ai hb 0).trans hc.d
theorem AX (h:PileAt w g d q rows val waits):w.cell? ⟨g,1,none⟩=some (.int .i64 q):=by obtain⟨cs,hb,hc⟩:=h;exact(ai hb 1).trans hc.q
theorem kL (h:PileAt w g d q rows val waits):w.cell? ⟨g,2,none⟩=some rows:=by obtain⟨cs,hb,hc⟩:=h;exact(ai hb 2).trans hc.rows
theorem nn (h:PileAt w g d q rows val waits):w.cell? ⟨g,3,none⟩=some val:=by obtain⟨cs,hb,hc⟩:=h;exact(ai hb 3).trans hc.val
theorem AY (h:PileAt w g d q rows val waits) (i:Nat) (hi:i<12):w.cell? ⟨g,6+i,none⟩=some (.bool (waits i)):=by obtain⟨cs,hb,hc⟩:=h;exact(ai hb _).trans (hc.waits i hi)
theorem frozen (h:PileAt w g d q rows val waits) (k:Nat):w.frozen? ⟨g,k,none⟩=false:=by obtain⟨cs,hb,_⟩:=h;exact a9 hb k
theorem below (h:PileAt w g d q rows val waits) (hb:Below w.heap.size w w'):PileAt w' g d q rows val waits:=by obtain⟨cs,j,hc⟩:=h;exact⟨cs,aE j hb,hc⟩
theorem drew (h:PileAt w g d q rows val waits):PileAt w.drew g d q rows val waits:=h
theorem grown {row:Option Nat} (h:PileAt w g d q rows val waits) (j:w.grownBy w' row) (o:some g≠row):PileAt w' g d q rows val waits:=by obtain⟨cs,I,hc⟩:=h;exact⟨cs,cg I j o,hc⟩
theorem AZ (h:PileAt w g d q rows val waits) (i:Nat) (hi:i<12) (b:Bool):PileAt (w.setCell ⟨g,6+i,none⟩ (.bool b)) g d q rows val (fun j=>if j=i then b else waits j):=by
 obtain⟨cs,o,hc⟩:=h
 refine⟨cs.setIfInBounds (6+i) (.bool b),by simpa using bt o (6+i) (.bool b),by simp[hc.size],?_,?_,?_,?_,?_⟩
 ·rw[Array.getElem?_setIfInBounds_ne (by omega)];exact hc.d
 ·rw[Array.getElem?_setIfInBounds_ne (by omega)];exact hc.q
 ·rw[Array.getElem?_setIfInBounds_ne (by omega)];exact hc.rows
 ·rw[Array.getElem?_setIfInBounds_ne (by omega)];exact hc.val
 ·intro k hk
  have I:=hc.size
  by_cases e:k=i
  ·subst e
   rw[Array.getElem?_setIfInBounds_self_of_lt (by omega)];simp
  ·rw[Array.getElem?_setIfInBounds_ne (by omega),hc.waits k hk];simp[e]
theorem A_ (h:PileAt w g d q rows val waits) (u:Value):PileAt (w.setCell ⟨g,2,none⟩ u) g d q u val waits:=by
 obtain⟨cs,j,hc⟩:=h
 have o:=hc.size
 refine⟨cs.setIfInBounds 2 u,by simpa using bt j 2 u,by simp[hc.size],?_,?_,?_,?_,?_⟩
 ·rw[Array.getElem?_setIfInBounds_ne (by omega)];exact hc.d
 ·rw[Array.getElem?_setIfInBounds_ne (by omega)];exact hc.q
 ·rw[Array.getElem?_setIfInBounds_self_of_lt (by omega)]
 ·rw[Array.getElem?_setIfInBounds_ne (by omega)];exact hc.val
 ·intro k hk
  rw[Array.getElem?_setIfInBounds_ne (by omega)];exact hc.waits k hk
theorem eo (h:PileAt w g d q rows val waits) {α:Type} {k:Kd α} {e base:Nat} {ok:Nat->Prop} {v:Value} {xs:List α} (o:k.R e w base ok v xs) (I:∀q,q∈e::k.E->q≠236) (j:Nat) (u:Value):k.R e (w.setCell ⟨g,j,none⟩ u) base ok v xs:=by
 obtain⟨cs,hb,_⟩:=h
 exact Kd.eo o hb I j u
theorem ot (h:PileAt w g d q rows val waits) {α:Type} {k:Kd α} {e base:Nat} {ok:Nat->Prop} {v:Value} {xs:List α} (o:Kd.S k e w base ok v xs) (I:∀q,q∈e::k.E->q≠236) (j:Nat) (u:Value):Kd.S k e (w.setCell ⟨g,j,none⟩ u) base ok v xs:=by
 obtain⟨cs,hb,_⟩:=h
 exact Kd.ot o hb I j u
theorem pU (h:PileAt w g d q rows val waits) {v:Value} {e:Nat} (j:∀k,v.ownBlock=some k->∃cells,w.heap[k]? =some (.cells cells e (0,0))) (o:e≠236):some g≠v.ownBlock:=fun he=>by
 obtain⟨cs,hb,_⟩:=h
 obtain⟨cells,hc⟩:=j g he.symm
 rw[hb] at hc
 injection hc with hc
 injection hc with _ hc _
 exact o hc.symm
end PileAt
def gF (q:Int) (vl dl:List Int) (v:Nat):Bool:=decide ((v:Int)≠q)&&decide (rd vl v<=rd dl v)
theorem Ba (g v:Nat) (q:Int) (j o:Option Addr) (cd J:Nat) (dl vl:List Int) (rows:Value) (waits:Nat->Bool) (w:World) (ab:v<dl.length) (ag:v<vl.length)
  (hw:PileAt w g (.slice j dl.length cd) q rows (.slice o vl.length J) waits) (hd:Kd.C (Kd.int .i64) w j dl.length dl) (hr:Kd.C (Kd.int .i64) w o vl.length vl):
  Calls Tryz.prog 223 #[.pointer (some ⟨g,0,none⟩),.int .i64 v] w fun e w'=>e= .returned (.bool (gF q vl dl v))∧ax w w':=by
 have ak:=hw.tY
 have an:=hw.AX
 have ar:=hw.nn
 have aB:=hd.2.1
 have aF:=hr.2.1
 unfold gF
 by_cases hq:(v:Int)=q
 ·rw[decide_eq_false (by simpa using hq),Bool.false_and]
  subst hq
  go_enter Tryz.func223,Tryz.ntmps223
  go_wp2_with fail
  go_quiet (fail)
  go_wp2
  go_ret
  exact⟨rfl,by repeat(first|exact ax.refl _|apply ax.step)⟩
 ·rw[decide_eq_true (by simpa using hq),Bool.true_and]
  obtain⟨ad,rfl,R⟩:=Kd.bD hd v (by omega) (by omega)
  obtain⟨av,rfl,U⟩:=Kd.bD hr v (by omega) (by omega)
  rw[Int.toNat_natCast] at R U
  have aO:(0:Int)<=(v:Int):=by omega
  have aP:(v:Int)<(dl.length:Int):=by omega
  have aS:(v:Int)<(vl.length:Int):=by omega
  have I:((v:Int) != q)=true:=by simpa using hq
  have aa:=Lib.hid I
  clear I
  go_enter Tryz.func223,Tryz.ntmps223
  go_wp2_with fail
  go_quiet (fail)
  go_wp2
  go_ret
  refine⟨?_,by repeat(first|exact ax.refl _|apply ax.step)⟩
  show Ending.returned (.bool ((v:Int) != q&&decide (rd vl v<=rd dl v)))=_
  rw[aa.out,Bool.true_and]
theorem Bb (g v:Nat) (q:Int) (o I:Option Addr) (cd R:Nat) (dl vl:List Int) (rows:Value) (waits:Nat->Bool) (w:World) (hv:v<12) (ad:v<dl.length) (ag:v<vl.length)
  (hw:PileAt w g (.slice o dl.length cd) q rows (.slice I vl.length R) waits) (hd:Kd.C (Kd.int .i64) w o dl.length dl) (hr:Kd.C (Kd.int .i64) w I vl.length vl):
  Calls Tryz.prog 218 #[.pointer (some ⟨g,0,none⟩),.int .i64 v] w fun e w'=>e= .returned (.tuple #[])∧PileAt w' g (.slice o dl.length cd) q rows (.slice I vl.length R) (fun j=>if j=v then gF q vl dl v else waits j)∧w.grownBy w' (some g):=by
 have aF:(0:Int)<=(v:Int):=by omega
 have aL:(v:Int)<12:=by omega
 have HU:=Aside0.mk (fun W h1 h2 h3=>Ba g v q o I cd R dl vl rows waits W ad ag h1 h2 h3)
 have U:=Aside0.mk hw
 have HD:=Aside0.mk hd
 have HR:=Aside0.mk hr
 clear hw hd hr
 generalize gF q vl dl v=b at HU⊢
 go_enter Tryz.func218,Tryz.ntmps218
 go_wp2_with fail
 go_region_with ((go_at_call 223;refine(HU.out _ U.out.drew (Kd.cK HD.out) (Kd.cK HR.out)).mono ?_;rintro e w1 ⟨rfl,J⟩;have q1:w1.cell? ⟨g,6+v,none⟩=some (.bool (waits v)):=(by obtain⟨m,rfl⟩:=J.out;exact U.out.AY v hv);have q2:w1.frozen? ⟨g,6+v,none⟩=false:=(by obtain⟨m,rfl⟩:=J.out;exact U.out.frozen _);have q3:=Aside0.mk (show PileAt (w1.setCell ⟨g,6+v,none⟩ (.bool b)) g (.slice o dl.length cd) q rows (.slice I vl.length R) (fun j=>if j=v then b else waits j) from by obtain⟨m,rfl⟩:=J.out;exact PileAt.AZ (w:=w.drew.drewN m) U.out v hv b);have q4:=Aside0.mk (show w.grownBy (w1.setCell ⟨g,6+v,none⟩ (.bool b)) (some g) from by exact tX ((fH (Below.refl w.heap.size w)).trans J.below));clear J))
 all_goals go_wp2
 all_goals go_end0
 all_goals exact⟨rfl,q3.out,q4.out⟩
end
end Go.Proofs.YtffdiakgjakngaaGreat.P
namespace Go.Proofs.YtffdiakgjakngaaGreat.P
open Go Go.RowKit
set_option linter.unusedVariables false
set_option linter.unusedSimpArgs false
set_option maxHeartbeats 8000000
set_option maxRecDepth 100000
section
variable {F:Fence} {n:Nat} {P:Program}
theorem tZ {σ α:Type} {g:Operand} {ps:Array Tmp} {assign body:Code} {Q:Exit->Act->World->Prop} {a:Act} {w:World}
  (cb:F.round=none) (h1:1<=n) {gf:Nat} {lb:Array Value} (hg:a.eval g= .func (.func gf) #[] lb) (cd:F.fn gf) (eg:∀args w,(callFunc gf args).run P w= .ok (.enter gf args) w)
  {bj:α->Array Value} {Start:σ->World->World->Prop} {St:σ->World->World->Prop} {Ar:σ->α->World->World->Prop} {Kp:σ->World->World->Prop} {S Sp:σ->List α->World->Prop} {Bd:List α->Prop}
  (cj:∀o,iA F (n-1) P gf lb bj Start St Ar Kp S Sp Bd ((w.alloc (.deferred (some []))).alloc (.loop o))) (ck:∀x,(bj x).size=ps.size)
  (aa:σ->Prop) (cl:∀o s W1,Start s ((w.alloc (.deferred (some []))).alloc (.loop o)) W1->aa s∧bJ w.heap.size ((w.alloc (.deferred (some []))).alloc (.loop o)) W1)
  (aO:∀s A B,aa s->St s A B->bJ w.heap.size A B) (cq:∀s x A B,aa s->Ar s x A B->bJ w.heap.size A B)
  (I:σ->List α->World->Prop) (Ix:Code->σ->List α->World->Prop)
  (cr:∀s pre A B,aa s->I s pre A->St s A B->I s pre B) (cv:∀c s pre A B,aa s->Ix c s pre A->St s A B->Ix c s pre B)
  (cx:∀s pre A B,I s pre A->Bk (w.heap.size+1) A B->I s pre B) (c0:∀c s pre A B,Ix c s pre A->Bk (w.heap.size+1) A B->Ix c s pre B)
  (c1:∀s A B C D,Bk (w.heap.size+1) A B->Kp s B C->Bk (w.heap.size+1) C D->Kp s A D)
  (h0:∀o s W1,Start s ((w.alloc (.deferred (some []))).alloc (.loop o)) W1->I s [] W1) (a₁:α->World->Act) (w₁:α->World->World)
  (c2:∀x W,bJ w.heap.size W (w₁ x W)) (c3:∀s x A D,Kp s (w₁ x A) D->Kp s A D)
  (c4:∀(l:Nat) (x:α) (W:World) (K:Act->World->Prop),K (a₁ x W) (w₁ x W)->
   assign.wpIn (F.inRound l) (n-1-1) P (Exit.then K (fun _ _ _=>False)) {tmps:=(ps.zip (bj x)).foldl (fun t (p,v)=>t.setIfInBounds p v) a.tmps,defers:=[]} W)
  (c5:∀(l:Nat) (s:σ) (pre:List α) (x:α) (Wb W1 W:World),aa s->I s pre Wb->Ar s x Wb W1->Bd pre->Bk (w.heap.size+1) (w₁ x W1) W->body.wpIn (F.inRound l) (n-1-1) P (pq (σ:=σ) w.heap.size (Kp s) (I s) (fun c=>Ix c s) (pre++[x]) W) (a₁ x W1) W)
  (c6:∀(s:σ) (xs:List α) (W W':World),aa s->S s xs W->I s xs W->Bk (w.heap.size+1) W W'->W'.heap[w.heap.size]? =some (.deferred (some []))->Q .normal {a with defers:={target:=.collected w.heap.size,args:=#[]}::a.defers} W')
  (c7:∀(c:Code) (s:σ) (pre:List α) (W W':World),aa s->Sp s pre W->Ix c s pre W->Bk (w.heap.size+1) W W'->W'.heap[w.heap.size]? =some (.deferred (some []))->c.wpIn F n P Q {a with defers:={target:=.collected w.heap.size,args:=#[]}::a.defers} W'):
  (Code.rangeFunc g ps assign body).wpIn F n P Q a w:=by
 refine wpIn_rangeFunc ?_
 intro fn c8
 rw[cb]
 obtain⟨rec,ab⟩:∃rec:LoopState->Option Code->Loop,rec=fun st pe=>{state:=st,pending:=pe,fn,tmps:=a.tmps,params:=ps,assign,body,defers:=w.heap.size}:=⟨_,rfl⟩
 obtain⟨W1,an⟩:∃W1,(w.alloc (.deferred (some []))).alloc (.loop (rec .ready none))=W1:=⟨_,rfl⟩
 have c':W1.heap[w.heap.size+1]? =some (.loop (rec .ready none)):=by
  rw[<-an];have:=World.alloc_heap_new (w.alloc (.deferred (some []))) (.loop (rec .ready none));rwa [World.size_alloc] at this
 have dd:W1.heap[w.heap.size]? =some (.deferred (some [])):=by
  rw[<-an];exact(Below.heap_alloc _ _ _ (by simp)).trans (World.alloc_heap_new w _)
 refine⟨w.heap.size+1,[{target:=.collected w.heap.size,args:=#[]}],W1,{target:=.fn (.func gf) lb,args:=#[.func (.yield (w.heap.size+1)) #[] #[]]},W1,gf,
  #[.func (.yield (w.heap.size+1)) #[] #[]]++lb,W1,?_,?_,?_,?_,fun _=>h1,?_⟩
 ·rw[<-an,ab];exact run_enterLoop_outer _ _ _ _ _
 ·simp only[resolve,hg]
  simp[go_sem]
 ·intro f' b4;simp[Target.leads] at b4;subst b4;exact cd
 ·simp[invoke,go_sem,eg]
 ·have hs:=cj (rec .ready none)
  rw[an] at hs
  have ld:∀{A B:World} {r:Loop},bJ w.heap.size A B->A.heap[w.heap.size+1]? =some (.loop r)->B.heap[w.heap.size+1]? =some (.loop r):=fun h ho=>h _ _ (by omega) (by omega) ho rfl
  have ar:∀{A B:World},bJ w.heap.size A B->A.heap[w.heap.size]? =some (.deferred (some []))->B.heap[w.heap.size]? =some (.deferred (some [])):=fun h ho=>h _ _ (by omega) (by omega) ho rfl
  refine(hs (w.heap.size+1)
   (fun s pre W=>aa s∧I s pre W∧W.heap[w.heap.size+1]? =some (.loop (rec .ready none))∧W.heap[w.heap.size]? =some (.deferred (some [])))
   (fun s pre W=>aa s∧∃c,Ix c s pre W∧W.heap[w.heap.size+1]? =some (.loop (rec .done (some c)))∧W.heap[w.heap.size]? =some (.deferred (some [])))
   (fun s pre A B h R=>⟨h.1,cr s pre A B h.1 h.2.1 R,ld (aO s A B h.1 R) h.2.2.1,ar (aO s A B h.1 R) h.2.2.2⟩)
   (fun s pre A B h R=>by
    obtain⟨J,c,hc,j,hk⟩:=h
    exact⟨J,c,cv c s pre A B J hc R,ld (aO s A B J R) j,ar (aO s A B J R) hk⟩)
   (fun s W2 R=>by
    rw[<-an] at R
    have hk:=cl (rec .ready none) s W2 R
    have ag:=hk.2
    rw[an] at ag
    exact⟨hk.1,h0 _ s W2 R,ld ag c',ar ag dd⟩)
   ?_).mono ?_
  ·rintro s pre x Wb W ⟨J,hi,b_,b'⟩ a1 ds
   have ag:=cq s x Wb W J a1
   have j:=ld ag b_
   have hk:=ar ag b'
   have hy:=run_yield (P:=P) (args:=bj x) j (by rw[ab];exact ck x)
   rw[ab] at hy
   obtain⟨Wr,dv⟩:∃Wr,Wr=W:=⟨_,rfl⟩
   have aP:=c2 x W
   have j:=ld aP j
   have hk:=ar aP hk
   have bg:=fun D=>c3 s x W D
   have bk:=c5 (w.heap.size+1) s pre x Wb W
   have bn:=c4 (w.heap.size+1) x W
   clear ag b_ b'
   rw[<-dv] at hy bn bg bk j hk aP a1⊢
   generalize ew:w₁ x Wr=W at j hk aP bg bk bn
   have ea:w.heap.size+1<W.heap.size:=(Array.getElem?_eq_some_iff.1 j).1
   have ca:Bk (w.heap.size+1) W (W.putObj (w.heap.size+1) (.loop {rec .ready none with state:=.busy})):=⟨_,_,j,rfl,rfl⟩
   refine⟨fn,_,assign,body,hy,roundIn_of_wpIn c8 (bn _ ⟨_,run_beginRound j (by rw[ab]),?_⟩)⟩
   have eb:(W.putObj (w.heap.size+1) (.loop {rec .ready none with state:=.busy})).heap[w.heap.size+1]? =some (.loop {rec .ready none with state:=.busy}):=World.putObj_heap_same ea
   have ed:(W.putObj (w.heap.size+1) (.loop {rec .ready none with state:=.busy})).heap[w.heap.size]? =some (.deferred (some [])):=(World.putObj_heap_other (by omega)).trans hk
   refine wpIn_mono (bk _ J hi a1 ds ca) ?_
   have fin:∀(jump:Option Code) (U:World),bJ w.heap.size (W.putObj (w.heap.size+1) (.loop {rec .ready none with state:=.busy})) U->
     (Instr.endRound (w.heap.size+1) jump).run P U= .ok (.bool jump.isNone) (U.putObj (w.heap.size+1) (.loop (rec (if jump.isNone then .ready else .done) jump)))∧
     Bk (w.heap.size+1) U (U.putObj (w.heap.size+1) (.loop (rec (if jump.isNone then .ready else .done) jump)))∧
     (U.putObj (w.heap.size+1) (.loop (rec (if jump.isNone then .ready else .done) jump))).heap[w.heap.size+1]? =some (.loop (rec (if jump.isNone then .ready else .done) jump))∧
     (U.putObj (w.heap.size+1) (.loop (rec (if jump.isNone then .ready else .done) jump))).heap[w.heap.size]? =some (.deferred (some [])):=fun jump U av=>by
    have bo:=ld av eb
    have:=run_endRound (P:=P) jump bo
    rw[ab] at this⊢
    exact⟨this,⟨_,_,bo,rfl,rfl⟩,World.putObj_heap_same (Array.getElem?_eq_some_iff.1 bo).1,(World.putObj_heap_other (by omega)).trans (ar av ed)⟩
   rintro e a3 U hp
   cases e with
   |normal=>
    obtain⟨av,ek,bw⟩:=hp
    obtain⟨hr,aS,bx,b0⟩:=fin none U av
    exact⟨_,_,hr,.inl ⟨rfl,⟨J,cx s _ _ _ bw aS,bx,b0⟩,bg _ (c1 s _ _ _ _ ca ek aS)⟩⟩
   |ret=>
    obtain⟨av,bw⟩:=hp
    obtain⟨hr,aS,bx,b0⟩:=fin (some .ret) U av
    exact⟨_,_,hr,.inr ⟨rfl,J,.ret,c0 _ s _ _ _ bw aS,bx,b0⟩⟩
   |exit id=>exact hp.elim
   |goto t=>exact hp.elim
   |panic ch=>exact hp.elim
   |outgrown=>exact hp.elim
  ·rintro e W2 ⟨⟨v,rfl⟩,(⟨s,xs,hS,J,hi,j,hk⟩|⟨s,pre,er,J,c,hi,j,hk⟩)⟩
   ·exact⟨none,_,by have:=run_endLoop (P:=P) j (by rw[ab];simp);rw[ab] at this;exact this,c6 s xs W2 _ J hS hi ⟨_,_,j,rfl,rfl⟩ ((World.putObj_heap_other (by omega)).trans hk)⟩
   ·exact⟨some c,_,by have:=run_endLoop (P:=P) j (by rw[ab];simp);rw[ab] at this;exact this,c7 c s pre W2 _ J er hi ⟨_,_,j,rfl,rfl⟩ ((World.putObj_heap_other (by omega)).trans hk)⟩
end
end Go.Proofs.YtffdiakgjakngaaGreat.P

