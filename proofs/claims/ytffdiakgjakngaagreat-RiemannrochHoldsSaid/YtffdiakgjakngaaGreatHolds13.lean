/- RiemannrochHolds answers true whatever the input (text 13 of 20): own walks and plain laws; no conditions. -/
import Derived.Deep.RegionLaw
import Derived.Laws.CopyOwn
import Derived.Test.YtffdiakgjakngaaGreatHolds12
namespace Go.Proofs.YtffdiakgjakngaaGreat.P
open Go.RowKit Go.Proofs.YtffdiakgjakngaaGreatW.PrintWords Go.Proofs.YtffdiakgjakngaaGreatW.PrintLast Go.Proofs.YtffdiakgjakngaaGreatW.PrintMore
set_option linter.unusedVariables false
set_option linter.unusedSimpArgs false
set_option maxHeartbeats 8000000
set_option maxRecDepth 100000
section
attribute [local go_sem] Oper.semAt_some
theorem vr (N:Int) (ev:Value) (w:World):Calls Tryz.prog 143 #[.agg #[.int .i64 N,ev]] w fun e w'=>e= .returned (.func (.func 185) #[] #[.pointer (some ⟨w.heap.size,0,none⟩)])∧w'=w.alloc (.cells #[.int .i64 N,ev] 24):=by
 go_enter Tryz.func143,Tryz.ntmps143
 go_wp2;go_ret;exact⟨rfl,rfl⟩
def ky (k:Nat) (N:Int) (E:List S83):Nat->Option (List Int)
 |0=>some []
 |v+1=>(ky k N E v).bind fun l=>(b9.f k N E (v:Nat)).bind fun p=>some (l++[p.1])
theorem vt (k:Nat) (N:Int) (E:List S83):∀v,ae (ky k N E v) (ky (k+1) N E v)
 |0=>ae.refl _
 |v+1=>ae.bind (vt k N E v) (fun _=>ae.bind (b9.mono _ _ _ _) (fun _=>ae.refl _))
theorem vu {k:Nat} {N:Int} {E:List S83}:∀{v:Nat} {l:List Int},ky k N E v=some l->l.length=v∧∀u:Nat,u<v->∃e,b9.f k N E (u:Nat)=some (rd l u,e)
 |0,l,h=>by injection h with h;subst h;exact⟨rfl,fun u hu=>by omega⟩
 |v+1,l,h=>by
  obtain⟨l',h1,b⟩:=Option.bind_eq_some_iff.1 h;obtain⟨p,g,a⟩:=Option.bind_eq_some_iff.1 b;injection a with a
  subst a;obtain⟨i1,i2⟩:=vu h1;refine⟨by simp[i1],fun u hu=>?_⟩;by_cases e:u=v
  ·subst e
   refine⟨p.2,?_⟩;rw[g,show rd (l'++[p.1]) (u:Int)=p.1 by simp[rd,List.getD_eq_getElem?_getD,<-i1]]
  ·obtain⟨e',i⟩:=i2 u (by omega)
   refine⟨e',?_⟩;rw[i,show rd (l'++[p.1]) (u:Int)=rd l' u by simp[rd,List.getD_eq_getElem?_getD,List.getElem?_append_left (show u<l'.length by omega)]]
def fN (L:List Int) (v:Nat):List (Int×Int):=(List.range v).map fun u:Nat=>((u:Int),rd L u)
theorem vw (L:List Int) (v:Nat):fN L (v+1)=fN L v++[((v:Int),rd L v)]:=by simp[fN,List.range_succ]
def Dn (base a:Nat) (X Y:World):Prop:=(base<=X.heap.size->Below base X Y)∧(a<X.heap.size->Y.heap[a]? =X.heap[a]?)
theorem vx (a k n:Nat) (A0:Option Addr) (c0:Nat) (E:List S83) (L:List Int) (w0 W:World) (O:Kd.C aK w0 A0 E.length E) (P:E.length<=c0) (hn:n<=1000) (q:∀u:Nat,u<n->∃e,b9.f k n E (u:Nat)=some (rd L u,e)) (r:Below w0.heap.size w0 W)
  (h:W.heap[a]? =some (.cells #[.int .i64 n,.slice A0 E.length c0] 24 (0,0))):
  iJ (σ:=Unit) Fence.wide 9 Tryz.prog 185 #[.pointer (some ⟨a,0,none⟩)] (fun x:Int×Int=>#[.int .i64 x.1,.int .i64 x.2]) (fun _ W W1=>W1=W) (fun _ A B=>Below A.heap.size A B) (fun _ x A B=>(∃v:Nat,v<n∧x=((v:Int),rd L v))∧Below A.heap.size A B)
   (fun _ X Y=>Dn w0.heap.size a X Y)
   (fun _ xs W'=>xs=fN L n) (fun _ _ _=>True) (fun pre=>pre.length<=n) W:=by
 intro lp J Jx s w y z;have Q:=Aside0.mk s;have ar:=Aside0.mk w;have R:=Aside0.mk z;have S:=Aside0.mk q;have D:=y () W rfl;clear s w y z q;have hu:=Tryz.underlying24;refine callsIn_of_wp Tryz.func185 rfl trivial ?_ rfl;simp only[Tryz.ntmps185,List.size_toArray,List.length_cons,List.length_nil,Nat.reduceAdd,Nat.reduceSub,Array.replicate_succ,Array.replicate_zero,List.push_toArray,List.append_toArray,List.nil_append,List.cons_append];have j:W.cell? ⟨a,0,none⟩=some (.int .i64 n):=(ao h 0).trans rfl;have b:=Aside0.mk h;clear h;gi_wp2;clear j;gi_loopg [8] (n) (fun T i wr=>∃v:Nat,i= .int .i64 v∧v<=n∧Aside0 (J () (fN L v) wr)∧Aside0 (wr.heap[a]? =some (.cells #[.int .i64 n,.slice A0 E.length c0] 24 (0,0)))∧Aside0 (Below w0.heap.size w0 wr)∧Aside0 (T=n-v))
 case atStart=>exact⟨0,rfl,Nat.zero_le _,⟨D⟩,b,⟨r⟩,⟨rfl⟩⟩
 case round=>
  clear D r b;obtain⟨v,rfl,hv,l,b,m,U⟩:=hrel;by_cases F:v<n
  ·have aB:(0:Int)<=(v:Int):=by omega
   have aF:(v:Int)<(n:Int):=by omega
   obtain⟨ev,G⟩:=S.out v F;have V:=Aside0.mk G;have Z:=Aside0.mk (vw L v);have j:wr.cell? ⟨a,0,none⟩=some (.int .i64 n):=(ao b.out 0).trans rfl;have b1:wr.cell? ⟨a,1,none⟩=some (.slice A0 E.length c0):=(ao b.out 1).trans rfl;clear G;gi_wp2_with (refine⟨trivial,?_⟩;gi_at_call 186;refine(callsIn_wide.2 (b9.calls k n A0 c0 E v (rd L v) ev _ (Kd.al O m.out) P V.out)).mono ?_;rintro e w3 ⟨rfl,g⟩;have ab:=Aside0.mk (Q.out () _ _ _ l.out g);have H:=Aside0.mk (aU m.out g);have I:=Aside0.mk (aG b.out g);obtain⟨fn,tmps,aL,aO,o,K⟩:=R.out () (fN L v) ((v:Int),rd L v) _ _ ab.out ⟨⟨v,F,rfl⟩,Below.refl _ _⟩ (by show (fN L v).length<=n;simp[fN];omega);have ad:=Aside0.mk K;simp only at o;clear K g l m b j b1)
   refine ad.out.mono ?_;rintro e W3 (⟨rfl,M,p⟩|⟨rfl,N⟩)
   ·have ag:=Aside0.mk M
    have ak:=Aside0.mk ((p.2 (ay I.out)).trans I.out);have am:=Aside0.mk (H.out.trans (p.1 H.out.size));clear M p o;gi_wp2;gi_roundg (n- (v+1))
    case measure=>rw[U.out];omega
    case rel=>exact⟨v+1,by go_num,by omega,⟨by rw[Z.out];exact ag.out⟩,ak,am,⟨rfl⟩⟩
   ·have an:=Aside0.mk N
    clear N o;gi_wp2;refine bodyPost_ret (results_none rfl _ _ _) rfl ?_;exact⟨⟨_,rfl⟩,.inr ⟨(),_,trivial,an.out⟩⟩
  ·obtain rfl:n=v:=by omega
   gi_wp2;go_end0;exact⟨⟨_,rfl⟩,.inl ⟨(),_,rfl,l.out⟩⟩
def jq (L:List Int) (n v:Nat):List Int:=(List.range n).map fun u:Nat=>if u<v then wrap64 (rd L u-2) else 0
theorem Dp {L:List Int} {n v:Nat} (a:v<n):(jq L n v).set v (wrap64 (rd L v-2))=jq L n (v+1):=by
 unfold jq;refine List.ext_getElem (by simp) fun i h1 b=>?_
 rw[List.getElem_set];simp only[List.getElem_map,List.getElem_range];by_cases e:v=i
 ·subst e;simp
 ·rw[if_neg e]
  by_cases h:i<v
  ·rw[if_pos h,if_pos (by omega)]
  ·rw[if_neg h,if_neg (by omega)]
def ix (n:Nat) (pre:List (Int×Int)):List Int:=pre.foldl (fun l x=>l.set x.1.toNat (wrap64 (x.2-2))) (List.replicate n 0)
theorem vy (n:Nat) (pre:List (Int×Int)) (x:Int×Int):ix n (pre++[x])=(ix n pre).set x.1.toNat (wrap64 (x.2-2)):=by simp[ix,List.foldl_append]
theorem Dq (n:Nat) (pre:List (Int×Int)):(ix n pre).length=n:=by
 unfold ix;have:∀(pre:List (Int×Int)) (l:List Int),(pre.foldl (fun l x=>l.set x.1.toNat (wrap64 (x.2-2))) l).length=l.length:=by
  intro pre;induction pre with
  |nil=>intro l;rfl
  |cons x pre a=>intro l;rw[List.foldl_cons,a];simp
 rw[this];simp
theorem vz (L:List Int) (n:Nat):∀v,v<=n->ix n (fN L v)=jq L n v
 |0,_=>by
  unfold jq;refine List.ext_getElem (by simp[ix,fN]) fun i h1 a=>?_
  simp[ix,fN]
 |v+1,h=>by
  rw[vw,vy,vz L n v (by omega)];simp only[Int.toNat_natCast];exact Dp (by omega)
def gQ.f (k:Nat) (N:Int) (E:List S83):Option (List Int):=if 1<=N∧N<=1000 then(ky k N E N.toNat).bind fun l=>some (jq l N.toNat N.toNat) else none
theorem gQ.mono:∀a b k,ae (gQ.f k a b) (gQ.f (k+1) a b):=by
 intro N E k;unfold gQ.f;exact ae.ite (ae.bind (vt _ _ _ _) (fun _=>ae.refl _)) (ae.refl _)
theorem Dr (k n:Nat) (A0:Option Addr) (c0:Nat) (E:List S83) (L:List Int) (w:World) (ag:Kd.C aK w A0 E.length E) (ak:E.length<=c0) (bk:1<=n) (hn:n<=1000) (M:∀u:Nat,u<n->∃e,b9.f k n E (u:Nat)=some (rd L u,e)):
  Calls Tryz.prog 89 #[.agg #[.int .i64 n,.slice A0 E.length c0]] w fun e w'=>∃go co,e= .returned (.slice (some ⟨go,0,none⟩) n co)∧(Kd.int .i64).R 3 w' w.heap.size (fun _=>True) (.slice (some ⟨go,0,none⟩) n co) (jq L n n)∧Below w.heap.size w w':=by
 have hu:=Tryz.underlying24;have HL:=Aside0.mk M;have bn:(0:Int)<=(n:Int):=by omega
 obtain⟨b,an,N⟩:=lx 26 Tryz.underlying26 n hn;have O:=Aside0.mk N;clear M N;refine(callsIn_wide (n:=10)).1 ?_;refine callsIn_of_wp_marks Tryz.func89 rfl trivial ?_ rfl;simp only[Tryz.ntmps89,List.size_toArray,List.length_cons,List.length_nil,Nat.reduceAdd,Nat.reduceSub,Array.replicate_succ,Array.replicate_zero,List.push_toArray,List.append_toArray,List.nil_append,List.cons_append];gi_wp2_with (first|(refine⟨trivial,?_⟩;gi_at_call 143;refine(callsIn_wide.2 (vr n _ _)).mono ?_;rintro e w3 ⟨rfl,rfl⟩))
 have r:=heap_alloc_new ((w.alloc (.cells #[.int .i64 n,.slice A0 E.length c0] 24)).alloc (.cells b 3)) (.cells #[.slice (some ⟨w.heap.size+1,0,none⟩) n n] 26);have y:=heap_alloc_new (((w.alloc (.cells #[.int .i64 n,.slice A0 E.length c0] 24)).alloc (.cells b 3)).alloc (.cells #[.slice (some ⟨w.heap.size+1,0,none⟩) n n] 26)) (.cells #[.int .i64 n,.slice A0 E.length c0] 24);have hS:=O.out (w.alloc (.cells #[.int .i64 n,.slice A0 E.length c0] 24)) (fun _=>True) trivial;simp only[World.size_alloc] at r y hS;have P:=Aside0.mk (aw r (.cells #[.int .i64 n,.slice A0 E.length c0] 24));have Q:=Aside0.mk y;have G:=Aside0.mk (aq (aq (aq (aq (Below.refl w.heap.size w) (.cells #[.int .i64 n,.slice A0 E.length c0] 24)) (.cells b 3)) (.cells #[.slice (some ⟨w.heap.size+1,0,none⟩) n n] 26)) (.cells #[.int .i64 n,.slice A0 E.length c0] 24));have S:Aside0 ((Kd.int .i64).R 3 ((((w.alloc (.cells #[.int .i64 n,.slice A0 E.length c0] 24)).alloc (.cells b 3)).alloc (.cells #[.slice (some ⟨w.heap.size+1,0,none⟩) n n] 26)).alloc (.cells #[.int .i64 n,.slice A0 E.length c0] 24)) w.heap.size (fun _=>True) (.slice (some ⟨w.heap.size+1,0,none⟩) n n) (ix n [])):=⟨Kd.aW (Kd.aI (Kd.aI hS _) _) (by omega)⟩;have ap:=Nat.le_of_eq (show ((((w.alloc (.cells #[.int .i64 n,.slice A0 E.length c0] 24)).alloc (.cells b 3)).alloc (.cells #[.slice (some ⟨w.heap.size+1,0,none⟩) n n] 26)).alloc (.cells #[.int .i64 n,.slice A0 E.length c0] 24)).heap.size=w.heap.size+4 by simp);have av:=Nat.le_of_eq (show w.heap.size+4=((((w.alloc (.cells #[.int .i64 n,.slice A0 E.length c0] 24)).alloc (.cells b 3)).alloc (.cells #[.slice (some ⟨w.heap.size+1,0,none⟩) n n] 26)).alloc (.cells #[.int .i64 n,.slice A0 E.length c0] 24)).heap.size by simp);clear r y hS O an;generalize (((w.alloc (.cells #[.int .i64 n,.slice A0 E.length c0] 24)).alloc (.cells b 3)).alloc (.cells #[.slice (some ⟨w.heap.size+1,0,none⟩) n n] 26)).alloc (.cells #[.int .i64 n,.slice A0 E.length c0] 24)=g at P Q G S ap av⊢;refine ie (σ:=Unit) (α:=Int×Int) (F:=Fence.wide) (n:=10) rfl (by decide) (gf:=185) (lb:=#[.pointer (some ⟨w.heap.size+1+1+1,0,none⟩)]) rfl trivial (enters_of Tryz.func185 (by kernel_rfl) rfl)
  (fun o=>vx (w.heap.size+1+1+1) k n A0 c0 E L w _ ag ak hn HL.out (aq (aq G.out _) _) (aw (aw Q.out _) _)) (fun _=>rfl)
  (fun _=>True) ?ei ?st ?ar
  (fun _ pre W=>g.heap.size<=W.heap.size∧(Kd.int .i64).R 3 W w.heap.size (fun _=>True) (.slice (some ⟨w.heap.size+1,0,none⟩) n n) (ix n pre)∧W.heap[w.heap.size+1+1]? =some (.cells #[.slice (some ⟨w.heap.size+1,0,none⟩) n n] 26 (0,0))∧Below w.heap.size w W) (fun _ _ _ _=>False)
  ?is (fun _ _ _ _ _ _ h _=>h) ?ib (fun _ _ _ _ _ h _=>h) ?kt ?h0 ?a1 ?assign ?body ?done (fun _ _ _ _ _ _ _ h=>h.elim)
 case assign=>
  intro l x W K hK;gi_wp2;exact hK
 case ei=>
  intro o s W1 h;exact⟨trivial,by rw[h];exact bX.refl _ _⟩
 case st=>intro s A B _ h;exact cN h
 case ar=>intro s x A B _ h;exact cN h.2
 case is=>
  rintro s pre A B _ ⟨i,h1,H,I⟩ m;exact⟨Nat.le_trans i m.size,Kd.cp h1 m,aG H m,aU I m⟩
 case ib=>
  rintro s pre A B ⟨i,h1,H,I⟩ hb;exact⟨by rw[hb.size];exact i,db h1 hb,hb.cells H,I.trans (hb.below w.heap.size (by omega))⟩
 case kt=>
  intro s A B C D q T U;refine⟨fun aQ=>((q.below w.heap.size (by omega)).trans (T.1 (by rw[q.size];exact aQ))).trans (U.below w.heap.size (by omega)),fun aS=>?_⟩;have V:w.heap.size+1+1+1≠g.heap.size+1:=by omega
  exact(U.heap _ V).trans ((T.2 (by rw[q.size];exact aS)).trans (q.heap _ V))
 case h0=>
  rintro o s W1 rfl;exact⟨by simp;omega,Kd.aI (Kd.aI S.out _) _,aw (aw P.out _) _,aq (aq G.out _) _⟩
 case body=>
  rintro l s' pre ⟨xv,X⟩ Wb Wc W _ ⟨i,i1,i2,i3⟩ ⟨⟨v,b0,hx⟩,j⟩ a2 a;injection hx with a3 a4
  subst a3;have Y:=Aside0.mk (db (Kd.cp i1 j) a);have Z:=Aside0.mk (a.cells (aG i2 j));have I3:=Aside0.mk ((aU i3 j).trans (a.below w.heap.size (by omega)));have a9:g.heap.size<=W.heap.size:=by have:=a.size;have:=j.size;omega
  have be:=Aside0.mk (vy n pre ((v:Int),X));have b4:=Aside0.mk (Dq n pre);clear i1 i2 i3 j a a2 i a4;have z1:=dt Z.out;obtain⟨z2,z3⟩:=Kd.bJ 0 Y.out (v:Int) (by omega) (by omega);rw[Int.toNat_natCast] at z2 z3;generalize bH 0 (ix n pre) (v:Int)=z at z2;replace z2:W.cell? ⟨w.heap.size+1,v,none⟩=some (.int .i64 z):=z2;have b5:(0:Int)<=(v:Int):=by omega
  have b6:(v:Int)<(n:Int):=by omega
  have J:=Kd.cZ Y.out (v:Int) (wrap64 (X-2));rw[Int.toNat_natCast] at J;have bf:=Aside0.mk J.1;clear J;gi_wp2;refine⟨fa _ _ (by omega),⟨fun _=>Below.setCell (p:=⟨w.heap.size+1,v,none⟩) (Below.refl _ _) (by show w.heap.size<=w.heap.size+1;omega) _,fun _=>Below.heap_setCell _ _ _ _ (by show w.heap.size+1+1+1≠w.heap.size+1;omega)⟩,by simpa using a9,?_,aC Z.out (by show w.heap.size+1+1≠w.heap.size+1;omega) _,Below.setCell (p:=⟨w.heap.size+1,v,none⟩) I3.out (by show w.heap.size<=w.heap.size+1;omega) _⟩;rw[be.out];exact bf.out
 case done=>
  rintro s' xs W W' _ rfl ⟨i,i1,i2,i3⟩ a aa;have b1:=Aside0.mk (db i1 a);have b2:=Aside0.mk (a.cells i2);have b3:=Aside0.mk (i3.trans (a.below w.heap.size (by omega)));have ab:=Aside0.mk aa;clear i1 i2 i3 aa;have hc:=dt b2.out;gi_wp2_with fail
  have ad:Bk g.heap.size W' (W'.putObj g.heap.size (.deferred none)):=⟨_,_,ab.out,rfl,rfl⟩;have h1:=b1.out;rw[vz L n n (Nat.le_refl _)] at h1;exact iK (D:=g.heap.size) rfl ab.out (results_tmp rfl _ _ _) ⟨_,_,rfl,db h1 ad,b3.out.trans (ad.below w.heap.size (by omega))⟩
theorem gQ.calls (k:Nat) (b:Int) (i:Option Addr) (j:Nat) (a:List (S83)) (r:List Int) (w:World) (o:Kd.C aK w i a.length a) (p:a.length<=j) (h:gQ.f k b a=some r):
  Calls Tryz.prog 89 #[.agg #[.int .i64 b,.slice i a.length j]] w fun e w'=>∃l:Value,e= .returned (l)∧Kd.R (Kd.int .i64) 3 w' w.heap.size (fun _=>True) l r∧Below w.heap.size w w':=by
 unfold gQ.f at h;by_cases m:1<=b∧b<=1000
 ·rw[if_pos m] at h
  obtain⟨n,rfl⟩:=Int.eq_ofNat_of_zero_le (show 0<=b by omega);obtain⟨L,h1,g⟩:=Option.bind_eq_some_iff.1 h;simp only[Int.toNat_natCast] at h1 g;injection g with g
  subst g;refine(Dr k n i j a L w o p (by omega) (by omega) (vu h1).2).mono ?_;rintro e w' ⟨go,co,rfl,q,s⟩;exact⟨_,rfl,q,s⟩
 ·rw[if_neg m] at h;cases h
end
mutual
def bD.l0:Nat->List (List Int)->List (List Int)->Int->Int->Option (Int)
 |0,_,_,_,_=>none
 |k+1,b,e,g,a=>if a<g then(if 0<=a then(if a<(e.length:Int) then((bc.f k (aT e a) ((aT e a).length:Int)).bind fun t194=>(if t194=0 then(bD.l0 k b e g (wrap64 (a+1))) else(some t194))) else(none)) else(none)) else(bD.l1 k b b (b.length:Int) 0)
def bD.l1:Nat->List (List Int)->List (List Int)->Int->Int->Option (Int)
 |0,_,_,_,_=>none
 |k+1,b,e,g,a=>if a<g then(if 0<=a then(if a<(e.length:Int) then(if 0<(b.length:Int) then(if((aT e a).length:Int)=((aT b 0).length:Int) then(bD.l1 k b e g (wrap64 (a+1))) else(some 8)) else(none)) else(none)) else(none)) else(some 0)
end
def bD.f (k:Nat) (l0:List (List Int)):Option (Int):=bD.l0 k l0 l0 (l0.length:Int) 0
theorem bD.bW:∀k,(∀a b e g,ae (bD.l0 k a b e g) (bD.l0 (k+1) a b e g))∧(∀a b e g,ae (bD.l1 k a b e g) (bD.l1 (k+1) a b e g))
 |0=>⟨fun _ _ _ _ r h=>by simp[bD.l0] at h,fun _ _ _ _ r h=>by simp[bD.l1] at h⟩
 |k+1=>by
  obtain⟨i,j⟩:=bD.bW k;refine⟨?_,?_⟩
  ·intro a b e g
   unfold bD.l0;repeat' first
   |(with_reducible exact i _ _ _ _)
   |(with_reducible exact j _ _ _ _)
   |(with_reducible exact bc.mono _ _ _)
   |(with_reducible exact ae.refl _)
   |(with_reducible exact ae.none _)
   |(with_reducible refine ae.ite ?_ ?_)
   |(with_reducible refine ae.bind ?_ (fun _=>?_))
   |exact i _ _ _ _
   |exact j _ _ _ _
   |exact bc.mono _ _ _
   |exact ae.none _
   |refine ae.ite ?_ ?_
   |refine ae.bind ?_ (fun _=>?_)
  ·intro a b e g
   unfold bD.l1;repeat' first
   |(with_reducible exact i _ _ _ _)
   |(with_reducible exact j _ _ _ _)
   |(with_reducible exact bc.mono _ _ _)
   |(with_reducible exact ae.refl _)
   |(with_reducible exact ae.none _)
   |(with_reducible refine ae.ite ?_ ?_)
   |(with_reducible refine ae.bind ?_ (fun _=>?_))
   |exact i _ _ _ _
   |exact j _ _ _ _
   |exact bc.mono _ _ _
   |exact ae.none _
   |refine ae.ite ?_ ?_
   |refine ae.bind ?_ (fun _=>?_)
theorem bD.mono:∀a0 k,ae (bD.f k a0) (bD.f (k+1) a0):=by
 intro a0 k;obtain⟨a,b⟩:=bD.bW k;unfold bD.f;repeat' first
   |(with_reducible exact a _ _ _ _)
   |(with_reducible exact b _ _ _ _)
   |(with_reducible exact bc.mono _ _ _)
   |(with_reducible exact ae.refl _)
   |(with_reducible exact ae.none _)
   |(with_reducible refine ae.ite ?_ ?_)
   |(with_reducible refine ae.bind ?_ (fun _=>?_))
   |exact a _ _ _ _
   |exact b _ _ _ _
   |exact bc.mono _ _ _
   |exact ae.none _
   |refine ae.ite ?_ ?_
   |refine ae.bind ?_ (fun _=>?_)
theorem bD.calls (k:Nat) (A0:Option Addr) (c0:Nat) (l0:List (List Int)) (r:Int) (w:World) (W:Kd.C (Kd.slice 3 (Kd.int .i64)) w A0 l0.length l0) (X:l0.length<=c0) (h:bD.f k l0=some r):
  Calls Tryz.prog 118 #[.slice A0 l0.length c0] w fun e w'=>e= .returned (.int .i64 r)∧az w w':=by
 have s:=Aside0.mk W;have be:=Aside0.mk X;clear W X;have H:(bD.l0 k l0 l0 (l0.length:Int) 0)=some r:=h;clear h;have g:=Aside0.mk H;clear H;go_enter Tryz.func118,Tryz.ntmps118
 go_wp2;go_loopg [10] k (fun x v10 w'=>∃(a:Int),v10= .int .i64 a∧Aside0 (bD.l0 x l0 l0 (l0.length:Int) a=some r)∧Aside0 (x<=k)∧az w w')
 case atStart=>exact⟨(0),zT,g,⟨Nat.le_refl _⟩,by repeat(first|exact az.refl _|apply az.step)⟩
 case round=>
  clear g;try clear c1
  obtain⟨a,rfl,m,J,⟨m1,rfl⟩⟩:=hrel;cases gk with
  |zero=>exact absurd m.out (by simp[bD.l0])
  |succ y=>
   have H:=m.out;clear m;simp only[bD.l0] at H;by_cases c2:a<(l0.length:Int)
   ·rw[if_pos c2] at H
    have Y:=decide_eq_true c2;clear c2;by_cases c3:0<=a
    ·rw[if_pos c3] at H
     have ak:=decide_eq_true c3;clear c3;by_cases c4:a<(l0.length:Int)
     ·rw[if_pos c4] at H
      have am:=decide_eq_true c4;clear c4;obtain⟨t194,Z,H⟩:=zo H;by_cases u:t194=0
      ·rw[if_pos u] at H
       obtain⟨aa,ab⟩:=bt u;clear u;have g:=Aside0.mk H;clear H;have j:0<=(a:Int):=of_decide_eq_true ‹_›;have l:a<(l0.length:Int):=of_decide_eq_true ‹_›;obtain⟨an,N,O,P,ad,z,B⟩:=fE s.out a j l;cases P;have Q:=Aside0.mk B;have R:=Aside0.mk z;clear B z;replace j:=eq_true j;replace l:=eq_true l;go_wp2_with (first|((with_reducible refine ax (f:=87) rfl ?_);refine zL (some 17) Tryz.func87 #[.slice N (aT l0 a).length O,.int .i64 ((aT l0 a).length:Int)] ?_;(with_reducible refine(bc.calls y _ _ (aT l0 a) ((aT l0 a).length:Int) t194 _ ?af ?ah Z.out).mono ?_);(case af=>repeat(first|exact Q.out|(with_reducible refine Kd.br ?_ _)|(with_reducible refine Kd.fs ?_ _)|(with_reducible refine Kd.eV ?_)));(case ah=>exact R.out);rintro e w' ⟨rfl,⟨nd,rfl⟩⟩;refine⟨_,rfl,?_⟩))
       go_roundg y
       case measure=>have:=J.out;omega
       case rel=>exact⟨(wrap64 (a+1)),zT,g,⟨by have:=J.out;omega⟩,by repeat(first|exact az.refl _|apply az.step)⟩
      ·rw[if_neg u] at H
       obtain⟨aa,ab⟩:=bu u;obtain rfl:=Option.some.inj H;have j:0<=(a:Int):=of_decide_eq_true ‹_›;have l:a<(l0.length:Int):=of_decide_eq_true ‹_›;obtain⟨an,N,O,P,ad,z,B⟩:=fE s.out a j l;cases P;have Q:=Aside0.mk B;have R:=Aside0.mk z;clear B z;replace j:=eq_true j;replace l:=eq_true l;go_wp2_with (first|((with_reducible refine ax (f:=87) rfl ?_);refine zL (some 17) Tryz.func87 #[.slice N (aT l0 a).length O,.int .i64 ((aT l0 a).length:Int)] ?_;(with_reducible refine(bc.calls y _ _ (aT l0 a) ((aT l0 a).length:Int) t194 _ ?af ?ah Z.out).mono ?_);(case af=>repeat(first|exact Q.out|(with_reducible refine Kd.br ?_ _)|(with_reducible refine Kd.fs ?_ _)|(with_reducible refine Kd.eV ?_)));(case ah=>exact R.out);rintro e w' ⟨rfl,⟨nd,rfl⟩⟩;refine⟨_,rfl,?_⟩))
       go_ret;exact⟨zT,by repeat(first|exact az.refl _|apply az.step)⟩
     ·rw[if_neg c4] at H
      exact absurd H (by simp)
    ·rw[if_neg c3] at H
     exact absurd H (by simp)
   ·rw[if_neg c2] at H
    have Y:=decide_eq_false c2;clear c2;have g:=Aside0.mk H;clear H;go_wp2;go_loopg [24] y (fun x v24 w'=>∃(b:Int),v24= .int .i64 b∧Aside0 (bD.l1 x l0 l0 (l0.length:Int) b=some r)∧Aside0 (x<=y)∧az w w')
    case atStart=>exact⟨(0),zT,g,⟨Nat.le_refl _⟩,by repeat(first|exact az.refl _|apply az.step)⟩
    case round=>
     clear g;try clear c1
     try clear p1
     try clear q1
     try clear bi
     try clear c2
     try clear Y
     try clear p2
     try clear c3
     try clear ak
     try clear c4
     try clear am
     try clear u
     try clear aa
     try clear ab
     try clear p6
     try clear ad
     try clear j
     try clear l
     obtain⟨b,rfl,m,ag,⟨m2,rfl⟩⟩:=hrel;cases gk with
     |zero=>exact absurd m.out (by simp[bD.l1])
     |succ k2=>
      have H:=m.out;clear m;simp only[bD.l1] at H;by_cases v:b<(l0.length:Int)
      ·rw[if_pos v] at H
       have av:=decide_eq_true v;clear v;by_cases K:0<=b
       ·rw[if_pos K] at H
        have bo:=decide_eq_true K;clear K;by_cases L:b<(l0.length:Int)
        ·rw[if_pos L] at H
         have bv:=decide_eq_true L;clear L;by_cases M:0<(l0.length:Int)
         ·rw[if_pos M] at H
          have bw:=decide_eq_true M;have bx:decide (0<l0.length)=true:=decide_eq_true (by omega);clear M;by_cases i:((aT l0 b).length:Int)=((aT l0 0).length:Int)
          ·rw[if_pos i] at H
           obtain⟨aB,aF⟩:=bt i;have aL:((aT l0 b).length==(aT l0 0).length)=true:=by first|simpa using i|(simp at i⊢;omega)
           clear i;have g:=Aside0.mk H;clear H;have n:0<=(b:Int):=of_decide_eq_true ‹_›;have o:b<(l0.length:Int):=of_decide_eq_true ‹_›;obtain⟨S,aO,aP,T,aS,D,E⟩:=fE s.out b n o;cases T;have a0:=Aside0.mk E;have a1:=Aside0.mk D;clear E D;replace n:=eq_true n;replace o:=eq_true o;have p:0<=(0:Int):=(by omega);have q:0<(l0.length:Int):=of_decide_eq_true ‹_›;obtain⟨U,a2,a3,V,F,G,I⟩:=fE s.out 0 p q;obtain rfl:S=U:=(by injection V);have a4:(0<l0.length)=True:=eq_true (by omega)
           (try rw[show ((0:Int)).toNat=0 from rfl] at F)
           (try rw[Addr.add_zero'] at F)
           have a5:=Aside0.mk I;have a9:=Aside0.mk G;clear I G;replace p:=eq_true p;replace q:=eq_true q;go_wp2;go_roundg k2
           case measure=>have:=J.out;have:=ag.out;omega
           case rel=>exact⟨(wrap64 (b+1)),zT,g,⟨by have:=J.out;have:=ag.out;omega⟩,by repeat(first|exact az.refl _|apply az.step)⟩
          ·rw[if_neg i] at H
           obtain⟨aB,aF⟩:=bu i;have aL:((aT l0 b).length==(aT l0 0).length)=false:=by first|simpa using i|(simp at i⊢;omega)
           obtain rfl:=Option.some.inj H;have n:0<=(b:Int):=of_decide_eq_true ‹_›;have o:b<(l0.length:Int):=of_decide_eq_true ‹_›;obtain⟨S,aO,aP,T,aS,D,E⟩:=fE s.out b n o;cases T;have a0:=Aside0.mk E;have a1:=Aside0.mk D;clear E D;replace n:=eq_true n;replace o:=eq_true o;have p:0<=(0:Int):=(by omega);have q:0<(l0.length:Int):=of_decide_eq_true ‹_›;obtain⟨U,a2,a3,V,F,G,I⟩:=fE s.out 0 p q;obtain rfl:S=U:=(by injection V);have a4:(0<l0.length)=True:=eq_true (by omega)
           (try rw[show ((0:Int)).toNat=0 from rfl] at F)
           (try rw[Addr.add_zero'] at F)
           have a5:=Aside0.mk I;have a9:=Aside0.mk G;clear I G;replace p:=eq_true p;replace q:=eq_true q;go_wp2;go_ret;exact⟨zT,by repeat(first|exact az.refl _|apply az.step)⟩
         ·rw[if_neg M] at H
          exact absurd H (by simp)
        ·rw[if_neg L] at H
         exact absurd H (by simp)
       ·rw[if_neg K] at H
        exact absurd H (by simp)
      ·rw[if_neg v] at H
       have av:=decide_eq_false v;clear v;obtain rfl:=Option.some.inj H;go_wp2;go_ret;exact⟨zT,by repeat(first|exact az.refl _|apply az.step)⟩
theorem mF:wrap64 (0+1)=1:=by unfold wrap64;omega
theorem iy:wrap64 (1+1)=2:=by unfold wrap64;omega
def qC (a:List Int):Int:=fy a a.length
def ot (a b:List Int):Int:=if fy a a.length=0 then(if fy b b.length=0 then(if(b.length:Int)=(a.length:Int) then 0 else 8) else fy b b.length) else fy a a.length
theorem lB (a:List Int) (l:List (List Int)):aT (a::l) 0=a:=by simp[aT]
theorem vA (a b:List Int) (l:List (List Int)):aT (a::b::l) 1=b:=by simp[aT]
theorem Dt (a:List Int) (b:a.length<=1000000):Ev (fun k=>bD.f k [a]) (qC a):=by
 unfold bD.f qC;refine Ev.of_succ ?_;simp only[bD.l0,List.length_cons,List.length_nil,Nat.zero_add,Int.natCast_one,if_pos (show (0:Int)<1 by decide),if_pos (show (0:Int)<=0 by decide),lB];refine Ev.bind (ki a a.length b) ?_;by_cases h:fy a a.length=0
 ·simp only[if_pos h,mF]
  rw[h];refine Ev.of_succ ?_;simp only[bD.l0,if_neg (show ¬(1:Int)<1 by decide)];refine Ev.of_succ ?_;simp only[bD.l1,List.length_cons,List.length_nil,Nat.zero_add,Int.natCast_one,if_pos (show (0:Int)<1 by decide),if_pos (show (0:Int)<=0 by decide),lB,if_true,mF];refine Ev.of_succ ?_;simp only[bD.l1,if_neg (show ¬(1:Int)<1 by decide)];exact Ev.const _
 ·simp only[if_neg h]
  exact Ev.const _
theorem Du (a b:List Int) (i:a.length<=1000000) (hb:b.length<=1000000):Ev (fun k=>bD.f k [a,b]) (ot a b):=by
 unfold bD.f ot;have e2:((([a,b]:List (List Int)).length:Nat):Int)=2:=rfl;refine Ev.of_succ ?_;simp only[bD.l0,e2,if_pos (show (0:Int)<2 by decide),if_pos (show (0:Int)<=0 by decide),lB];refine Ev.bind (ki a a.length i) ?_;by_cases h:fy a a.length=0
 ·simp only[if_pos h,mF]
  refine Ev.of_succ ?_;simp only[bD.l0,e2,if_pos (show (1:Int)<2 by decide),if_pos (show (0:Int)<=1 by decide),vA];refine Ev.bind (ki b b.length hb) ?_;by_cases e:fy b b.length=0
  ·simp only[if_pos e,iy]
   refine Ev.of_succ ?_;simp only[bD.l0,e2,if_neg (show ¬(2:Int)<2 by decide)];refine Ev.of_succ ?_;simp only[bD.l1,e2,if_pos (show (0:Int)<2 by decide),if_pos (show (0:Int)<=0 by decide),lB,if_true,mF];refine Ev.of_succ ?_;simp only[bD.l1,e2,if_pos (show (0:Int)<2 by decide),if_pos (show (1:Int)<2 by decide),if_pos (show (0:Int)<=1 by decide),lB,vA,iy];by_cases g:(b.length:Int)=(a.length:Int)
   ·simp only[if_pos g]
    refine Ev.of_succ ?_;simp only[bD.l1,if_neg (show ¬(2:Int)<2 by decide)];exact Ev.const _
   ·simp only[if_neg g]
    exact Ev.const _
  ·simp only[if_neg e]
   exact Ev.const _
 ·simp only[if_neg h]
  exact Ev.const _
section
attribute [local go_sem] Oper.semAt_some
theorem Dv (g n:Nat) (A0:Option Addr) (c0:Nat) (E:List S83) (q:Int) (dv Q:Value) (R:Int) (v:Nat) (lb:Array Value) (B:Nat->Bool) (w:World) (ab:Kd.C aK w A0 E.length E) (hE:dV n E) (hn:n<=1000) (hv:v<n) (i:gw w g n (.slice A0 E.length c0) q dv Q R)
  (hB:∀(W:World) (u:Int),Below w.heap.size w W->0<=u->u<n->Calls Tryz.prog 171 (#[.int .i64 u]++lb) W fun e w'=>e= .returned (.bool (B u.toNat))∧Below W.heap.size W w'):
  Calls Tryz.prog 168 #[.pointer (some ⟨g,0,none⟩),.int .i64 v,.func (.func 171) #[] lb] w fun e w'=>e= .returned (.int .i64 (dP B (b8 E v E.length)))∧Below w.heap.size w w':=by
 have be:=Aside0.mk hB;have HE:=Aside0.mk hE;have ak:=Aside0.mk i;clear hB hE i;refine(callsIn_wide (n:=10)).1 ?_;refine callsIn_of_wp_marks Tryz.func168 rfl trivial ?_ rfl;simp only[Tryz.ntmps168,List.size_toArray,List.length_cons,List.length_nil,Nat.reduceAdd,Nat.reduceSub,Array.replicate_succ,Array.replicate_zero,List.push_toArray,List.append_toArray,List.nil_append,List.cons_append];gi_wp2_with (refine⟨trivial,?_⟩;gi_at_call 194;refine(callsIn_wide.2 (lr g v _)).mono ?_;rintro e w3 ⟨rfl,rfl⟩)
 obtain⟨p,am⟩:∃o:Obj,o= .cells #[.func (.func 171) #[] lb] 121:=⟨_,rfl⟩;obtain⟨on,an⟩:∃o:Obj,o= .cells #[.int .i64 0] 3:=⟨_,rfl⟩;obtain⟨r,ap⟩:∃o:Obj,o= .cells #[.pointer (some ⟨g,0,none⟩)] 135:=⟨_,rfl⟩;obtain⟨y,av⟩:∃o:Obj,o= .cells #[.int .i64 v] 3:=⟨_,rfl⟩;have Z0:=heap_alloc_new w p;have S:=heap_alloc_new (w.alloc p) on;have T:=heap_alloc_new ((w.alloc p).alloc on) r;have U:=heap_alloc_new (((w.alloc p).alloc on).alloc r) y;simp only[World.size_alloc] at S T U;have H0:=Aside0.mk ((aw (aw (aw Z0 on) r) y).trans (by rw[am]:_=some (.cells #[.func (.func 171) #[] lb] 121 (0,0))));have H1:=Aside0.mk ((aw (aw S r) y).trans (by rw[an]:_=some (.cells #[.int .i64 0] 3 (0,0))));have H2:=Aside0.mk ((aw T y).trans (by rw[ap]:_=some (.cells #[.pointer (some ⟨g,0,none⟩)] 135 (0,0))));have H3:=Aside0.mk (U.trans (by rw[av]:_=some (.cells #[.int .i64 v] 3 (0,0))));have z:=Aside0.mk (aq (aq (aq (aq (Below.refl w.heap.size w) p) on) r) y);have aP:Aside0 (gw ((((w.alloc p).alloc on).alloc r).alloc y) g n (.slice A0 E.length c0) q dv Q R):=⟨aG ak.out z.out⟩;have b5:g<w.heap.size:=ay ak.out;have bg:=Aside0.mk (Kd.al ab z.out);clear Z0 S T U;subst am an ap av;have bi:=z.out.size;have bk:((((w.alloc (.cells #[.func (.func 171) #[] lb] 121)).alloc (.cells #[.int .i64 0] 3)).alloc (.cells #[.pointer (some ⟨g,0,none⟩)] 135)).alloc (.cells #[.int .i64 v] 3)).heap.size=w.heap.size+4:=by simp
 generalize ((((w.alloc (.cells #[.func (.func 171) #[] lb] 121)).alloc (.cells #[.int .i64 0] 3)).alloc (.cells #[.pointer (some ⟨g,0,none⟩)] 135)).alloc (.cells #[.int .i64 v] 3))=j at H0 H1 H2 H3 z aP bg bi bk⊢;refine ie (σ:=Unit) (α:=Int×Int) (F:=Fence.wide) (n:=10) rfl (by decide) (gf:=207) (lb:=#[.pointer (some ⟨w.heap.size+1+1,0,none⟩),.pointer (some ⟨w.heap.size+1+1+1,0,none⟩)]) rfl trivial (enters_of Tryz.func207 (by kernel_rfl) rfl)
  (fun o=>nQ (w.heap.size+1+1) (w.heap.size+1+1+1) g n A0 c0 E q dv Q R v w _ ab HE.out hn hv (aq (aq z.out _) _) (aw (aw H2.out _) _) (aw (aw H3.out _) _) (aw (aw aP.out _) _)) (fun _=>rfl)
  (fun _=>True) ?ei ?st ?ar
  (fun _ pre W=>j.heap.size<=W.heap.size∧W.heap[w.heap.size]? =some (.cells #[.func (.func 171) #[] lb] 121 (0,0))∧W.heap[w.heap.size+1]? =some (.cells #[.int .i64 (dP B pre)] 3 (0,0))∧Below w.heap.size w W) (fun _ _ _ _=>False)
  ?is (fun _ _ _ _ _ _ h _=>h) ?ib (fun _ _ _ _ _ h _=>h) ?kt ?h0 ?a1 ?assign ?body ?done (fun _ _ _ _ _ _ _ h=>h.elim)
 case assign=>
  intro l x W K hK;gi_wp2;exact hK
 case ei=>
  intro o s W1 h;exact⟨trivial,by rw[h];exact bX.refl _ _⟩
 case st=>intro s A B _ h;exact cN h
 case ar=>intro s x A B _ h;exact cN h.2
 case is=>
  rintro s pre A B _ ⟨H,h1,V,X⟩ i;exact⟨Nat.le_trans H i.size,aG h1 i,aG V i,aU X i⟩
 case ib=>
  rintro s pre A B ⟨H,h1,V,X⟩ hb;exact⟨by rw[hb.size];exact H,hb.cells h1,hb.cells V,X.trans (hb.below w.heap.size (by omega))⟩
 case kt=>
  intro s A B C D N aS a0;refine⟨fun aQ=>((N.below w.heap.size (by omega)).trans (aS.1 (by rw[N.size];exact aQ))).trans (a0.below w.heap.size (by omega)),fun k hk I=>?_⟩;have a2:k≠j.heap.size+1:=by rcases hk with rfl|rfl|rfl<;>omega
  exact(a0.heap k a2).trans ((aS.2 k hk (by rw[N.size];exact I)).trans (N.heap k a2))
 case h0=>
  rintro o s W1 rfl;exact⟨by simp;omega,aw (aw H0.out _) _,aw (aw H1.out _) _,aq (aq z.out _) _⟩
 case body=>
  rintro l s pre ⟨u,m⟩ Wb W1 W _ ⟨H,i1,i2,i3⟩ ⟨Y,J⟩ b0 b;have Z:=Aside0.mk (b.cells (aG i1 J));have L:=Aside0.mk (b.cells (aG i2 J));have b3:=Aside0.mk ((aU i3 J).trans (b.below w.heap.size (by omega)));have b':j.heap.size<=W.heap.size:=by have:=b.size;have:=J.size;omega
  clear i1 i2 i3 J b b0;simp only at Y;have ca:W.cell? ⟨w.heap.size,0,none⟩=some (.func (.func 171) #[] lb):=(ao Z.out 0).trans rfl;have O:=Aside0.mk (be.out W u b3.out Y.1 Y.2.1);have M:=Aside0.mk (pZ B pre (u,m));generalize dP B pre=s0 at L M;cases P:B u.toNat with
  |true=>
   rw[P] at O M;clear P;gi_wp2_with (refine⟨trivial,?_⟩;gi_at_call 171;refine(callsIn_wide.2 O.out).mono ?_;rintro e w5 ⟨rfl,G⟩;have a:=Aside0.mk G;have D2:=Aside0.mk (aG L.out G);have c5:w5.cell? ⟨w.heap.size+1,0,none⟩=some (.int .i64 s0):=(ao D2.out 0).trans rfl;have f5:=bq D2.out 0;clear G)
   have aQ:=a.out.size;refine⟨(cN a.out).trans (fa _ _ (by show w.heap.size+1<j.heap.size;omega)),⟨fun aQ=>Below.setCell (a.out.mono aQ) (by show w.heap.size<=w.heap.size+1;omega) _,fun k hk I=>?_⟩,by simp;omega,?_,?_,Below.setCell (aU b3.out a.out) (by show w.heap.size<=w.heap.size+1;omega) _⟩
   ·rw[Below.heap_setCell _ _ _ _ (by rcases hk with rfl|rfl|rfl<;>(show _≠w.heap.size+1)<;>omega)]
    exact a.out.block k I
   ·rw[Below.heap_setCell _ _ _ _ (by show w.heap.size≠w.heap.size+1;omega)]
    exact aG Z.out a.out
   ·have h:=bE D2.out 0 (.int .i64 (wrap64 (s0+m)))
    rw[M.out];simpa using h
  |false=>
   rw[P] at O M;clear P;gi_wp2_with (refine⟨trivial,?_⟩;gi_at_call 171;refine(callsIn_wide.2 O.out).mono ?_;rintro e w5 ⟨rfl,G⟩;have a:=Aside0.mk G;clear G)
   have aQ:=a.out.size;exact⟨cN a.out,⟨fun aQ=>a.out.mono aQ,fun k hk I=>a.out.block k I⟩,by omega,aG Z.out a.out,by rw[M.out];exact aG L.out a.out,aU b3.out a.out⟩
 case done=>
  rintro s xs W W' _ rfl ⟨H,i1,i2,i3⟩ b a4;have L:=Aside0.mk (b.cells i2);have b3:=Aside0.mk (i3.trans (b.below w.heap.size (by omega)));have a5:=Aside0.mk a4;clear i1 i2 i3 a4;have hc:W'.cell? ⟨w.heap.size+1,0,none⟩=some (.int .i64 (dP B (b8 E v E.length))):=(ao L.out 0).trans rfl;gi_wp2_with fail
  have b4:Bk j.heap.size W' (W'.putObj j.heap.size (.deferred none)):=⟨_,_,a5.out,rfl,rfl⟩;exact iK (D:=j.heap.size) rfl a5.out (results_tmp rfl _ _ _) ⟨rfl,b3.out.trans (b4.below w.heap.size (by omega))⟩
end
section
attribute [local go_sem] Oper.semAt_some
theorem Dw (gb a cr n:Nat) (B:Nat->Bool) (ok:Nat->Prop) (base:Nat) (W:World) (u:Int) (hb:W.heap[gb]? =some (.cells #[.slice (some ⟨a,0,none⟩) n cr] 43 (0,0))) (g:Kd.bool.R 4 W base ok (.slice (some ⟨a,0,none⟩) n cr) ((List.range n).map fun v=> !B v)) (h:0<=u) (hn:u<n):
  Calls Tryz.prog 171 #[.int .i64 u,.pointer (some ⟨gb,0,none⟩)] W fun e w'=>e= .returned (.bool (B u.toNat))∧Below W.heap.size W w':=by
 have i:W.cell? ⟨gb,0,none⟩=some (.slice (some ⟨a,0,none⟩) n cr):=(ao hb 0).trans rfl;have b:=(Kd.bJ false g u h hn).1;have e:bH false ((List.range n).map fun v=> !B v) u= !B u.toNat:=by
  obtain⟨m,rfl⟩:=Int.eq_ofNat_of_zero_le h;have:m<n:=by omega
  simp[bH,List.getD_eq_getElem?_getD,List.getElem?_map,List.getElem?_range this]
 rw[e] at b;have b:W.cell? ⟨a,u.toNat,none⟩=some (.bool (!B u.toNat)):=b;clear g hb e;go_enter Tryz.func171,Tryz.ntmps171
 go_wp2;go_ret;exact⟨by simp[go_sem],Below.refl _ _⟩
theorem vB (g n:Nat) (A0:Option Addr) (c0:Nat) (E:List S83) (q:Nat) (a:Option Addr) (cd:Nat) (d:List Int) (b:Value) (h:Int) (w:World) (k:Kd.C aK w A0 E.length E) (i:bm n E) (l:E.length<=1000) (hn:n<=1000) (m:q<n) (o:d.length=n) (p:gw w g n (.slice A0 E.length c0) q (.slice a n cd) b h)
  (hd:Kd.C (Kd.int .i64) w a d.length d):
  Calls Tryz.prog 170 #[.pointer (some ⟨g,0,none⟩)] w fun e w'=>∃j cl,e= .returned (.tuple #[.slice (some ⟨j,0,none⟩) n cl,.bool ((List.range n).any fun v=> !bp n (aj E) q d v)])∧Kd.bool.R 4 w' w.heap.size (fun _=>True) (.slice (some ⟨j,0,none⟩) n cl) ((List.range n).map fun v=> !bp n (aj E) q d v)∧Below w.heap.size w w':=by
 subst o;exact AZ g d.length A0 c0 E q a cd d b h w k i.jh hn m p hd rfl (fun B v r _=>Bm i l B r)
def gR (n:Nat) (t:Nat->Nat->Int) (q:Nat) (d:List Int) (v:Nat):Int:=T.sN (fun u=>if bp n t q d u=true then t v u else 0) n
theorem qD {n:Nat} {E:List S83} (a:bm n E) (hn:n<=12) (q:Nat) (d:List Int) (v:Nat):0<=gR n (aj E) q d v∧gR n (aj E) q d v<=600:=by
 have h:=T.cM (f:=fun w=>if bp n (aj E) q d w=true then aj E v w else 0) (g:=fun _=>50) (n:=n) (fun w _=>by
  have:=a.jh.times v w;show (if bp n (aj E) q d w=true then aj E v w else 0)<=50
  split<;>omega)
 rw[T.iH] at h;have b:0<=gR n (aj E) q d v:=T.di fun w _=>by
  have:=a.jh.times v w;show 0<=(if bp n (aj E) q d w=true then aj E v w else 0)
  split<;>omega
 exact⟨b,by show T.sN _ n<=600;omega⟩
theorem Dx {n q:Nat} {t:Nat->Nat->Int} (b:T.Wt n t) (e:T.dp n t) (g:q<n) {D c σ:Nat->Int} (a:ez n q t D c σ) {d s:List Int} (h:iL n q t D d s):0<=ji n q σ s:=T.di fun v i=>by
 have h1:=T.pO b e g a.red a.eq a.q0 (d:=fun v=>rd d (v:Nat)) h.eq h.jK v i;have j:rd s v<=σ v+rd s q:=h1;show 0<=σ v+rd s q-rd s v
 omega
theorem Dy (g gd gs cd cs n:Nat) (A0:Option Addr) (c0:Nat) (E:List S83) (q:Nat) (D c σ:Nat->Int) (d s:List Int) (w0 w:World) (N:Kd.C aK w0 A0 E.length E) (F:bm n E) (hl:E.length<=1000) (hC:e7 n E) (hn:n<=12) (p:q<n) (aP:T.sN (T.val n (aj E)) n<=19)
  (hD:∀v:Nat,v<n-> -200<=D v∧D v<=200) (hr:ez n q (aj E) D c σ) (ad:iL n q (aj E) D d s) (h:SI w0 g gd gs cd cs n A0 c0 E q d s w):
  Calls Tryz.prog 111 #[.pointer (some ⟨g,0,none⟩)] w fun e w'=>e= .returned (.tuple #[])∧∃(d' s':List Int),SI w0 g gd gs cd cs n A0 c0 E q d' s' w'∧iL n q (aj E) D d' s'∧T.jH n (aj E) q (fun v=>rd d' (v:Nat)):=by
 have c1:=Tryz.underlying188;have hu:=Tryz.underlying24;have j:=Aside0.mk F;have ag:=Aside0.mk (F.conn hC);have HD:=Aside0.mk hD;have a1:=Aside0.mk hr;have k:=Aside0.mk ad;have a:=Aside0.mk h;have a2:=Aside0.mk (Dx F.wt (F.conn hC) p hr ad);have c4:1<=n:=by omega
 clear F hC hD hr ad h;go_enter Tryz.func111,Tryz.ntmps111
 go_wp2;go_loopg [] ((ji n q σ s).toNat) (fun kq wr=>∃(d s:List Int),Aside0 (SI w0 g gd gs cd cs n A0 c0 E q d s wr)∧Aside0 (iL n q (aj E) D d s)∧Aside0 (0<=ji n q σ s∧kq=(ji n q σ s).toNat))
 case atStart=>exact⟨d,s,a,k,⟨a2.out,rfl⟩⟩
 case round=>
  clear a k a2;obtain⟨d,s,a,k,HK⟩:=hrel;have s5:=a.out.f5;have a4:=k.out.dl;have am:=Aside0.mk a4;have b3:=a.out.hb.size;obtain⟨r1,r2,r3,r4,r5⟩:=a.out.ld;clear a4;cases O:(List.range n).any fun v=> !bp n (aj E) q d v with
  |false=>
   have r:=Aside0.mk O;clear O;go_wp2_with (go_at_call 170;refine(vB g n A0 c0 E q _ cd d _ 0 _ (Kd.al N a.out.hb) j.out hl (by omega) p am.out a.out.st (Kd.aA a.out.d).2.2).mono ?_;rintro e P ⟨b,cl,rfl,G,H⟩;rw[r.out];have I:=Aside0.mk (a.out.below H);clear G H)
   refine bodyPost_ret (results_none rfl _ _ _) rfl ?_;exact⟨rfl,d,s,I.out.alloc _,k.out,Bu j.out.wt r.out⟩
  |true=>
   have r:=Aside0.mk O;clear O;go_wp2_with (go_at_call 170;refine(vB g n A0 c0 E q _ cd d _ 0 _ (Kd.al N a.out.hb) j.out hl (by omega) p am.out a.out.st (Kd.aA a.out.d).2.2).mono ?_;rintro e P ⟨b,cl,rfl,G,H⟩;rw[r.out];have I:=Aside0.mk (a.out.below H);have an:=Aside0.mk G;have c':=Kd.dK G b rfl;clear G H)
   have b4:=I.out.ld;have b5:=Kd.aX an.out b rfl;have b6:gd≠b:=by omega
   have b_:gs≠b:=by omega
   have Q:=Aside0.mk (heap_alloc_new P (.cells #[.slice (some ⟨b,0,none⟩) n cl] 43));have ap:=Aside0.mk (Kd.aW (Kd.aI an.out (.cells #[.slice (some ⟨b,0,none⟩) n cl] 43)) (base':=w0.heap.size) b3);have ar:=Aside0.mk (I.out.alloc (.cells #[.slice (some ⟨b,0,none⟩) n cl] 43));clear I an a s5 b4;generalize P.alloc (.cells #[.slice (some ⟨b,0,none⟩) n cl] 43)=W6 at Q ap ar⊢;generalize P.heap.size=gb at Q b5⊢;go_loopg [23,4] (n) (fun kq vv tv wr=>∃(v:Nat) (x:Int),v<=n∧vv= .int .i64 v∧tv= .int .i64 x∧0<=x∧Aside0 (x=0->∀u:Nat,u<v->bp n (aj E) q d u=false->gR n (aj E) q d u<=0)∧Aside0 (∀u:Nat,u<v->bp n (aj E) q d u=false->x*gR n (aj E) q d u<=rd d u)∧Aside0 (SI w0 g gd gs cd cs n A0 c0 E q d s wr)∧Aside0 (wr.heap[gb]? =some (.cells #[.slice (some ⟨b,0,none⟩) n cl] 43 (0,0)))∧Aside0 (Kd.bool.R 4 wr w0.heap.size (fun _=>True) (.slice (some ⟨b,0,none⟩) n cl) ((List.range n).map fun v=> !bp n (aj E) q d v))∧Aside0 (kq=n-v))
   case atStart=>exact⟨0,0,by omega,rfl,rfl,by omega,⟨fun _ u hu=>by omega⟩,⟨fun u hu=>by omega⟩,ar,Q,ap,⟨rfl⟩⟩
   case round=>
    clear ar Q ap;obtain⟨v,x,S,rfl,rfl,av,U,J,a,z,m,K⟩:=hrel;by_cases B:v<n
    ·have dk:(0:Int)<=(v:Int):=by omega
     have ds:(v:Int)<(n:Int):=by omega
     have i:=(Kd.bJ false m.out (v:Int) (by omega) (by omega)).1;rw[Int.toNat_natCast] at i;have e1:bH false ((List.range n).map fun v=> !bp n (aj E) q d v) v= !bp n (aj E) q d v:=by simp[bH,List.getD_eq_getElem?_getD,List.getElem?_map,List.getElem?_range B]
     rw[e1] at i;replace i:wr.cell? ⟨b,v,none⟩=some (.bool (!bp n (aj E) q d v)):=i;clear e1;cases hF:bp n (aj E) q d v with
     |true=>
      rw[hF] at i;replace i:wr.cell? ⟨b,v,none⟩=some (.bool false):=i;have HF:=Aside0.mk hF;clear hF;go_wp2;go_roundg (n- (v+1))
      case measure=>rw[K.out];omega
      case rel=>exact⟨v+1,x,by omega,by go_num,rfl,av,⟨fun hx u hu h1=>by
       by_cases e:u=v
       ·subst e;rw[HF.out] at h1;cases h1
       ·exact U.out hx u (by omega) h1⟩,⟨fun u hu h1=>by
       by_cases e:u=v
       ·subst e;rw[HF.out] at h1;cases h1
       ·exact J.out u (by omega) h1⟩,a,z,m,⟨rfl⟩⟩
     |false=>
      rw[hF] at i;replace i:wr.cell? ⟨b,v,none⟩=some (.bool true):=i;have HF:=Aside0.mk hF;have a9:=Aside0.mk (show gR n (aj E) q d v<=rd d v from tW B hF);have be:=Aside0.mk (qD j.out hn q d v);have bf:=Aside0.mk (show dP (bp n (aj E) q d) (b8 E v E.length)=gR n (aj E) q d v from qd j.out hl (bp n (aj E) q d) B);have dv:=(k.out.bounds j.out.wt ag.out p hn aP HD.out a1.out v B).2.1;clear hF;go_wp2_with (go_at_call 168;refine(Dv g n A0 c0 E q _ _ 0 v #[.pointer (some ⟨gb,0,none⟩)] (bp n (aj E) q d) _ (Kd.al N a.out.hb) j.out.jh (by omega) B a.out.st (fun W u bg cb cc=>Dw gb b cl n _ _ _ W u (aG z.out bg) (Kd.cp m.out bg) cb cc)).mono ?_;rintro e w8 ⟨rfl,V⟩;rw[bf.out];have l:=Aside0.mk (a.out.below V);have X:=Aside0.mk (aG z.out V);have Y:=Aside0.mk (Kd.cp m.out V);have c2:=l.out.jN v B;have c3:=l.out.f3;clear V i a z m;obtain⟨y,i⟩:∃y,y=gR n (aj E) q d v:=⟨_,rfl⟩;rw[<-i];have Z:=be.out;have cf:=a9.out;rw[<-i] at Z cf;obtain⟨Z,d0⟩:=Z;have L:=Aside0.mk i;clear i be a9 bf)
      ·have ch:1<=rd d v/y:=Int.le_ediv_of_mul_le (by omega) (by omega)
       have hx:=Aside0.mk ‹x=0›;go_roundg (n- (v+1))
       case measure=>rw[K.out];omega
       case rel=>exact⟨v+1,rd d v/y,by omega,by go_num,rfl,by omega,⟨fun M=>by omega⟩,⟨fun u hu h1=>by
        by_cases e:u=v
        ·subst e;rw[<-L.out];exact Int.ediv_mul_le _ (by omega)
        ·have h2:=U.out hx.out u (by omega) h1
         have h3:=(qD j.out hn q d u).1;rw[show gR n (aj E) q d u=0 by omega,Int.mul_zero];have h4:gR n (aj E) q d u<=rd d u:=tW (by omega) h1;omega⟩,l,X,Y,⟨rfl⟩⟩
      ·have ch:1<=rd d v/y:=Int.le_ediv_of_mul_le (by omega) (by omega)
       have d1:rd d v/y<x:=by
        rename_i o;rcases o with o|o
        ·exact absurd (by simpa using o) ‹¬x=0›
        ·exact o
       go_roundg (n- (v+1))
       case measure=>rw[K.out];omega
       case rel=>exact⟨v+1,rd d v/y,by omega,by go_num,rfl,by omega,⟨fun M=>by omega⟩,⟨fun u hu h1=>by
        by_cases e:u=v
        ·subst e;rw[<-L.out];exact Int.ediv_mul_le _ (by omega)
        ·exact Int.le_trans (Int.mul_le_mul_of_nonneg_right (by omega) (qD j.out hn q d u).1) (J.out u (by omega) h1)⟩,l,X,Y,⟨rfl⟩⟩
      ·have hle:x<=rd d v/y:=by
        rename_i o;exact o.2
       have ci:¬x=0:=‹¬x=0›;go_roundg (n- (v+1))
       case measure=>rw[K.out];omega
       case rel=>exact⟨v+1,x,by omega,by go_num,rfl,av,⟨fun M=>absurd M ci⟩,⟨fun u hu h1=>by
        by_cases e:u=v
        ·subst e;rw[<-L.out];exact Int.le_trans (Int.mul_le_mul_of_nonneg_right hle Z) (Int.ediv_mul_le _ (by omega))
        ·exact J.out u (by omega) h1⟩,l,X,Y,⟨rfl⟩⟩
      ·have cj:y<=0:=by assumption
       go_roundg (n- (v+1))
       case measure=>rw[K.out];omega
       case rel=>exact⟨v+1,x,by omega,by go_num,rfl,av,⟨fun M u hu h1=>by
        by_cases e:u=v
        ·subst e;rw[<-L.out];exact cj
        ·exact U.out M u (by omega) h1⟩,⟨fun u hu h1=>by
        by_cases e:u=v
        ·subst e;rw[<-L.out,show y=0 by omega,Int.mul_zero];omega
        ·exact J.out u (by omega) h1⟩,l,X,Y,⟨rfl⟩⟩
    ·obtain rfl:n=v:=by omega
     have b0:=dt z.out;have bk:1<=x:=by
      refine Classical.byContradiction fun bk=>?_
      obtain⟨v,S,h1,h2⟩:=Bv ag.out j.out.wt p r.out;have h3:gR n (aj E) q d v<=0:=U.out (by omega) v S h1;have h4:0<gR n (aj E) q d v:=h2;omega
     obtain⟨k1,k2,k3,k4⟩:=k.out.step j.out ag.out p hn aP HD.out a1.out r.out bk (fun v S h1=>J.out v S h1);have K1:=Aside0.mk k1;have K2:=Aside0.mk k2;have K3:=Aside0.mk k3;have K4:=Aside0.mk k4;have cv:=Aside0.mk k.out.sl;clear k1 k2 k3 k4;go_wp2_with (go_at_call 166;refine(tM g gd gs b cd cs cl n A0 c0 E q d s (fun v=> !bp n (aj E) q d v) x w0 _ N j.out.jh (by omega) (by omega) a.out m.out ⟨b6,b_⟩ am.out cv.out K2.out).mono ?_;rintro e w8 ⟨rfl,b1,cx,aQ⟩;have l:=Aside0.mk b1;clear b1 cx a z m b0)
     go_roundg ((ji n q σ (bj E (fun v=> !bp n (aj E) q d v) x n (d,s)).2).toNat)
     case measure=>have h1:=K3.out;have h2:=K4.out;have h3:=HK.out.2;have h4:=HK.out.1;rw[h3];omega
     case rel=>exact⟨_,_,l,K1,⟨K3.out,rfl⟩⟩
end
def mG.f (a0:Int) (a:Int):Option (Int×Int):=some (IntKind.u64.wrap ((IntKind.u64.wrap ((IntKind.u64.wrap ((a0/4294967296)*(a/4294967296)))+((IntKind.u64.wrap ((IntKind.u64.wrap ((a0/4294967296)*(Go.bits .and .u64 a 4294967295)))+((IntKind.u64.wrap ((Go.bits .and .u64 a0 4294967295)*(Go.bits .and .u64 a 4294967295)))/4294967296)))/4294967296)))+((IntKind.u64.wrap ((Go.bits .and .u64 (IntKind.u64.wrap ((IntKind.u64.wrap ((a0/4294967296)*(Go.bits .and .u64 a 4294967295)))+((IntKind.u64.wrap ((Go.bits .and .u64 a0 4294967295)*(Go.bits .and .u64 a 4294967295)))/4294967296))) 4294967295)+(IntKind.u64.wrap ((Go.bits .and .u64 a0 4294967295)*(a/4294967296)))))/4294967296)),IntKind.u64.wrap (a0*a))
theorem mG.calls (a0:Int) (a:Int) (b:Int) (g:Int) (w:World) (h:mG.f a0 a=some (b,g)):
  Calls Tryz.prog 216 #[.int .u64 a0,.int .u64 a] w fun e w'=>e= .returned (.tuple #[.int .u64 b,.int .u64 g])∧az w w':=by
 have H:(some (IntKind.u64.wrap ((IntKind.u64.wrap ((IntKind.u64.wrap ((a0/4294967296)*(a/4294967296)))+((IntKind.u64.wrap ((IntKind.u64.wrap ((a0/4294967296)*(Go.bits .and .u64 a 4294967295)))+((IntKind.u64.wrap ((Go.bits .and .u64 a0 4294967295)*(Go.bits .and .u64 a 4294967295)))/4294967296)))/4294967296)))+((IntKind.u64.wrap ((Go.bits .and .u64 (IntKind.u64.wrap ((IntKind.u64.wrap ((a0/4294967296)*(Go.bits .and .u64 a 4294967295)))+((IntKind.u64.wrap ((Go.bits .and .u64 a0 4294967295)*(Go.bits .and .u64 a 4294967295)))/4294967296))) 4294967295)+(IntKind.u64.wrap ((Go.bits .and .u64 a0 4294967295)*(a/4294967296)))))/4294967296)),IntKind.u64.wrap (a0*a)))=some (b,g):=h;clear h;simp only[Option.some.injEq,Prod.mk.injEq] at H;obtain⟨rfl,rfl⟩:=H;go_enter Tryz.func216,Tryz.ntmps216
 go_wp2;go_ret2;exact⟨by first|rfl|(simp;done)|(simp[*];done),by repeat(first|exact az.refl _|apply az.step)⟩
def mH.f (a0:Int) (b:Int):Option (Int×Int):=(mG.f a0 b).bind fun a=>(some (a.1,a.2))
theorem mH.calls (a0:Int) (a:Int) (b:Int) (g:Int) (w:World) (h:mH.f a0 a=some (b,g)):
  Calls Tryz.prog 206 #[.int .u64 a0,.int .u64 a] w fun e w'=>e= .returned (.tuple #[.int .u64 b,.int .u64 g])∧az w w':=by
 have H:((mG.f a0 a).bind fun i=>(some (i.1,i.2)))=some (b,g):=h;clear h;replace H:=Option.bind_eq_some_iff.mp H;obtain⟨⟨t238,t239⟩,j,H⟩:=H;replace H:(some (t238,t239))=some (b,g):=H;have k:=Aside0.mk j;clear j;simp only[Option.some.injEq,Prod.mk.injEq] at H;obtain⟨rfl,rfl⟩:=H;go_enter Tryz.func206,Tryz.ntmps206
 go_wp2_with (first|((with_reducible refine ax (f:=216) rfl ?_);refine rN (some 25) rfl rfl Tryz.func216 (by kernel_rfl) rfl #[.int .u64 a0,.int .u64 a] rfl (by(try simp only[List.map_toArray,List.map_cons,List.map_nil]);first|done|rfl|(simp only[List.length_drop,List.length_take];rfl)) ?_;(with_reducible refine(mG.calls a0 a t238 t239 _ k.out).mono ?_);rintro e w' ⟨rfl,⟨l,rfl⟩⟩;refine⟨_,rfl,?_⟩))
 go_ret2;exact⟨by first|rfl|(simp;done)|(simp[*];done),by repeat(first|exact az.refl _|apply az.step)⟩
theorem Dz:∀n:Fin 1001,mH.f 1 ((n:Nat):Int)=some (0,((n:Nat):Int)):=by decide+kernel
theorem DA (n:Nat) (h:n<=1000):mH.f 1 n=some (0,(n:Int)):=Dz ⟨n,by omega⟩
theorem DB (k m r:Nat) (a b:Value) (rest:List Value):Go.splice (List.replicate k a++List.replicate (m+r) b++rest) k (List.replicate m a)=List.replicate (k+m) a++List.replicate r b++rest:=by
 unfold Go.splice;have e:(List.replicate k a++List.replicate (m+r) b++rest).take k=List.replicate k a:=by
  rw[List.append_assoc,List.take_left' (by simp)]
 have e2:(List.replicate k a++List.replicate (m+r) b++rest).drop (k+(List.replicate m a).length)=List.replicate r b++rest:=by
  rw[<-List.replicate_append_replicate,<-List.append_assoc,List.append_assoc,List.length_replicate,List.drop_left' (by simp)]
 rw[e,e2,<-List.append_assoc,List.replicate_append_replicate,<-List.append_assoc]
theorem DC (gx s H n:Nat) (z:Int) (w:World) (I:w.cell? ⟨gx,s,none⟩=some (.int .i64 z)) (T:1<=n) (hn:n<=1000):
  Calls Tryz.prog 193 #[.slice (some ⟨gx,s,none⟩) 1 H,.int .i64 n] w fun e w'=>∃g c,e= .returned (.slice (some ⟨g,0,none⟩) n c)∧(Kd.int .i64).R 3 w' w.heap.size (fun _=>True) (.slice (some ⟨g,0,none⟩) n c) (List.replicate n z)∧Below w.heap.size w w':=by
 have hmul:=DA n hn;have U:(0:Int)<=(n:Int):=by omega
 go_enter Tryz.func193,Tryz.ntmps193
 go_wp2_with (first|(go_at_call 206;refine(mH.calls 1 n 0 n _ hmul).mono ?_;rintro e w1 ⟨rfl,⟨V,rfl⟩⟩)|((with_reducible refine aH (N:=30) rfl ?_);refine Kd.jx (Kd.int .i64) _ 3 rfl (N:=30) rfl 25 _ _ rfl (n:Int) rfl rfl Tryz.underlying25 (.int .i64 0) 8 fY rfl (by decide) (by omega) 0 (ok:=fun _=>True) (okp:=fun _=>True) rfl (fun _ hk=>hk) trivial U (by simp;omega) (Below.refl _ _) (Nat.le_refl _) ?_;intro v1 u x hb W X;rw[Int.toNat_natCast] at x;obtain⟨a,cr,b,p,Y, -⟩:=Kd.fg x (by rw[List.length_replicate];omega);rw[List.length_replicate] at b;subst b;have l:=Aside0.mk x;have q:=Aside0.mk ((bP (Below.refl w.heap.size w) V).trans (hb.mono (by simp)));have J:u.cell? ⟨gx,s,none⟩=some (.int .i64 z):=gU hb (by simpa using I);clear x hb W X))
 have Z:=Kd.mO l.out;obtain⟨aa,h|⟨g',cap,cur,b,ab,B,ad,K,C,y⟩⟩:=Z
 ·cases h.1
 ·injection b with i e2 e3
  injection i with i
  injection i with i _
  subst i e3;rw[List.length_replicate] at ad y;simp only[Nat.mul_one] at C y;obtain⟨rest,ak⟩:∃rest,cur=(List.replicate n (Value.int .i64 0)++rest).toArray:=⟨cur.toList.drop n,by
   rw[<-Array.toList_inj];show cur.toList=List.replicate n (Value.int .i64 0)++cur.toList.drop n
   rw[show List.replicate n (Value.int .i64 0)=cur.toList.take n from by rw[y];simp[bF],List.take_append_drop]⟩
  subst ak;have L:rest.length=cr-n:=by simp at C;omega
  rw[run_copy_row _ u 25 25 3 3 a 0 n cr ⟨gx,s,none⟩ 1 H _ 3 [.int .i64 z] Tryz.underlying25 (by kernel_rfl) B (by show 1=min 1 n;omega) (fun j v o=>by
   cases j with
   |zero=>injection o with o;subst o;simpa [Addr.add] using J
   |succ j=>simp at o) (by simp;omega) (fun v b=>by simp at b;subst b;rfl)]
  simp only[Result.andThen_ok,List.cons_append,List.nil_append,List.take_zero,Nat.zero_add];rw[show ([Value.int .i64 z]:List Value).length=1 from rfl];have i:Value.int .i64 z::(List.replicate n (Value.int .i64 0)++rest).drop 1=List.replicate 1 (Value.int .i64 z)++List.replicate (n-1) (Value.int .i64 0)++rest:=by
   obtain⟨n',rfl⟩:∃n',n=n'+1:=⟨n-1,by omega⟩;simp[List.replicate_succ]
  rw[i];have D:=Aside0.mk (below_setRow (g:=a) q.out (by simp at p;exact p) ((List.replicate 1 (Value.int .i64 z)++List.replicate (n-1) (Value.int .i64 0)++rest).toArray));have E:=Aside0.mk (setRow_heap u a _ ((List.replicate 1 (Value.int .i64 z)++List.replicate (n-1) (Value.int .i64 0)++rest).toArray) _ _ B);have M:w.heap.size<=a:=by simp at p;exact p
  clear l q J aa ab B C y i e2 I hmul;generalize u.setRow a (List.replicate 1 (Value.int .i64 z)++List.replicate (n-1) (Value.int .i64 0)++rest).toArray=W6 at D E⊢;have O:=Aside0.mk L;have am:=Aside0.mk K;clear L K Y p;rw[show goInt ((1:Nat):Int)=Value.int .i64 1 from rfl];rw[Oper.upon_value];go_wp2;go_loopg [8] (n-1) (fun kq nv wr=>∃k:Nat,nv= .int .i64 k∧1<=k∧k<=n∧Aside0 (wr.heap[a]? =some (.cells (List.replicate k (Value.int .i64 z)++List.replicate (n-k) (Value.int .i64 0)++rest).toArray 3 (0,0)))∧Aside0 (Below w.heap.size w wr)∧Aside0 (kq=n-k))
  case atStart=>exact⟨1,rfl,by omega,T,E,D,⟨rfl⟩⟩
  case round=>
   clear D E;obtain⟨k,rfl,a0,a1,F,q,HK⟩:=hrel;by_cases a2:k<n
   ·have a3:(0:Int)<=(k:Int):=by omega
    have a4:(k:Int)<(n:Int):=by omega
    have a5:(k:Int)<=(cr:Int):=by omega
    have a9:(n:Int)<=(cr:Int):=by omega
    obtain⟨m,hm⟩:∃m,m=min k (n-k):=⟨_,rfl⟩;obtain⟨r,P⟩:∃r,n-k=m+r:=⟨n-k-m,by omega⟩;have be:¬cr=k:=by omega
    have av:Aside0 (∀(j:Nat) (v:Value),(List.replicate m (Value.int .i64 z))[j]? =some v->wr.drew.cell? ((⟨a,0,none⟩:Addr).add j)=some v):=⟨fun j v o=>by
     obtain⟨aB,b⟩:=List.getElem?_eq_some_iff.1 o;rw[List.length_replicate] at aB;rw[List.getElem_replicate] at b;subst b;have h:=cell_of_row wr a j _ _ _ F.out;rw[List.getElem?_toArray,List.append_assoc,List.getElem?_append_left (by rw[List.length_replicate];omega),List.getElem?_replicate,if_pos (by omega)] at h;by_cases e:j=0
     ·subst e;simpa [Addr.add] using h
     ·simpa [Addr.add,e] using h⟩
    have bf:(m:Int)<=1000:=by omega
    have bg:(0:Int)<=(m:Int):=by omega
    have bi:(k:Int)<=1000:=by omega
    have G:=Aside0.mk hm;have l:=Aside0.mk P;clear hm P;go_wp2;go_region_law (refine step_copy_splice rfl (.tmp 41) (.tmp 44) 25 25 rfl 3 Tryz.underlying25 (by kernel_rfl) (some ⟨a,k,none⟩) (some ⟨a,0,none⟩) (n-k) (cr-k) k cr (by go_simp) (by go_simp) a k (List.replicate k (Value.int .i64 z)++List.replicate (n-k) (Value.int .i64 0)++rest) 3 F.out (List.replicate m (Value.int .i64 z)) (by have:=G.out;rw[List.length_replicate];show m=min k (n-k);omega) (fun _=>⟨rfl,_,rfl,av.out⟩) (by have:=O.out;have:=G.out;simp;omega) (fun v b=>by rw[List.eq_of_mem_replicate b];rfl) w.heap.size w (bL q.out) M ?_;intro w4 Q S)
    have aL:Aside0 (w4.heap[a]? =some (.cells (List.replicate (k+m) (Value.int .i64 z)++List.replicate (n- (k+m)) (Value.int .i64 0)++rest).toArray 3 (0,0))):=⟨by
     have h:=Q;rw[l.out] at h;rw[show n- (k+m)=r from by have:=l.out;omega,<-DB k m r (.int .i64 z) (.int .i64 0) rest];first|exact h|(rw[List.append_assoc];exact h)⟩
    have aO:=Aside0.mk S;clear Q S;have bk:=G.out;have bn:=l.out;go_wp2;go_roundg (n- (k+m))
    case measure=>rw[HK.out];omega
    case rel=>exact⟨k+m,(by rw[IntWalk.i64_in ((k:Int)+(m:Int)) (by omega)];go_num),by omega,by omega,aL,aO,⟨rfl⟩⟩
   ·obtain rfl:k=n:=by omega
    go_wp2;go_ret;exact⟨a,cr,rfl,Kd.lJ ⟨by simp[bF],.inr ⟨a,cr,_,by simp,M,F.out,by simp;omega,am.out,by have:=O.out;simp;omega,by simp[bF]⟩⟩ (fun _ _=>trivial),q.out⟩
end Go.Proofs.YtffdiakgjakngaaGreat.P

