/- Orients answers true whatever the input (text 3 of 7): own walks and plain laws; no conditions. -/
import Derived.Laws.EntriesVeiled
import Derived.Test.YtffdiakgjakngaaGreatOrients2
namespace Go.Proofs.YtffdiakgjakngaaGreat.P
open Go.RowKit Go.Proofs.YtffdiakgjakngaaGreatW.PrintWords Go.Proofs.YtffdiakgjakngaaGreatW.PrintLast Go.Proofs.YtffdiakgjakngaaGreatW.PrintMore
set_option linter.unusedVariables false
set_option linter.unusedSimpArgs false
set_option maxHeartbeats 8000000
set_option maxRecDepth 100000
section
attribute [local go_sem] Oper.semAt_some
theorem vu (N:Int) (ev:Value) (w:World):Calls Tryz.prog 143 #[.agg #[.int .i64 N,ev]] w fun e w'=>e= .returned (.func (.func 185) #[] #[.pointer (some ⟨w.heap.size,0,none⟩)])/\w'=w.alloc (.cells #[.int .i64 N,ev] 24):=by
 go_enter Tryz.func143,Tryz.ntmps143
 go_wp2;go_ret;exact⟨rfl,rfl⟩
def nE (k:Nat) (N:Int) (E:List S83):Nat->Option (List Int)
 |0=>some []
 |v+1=>(nE k N E v).bind fun l=>(de.f k N E (v:Nat)).bind fun p=>some (l++[p.1])
theorem vw (k:Nat) (N:Int) (E:List S83):∀v,al (nE k N E v) (nE (k+1) N E v)
 |0=>al.refl _
 |v+1=>al.bind (vw k N E v) (fun _=>al.bind (de.mono _ _ _ _) (fun _=>al.refl _))
theorem vx {k:Nat} {N:Int} {E:List S83}:∀{v:Nat} {l:List Int},nE k N E v=some l->l.length=v/\∀u:Nat,u<v->∃e,de.f k N E (u:Nat)=some (rd l u,e)
 |0,l,h=>by injection h with h;subst h;exact⟨rfl,fun u hu=>by omega⟩
 |v+1,l,h=>by
  obtain⟨l',h1,b⟩:=Option.bind_eq_some_iff.1 h;obtain⟨p,g,a⟩:=Option.bind_eq_some_iff.1 b;injection a with a
  subst a;obtain⟨i1,i2⟩:=vx h1;refine⟨by simp[i1],fun u hu=>?_⟩;by_cases e:u=v
  ·subst e
   refine⟨p.2,?_⟩;rw[g,show rd (l'++[p.1]) (u:Int)=p.1 by simp[rd,aW,<-i1]]
  ·obtain⟨e',i⟩:=i2 u (by omega)
   refine⟨e',?_⟩;rw[i,show rd (l'++[p.1]) (u:Int)=rd l' u by simp[rd,aW,List.getElem?_append_left (show u<l'.length by omega)]]
def gV (L:List Int) (v:Nat):List (Int×Int):=(List.range v).map fun u:Nat=>((u:Int),rd L u)
theorem vy (L:List Int) (v:Nat):gV L (v+1)=gV L v++[((v:Int),rd L v)]:=by simp[gV,List.range_succ]
def C7 (base a:Nat) (X Y:World):Prop:=(base<=X.heap.size->Below base X Y)/\(a<X.heap.size->Y.heap[a]? =X.heap[a]?)
theorem vz (bg k n:Nat) (A0:Option Addr) (c0:Nat) (E:List S83) (L:List Int) (w0 W:World) (N:Kd.C aM w0 A0 E.length E) (O:E.length<=c0) (hn:n<=1000) (p:∀u:Nat,u<n->∃e,de.f k n E (u:Nat)=some (rd L u,e)) (q:Below w0.heap.size w0 W)
  (g:W.heap[bg]? =some (.cells #[.int .i64 n,.slice A0 E.length c0] 24 (0,0))):
  iF (σ:=Unit) Fence.wide 9 Tryz.prog 185 #[.pointer (some ⟨bg,0,none⟩)] (fun x:Int×Int=>#[.int .i64 x.1,.int .i64 x.2]) (fun _ W W1=>W1=W) (fun _ A B=>Below A.heap.size A B) (fun _ x A B=>(∃v:Nat,v<n/\x=((v:Int),rd L v))/\Below A.heap.size A B)
   (fun _ X Y=>C7 w0.heap.size bg X Y)
   (fun _ xs W'=>xs=gV L n) (fun _ _ _=>True) (fun pre=>pre.length<=n) W:=by
 intro lp J Jx r s w y;have P:=zA r;have ao:=zA s;have Q:=zA y;have R:=zA p;have z:=w () W rfl;clear r s w y p;have hu:=Tryz.underlying24;refine callsIn_of_wp Tryz.func185 rfl trivial ?_ rfl;simp only[Tryz.ntmps185,List.size_toArray,List.length_cons,List.length_nil,Nat.reduceAdd,Nat.reduceSub,Array.replicate_succ,Array.replicate_zero,List.push_toArray,List.append_toArray,List.nil_append,List.cons_append];have h:W.cell? ⟨bg,0,none⟩=some (.int .i64 n):=(ah g 0).trans rfl;have a:=zA g;clear g;gi_wp2;clear h;gi_loopg [8] (n) (fun S i wr=>∃v:Nat,i= .int .i64 v/\v<=n/\Aside0 (J () (gV L v) wr)/\Aside0 (wr.heap[bg]? =some (.cells #[.int .i64 n,.slice A0 E.length c0] 24 (0,0)))/\Aside0 (Below w0.heap.size w0 wr)/\Aside0 (S=n-v))
 case atStart=>exact⟨0,rfl,Nat.zero_le _,⟨z⟩,a,⟨q⟩,⟨rfl⟩⟩
 case round=>
  clear z q a;obtain⟨v,rfl,hv,j,a,l,T⟩:=hrel;by_cases D:v<n
  ·have ar:(0:Int)<=(v:Int):=by omega
   have av:(v:Int)<(n:Int):=by omega
   obtain⟨ev,F⟩:=R.out v D;have U:=zA F;have V:=zA (vy L v);have h:wr.cell? ⟨bg,0,none⟩=some (.int .i64 n):=(ah a.out 0).trans rfl;have Z:wr.cell? ⟨bg,1,none⟩=some (.slice A0 E.length c0):=(ah a.out 1).trans rfl;clear F;gi_wp2_with (refine⟨trivial,?_⟩;gi_at_call 186;refine(callsIn_wide.2 (de.calls k n A0 c0 E v (rd L v) ev _ (Kd.ax N l.out) O U.out)).mono ?_;rintro e w3 ⟨rfl,b⟩;have aa:=zA (P.out () _ _ _ j.out b);have G:=zA (aQ l.out b);have H:=zA (az a.out b);obtain⟨fn,tmps,aB,aF,m,I⟩:=Q.out () (gV L v) ((v:Int),rd L v) _ _ aa.out ⟨⟨v,D,rfl⟩,aj _ _⟩ (by show (gV L v).length<=n;simp[gV];omega);have ab:=zA I;simp only at m;clear I b j l a h Z)
   refine ab.out.mono ?_;rintro e W3 (⟨rfl,K,o⟩|⟨rfl,M⟩)
   ·have ad:=zA K
    have ag:=zA ((o.2 (ay H.out)).trans H.out);have ak:=zA (G.out.trans (o.1 G.out.size));clear K o m;gi_wp2;gi_roundg (n- (v+1))
    case measure=>rw[T.out];omega
    case rel=>exact⟨v+1,by go_num,by omega,⟨by rw[V.out];exact ad.out⟩,ag,ak,⟨rfl⟩⟩
   ·have am:=zA M
    clear M m;gi_wp2;refine bodyPost_ret (results_none rfl _ _ _) rfl ?_;exact⟨⟨_,rfl⟩,.inr ⟨(),_,trivial,am.out⟩⟩
  ·obtain rfl:n=v:=by omega
   gi_wp2;go_end0;exact⟨⟨_,rfl⟩,.inl ⟨(),_,rfl,j.out⟩⟩
def lI (L:List Int) (n v:Nat):List Int:=(List.range n).map fun u:Nat=>if u<v then wrap64 (rd L u-2) else 0
theorem C8 {L:List Int} {n v:Nat} (a:v<n):(lI L n v).set v (wrap64 (rd L v-2))=lI L n (v+1):=by
 unfold lI;refine List.ext_getElem (by simp) fun i h1 b=>?_
 rw[List.getElem_set];simp only[List.getElem_map,List.getElem_range];by_cases e:v=i
 ·subst e;simp
 ·rw[if_neg e]
  by_cases h:i<v
  ·rw[if_pos h,if_pos (by omega)]
  ·rw[if_neg h,if_neg (by omega)]
def jk (n:Nat) (pre:List (Int×Int)):List Int:=pre.foldl (fun l x=>l.set x.1.toNat (wrap64 (x.2-2))) (List.replicate n 0)
theorem vA (n:Nat) (pre:List (Int×Int)) (x:Int×Int):jk n (pre++[x])=(jk n pre).set x.1.toNat (wrap64 (x.2-2)):=by simp[jk,List.foldl_append]
theorem C9 (n:Nat) (pre:List (Int×Int)):(jk n pre).length=n:=by
 unfold jk;have:∀(pre:List (Int×Int)) (l:List Int),(pre.foldl (fun l x=>l.set x.1.toNat (wrap64 (x.2-2))) l).length=l.length:=by
  intro pre;induction pre with
  |nil=>intro l;rfl
  |cons x pre a=>intro l;rw[List.foldl_cons,a];simp
 rw[this];simp
theorem vB (L:List Int) (n:Nat):∀v,v<=n->jk n (gV L v)=lI L n v
 |0,_=>by
  unfold lI;refine List.ext_getElem (by simp[jk,gV]) fun i h1 a=>?_
  simp[jk,gV]
 |v+1,h=>by
  rw[vy,vA,vB L n v (by omega)];simp only[aD];exact C8 (by omega)
def jG.f (k:Nat) (N:Int) (E:List S83):Option (List Int):=if 1<=N/\N<=1000 then(nE k N E N.toNat).bind fun l=>some (lI l N.toNat N.toNat) else none
theorem jG.mono:∀a b k,al (jG.f k a b) (jG.f (k+1) a b):=by
 intro N E k;unfold jG.f;exact al.ite (al.bind (vw _ _ _ _) (fun _=>al.refl _)) (al.refl _)
theorem C_ (k n:Nat) (A0:Option Addr) (c0:Nat) (E:List S83) (L:List Int) (w:World) (ad:Kd.C aM w A0 E.length E) (ag:E.length<=c0) (a5:1<=n) (hn:n<=1000) (J:∀u:Nat,u<n->∃e,de.f k n E (u:Nat)=some (rd L u,e)):
  Calls Tryz.prog 89 #[.agg #[.int .i64 n,.slice A0 E.length c0]] w fun e w'=>∃go co,e= .returned (.slice (some ⟨go,0,none⟩) n co)/\(Kd.int .i64).R 3 w' w.heap.size (fun _=>True) (.slice (some ⟨go,0,none⟩) n co) (lI L n n)/\Below w.heap.size w w':=by
 have hu:=Tryz.underlying24;have HL:=zA J;have a9:(0:Int)<=(n:Int):=by omega
 obtain⟨zs,am,M⟩:=lG 26 Tryz.underlying26 n hn;have N:=zA M;clear J M;refine(callsIn_wide (n:=10)).1 ?_;refine callsIn_of_wp_marks Tryz.func89 rfl trivial ?_ rfl;simp only[Tryz.ntmps89,List.size_toArray,List.length_cons,List.length_nil,Nat.reduceAdd,Nat.reduceSub,Array.replicate_succ,Array.replicate_zero,List.push_toArray,List.append_toArray,List.nil_append,List.cons_append];gi_wp2_with (first|(refine⟨trivial,?_⟩;gi_at_call 143;refine(callsIn_wide.2 (vu n _ _)).mono ?_;rintro e w3 ⟨rfl,rfl⟩))
 have q:=a6 ((w.alloc (.cells #[.int .i64 n,.slice A0 E.length c0] 24)).alloc (.cells zs 3)) (.cells #[.slice (some ⟨w.heap.size+1,0,none⟩) n n] 26);have r:=a6 (((w.alloc (.cells #[.int .i64 n,.slice A0 E.length c0] 24)).alloc (.cells zs 3)).alloc (.cells #[.slice (some ⟨w.heap.size+1,0,none⟩) n n] 26)) (.cells #[.int .i64 n,.slice A0 E.length c0] 24);have hS:=N.out (w.alloc (.cells #[.int .i64 n,.slice A0 E.length c0] 24)) (fun _=>True) trivial;simp only[World.size_alloc] at q r hS;have O:=zA (aq q (.cells #[.int .i64 n,.slice A0 E.length c0] 24));have P:=zA r;have y:=zA (ai (ai (ai (ai (aj w.heap.size w) (.cells #[.int .i64 n,.slice A0 E.length c0] 24)) (.cells zs 3)) (.cells #[.slice (some ⟨w.heap.size+1,0,none⟩) n n] 26)) (.cells #[.int .i64 n,.slice A0 E.length c0] 24));have Q:Aside0 ((Kd.int .i64).R 3 ((((w.alloc (.cells #[.int .i64 n,.slice A0 E.length c0] 24)).alloc (.cells zs 3)).alloc (.cells #[.slice (some ⟨w.heap.size+1,0,none⟩) n n] 26)).alloc (.cells #[.int .i64 n,.slice A0 E.length c0] 24)) w.heap.size (fun _=>True) (.slice (some ⟨w.heap.size+1,0,none⟩) n n) (jk n [])):=⟨Kd.bc (Kd.aK (Kd.aK hS _) _) (by omega)⟩;have an:=Nat.le_of_eq (show ((((w.alloc (.cells #[.int .i64 n,.slice A0 E.length c0] 24)).alloc (.cells zs 3)).alloc (.cells #[.slice (some ⟨w.heap.size+1,0,none⟩) n n] 26)).alloc (.cells #[.int .i64 n,.slice A0 E.length c0] 24)).heap.size=w.heap.size+4 by simp);have ao:=Nat.le_of_eq (show w.heap.size+4=((((w.alloc (.cells #[.int .i64 n,.slice A0 E.length c0] 24)).alloc (.cells zs 3)).alloc (.cells #[.slice (some ⟨w.heap.size+1,0,none⟩) n n] 26)).alloc (.cells #[.int .i64 n,.slice A0 E.length c0] 24)).heap.size by simp);clear q r hS N am;generalize (((w.alloc (.cells #[.int .i64 n,.slice A0 E.length c0] 24)).alloc (.cells zs 3)).alloc (.cells #[.slice (some ⟨w.heap.size+1,0,none⟩) n n] 26)).alloc (.cells #[.int .i64 n,.slice A0 E.length c0] 24)=b at O P y Q an ao⊢;refine gU (σ:=Unit) (α:=Int×Int) (F:=Fence.wide) (n:=10) rfl (by decide) (gf:=185) (lb:=#[.pointer (some ⟨w.heap.size+1+1+1,0,none⟩)]) rfl trivial (enters_of Tryz.func185 (by kernel_rfl) rfl)
  (fun o=>vz (w.heap.size+1+1+1) k n A0 c0 E L w _ ad ag hn HL.out (ai (ai y.out _) _) (aq (aq P.out _) _)) (fun _=>rfl)
  (fun _=>True) ?dH ?st ?ar
  (fun _ pre W=>b.heap.size<=W.heap.size/\(Kd.int .i64).R 3 W w.heap.size (fun _=>True) (.slice (some ⟨w.heap.size+1,0,none⟩) n n) (jk n pre)/\W.heap[w.heap.size+1+1]? =some (.cells #[.slice (some ⟨w.heap.size+1,0,none⟩) n n] 26 (0,0))/\Below w.heap.size w W) (fun _ _ _ _=>False)
  ?is (fun _ _ _ _ _ _ h _=>h) ?ib (fun _ _ _ _ _ h _=>h) ?kt ?h0 ?a1 ?assign ?body ?done (fun _ _ _ _ _ _ _ h=>h.elim)
 case assign=>
  intro l x W K hK;gi_wp2;exact hK
 case dH=>
  intro o s W1 h;exact⟨trivial,by rw[h];exact b8.refl _ _⟩
 case st=>intro s A B _ h;exact cS h
 case ar=>intro s x A B _ h;exact cS h.2
 case is=>
  rintro s pre A B _ ⟨g,h1,G,H⟩ j;exact⟨Nat.le_trans g j.size,Kd.cz h1 j,az G j,aQ H j⟩
 case ib=>
  rintro s pre A B ⟨g,h1,G,H⟩ hb;exact⟨by rw[hb.size];exact g,cQ h1 hb,hb.cells G,H.trans (hb.below w.heap.size (by omega))⟩
 case kt=>
  intro s A B C D m S T;refine⟨fun aT=>((m.below w.heap.size (by omega)).trans (S.1 (by rw[m.size];exact aT))).trans (T.below w.heap.size (by omega)),fun av=>?_⟩;have U:w.heap.size+1+1+1≠b.heap.size+1:=by omega
  exact(T.heap _ U).trans ((S.2 (by rw[m.size];exact av)).trans (m.heap _ U))
 case h0=>
  rintro o s W1 rfl;exact⟨by simp;omega,Kd.aK (Kd.aK Q.out _) _,aq (aq O.out _) _,ai (ai y.out _) _⟩
 case body=>
  rintro l s' pre ⟨xv,V⟩ Wb Wc W _ ⟨g,i1,i2,i3⟩ ⟨⟨v,bg,hx⟩,i⟩ aF a;injection hx with aL aO
  subst aL;have X:=zA (cQ (Kd.cz i1 i) a);have Y:=zA (a.cells (az i2 i));have I3:=zA ((aQ i3 i).trans (a.below w.heap.size (by omega)));have aS:b.heap.size<=W.heap.size:=by have:=a.size;have:=i.size;omega
  have a0:=zA (vA n pre ((v:Int),V));have bi:=zA (C9 n pre);clear i1 i2 i3 i a aF g aO;have z1:=dc Y.out;obtain⟨z2,z3⟩:=Kd.bP 0 X.out (v:Int) (by omega) (by omega);rw[aD] at z2 z3;generalize bL 0 (jk n pre) (v:Int)=z at z2;replace z2:W.cell? ⟨w.heap.size+1,v,none⟩=some (.int .i64 z):=z2;have bk:(0:Int)<=(v:Int):=by omega
  have bl:(v:Int)<(n:Int):=by omega
  have I:=Kd.dg X.out (v:Int) (wrap64 (V-2));rw[aD] at I;have a2:=zA I.1;clear I;gi_wp2;refine⟨eU _ _ (by omega),⟨fun _=>Below.setCell (p:=⟨w.heap.size+1,v,none⟩) (aj _ _) (by show w.heap.size<=w.heap.size+1;omega) _,fun _=>Below.heap_setCell _ _ _ _ (by show w.heap.size+1+1+1≠w.heap.size+1;omega)⟩,by simpa using aS,?_,aG Y.out (by show w.heap.size+1+1≠w.heap.size+1;omega) _,Below.setCell (p:=⟨w.heap.size+1,v,none⟩) I3.out (by show w.heap.size<=w.heap.size+1;omega) _⟩;rw[a0.out];exact a2.out
 case done=>
  rintro s' xs W W' _ rfl ⟨g,i1,i2,i3⟩ a Z;have b1:=zA (cQ i1 a);have b2:=zA (a.cells i2);have b3:=zA (i3.trans (a.below w.heap.size (by omega)));have aa:=zA Z;clear i1 i2 i3 Z;have hc:=dc b2.out;gi_wp2_with fail
  have ab:Bk b.heap.size W' (W'.putObj b.heap.size (.deferred none)):=⟨_,_,aa.out,rfl,rfl⟩;have h1:=b1.out;rw[vB L n n (aI _)] at h1;exact iG (D:=b.heap.size) rfl aa.out (results_tmp rfl _ _ _) ⟨_,_,rfl,cQ h1 ab,b3.out.trans (ab.below w.heap.size (by omega))⟩
theorem jG.calls (k:Nat) (b:Int) (i:Option Addr) (j:Nat) (a:List (S83)) (r:List Int) (w:World) (o:Kd.C aM w i a.length a) (p:a.length<=j) (h:jG.f k b a=some r):
  Calls Tryz.prog 89 #[.agg #[.int .i64 b,.slice i a.length j]] w fun e w'=>∃l:Value,e= .returned (l)/\Kd.R (Kd.int .i64) 3 w' w.heap.size (fun _=>True) l r/\Below w.heap.size w w':=by
 unfold jG.f at h;by_cases m:1<=b/\b<=1000
 ·rw[if_pos m] at h
  obtain⟨n,rfl⟩:=Int.eq_ofNat_of_zero_le (show 0<=b by omega);obtain⟨L,h1,g⟩:=Option.bind_eq_some_iff.1 h;simp only[aD] at h1 g;injection g with g
  subst g;refine(C_ k n i j a L w o p (by omega) (by omega) (vx h1).2).mono ?_;rintro e w' ⟨go,co,rfl,q,s⟩;exact⟨_,rfl,q,s⟩
 ·rw[if_neg m] at h;cases h
end
def iL (a:Nat->Nat):Nat->List Int->List (List Int)
 |0,p=>[p]
 |k+1,p=>(List.range (a p.length+1)).flatMap fun (x:Nat)=>iL a k (p++[(x:Int)])
def dD (q B:Nat) (calm:List Int->Bool):Nat->List Int->List (List Int)
 |0,p=>[p]
 |k+1,p=>if p.length=q then dD q B calm k (p++[0]) else((List.range B).takeWhile fun (x:Nat)=>calm (p++(x:Int)::List.replicate k 0)).flatMap fun (x:Nat)=>dD q B calm k (p++[(x:Int)])
def dQ:List Int->List Int->Prop
 |[],[]=>True
 |x::a,y::b=>x<=y/\dQ a b
 |_,_=>False
theorem dQ.refl:∀l,dQ l l
 |[]=>trivial
 |x::l=>⟨Int.le_refl x,dQ.refl l⟩
theorem dQ.append {a b c d:List Int} (h:dQ a b) (e:dQ c d):dQ (a++c) (b++d):=by
 induction a generalizing b with
 |nil=>cases b with|nil=>exact e|cons=>exact h.elim
 |cons x a g=>cases b with|nil=>exact h.elim|cons y b=>exact⟨h.1,g h.2⟩
theorem dQ.trans {a b c:List Int} (h:dQ a b) (e:dQ b c):dQ a c:=by
 induction a generalizing b c with
 |nil=>cases b with|nil=>exact e|cons=>exact h.elim
 |cons x a g=>cases b with
  |nil=>exact h.elim
  |cons y b=>cases c with|nil=>exact e.elim|cons z c=>exact⟨Int.le_trans h.1 e.1,g h.2 e.2⟩
theorem dQ.length {a b:List Int} (h:dQ a b):a.length=b.length:=by
 induction a generalizing b with
 |nil=>cases b with|nil=>rfl|cons=>exact h.elim
 |cons x a e=>cases b with|nil=>exact h.elim|cons y b=>simp[e h.2]
theorem Da (a:Nat->Nat):∀(k:Nat) (p l:List Int),l∈iL a k p->dQ (p++List.replicate k 0) l:=by
 intro k;induction k with
 |zero=>intro p l h;simp[iL] at h;subst h;simpa using dQ.refl l
 |succ k b=>
  intro p l h;simp only[iL,List.mem_flatMap] at h;obtain⟨x,g,e⟩:=h;refine dQ.trans ?_ (b _ _ e);rw[List.replicate_succ,List.append_assoc];exact(dQ.refl p).append ⟨by omega,dQ.refl _⟩
theorem range_split {B m:Nat} (h:m<=B):List.range B=List.range m++(List.range (B-m)).map (m+ ·):=by
 conv=>lhs;rw[show B=m+(B-m) by omega,List.range_add]
theorem Db {α:Type} (P:Nat->Bool) (F:Nat->List α) (g:∀x y,y<=x->P x=true->P y=true):∀(B:Nat),((List.range B).takeWhile P).flatMap F=(List.range B).flatMap fun x=>if P x then F x else[]:=by
 intro B;induction B with
 |zero=>rfl
 |succ B i=>
  rw[List.range_succ,List.flatMap_append,<-i];by_cases h:∀x∈List.range B,P x=true
  ·rw[List.takeWhile_append_of_pos h,List.flatMap_append]
   have j:(List.range B).takeWhile P=List.range B:=by
    have:=List.takeWhile_append_of_pos (l₂:=[]) h;simpa using this
   rw[j];congr 1
   cases a:P B<;>simp[a]
  ·have a:P B=false:=by
    cases a:P B with
    |false=>rfl
    |true=>exact absurd (fun x b=>g B x (by have:=List.mem_range.1 b;omega) a) h
   rw[List.takeWhile_append,if_neg ?_]
   ·simp[a]
   ·intro e
    refine h fun x b=>?_
    have k:(List.range B).takeWhile P=List.range B:=(List.takeWhile_prefix P).eq_of_length e;rw[<-k] at b;exact List.all_eq_true.1 (List.all_takeWhile) x b
theorem Dc {α:Type} (P:Nat->Bool) (F:Nat->List α) (M B:Nat) (a:M<=B) (b:∀x,P x=true->x<M):((List.range B).flatMap fun x=>if P x then F x else[])=(List.range M).flatMap fun x=>if P x then F x else[]:=by
 rw[range_split a,List.flatMap_append];rw[show ((List.range (B-M)).map (M+ ·)).flatMap (fun x=>if P x then F x else[])=[] from ?_]
 ·simp
 ·rw[List.flatMap_eq_nil_iff]
  intro x e;obtain⟨y,_,rfl⟩:=List.mem_map.1 e;cases h:P (M+y) with
  |false=>simp
  |true=>have:=b _ h;omega
theorem Dd (q B:Nat) (calm:List Int->Bool) (g:Nat->Nat) (n:Nat) (j:∀a b,a.length=n->dQ a b->calm b=true->calm a=true) (u:∀l v,l.length=n->v<n->v≠q->calm l=true->rd l v<=(g v:Int)) (w:g q=0) (z:∀v,v<n->g v+1<=B):
  ∀(k:Nat) (p:List Int),p.length+k=n->(calm (p++List.replicate k 0)=true\/∃v,p.length<=v/\v<n/\v≠q)->dD q B calm k p=(iL g k p).filter calm:=by
 intro k;induction k with
 |zero=>
  rintro p hp (h|⟨v,h1,m,_⟩)
  ·simp at h;simp[dD,iL,h]
  ·omega
 |succ k o=>
  intro p hp h;have H:(p++[(0:Int)]).length=p.length+1:=by simp
  by_cases e:p.length=q
  ·rw[dD,if_pos e,iL,e,w]
   simp only[Nat.zero_add,List.range_one,List.flatMap_cons,List.flatMap_nil,List.append_nil,Int.natCast_zero,Int.ofNat_zero];refine o (p++[0]) (by simp;omega) ?_;rcases h with h|⟨v,h1,m,C⟩
   ·left;rw[List.append_assoc];simpa [List.replicate_succ] using h
   ·right;exact⟨v,by simp;omega,m,C⟩
  ·rw[dD,if_neg e,iL,List.filter_flatMap]
   have D:∀x y:Nat,y<=x->calm (p++(x:Int)::List.replicate k 0)=true->calm (p++(y:Int)::List.replicate k 0)=true:=fun x y I i=>j _ _ (by simp;omega) ((dQ.refl p).append (show dQ ((y:Int)::List.replicate k 0) ((x:Int)::List.replicate k 0) from⟨by omega,dQ.refl _⟩)) i
   rw[Db (fun x:Nat=>calm (p++(x:Int)::List.replicate k 0)) _ D];rw[Dc (fun x:Nat=>calm (p++(x:Int)::List.replicate k 0)) _ (g p.length+1) B (z _ (by omega)) (fun x i=>by
    have:=u _ p.length (by simp;omega) (by omega) e i;have E:rd (p++(x:Int)::List.replicate k 0) p.length=x:=by simp[rd,aW]
    rw[E] at this;omega)]
   congr 1
   funext x
   have r:(p++[(x:Int)])++List.replicate k 0=p++(x:Int)::List.replicate k 0:=by simp
   cases s:calm (p++(x:Int)::List.replicate k 0) with
   |true=>
    rw[if_pos rfl];exact o _ (by simp;omega) (.inl (by rw[r];exact s))
   |false=>
    rw[if_neg (by simp)];symm
    rw[List.filter_eq_nil_iff];intro l F;have h1:=Da g k _ l F;rw[r] at h1;cases G:calm l with
    |false=>simp
    |true=>have:=j _ _ (by simp;omega) h1 G;rw[s] at this;cases this
def kF (a:Nat->Nat) (v:Nat) (L:List (List Int)):List (List Int):=L.flatMap fun p=>(List.range (a v+1)).map fun (x:Nat)=>p++[(x:Int)]
def dX (a:Nat->Nat):Nat->List (List Int)
 |0=>[[]]
 |v+1=>kF a v (dX a v)
theorem mr (a:Nat->Nat):∀(v:Nat) (l:List Int),l∈dX a v->l.length=v
 |0,l,h=>by simp[dX] at h;subst h;rfl
 |v+1,l,h=>by
  simp only[dX,kF,List.mem_flatMap,List.mem_map] at h;obtain⟨p,hp,x,_,rfl⟩:=h;simp[mr a v p hp]
theorem vC {α β:Type} {f g:α->List β}:∀(l:List α),(∀x∈l,f x=g x)->l.flatMap f=l.flatMap g
 |[],_=>rfl
 |x::l,h=>by simp only[List.flatMap_cons];rw[h x (by simp),vC l (fun y a=>h y (by simp[a]))]
theorem De (a:Nat->Nat) (k:Nat):∀v,(dX a v).flatMap (iL a k)=dX a (v+k):=by
 induction k with
 |zero=>intro v;simp only[Nat.add_zero];rw[show iL a 0=fun p=>[p] from rfl];simp
 |succ k b=>
  intro v;rw[show v+(k+1)=(v+1)+k by omega,<-b (v+1),dX,kF,List.flatMap_assoc];refine vC _ fun p hp=>?_
  rw[iL,mr a v p hp,List.flatMap_map]
theorem Df (a:Nat->Nat) (n:Nat):dX a n=iL a n []:=by
 have h:=De a n 0;simpa [dX] using h.symm
def gI.f (k:Nat) (b:Int) (e:List (S83)) (g:Int) (l2:List Int):Option (Bool×Int):=(iK.f k b e g l2).bind fun a=>(if a.2.2=0 then(some (((a.2.1.length:Int)==0),a.2.2)) else(some (false,a.2.2)))
theorem gI.mono:∀a0 a a2 a3 k,al (gI.f k a0 a a2 a3) (gI.f (k+1) a0 a a2 a3):=by
 intro a0 a a2 a3 k;unfold gI.f;with_reducible repeat' first|exact iK.mono _ _ _ _ _|exact al.refl _|exact al.none _|refine al.ite ?_ ?_|refine al.bind ?_ (fun _=>?_)
theorem gI.calls (k:Nat) (g:Int) (l:Option Addr) (m:Nat) (b:List (S83)) (n:Int) (s:Option Addr) (c2:Nat) (l2:List Int) (v:Bool) (x:Int) (w:World) (y:Kd.C aM w l b.length b) (z:b.length<=m) (B:Kd.C (Kd.int .i64) w s l2.length l2) (D:l2.length<=c2) (h:gI.f k g b n l2=some (v,x)):
  Calls Tryz.prog 201 #[.agg #[.int .i64 g,.slice l b.length m],.int .i64 n,.slice s l2.length c2] w fun e w'=>e= .returned (.tuple #[.bool v,.int .i64 x])/\Below w.heap.size w w':=by
 have X:=Tryz.underlying24;have E:=zA y;have F:=zA z;clear y z;have G:=zA B;have I:=zA D;clear B D;have a:=zA (aj w.heap.size w);unfold gI.f at h;have H:=h;clear h;obtain⟨⟨J,K,u⟩,L,H⟩:=zo H;dsimp only at H;by_cases o:u=0
 ·rw[if_pos o] at H
  obtain⟨O,P⟩:=bZ o;clear o;simp only[Option.some.injEq,Prod.mk.injEq] at H;obtain⟨rfl,rfl⟩:=H;go_enter Tryz.func201,Tryz.ntmps201
  go_wp2_with (first|((with_reducible refine aU (N:=3) rfl ?_);(try(refine eh (by rfl) ?_;dsimp only));refine zX 3 #[.int .i64 g,.slice l b.length m] 24 ?_;intro Q i Y p hb;have j:=zA (p);have R:=zG a i;have S:=zG a i;replace a:=zS a hb;clear hb p i;obtain⟨Z,aa,ab,ad⟩:=aC j)|((with_reducible refine aR (f:=213) rfl ?_);refine zL (some 15) Tryz.func213 #[.agg #[.int .i64 g,.slice l b.length m],.int .i64 n,.slice s l2.length c2] ?_;(with_reducible refine(iK.calls k g _ _ b n _ _ l2 J K u _ ?au ?aw ?bs ?br L.out).mono ?_);(case au=>exact Kd.ax E.out zB);(case aw=>exact F.out);(case bs=>exact Kd.ax G.out zB);(case br=>exact I.out);rintro e w8 ⟨T,U,rfl,q,r,hb⟩;refine⟨_,rfl,?_⟩;have V:=zA (Kd.bc q (bO zB));have M:=zA (Kd.bc r (bO zB));replace j:=zb j hb;replace a:=zS a hb;(try clear hb);(try clear q);(try clear r);obtain⟨ak,am,W⟩:=Kd.bh M.out;subst W))
  go_ret2;exact⟨zE,zB⟩
 ·rw[if_neg o] at H
  obtain⟨O,P⟩:=b7 o;simp only[Option.some.injEq,Prod.mk.injEq] at H;obtain⟨rfl,rfl⟩:=H;go_enter Tryz.func201,Tryz.ntmps201
  go_wp2_with (first|((with_reducible refine aU (N:=3) rfl ?_);(try(refine eh (by rfl) ?_;dsimp only));refine zX 3 #[.int .i64 g,.slice l b.length m] 24 ?_;intro Q i an p hb;have j:=zA (p);have R:=zG a i;have S:=zG a i;replace a:=zS a hb;clear hb p i;obtain⟨ao,ap,ar,av⟩:=aC j)|((with_reducible refine aR (f:=213) rfl ?_);refine zL (some 15) Tryz.func213 #[.agg #[.int .i64 g,.slice l b.length m],.int .i64 n,.slice s l2.length c2] ?_;(with_reducible refine(iK.calls k g _ _ b n _ _ l2 J K u _ ?au ?aw ?bs ?br L.out).mono ?_);(case au=>exact Kd.ax E.out zB);(case aw=>exact F.out);(case bs=>exact Kd.ax G.out zB);(case br=>exact I.out);rintro e aB ⟨T,U,rfl,q,r,hb⟩;refine⟨_,rfl,?_⟩;have V:=zA (Kd.bc q (bO zB));have M:=zA (Kd.bc r (bO zB));replace j:=zb j hb;replace a:=zS a hb;(try clear hb);(try clear q);(try clear r)))
  go_ret2;exact⟨zE,zB⟩
def eV.f (k:Nat) (b:Int) (e:List (S83)) (g:Int) (l2:List Int):Option (Bool):=(gI.f k b e g l2).bind fun a=>(if a.1=true then(some (a.2==0)) else(some false))
theorem eV.mono:∀a0 a a2 a3 k,al (eV.f k a0 a a2 a3) (eV.f (k+1) a0 a a2 a3):=by
 intro a0 a a2 a3 k;unfold eV.f;with_reducible repeat' first|exact gI.mono _ _ _ _ _|exact al.refl _|exact al.none _|refine al.ite ?_ ?_|refine al.bind ?_ (fun _=>?_)
theorem eV.calls (k:Nat) (g:Int) (l:Option Addr) (m:Nat) (b:List (S83)) (n:Int) (p:Option Addr) (c2:Nat) (l2:List Int) (r:Bool) (w:World) (s:Kd.C aM w l b.length b) (u:b.length<=m) (v:Kd.C (Kd.int .i64) w p l2.length l2) (x:l2.length<=c2) (h:eV.f k g b n l2=some r):
  Calls Tryz.prog 176 #[.agg #[.int .i64 g,.slice l b.length m],.int .i64 n,.slice p l2.length c2] w fun e w'=>e= .returned (.bool r)/\Below w.heap.size w w':=by
 have L:=Tryz.underlying24;have y:=zA s;have z:=zA u;clear s u;have B:=zA v;have D:=zA x;clear v x;have a:=zA (aj w.heap.size w);unfold eV.f at h;have H:=h;clear h;obtain⟨⟨G,E⟩,F,H⟩:=zo H;dsimp only at H;by_cases q:G=true
 ·subst q
  replace H:=zi H;obtain rfl:=aX H;go_enter Tryz.func176,Tryz.ntmps176
  go_wp2_with (first|((with_reducible refine aU (N:=3) rfl ?_);refine zX 3 #[.int .i64 g,.slice l b.length m] 24 ?_;intro I i M o hb;have j:=zA (o);have J:=zG a i;have K:=zG a i;replace a:=zS a hb;clear hb o i;obtain⟨O,P,Q,R⟩:=aC j)|((with_reducible refine aR (f:=201) rfl ?_);refine zL (some 13) Tryz.func201 #[.agg #[.int .i64 g,.slice l b.length m],.int .i64 n,.slice p l2.length c2] ?_;(with_reducible refine(gI.calls k g _ _ b n _ _ l2 true E _ ?au ?aw ?bs ?br F.out).mono ?_);(case au=>exact Kd.ax y.out zB);(case aw=>exact z.out);(case bs=>exact Kd.ax B.out zB);(case br=>exact D.out);rintro e S ⟨rfl,hb⟩;refine⟨_,rfl,?_⟩;replace j:=zb j hb;replace a:=zS a hb;(try clear hb)))
  go_ret;exact⟨zE,zB⟩
 ·replace q:=Bool.eq_false_iff.mpr q
  subst q;replace H:=zj H;obtain rfl:=aX H;go_enter Tryz.func176,Tryz.ntmps176
  go_wp2_with (first|((with_reducible refine aU (N:=3) rfl ?_);refine zX 3 #[.int .i64 g,.slice l b.length m] 24 ?_;intro I i T o hb;have j:=zA (o);have J:=zG a i;have K:=zG a i;replace a:=zS a hb;clear hb o i;obtain⟨U,V,W,X⟩:=aC j)|((with_reducible refine aR (f:=201) rfl ?_);refine zL (some 13) Tryz.func201 #[.agg #[.int .i64 g,.slice l b.length m],.int .i64 n,.slice p l2.length c2] ?_;(with_reducible refine(gI.calls k g _ _ b n _ _ l2 false E _ ?au ?aw ?bs ?br F.out).mono ?_);(case au=>exact Kd.ax y.out zB);(case aw=>exact z.out);(case bs=>exact Kd.ax B.out zB);(case br=>exact D.out);rintro e Y ⟨rfl,hb⟩;refine⟨_,rfl,?_⟩;replace j:=zb j hb;replace a:=zS a hb;(try clear hb)))
  go_ret;exact⟨zE,zB⟩
section
attribute [local go_sem] Oper.semAt_some
def j4 {α:Type} (P:Nat->Bool) (F:Nat->List α):Nat->Nat->List α
 |0,_=>[]
 |f+1,x=>if P x then F x++j4 P F f (x+1) else[]
theorem vD {α:Type} (P:Nat->Bool) (F:Nat->List α):∀f x,j4 P F f x=((List.range' x f).takeWhile P).flatMap F
 |0,x=>by simp[j4]
 |f+1,x=>by
  rw[j4,List.range'_succ,List.takeWhile_cons];cases P x with
  |true=>simp[vD P F f (x+1)]
  |false=>simp
theorem Dg (q B:Nat) (calm:List Int->Bool) (k:Nat) (p:List Int) (h:p.length≠q):dD q B calm (k+1) p=j4 (fun (x:Nat)=>calm (p++(x:Int)::List.replicate k 0)) (fun (x:Nat)=>dD q B calm k (p++[(x:Int)])) B 0:=by
 rw[dD,if_neg h,vD,List.range_eq_range']
def jl (n q:Nat) (c:List Int):Prop:=c.length=n/\(∀i:Nat,0<=rd c i/\rd c i<=1000)/\rd c q=0
structure CS (w0:World) (n:Nat) (A0:Option Addr) (c0:Nat) (E:List S83) (q gx qx s l:Nat) (W:World) (c:List Int):Prop where
 g:W.heap[gx]? =some (.cells #[.int .i64 n,.slice A0 E.length c0] 24 (0,0))
 q:W.heap[qx]? =some (.cells #[.int .i64 q] 3 (0,0))
 y:W.heap[s]? =some (.cells #[.func (.yield l) #[] #[]] 141 (0,0))
 c:(Kd.int .i64).R 3 W w0.heap.size (fun k=>k=s+1) (.slice (some ⟨s+1,0,none⟩) n n) c
 cb:W.heap[s+2]? =some (.cells #[.slice (some ⟨s+1,0,none⟩) n n] 26 (0,0))
 f:W.heap[s+3]? =some (.cells #[.func (.func 200) #[] #[.pointer (some ⟨gx,0,none⟩),.pointer (some ⟨s,0,none⟩),.pointer (some ⟨s+2,0,none⟩),.pointer (some ⟨qx,0,none⟩),.pointer (some ⟨s+3,0,none⟩)]] 121 (0,0))
 below:Below w0.heap.size w0 W
namespace CS
variable {w0:World} {n:Nat} {A0:Option Addr} {c0:Nat} {E:List S83} {q gx qx s l:Nat} {W W':World} {c:List Int}
theorem iI (h:CS w0 n A0 c0 E q gx qx s l W c) (hk:∀k,(k=gx\/k=qx\/s<=k/\k<s+4)->W'.heap[k]? =W.heap[k]?) (hb:Below w0.heap.size w0 W'):CS w0 n A0 c0 E q gx qx s l W' c:=
 ⟨(hk gx (.inl rfl)).trans h.g,(hk qx (.inr (.inl rfl))).trans h.q,(hk s (.inr (.inr ⟨by omega,by omega⟩))).trans h.y,Kd.fK h.c (fun k e=>hk k (.inr (.inr (by subst e;omega)))),(hk (s+2) (.inr (.inr ⟨by omega,by omega⟩))).trans h.cb,(hk (s+3) (.inr (.inr ⟨by omega,by omega⟩))).trans h.f,hb⟩
theorem lt (h:CS w0 n A0 c0 E q gx qx s l W c):s+3<W.heap.size/\gx<W.heap.size/\qx<W.heap.size:=⟨ay h.f,ay h.g,ay h.q⟩
theorem stay (h:CS w0 n A0 c0 E q gx qx s l W c) (hb:Below W.heap.size W W'):CS w0 n A0 c0 E q gx qx s l W' c:=
 h.iI (fun k hk=>hb.block k (by have:=h.lt;rcases hk with rfl|rfl|hk<;>omega)) (h.below.trans (hb.mono h.below.size))
theorem size (h:CS w0 n A0 c0 E q gx qx s l W c):w0.heap.size<=W.heap.size:=h.below.size
end CS
def re (s:Nat) (x:List Int×Value) (A B:World):Prop:=A.grownBy B (some (s+1))/\(Kd.int .i64).R 3 B A.heap.size (fun _=>True) x.2 x.1/\s+4<=A.heap.size
def rf (w0:World) (gx qx s:Nat) (X Y:World):Prop:=(w0.heap.size<=X.heap.size->Below w0.heap.size X Y)/\∀k,(k=gx\/k=qx\/s<=k/\k<s+4)->k<X.heap.size->Y.heap[k]? =X.heap[k]?
def rh (w0:World) (B n:Nat) (A0:Option Addr) (c0:Nat) (E:List S83) (q gx qx s l:Nat) (calm:List Int->Bool) (J Jx:List (List Int×Value)->World->Prop) (a:Nat) (p:List Int) (pre:List (List Int×Value)) (e:Ending) (W':World):Prop:=
 (∃b,e= .returned (.bool true)/\J (pre++b) W'/\b.map Prod.fst=dD q B calm a p/\CS w0 n A0 c0 E q gx qx s l W' (p++List.replicate a 0))\/(e= .returned (.bool false)/\∃g,Jx g W')
theorem vE {e:Ending} {A B:Prop} (h:(e= .returned (.bool true)/\A)\/(e= .returned (.bool false)/\B)):∃b:Bool,e= .returned (.bool b)/\Aside0 ((b=true/\A)\/(b=false/\B)):=by
 rcases h with⟨h,a⟩|⟨h,hb⟩
 ·exact⟨true,h,⟨.inl ⟨rfl,a⟩⟩⟩
 ·exact⟨false,h,⟨.inr ⟨rfl,hb⟩⟩⟩
theorem Dh {w0:World} {B n:Nat} {A0:Option Addr} {c0:Nat} {E:List S83} {q gx qx s l:Nat} {calm:List Int->Bool} {J Jx:List (List Int×Value)->World->Prop} {g:Nat} {p:List Int} {pre:List (List Int×Value)} {e:Ending} {W':World} (h:rh w0 B n A0 c0 E q gx qx s l calm J Jx g p pre e W'):
  ∃b:Bool,e= .returned (.bool b)/\Aside0 ((b=true/\∃a,J (pre++a) W'/\a.map Prod.fst=dD q B calm g p/\CS w0 n A0 c0 E q gx qx s l W' (p++List.replicate g 0))\/(b=false/\∃i,Jx i W')):=by
 rcases h with⟨a,h,j⟩|⟨h,hb⟩
 ·exact⟨true,h,⟨.inl ⟨rfl,a,j⟩⟩⟩
 ·exact⟨false,h,⟨.inr ⟨rfl,hb⟩⟩⟩
theorem Di {w0:World} {B n:Nat} {A0:Option Addr} {c0:Nat} {E:List S83} {q gx qx s l:Nat} {calm:List Int->Bool} {J Jx:List (List Int×Value)->World->Prop} (hn:n<=12)
  (m:∀pre x A C,J pre A->re s x A C->pre.length<16384->YieldAt Fence.wide 8 Tryz.prog l #[x.2] C fun e W'=>(e= .returned (.bool true)/\J (pre++[x]) W'/\rf w0 gx qx s C W')\/(e= .returned (.bool false)/\Jx (pre++[x]) W'))
  (p:List Int) (pre:List (List Int×Value)) (W:World) (hp:p.length=n) (hC:CS w0 n A0 c0 E q gx qx s l W p) (o:J pre W) (hlen:pre.length<16384):
  CallsIn Fence.wide 9 Tryz.prog 200 #[.int .i64 n,.pointer (some ⟨gx,0,none⟩),.pointer (some ⟨s,0,none⟩),.pointer (some ⟨s+2,0,none⟩),.pointer (some ⟨qx,0,none⟩),.pointer (some ⟨s+3,0,none⟩)] W (rh w0 B n A0 c0 E q gx qx s l calm J Jx 0 p pre):=by
 have G:=zA m;have H:=zA o;have j:=zA hC;have N:W.cell? ⟨gx,0,none⟩=some (.int .i64 n):=(ah hC.g 0).trans rfl;have O:W.cell? ⟨s,0,none⟩=some (.func (.yield l) #[] #[]):=(ah hC.y 0).trans rfl;have P:W.cell? ⟨s+2,0,none⟩=some (.slice (some ⟨s+1,0,none⟩) n n):=(ah hC.cb 0).trans rfl;have Q:=zA hp;obtain⟨-, -,r⟩:=Kd.aN hC.c;have S:=hC.below.size;have I:=zA (show CallsIn Fence.wide 8 Tryz.prog 57 #[.slice (some ⟨s+1,0,none⟩) n n] W.drew (fun e w'=>∃u:Value,e= .returned (u)/\Kd.R (Kd.int .i64) 3 w' W.heap.size (fun _=>True) u p/\Below W.heap.size W w'/\Below W.heap.size W.drew w') from callsIn_wide.2 (by
  subst hp;refine(fN.calls (some ⟨s+1,0,none⟩) p.length p p W.drew (Kd.eS r) (aI _) (by unfold fN.f clone.f;rw[if_pos (by omega)])).mono ?_;rintro e w' ⟨v,rfl,h1,w⟩;exact⟨v,rfl,h1,(ia (aj _ _)).trans w,w⟩))
 clear m o hC r hp;refine callsIn_of_wp Tryz.func200 rfl trivial ?_ rfl;simp only[Tryz.ntmps200,List.size_toArray,List.length_cons,List.length_nil,Nat.reduceAdd,Nat.reduceSub,Array.replicate_succ,Array.replicate_zero,List.push_toArray,List.append_toArray,List.nil_append,List.cons_append];gi_wp2;gi_region_with (first|(refine⟨trivial,?_⟩;gi_at_call 57;refine I.out.mono ?_;rintro e w1 ⟨v,rfl,z,h,K⟩;have T:w1.cell? ⟨s,0,none⟩=some (.func (.yield l) #[] #[]):=(ah (az j.out.y h) 0).trans rfl;have i:=zA (j.out.stay h);obtain⟨fn,tmps,U,V,X,D⟩:=G.out pre (p,v) W w1 H.out ⟨iZ h _,z,j.out.lt.1⟩ hlen;have L:=zA D;clear D z h K)|(refine L.out.mono ?_;rintro e w3 a;obtain⟨b,rfl,M⟩:=vE a;clear a))
 all_goals gi_wp2
 all_goals go_ret
 all_goals
  rcases M.out with⟨rfl,a,F⟩|⟨rfl,a⟩
  ·exact .inl ⟨[(p,v)],rfl,a,rfl,by simpa using i.out.iI (fun k hk=>F.2 k hk (by have:=i.out.lt;rcases hk with rfl|rfl|hk<;>omega)) (i.out.below.trans (F.1 i.out.size))⟩
  ·exact .inr ⟨rfl,_,a⟩
theorem Dj {n q a:Nat} {p:List Int} {x:Nat} (h:jl n q (p++List.replicate (a+1) 0)) (b:p.length≠q) (g:x<=1000):jl n q (p++(x:Int)::List.replicate a 0):=by
 have e:p++(x:Int)::List.replicate a 0=(p++List.replicate (a+1) 0).set p.length x:=by
  rw[List.replicate_succ,List.set_append_right _ _ (aI _),Nat.sub_self];rfl
 rw[e];refine⟨by rw[List.length_set];exact h.1,fun i=>?_,?_⟩
 ·have hi:=h.2.1 i
  simp only[rd,aD,aW,List.getElem?_set] at hi⊢;split
  ·split<;>simp<;>omega
  ·exact hi
 ·have hi:=h.2.2
  simp only[rd,aD,aW,List.getElem?_set] at hi⊢;rw[if_neg b];exact hi
theorem CS.set {w0:World} {n:Nat} {A0:Option Addr} {c0:Nat} {E:List S83} {q gx qx s l:Nat} {W:World} {p:List Int} {a:Nat} {x:Int} (h:CS w0 n A0 c0 E q gx qx s l W (p++x::List.replicate a 0)) (b:gx<s) (i:qx<s) (j:w0.heap.size<=s) (y:Int):
  CS w0 n A0 c0 E q gx qx s l (W.setCell ⟨s+1,p.length,none⟩ (.int .i64 y)) (p++y::List.replicate a 0)/\W.grownBy (W.setCell ⟨s+1,p.length,none⟩ (.int .i64 y)) (some (s+1)):=by
 have hp:=Kd.dg h.c (p.length:Int) y;rw[aD] at hp;have iR:∀k,k≠s+1->(W.setCell ⟨s+1,p.length,none⟩ (.int .i64 y)).heap[k]? =W.heap[k]? :=fun k hk=>Below.heap_setCell _ _ _ _ (by simpa using hk)
 refine⟨⟨(iR gx (by omega)).trans h.g,(iR qx (by omega)).trans h.q,(iR s (by omega)).trans h.y,?_,(iR (s+2) (by omega)).trans h.cb,(iR (s+3) (by omega)).trans h.f,h.below.setCell (by show w0.heap.size<=s+1;omega) _⟩,hp.2⟩;have e:(p++x::List.replicate a 0).set p.length y=p++y::List.replicate a 0:=by
  rw[List.set_append_right _ _ (aI _),Nat.sub_self];rfl
 rw[<-e];exact hp.1
theorem CS.cell {w0:World} {n:Nat} {A0:Option Addr} {c0:Nat} {E:List S83} {q gx qx s l:Nat} {W:World} {p:List Int} {b:Nat} {x:Int} (h:CS w0 n A0 c0 E q gx qx s l W (p++x::List.replicate b 0)) (hn:p.length<n):
  W.cell? ⟨s+1,p.length,none⟩=some (.int .i64 x)/\W.frozen? ⟨s+1,p.length,none⟩=false:=by
 obtain⟨h1,a⟩:=Kd.bP (0:Int) h.c (p.length:Int) (by omega) (by omega);rw[aD] at h1 a;refine⟨?_,a⟩;rw[h1];simp[bL,aW]
theorem Dk (k m:Nat) (b:Int) (g:Option Addr) (i:Nat) (a:List (S83)) (j:Int) (l:Option Addr) (c2:Nat) (l2:List Int) (r:Bool) (w:World) (n:Kd.C aM w g a.length a) (o:a.length<=i) (p:l2.length=m) (q:Kd.C (Kd.int .i64) w l m l2) (s:m<=c2) (h:eV.f k b a j l2=some r):
  Calls Tryz.prog 176 #[.agg #[.int .i64 b,.slice g a.length i],.int .i64 j,.slice l m c2] w fun e w'=>e= .returned (.bool r)/\Below w.heap.size w w':=by
 subst p;exact eV.calls k b g i a j l c2 l2 r w n o q s h
theorem Dl {w0:World} {B K n:Nat} {A0:Option Addr} {c0:Nat} {E:List S83} {q gx qx s l:Nat} {calm:List Int->Bool} {J Jx:List (List Int×Value)->World->Prop} (hn:n<=12) (aF:Kd.C aM w0 A0 E.length E) (aL:E.length<=c0) (X:gx<s) (Y:qx<s) (Z:w0.heap.size<=s)
  (aa:∀c,jl n q c->eV.f K n E q c=some (calm c)) (ab:∀(p:List Int) (x a:Nat),calm (p++(x:Int)::List.replicate a 0)=true->p.length+1+a=n->p.length≠q->x+1<B) (hB:B<=1000) (aO:0<B)
  (ad:∀pre A C,J pre A->A.grownBy C (some (s+1))->J pre C)
  (hY:∀pre x A C,J pre A->re s x A C->pre.length<16384->YieldAt Fence.wide 8 Tryz.prog l #[x.2] C fun e W'=>(e= .returned (.bool true)/\J (pre++[x]) W'/\rf w0 gx qx s C W')\/(e= .returned (.bool false)/\Jx (pre++[x]) W')):
  ∀(a v:Nat) (p:List Int) (pre:List (List Int×Value)) (W:World),p.length=v->v+a=n->CS w0 n A0 c0 E q gx qx s l W (p++List.replicate a 0)->jl n q (p++List.replicate a 0)->J pre W->pre.length+(dD q B calm a p).length<=16384->
  CallsIn Fence.wide 9 Tryz.prog 200 #[.int .i64 v,.pointer (some ⟨gx,0,none⟩),.pointer (some ⟨s,0,none⟩),.pointer (some ⟨s+2,0,none⟩),.pointer (some ⟨qx,0,none⟩),.pointer (some ⟨s+3,0,none⟩)] W (rh w0 B n A0 c0 E q gx qx s l calm J Jx a p pre):=by
 intro a;induction a with
 |zero=>
  intro v p pre W hp hv hC hO H hlen;obtain rfl:v=n:=by omega
  exact Di hn hY p pre W hp (by simpa using hC) H (by simp[dD] at hlen;omega)
 |succ a ih=>
  intro v p pre W hp hv hC hO H hlen;have I:W.cell? ⟨gx,0,none⟩=some (.int .i64 n):=(ah hC.g 0).trans rfl;have L:W.cell? ⟨qx,0,none⟩=some (.int .i64 q):=(ah hC.q 0).trans rfl;have aS:W.cell? ⟨s+3,0,none⟩=some (.func (.func 200) #[] #[.pointer (some ⟨gx,0,none⟩),.pointer (some ⟨s,0,none⟩),.pointer (some ⟨s+2,0,none⟩),.pointer (some ⟨qx,0,none⟩),.pointer (some ⟨s+3,0,none⟩)]):=(ah hC.f 0).trans rfl;have a0:((v:Int)==(n:Int))=false:=by simp;omega
  have hu:=Tryz.underlying24;have am:=zA ih;have i:=zA hC;have HO:=zA hO;have w:=zA H;have HL:=zA hlen;have k:=zA hp;have R:=zA ad;have a1:=zA aa;have a2:=zA ab;have bx:v<12:=by omega
  clear ih hC hO H hlen hY ad aa ab hp;refine callsIn_of_wp Tryz.func200 rfl trivial ?_ rfl;simp only[Tryz.ntmps200,List.size_toArray,List.length_cons,List.length_nil,Nat.reduceAdd,Nat.reduceSub,Array.replicate_succ,Array.replicate_zero,List.push_toArray,List.append_toArray,List.nil_append,List.cons_append];by_cases F:v=q
  ·have r:=am.out (v+1) (p++[0]) pre W (by simp[k.out]) (by omega) (by rw[List.append_assoc];exact i.out) (by rw[List.append_assoc];exact HO.out) w.out (by have h:=HL.out;rw[dD,if_pos (by rw[k.out];exact F)] at h;exact h)
   rw[Int.natCast_add,Int.natCast_one] at r;have S:=zA ((callsIn_wide (n:=8)).2 (callsIn_wide.1 r));clear r;have y:=zA F;clear F;have b0:((v:Int)==(q:Int))=true:=by simp[y.out]
   gi_wp2_with (refine⟨trivial,?_⟩;gi_at_call 200;refine S.out.mono ?_;rintro e w3 j;obtain⟨b,rfl,T⟩:=Dh j;clear j)
   go_ret;rcases T.out with⟨rfl,m,j,M,z⟩|⟨rfl,j⟩
   ·exact .inl ⟨m,rfl,j,by rw[dD,if_pos (by rw[k.out];exact y.out)];exact M,by rw[List.append_assoc] at z;exact z⟩
   ·exact .inr ⟨rfl,j⟩
  ·have a3:((v:Int)==(q:Int))=false:=by simp;omega
   have y:=zA (show p.length≠q by rw[k.out];exact F);have a4:=zA (Dg q B calm a p y.out);clear F;gi_wp2;clear I L aS a0 a3;gi_loopg [] (B) (fun kq wr=>∃(x:Nat) (m:List (List Int×Value)),x<B/\Aside0 (J (pre++m) wr)/\Aside0 (CS w0 n A0 c0 E q gx qx s l wr (p++(x:Int)::List.replicate a 0))/\Aside0 (dD q B calm (a+1) p=m.map Prod.fst++j4 (fun (x:Nat)=>calm (p++(x:Int)::List.replicate a 0)) (fun (x:Nat)=>dD q B calm a (p++[(x:Int)])) (B-x) x)/\Aside0 (kq=B-x))
   case atStart=>exact⟨0,[],aO,⟨by simpa using w.out⟩,i,⟨by rw[a4.out];rfl⟩,⟨rfl⟩⟩
   case round=>
    clear w i;obtain⟨x,m,hx,w,i,HT,HK⟩:=hrel;have N:=zA (Dj (x:=x) HO.out y.out (by omega));obtain⟨-, -,U⟩:=Kd.aN i.out.c;rw[N.out.1] at U;have O:=zA ((callsIn_wide (n:=8)).2 (Dk K n n A0 c0 E q (some ⟨s+1,0,none⟩) n _ _ wr (Kd.ax aF i.out.below) aL N.out.1 U (aI _) (a1.out _ N.out)));have ar:=zA (show j4 (fun (x:Nat)=>calm (p++(x:Int)::List.replicate a 0)) (fun (x:Nat)=>dD q B calm a (p++[(x:Int)])) (B-x) x=if calm (p++(x:Int)::List.replicate a 0)=true then dD q B calm a (p++[(x:Int)])++j4 (fun (x:Nat)=>calm (p++(x:Int)::List.replicate a 0)) (fun (x:Nat)=>dD q B calm a (p++[(x:Int)])) (B- (x+1)) (x+1) else[] from by rw[show B-x=(B- (x+1))+1 by omega];rfl);have I:wr.cell? ⟨gx,0,none⟩=some (.int .i64 n):=(ah i.out.g 0).trans rfl;have av:wr.cell? ⟨gx,1,none⟩=some (.slice A0 E.length c0):=(ah i.out.g 1).trans rfl;have L:wr.cell? ⟨qx,0,none⟩=some (.int .i64 q):=(ah i.out.q 0).trans rfl;have aB:wr.cell? ⟨s+2,0,none⟩=some (.slice (some ⟨s+1,0,none⟩) n n):=(ah i.out.cb 0).trans rfl;have b2:(0:Int)<=(v:Int):=by omega
    have b3:(v:Int)<(n:Int):=by omega
    clear U;cases hb:calm (p++(x:Int)::List.replicate a 0) with
    |false=>
     rw[hb] at O;have P:=zA (show dD q B calm (a+1) p=m.map Prod.fst from by rw[HT.out,ar.out,if_neg (by rw[hb];decide),List.append_nil]);clear hb;gi_wp2_with (refine⟨trivial,?_⟩;gi_at_call 176;refine O.out.mono ?_;rintro e w1 ⟨rfl,u⟩;have D:=zA (i.out.stay u);have Q:w1.cell? ⟨s+2,0,none⟩=some (.slice (some ⟨s+1,0,none⟩) n n):=(ah D.out.cb 0).trans rfl;have G:=D.out.cell (by rw[k.out];omega);rw[k.out] at G;obtain⟨q2,q3⟩:=G;have bf:=zA u;clear u)
     go_ret;have o:=D.out.set X Y Z 0;rw[k.out] at o;exact .inl ⟨m,rfl,R.out _ _ _ w.out (World.grownBy.trans (iZ bf.out _) o.2),P.out.symm,o.1⟩
    |true=>
     rw[hb] at O;have HX:=zA (a2.out p x a hb (by rw[k.out];omega) y.out);have P:=zA (show dD q B calm (a+1) p=m.map Prod.fst++(dD q B calm a (p++[(x:Int)])++j4 (fun (x:Nat)=>calm (p++(x:Int)::List.replicate a 0)) (fun (x:Nat)=>dD q B calm a (p++[(x:Int)])) (B- (x+1)) (x+1)) from by rw[HT.out,ar.out,if_pos hb]);have bi:=zA (show (pre++m).length+(dD q B calm a (p++[(x:Int)])).length<=16384 from by have h1:=HL.out;rw[P.out] at h1;simp only[List.length_append,List.length_map] at h1⊢;omega);clear hb;gi_wp2_with (refine⟨trivial,?_⟩;gi_at_call 176;refine O.out.mono ?_;rintro e w1 ⟨rfl,u⟩;have D:=zA (i.out.stay u);have Q:w1.cell? ⟨s+3,0,none⟩=some (.func (.func 200) #[] #[.pointer (some ⟨gx,0,none⟩),.pointer (some ⟨s,0,none⟩),.pointer (some ⟨s+2,0,none⟩),.pointer (some ⟨qx,0,none⟩),.pointer (some ⟨s+3,0,none⟩)]):=(ah D.out.f 0).trans rfl;have r:=am.out (v+1) (p++[(x:Int)]) (pre++m) w1 (by simp[k.out]) (by omega) (by rw[List.append_assoc];exact D.out) (by rw[List.append_assoc];exact N.out) (R.out _ _ _ w.out (iZ u _)) bi.out;rw[Int.natCast_add,Int.natCast_one] at r;have S:=zA ((callsIn_wide (n:=8)).2 (callsIn_wide.1 r));clear u r)
     refine⟨trivial,?_⟩;refine S.out.mono ?_;rintro e w3 (⟨bk,rfl,j,M,z⟩|⟨rfl,bl,j⟩)
     ·rw[List.append_assoc] at z
      have V:=zA (show CS w0 n A0 c0 E q gx qx s l w3 (p++(x:Int)::List.replicate a 0) from z);have bn:=zA j;have H4:=zA M;clear j M z Q I av L aB;have Q:w3.cell? ⟨s+2,0,none⟩=some (.slice (some ⟨s+1,0,none⟩) n n):=(ah V.out.cb 0).trans rfl;have G:=V.out.cell (by rw[k.out];omega);have o:=V.out.set X Y Z ((x:Int)+1);rw[k.out] at G o;obtain⟨q2,q3⟩:=G;have bq:=zA o.1;have bv:=zA (R.out _ _ _ bn.out o.2);clear o;have b4:(x:Int)<=1000:=by omega
      gi_wp2;gi_roundg (B- (x+1))
      case measure=>rw[HK.out];omega
      case rel=>exact⟨x+1,m++bk,HX.out,⟨by rw[<-List.append_assoc];exact bv.out⟩,bq,⟨by rw[P.out,List.map_append,H4.out,List.append_assoc]⟩,⟨rfl⟩⟩
     ·have T:=zA j
      clear j Q I av L aB;gi_wp2;go_ret;exact .inr ⟨rfl,bl,T.out⟩
end
section
attribute [local go_sem] Oper.semAt_some
theorem Dm (a b:Int) (f:Bool) (w:World):Calls Tryz.prog 181 #[.agg #[.int .i64 a,.int .i64 b],.bool f] w fun e w'=>e= .returned (.tuple #[.int .i64 (if f=true then a else b),.int .i64 (if f=true then b else a)])/\Below w.heap.size w w':=by
 have hu:=Tryz.underlying205;have g:=a6 w (.cells #[.int .i64 a,.int .i64 b] 205);have h:(w.alloc (.cells #[.int .i64 a,.int .i64 b] 205)).cell? ⟨w.heap.size,0,none⟩=some (.int .i64 a):=(ah g 0).trans rfl;have h1:(w.alloc (.cells #[.int .i64 a,.int .i64 b] 205)).cell? ⟨w.heap.size,1,none⟩=some (.int .i64 b):=(ah g 1).trans rfl;clear g;cases f with
 |true=>
  go_enter Tryz.func181,Tryz.ntmps181
  go_wp2;go_quiet (fail)
  go_wp2;go_ret2;exact⟨rfl,bU (ai (aj _ _) _) _⟩
 |false=>
  go_enter Tryz.func181,Tryz.ntmps181
  go_wp2;go_quiet (fail)
  go_wp2;go_ret2;exact⟨rfl,bU (ai (aj _ _) _) _⟩
theorem vF (N:Int) (ev:Value) (A:Option Addr) (m c:Nat) (w:World):Calls Tryz.prog 127 #[.agg #[.int .i64 N,ev],.slice A m c] w fun e w'=>e= .returned (.func (.func 180) #[] #[.pointer (some ⟨w.heap.size,0,none⟩),.pointer (some ⟨w.heap.size+1,0,none⟩)])/\w'=(w.alloc (.cells #[.int .i64 N,ev] 24)).alloc (.cells #[.slice A m c] 43):=by
 go_enter Tryz.func127,Tryz.ntmps127
 go_wp2;go_ret;exact⟨rfl,rfl⟩
def kG (x:Nat×Int×Int) (f:Bool):Int×Int:=(if f=true then x.2.1 else x.2.2,if f=true then x.2.2 else x.2.1)
def dE (S:List (Nat×Int×Int)) (o:List Bool) (j:Nat):List (Int×Int):=(List.range j).map fun i=>kG (S.getD i (0,0,0)) (o.getD i false)
theorem Dn (S:List (Nat×Int×Int)) (o:List Bool) (j:Nat):dE S o (j+1)=dE S o j++[kG (S.getD j (0,0,0)) (o.getD j false)]:=by simp[dE,List.range_succ]
def Dp (base a b s:Nat) (X Y:World):Prop:=(base<=X.heap.size->Below base X Y)/\∀k,(k=a\/k=b\/s<=k)->k<X.heap.size->Y.heap[k]? =X.heap[k]?
theorem vG (bg bo k s:Nat) (N:Int) (A0:Option Addr) (c0:Nat) (E:List S83) (r:Option Addr) (co:Nat) (o:List Bool) (S:List (Nat×Int×Int)) (w0 W:World) (bv:Kd.C aM w0 A0 E.length E) (bw:E.length<=c0) (V:Kd.bool.C w0 r o.length o) (ht:a7.f k N E=some 0) (hE:dh E=true) (hS:bu E E.length=S) (c3:o.length=S.length) (c4:S.length<=1000000) (hs:s<=W.heap.size) (Z:Below w0.heap.size w0 W) (c6:w0.heap.size<=s)
  (u:W.heap[bg]? =some (.cells #[.int .i64 N,.slice A0 E.length c0] 24 (0,0))) (aa:W.heap[bo]? =some (.cells #[.slice r o.length co] 43 (0,0))):
  iF (σ:=Unit) Fence.wide 9 Tryz.prog 180 #[.pointer (some ⟨bg,0,none⟩),.pointer (some ⟨bo,0,none⟩)] (fun x:Int×Int=>#[.int .i64 x.1,.int .i64 x.2]) (fun _ W W1=>W1=W) (fun _ A B=>Below A.heap.size A B) (fun _ x A B=>(∃j:Nat,j<S.length/\x=kG (S.getD j (0,0,0)) (o.getD j false))/\Below A.heap.size A B)
   (fun _ X Y=>Dp w0.heap.size bg bo s X Y)
   (fun _ xs W'=>xs=dE S o S.length) (fun _ _ _=>True) (fun pre=>pre.length<S.length) W:=by
 intro lp J Jx ab ag ak am;have G:=zA ab;have c8:=zA ag;have hY:=zA am;have an:=ak () W rfl;clear ab ag ak am;have hu:=Tryz.underlying24;have c':=Tryz.underlying205;refine callsIn_of_wp Tryz.func180 rfl trivial ?_ rfl;simp only[Tryz.ntmps180,List.size_toArray,List.length_cons,List.length_nil,Nat.reduceAdd,Nat.reduceSub,Array.replicate_succ,Array.replicate_zero,List.push_toArray,List.append_toArray,List.nil_append,List.cons_append];have b0:W.cell? ⟨bg,0,none⟩=some (.int .i64 N):=(ah u 0).trans rfl;have b1:W.cell? ⟨bg,1,none⟩=some (.slice A0 E.length c0):=(ah u 1).trans rfl;have m:=zA u;have n:=zA aa;have H:=zA (qU k N A0 c0 E W (Kd.ax bv Z) bw ht hE);rw[hS] at H;clear u aa;gi_wp2_with (refine⟨trivial,?_⟩;gi_at_call 178;refine(callsIn_wide.2 H.out).mono ?_;rintro e w3 ⟨v9,rfl,I,l⟩;obtain⟨A9,c9,ar⟩:=Kd.bh I;rw[nC] at ar;subst ar;have av:=zA (Kd.a_ (Kd.dJ I) (ok':=fun k=>s<=k) (fun k hk=>by have:=hk.2.1;omega));have aB:=zA (G.out () _ _ _ an l);have aF:=zA (az m.out l);have aL:=zA (az n.out l);have aO:=zA (aQ Z l);have aP:=zA l.size;clear I l b0 b1)
 gi_loopg [15] (S.length) (fun kq i wr=>∃v:Nat,i= .int .i64 v/\v<=S.length/\Aside0 (J () (dE S o v) wr)/\Aside0 (wr.heap[bg]? =some (.cells #[.int .i64 N,.slice A0 E.length c0] 24 (0,0)))/\Aside0 (wr.heap[bo]? =some (.cells #[.slice r o.length co] 43 (0,0)))/\Aside0 ((Kd.raw 2).R 205 wr W.heap.size (fun k=>s<=k) (.slice A9 S.length c9) (fA S))/\Aside0 (Below w0.heap.size w0 wr)/\Aside0 (W.heap.size<=wr.heap.size)/\Aside0 (kq=S.length-v))
 case atStart=>exact⟨0,rfl,Nat.zero_le _,aB,aF,aL,av,aO,aP,⟨rfl⟩⟩
 case round=>
  clear aB aF aL av aO aP H m n an;obtain⟨v,rfl,hv,K,m,n,L,M,HW,HK⟩:=hrel;by_cases w:v<S.length
  ·have ca:(0:Int)<=(v:Int):=by omega
   have dk:(v:Int)<(S.length:Int):=by omega
   have cb:(v:Int)<(o.length:Int):=by omega
   obtain⟨-, -,a0⟩:=Kd.aN L.out;obtain⟨ad,rfl,O,P⟩:=vh a0 v (by rw[nC];exact w) w;have q:=zA (Dn S o v);have Q:S.getD v (0,0,0)=S[v]:=by rw[aW,bp w];rfl
   rw[Q] at q;have a1:∃j:Nat,j<S.length/\kG S[v] (o.getD v false)=kG (S.getD j (0,0,0)) (o.getD j false):=⟨v,w,by rw[Q]⟩;have y:=zA a1;clear a1 Q a0;generalize S[v]=x at O P q y;obtain⟨i,a,b⟩:=x;simp only at O P;gi_wp2;have dl:=M.out.size;have g:=ai (aj wr.heap.size wr) (.cells #[.int .i64 a,.int .i64 b] 205);have z:=zA (a6 wr (.cells #[.int .i64 a,.int .i64 b] 205));have a2:=zA (G.out () _ _ _ K.out g);have a3:=zA (az m.out g);have T:=zA (az n.out g);have a4:=zA (Kd.cz L.out g);have D:=zA (aQ M.out g);have a5:=g.size;have a9:Aside0 (W.heap.size<=(wr.alloc (.cells #[.int .i64 a,.int .i64 b] 205)).heap.size):=⟨Nat.le_trans HW.out a5⟩;clear K m n L M HW g a5 O P;generalize wr.alloc (.cells #[.int .i64 a,.int .i64 b] 205)=W1 at z a2 a3 T a4 D a9⊢;generalize wr.heap.size=xb at z⊢;have y0:W1.cell? ⟨xb,0,none⟩=some (.int .i64 a):=(ah z.out 0).trans rfl;have y1:W1.cell? ⟨xb,1,none⟩=some (.int .i64 b):=(ah z.out 1).trans rfl;have y2:W1.cell? ⟨bo,0,none⟩=some (.slice r o.length co):=(ah T.out 0).trans rfl;obtain⟨ao,rfl, -⟩:=(Kd.ax V D.out).2.2 (by omega);have U:=Kd.B3 (Kd.ax V D.out) (v:Int) ca cb;rw[show bL false o (v:Int)=o.getD v false by simp[bL]] at U;rw[aD] at U;generalize o.getD v false=f at U q y;obtain⟨p,hp⟩:∃p:Int×Int,p=kG (i,a,b) f:=⟨_,rfl⟩;have cc:Aside0 (∀W,Calls Tryz.prog 181 #[.agg #[.int .i64 a,.int .i64 b],.bool f] W fun e w'=>e= .returned (.tuple #[.int .i64 p.1,.int .i64 p.2])/\Below W.heap.size W w'):=⟨fun W=>by rw[hp];exact Dm a b f W⟩;rw[<-hp] at q y;clear hp;have cd:(dE S o v).length<S.length:=by simp[dE];omega
   gi_region_with (first|(refine⟨trivial,?_⟩;gi_at_call 181;refine(callsIn_wide.2 (cc.out _)).mono ?_;rintro e w4 ⟨rfl,bf⟩;have h:Below W1.heap.size W1 w4:=(ia (aj _ _)).trans bf;have cf:=zA (G.out () _ _ _ a2.out h);have bi:=zA (az a3.out h);have bk:=zA (az T.out h);have cg:=zA (Kd.cz a4.out h);have bl:=zA (aQ D.out h);have ch:=zA (Nat.le_trans a9.out h.size);obtain⟨fn,tmps,d1,d2,hy,bn⟩:=hY.out () (dE S o v) p _ _ cf.out ⟨y.out,aj _ _⟩ cd;have cj:=zA bn;(try(simp only at hy));clear bn bf h)|(refine cj.out.mono ?_;rintro e W3 h3;obtain⟨bb,rfl,H3⟩:=vE h3;clear h3))
   all_goals gi_wp2
   all_goals rcases H3.out with⟨rfl,cp,F⟩|⟨rfl,cq⟩
   all_goals first
    |exact absurd ‹(!true)=true› (by decide)
    |exact absurd ‹(!false)=false› (by decide)
    |(refine bodyPost_ret (results_none rfl _ _ _) rfl ?_
      exact⟨⟨_,rfl⟩,.inr ⟨(),_,trivial,cq⟩⟩)
    |(have hk:=F.1 bl.out.size
      have cr:=zA ((F.2 bg (.inl rfl) (ay bi.out)).trans bi.out);have cs:=zA ((F.2 bo (.inr (.inl rfl)) (ay bk.out)).trans bk.out);have cv:=zA (bl.out.trans hk);have cx:=zA (Nat.le_trans ch.out hk.size);have c1:Aside0 ((Kd.raw 2).R 205 W3 W.heap.size (fun k=>s<=k) (.slice (some ad) S.length c9) (fA S)):=⟨Kd.ko cg.out (fun k h1 h2=>F.2 k (.inr (.inr h1)) h2)⟩;gi_roundg (S.length- (v+1))
      case measure=>rw[HK.out];omega
      case rel=>exact⟨v+1,by go_num,by omega,⟨by rw[q.out];exact cp⟩,cr,cs,c1,cv,cx,⟨rfl⟩⟩)
  ·obtain rfl:S.length=v:=by omega
   gi_wp2;go_end0;exact⟨⟨_,rfl⟩,.inl ⟨(),_,rfl,K.out⟩⟩
end
section
attribute [local go_sem] Oper.semAt_some
def fP (n:Nat) (pre:List (Int×Int)):List Int:=pre.foldl (fun l x=>l.set x.2.toNat (wrap64 (rd l x.2+1))) (List.replicate n 0)
theorem Dq (n:Nat) (pre:List (Int×Int)) (x:Int×Int):fP n (pre++[x])=(fP n pre).set x.2.toNat (wrap64 (rd (fP n pre) x.2+1)):=by simp[fP,List.foldl_append]
theorem nF (n:Nat) (pre:List (Int×Int)):(fP n pre).length=n:=by
 unfold fP;have:∀(pre:List (Int×Int)) (l:List Int),(pre.foldl (fun l x=>l.set x.2.toNat (wrap64 (rd l x.2+1))) l).length=l.length:=by
  intro pre;induction pre with
  |nil=>intro l;rfl
  |cons x pre a=>intro l;rw[List.foldl_cons,a];simp
 rw[this];simp
def cB (n:Nat) (S:List (Nat×Int×Int)) (o:List Bool):List Int:=fP n (dE S o S.length)
def fj (n:Nat) (S:List (Nat×Int×Int)):Prop:=∀j:Nat,j<S.length->0<=(S.getD j (0,0,0)).2.1/\(S.getD j (0,0,0)).2.1<n/\0<=(S.getD j (0,0,0)).2.2/\(S.getD j (0,0,0)).2.2<n
theorem fj.arrow {n:Nat} {S:List (Nat×Int×Int)} (h:fj n S) {j:Nat} (k:j<S.length) (b:Bool):∃t v:Nat,t<n/\v<n/\kG (S.getD j (0,0,0)) b=((t:Int),(v:Int)):=by
 obtain⟨h1,l,e,m⟩:=h j k;generalize S.getD j (0,0,0)=x at*;obtain⟨i,a,c⟩:=x;simp only at h1 l e m;obtain⟨a',rfl⟩:=Int.eq_ofNat_of_zero_le h1;obtain⟨g,rfl⟩:=Int.eq_ofNat_of_zero_le e;cases b with
 |true=>exact⟨a',g,by omega,by omega,rfl⟩
 |false=>exact⟨g,a',by omega,by omega,rfl⟩
theorem ri (k n:Nat) (A0:Option Addr) (c0:Nat) (E:List S83) (a:Option Addr) (co:Nat) (o:List Bool) (S:List (Nat×Int×Int)) (w:World) (aP:Kd.C aM w A0 E.length E) (aS:E.length<=c0) (a0:Kd.bool.C w a o.length o) (hn:n<=1000) (ht:a7.f k n E=some 0) (hE:dh E=true) (hS:bu E E.length=S) (O:o.length=S.length) (a4:S.length<=1000000) (P:fj n S):
  Calls Tryz.prog 71 #[.agg #[.int .i64 n,.slice A0 E.length c0],.slice a o.length co] w fun e w'=>∃go c,e= .returned (.slice (some ⟨go,0,none⟩) n c)/\(Kd.int .i64).R 3 w' w.heap.size (fun _=>True) (.slice (some ⟨go,0,none⟩) n c) (cB n S o)/\Below w.heap.size w w':=by
 have hu:=Tryz.underlying24;have a5:=zA P;have a9:=zA O;have b4:(0:Int)<=(n:Int):=by omega
 obtain⟨zs,bb,Q⟩:=lG 25 Tryz.underlying25 n hn;have T:=zA Q;clear P Q O;refine(callsIn_wide (n:=10)).1 ?_;refine callsIn_of_wp_marks Tryz.func71 rfl trivial ?_ rfl;simp only[Tryz.ntmps71,List.size_toArray,List.length_cons,List.length_nil,Nat.reduceAdd,Nat.reduceSub,Array.replicate_succ,Array.replicate_zero,List.push_toArray,List.append_toArray,List.nil_append,List.cons_append];gi_wp2_with (first|(refine⟨trivial,?_⟩;gi_at_call 127;refine(callsIn_wide.2 (vF n _ _ _ _ _)).mono ?_;rintro e w3 ⟨rfl,rfl⟩))
 have y:=a6 ((w.alloc (.cells #[.int .i64 n,.slice A0 E.length c0] 24)).alloc (.cells zs 3)) (.cells #[.slice (some ⟨w.heap.size+1,0,none⟩) n n] 25);have G:=a6 (((w.alloc (.cells #[.int .i64 n,.slice A0 E.length c0] 24)).alloc (.cells zs 3)).alloc (.cells #[.slice (some ⟨w.heap.size+1,0,none⟩) n n] 25)) (.cells #[.int .i64 n,.slice A0 E.length c0] 24);have hO:=a6 ((((w.alloc (.cells #[.int .i64 n,.slice A0 E.length c0] 24)).alloc (.cells zs 3)).alloc (.cells #[.slice (some ⟨w.heap.size+1,0,none⟩) n n] 25)).alloc (.cells #[.int .i64 n,.slice A0 E.length c0] 24)) (.cells #[.slice a o.length co] 43);have H:=T.out (w.alloc (.cells #[.int .i64 n,.slice A0 E.length c0] 24)) (fun _=>True) trivial;simp only[World.size_alloc] at y G hO H;have U:=zA (aq (aq y (.cells #[.int .i64 n,.slice A0 E.length c0] 24)) (.cells #[.slice a o.length co] 43));have V:=zA (aq G (.cells #[.slice a o.length co] 43));have X:=zA hO;have I:=zA (ai (ai (ai (ai (ai (aj w.heap.size w) (.cells #[.int .i64 n,.slice A0 E.length c0] 24)) (.cells zs 3)) (.cells #[.slice (some ⟨w.heap.size+1,0,none⟩) n n] 25)) (.cells #[.int .i64 n,.slice A0 E.length c0] 24)) (.cells #[.slice a o.length co] 43));have Y:Aside0 ((Kd.int .i64).R 3 (((((w.alloc (.cells #[.int .i64 n,.slice A0 E.length c0] 24)).alloc (.cells zs 3)).alloc (.cells #[.slice (some ⟨w.heap.size+1,0,none⟩) n n] 25)).alloc (.cells #[.int .i64 n,.slice A0 E.length c0] 24)).alloc (.cells #[.slice a o.length co] 43)) w.heap.size (fun _=>True) (.slice (some ⟨w.heap.size+1,0,none⟩) n n) (fP n [])):=⟨Kd.bc (Kd.aK (Kd.aK (Kd.aK H _) _) _) (by omega)⟩;have be:=Nat.le_of_eq (show (((((w.alloc (.cells #[.int .i64 n,.slice A0 E.length c0] 24)).alloc (.cells zs 3)).alloc (.cells #[.slice (some ⟨w.heap.size+1,0,none⟩) n n] 25)).alloc (.cells #[.int .i64 n,.slice A0 E.length c0] 24)).alloc (.cells #[.slice a o.length co] 43)).heap.size=w.heap.size+5 by simp);have bf:=Nat.le_of_eq (show w.heap.size+5=(((((w.alloc (.cells #[.int .i64 n,.slice A0 E.length c0] 24)).alloc (.cells zs 3)).alloc (.cells #[.slice (some ⟨w.heap.size+1,0,none⟩) n n] 25)).alloc (.cells #[.int .i64 n,.slice A0 E.length c0] 24)).alloc (.cells #[.slice a o.length co] 43)).heap.size by simp);clear y G hO H T bb;generalize (((((w.alloc (.cells #[.int .i64 n,.slice A0 E.length c0] 24)).alloc (.cells zs 3)).alloc (.cells #[.slice (some ⟨w.heap.size+1,0,none⟩) n n] 25)).alloc (.cells #[.int .i64 n,.slice A0 E.length c0] 24)).alloc (.cells #[.slice a o.length co] 43))=g at U V X I Y be bf⊢;refine gU (σ:=Unit) (α:=Int×Int) (F:=Fence.wide) (n:=10) rfl (by decide) (gf:=180) (lb:=#[.pointer (some ⟨w.heap.size+1+1+1,0,none⟩),.pointer (some ⟨w.heap.size+1+1+1+1,0,none⟩)]) rfl trivial (enters_of Tryz.func180 (by kernel_rfl) rfl)
  (fun dd=>vG (w.heap.size+1+1+1) (w.heap.size+1+1+1+1) k (g.heap.size+2) n A0 c0 E a co o S w _ aP aS a0 ht hE hS a9.out a4 (by simp) (ai (ai I.out _) _) (by omega) (aq (aq V.out _) _) (aq (aq X.out _) _)) (fun _=>rfl)
  (fun _=>True) ?dH ?st ?ar
  (fun _ pre W=>g.heap.size<=W.heap.size/\(Kd.int .i64).R 3 W w.heap.size (fun _=>True) (.slice (some ⟨w.heap.size+1,0,none⟩) n n) (fP n pre)/\W.heap[w.heap.size+1+1]? =some (.cells #[.slice (some ⟨w.heap.size+1,0,none⟩) n n] 25 (0,0))/\Below w.heap.size w W) (fun _ _ _ _=>False)
  ?is (fun _ _ _ _ _ _ h _=>h) ?ib (fun _ _ _ _ _ h _=>h) ?kt ?h0 ?a1 ?assign ?body ?done (fun _ _ _ _ _ _ _ h=>h.elim)
 case assign=>
  intro l x W K hK;gi_wp2;exact hK
 case dH=>
  intro o s W1 h;exact⟨trivial,by rw[h];exact b8.refl _ _⟩
 case st=>intro s A B _ h;exact cS h
 case ar=>intro s x A B _ h;exact cS h.2
 case is=>
  rintro s pre A B _ ⟨i,h1,J,L⟩ q;exact⟨Nat.le_trans i q.size,Kd.cz h1 q,az J q,aQ L q⟩
 case ib=>
  rintro s pre A B ⟨i,h1,J,L⟩ hb;exact⟨by rw[hb.size];exact i,cQ h1 hb,hb.cells J,L.trans (hb.below w.heap.size (by omega))⟩
 case kt=>
  intro s A B C D r Z aa;refine⟨fun aT=>((r.below w.heap.size (by omega)).trans (Z.1 (by rw[r.size];exact aT))).trans (aa.below w.heap.size (by omega)),fun u ab bi=>?_⟩;have ad:u≠g.heap.size+1:=by omega
  exact(aa.heap _ ad).trans ((Z.2 u ab (by rw[r.size];exact bi)).trans (r.heap _ ad))
 case h0=>
  rintro o s W1 rfl;exact⟨by simp;omega,Kd.aK (Kd.aK Y.out _) _,aq (aq U.out _) _,ai (ai I.out _) _⟩
 case body=>
  rintro l s' pre ⟨xv,xy⟩ Wb Wc W _ ⟨i,i1,i2,i3⟩ ⟨⟨j,hj,hx⟩,m⟩ bk b;obtain⟨tv,v,cb,cc,am⟩:=a5.out.arrow hj (o.getD j false);rw[am] at hx;injection hx with bn bo
  subst bn bo;have I1:=zA (cQ (Kd.cz i1 m) b);have I2:=zA (b.cells (az i2 m));have I3:=zA ((aQ i3 m).trans (b.below w.heap.size (by omega)));have bv:g.heap.size<=W.heap.size:=by have:=b.size;have:=m.size;omega
  have ap:=zA (Dq n pre ((tv:Int),(v:Int)));have bw:=zA (nF n pre);clear i1 i2 i3 m b bk i am hj;have z1:=dc I2.out;obtain⟨z2,z3⟩:=Kd.bP 0 I1.out (v:Int) (by omega) (by first|omega|(rw[bw.out];omega));rw[aD] at z2 z3;rw[show bL 0 (fP n pre) (v:Int)=rd (fP n pre) (v:Int) from rfl] at z2;have M:=Kd.dg I1.out (v:Int) (wrap64 (rd (fP n pre) (v:Int)+1));rw[aD] at M;have av:=zA M.1;have N:=ap.out;simp only[aD] at N;have aB:=zA N;clear M ap N;generalize rd (fP n pre) (v:Int)=z at z2 av aB;replace z2:W.cell? ⟨w.heap.size+1,v,none⟩=some (.int .i64 z):=z2;have cd:(0:Int)<=(v:Int):=by omega
  have ce:(v:Int)<(n:Int):=by omega
  gi_wp2;refine⟨eU _ _ (by omega),⟨fun _=>Below.setCell (p:=⟨w.heap.size+1,v,none⟩) (aj _ _) (by show w.heap.size<=w.heap.size+1;omega) _,fun u ab _=>Below.heap_setCell _ _ _ _ (by show u≠w.heap.size+1;omega)⟩,by simpa using bv,?_,aG I2.out (by show w.heap.size+1+1≠w.heap.size+1;omega) _,Below.setCell (p:=⟨w.heap.size+1,v,none⟩) I3.out (by show w.heap.size<=w.heap.size+1;omega) _⟩;rw[aB.out];exact av.out
 case done=>
  rintro s' xs W W' _ rfl ⟨i,i1,i2,i3⟩ b aF;have b1:=zA (cQ i1 b);have b2:=zA (b.cells i2);have b3:=zA (i3.trans (b.below w.heap.size (by omega)));have aL:=zA aF;clear i1 i2 i3 aF;have hc:=dc b2.out;gi_wp2_with fail
  have aO:Bk g.heap.size W' (W'.putObj g.heap.size (.deferred none)):=⟨_,_,aL.out,rfl,rfl⟩;exact iG (D:=g.heap.size) rfl aL.out (results_tmp rfl _ _ _) ⟨_,_,rfl,cQ b1.out aO,b3.out.trans (aO.below w.heap.size (by omega))⟩
end
section
attribute [local go_sem] Oper.semAt_some
def idxFrom (x:Int):List Int->Nat->Int
 |[],_=> -1
 |y::l,v=>if y=x then(v:Int) else idxFrom x l (v+1)
def idxOf (l:List Int) (x:Int):Int:=idxFrom x l 0
theorem vH {x:Int}:∀{l:List Int} {v k:Nat},v<l.length->rd l v=x->(∀u:Nat,u<v->rd l u≠x)->idxFrom x l k=((v+k:Nat):Int)
 |y::l,0,k,_,h,_=>by
  have:y=x:=by simpa [rd] using h
  simp[idxFrom,this]
 |y::l,v+1,k,a,h,hn=>by
  have b:y≠x:=by simpa [rd] using hn 0 (by omega)
  have e:∀u:Nat,rd (y::l) ((u+1:Nat):Int)=rd l (u:Int):=fun u=>by simp only[rd,aD,List.getD_cons_succ]
  rw[idxFrom,if_neg b,vH (v:=v) (k:=k+1) (by simpa using a) (by rw[<-e];exact h) (fun u hu=>by rw[<-e];exact hn (u+1) (by omega))];congr 1;omega
theorem vI {x:Int}:∀{l:List Int} {k:Nat},(∀u:Nat,u<l.length->rd l u≠x)->idxFrom x l k= -1
 |[],k,_=>rfl
 |y::l,k,hn=>by
  have a:y≠x:=by simpa [rd] using hn 0 (by simp)
  have e:∀u:Nat,rd (y::l) ((u+1:Nat):Int)=rd l (u:Int):=fun u=>by simp only[rd,aD,List.getD_cons_succ]
  rw[idxFrom,if_neg a,vI (k:=k+1) (fun u hu=>by rw[<-e];exact hn (u+1) (by simpa using hu))]
theorem vJ {l:List Int} {x:Int} {v:Nat} (a:v<l.length) (h:rd l v=x) (hn:∀u:Nat,u<v->rd l u≠x):idxOf l x=v:=by
 unfold idxOf;rw[vH a h hn];rfl
theorem vK {l:List Int} {x:Int} (hn:∀u:Nat,u<l.length->rd l u≠x):idxOf l x= -1:=vI hn
theorem rj (l:List Int) (x:Int):(idxOf l x= -1/\∀u:Nat,u<l.length->rd l u≠x)\/∃v:Nat,v<l.length/\idxOf l x=v/\rd l v=x/\∀u:Nat,u<v->rd l u≠x:=by
 by_cases h:∃v:Nat,v<l.length/\rd l v=x
 ·have hm:∀v:Nat,v<l.length->rd l v=x->∃a:Nat,a<l.length/\rd l a=x/\∀u:Nat,u<a->rd l u≠x:=by
   intro v;induction v using Nat.strongRecOn with
   |_ v k=>
    intro e b;by_cases hu:∃u:Nat,u<v/\rd l u=x
    ·obtain⟨u,hu,g⟩:=hu;exact k u hu (by omega) g
    ·exact⟨v,e,b,fun u m g=>hu ⟨u,m,g⟩⟩
  obtain⟨v,e,b⟩:=h;obtain⟨a,h1,i,j⟩:=hm v e b;exact .inr ⟨a,h1,vJ h1 i j,i,j⟩
 ·refine .inl ⟨vK ?_,?_⟩<;>exact fun u hu b=>h ⟨u,hu,b⟩
theorem Dr (A:Option Addr) (c:Nat) (l:List Int) (x:Int) (w:World) (j:Kd.C (Kd.int .i64) w A l.length l) (B:l.length<=1000000):
  Calls Tryz.prog 126 #[.slice A l.length c,.int .i64 x] w fun e w'=>e= .returned (.int .i64 (idxOf l x))/\Below w.heap.size w w':=by
 have a:=zA j;clear j;refine(callsIn_wide (n:=10)).1 ?_;refine callsIn_of_wp Tryz.func126 rfl trivial ?_ rfl;simp only[Tryz.ntmps126,List.size_toArray,List.length_cons,List.length_nil,Nat.reduceAdd,Nat.reduceSub,Array.replicate_succ,Array.replicate_zero,List.push_toArray,List.append_toArray,List.nil_append,List.cons_append];gi_wp2;gi_loopg [8] (l.length) (fun p i wr=>∃v:Nat,i= .int .i64 v/\v<=l.length/\Aside0 (Kd.C (Kd.int .i64) wr A l.length l)/\Aside0 (Below w.heap.size w wr)/\Aside0 (∀u:Nat,u<v->rd l u≠x)/\Aside0 (p=l.length-v))
 case atStart=>exact⟨0,rfl,Nat.zero_le _,a,⟨aj _ _⟩,⟨fun u hu=>by omega⟩,⟨rfl⟩⟩
 case round=>
  clear a;obtain⟨v,rfl,D,a,b,g,q⟩:=hrel;by_cases r:v<l.length
  ·have s:(0:Int)<=(v:Int):=by omega
   have y:(v:Int)<(l.length:Int):=by omega
   obtain⟨ad,rfl, -⟩:=a.out.2.2 (by omega);have k:=Kd.oU a.out (v:Int) s y;rw[aD] at k;obtain⟨z,h⟩:∃z,z=rd l (v:Int):=⟨_,rfl⟩;rw[<-h] at k;have m:=zA h;clear h;by_cases o:x=z
   ·subst o
    gi_wp2;refine bodyPost_ret (results_tmp rfl _ _ _) rfl ?_;exact⟨by rw[vJ r m.out.symm g.out];rfl,b.out⟩
   ·gi_wp2
    gi_roundg (l.length- (v+1))
    case measure=>rw[q.out];omega
    case rel=>exact⟨v+1,by go_num,by omega,a,b,⟨fun u hu=>by
     by_cases e:u=v
     ·subst e;rw[<-m.out];exact fun e=>o e.symm
     ·exact g.out u (by omega)⟩,⟨rfl⟩⟩
  ·obtain rfl:l.length=v:=by omega
   gi_wp2;refine bodyPost_ret (results_tmp rfl _ _ _) rfl ?_;exact⟨by rw[vK g.out];rfl,b.out⟩
theorem Dt {l m:List Int} (h:l.length=m.length) (a:∀u:Nat,u<l.length->rd l u=rd m u):l=m:=by
 refine List.ext_getElem h fun i h1 b=>?_
 have:=a i h1;simp only[rd,aD,aW,bp h1,bp b,Option.getD_some] at this;exact this
theorem Du (A:Option Addr) (c:Nat) (l:List Int) (h:Option Addr) (c2:Nat) (m:List Int) (w:World) (r:Kd.C (Kd.int .i64) w A l.length l) (s:Kd.C (Kd.int .i64) w h m.length m) (K:l.length<=1000000) (hm:m.length<=1000000):
  Calls Tryz.prog 68 #[.slice A l.length c,.slice h m.length c2] w fun e w'=>e= .returned (.bool (decide (l=m)))/\Below w.heap.size w w':=by
 have a:=zA r;have b:=zA s;clear r s;refine(callsIn_wide (n:=10)).1 ?_;refine callsIn_of_wp Tryz.func68 rfl trivial ?_ rfl;simp only[Tryz.ntmps68,List.size_toArray,List.length_cons,List.length_nil,Nat.reduceAdd,Nat.reduceSub,Array.replicate_succ,Array.replicate_zero,List.push_toArray,List.append_toArray,List.nil_append,List.cons_append];by_cases E:(l.length:Int)=m.length
 ·gi_wp2
  gi_loopg [13] (l.length) (fun F i wr=>∃v:Nat,i= .int .i64 v/\v<=l.length/\Aside0 (Kd.C (Kd.int .i64) wr A l.length l)/\Aside0 (Kd.C (Kd.int .i64) wr h m.length m)/\Aside0 (Below w.heap.size w wr)/\Aside0 (∀u:Nat,u<v->rd l u=rd m u)/\Aside0 (F=l.length-v))
  case atStart=>exact⟨0,rfl,Nat.zero_le _,a,b,⟨aj _ _⟩,⟨fun u hu=>by omega⟩,⟨rfl⟩⟩
  case round=>
   clear a b;obtain⟨v,rfl,L,a,b,g,j,G⟩:=hrel;by_cases H:v<l.length
   ·have x:(0:Int)<=(v:Int):=by omega
    have I:(v:Int)<(l.length:Int):=by omega
    have J:(v:Int)<(m.length:Int):=by omega
    obtain⟨ad,rfl, -⟩:=a.out.2.2 (by omega);obtain⟨M,rfl, -⟩:=b.out.2.2 (by omega);have y:=Kd.oU a.out (v:Int) x I;have B:=Kd.oU b.out (v:Int) x J;rw[aD] at y B;obtain⟨z,k⟩:∃z,z=rd l (v:Int):=⟨_,rfl⟩;obtain⟨z2,o⟩:∃z,z=rd m (v:Int):=⟨_,rfl⟩;rw[<-k] at y;rw[<-o] at B;have p:=zA k;have q:=zA o;have N:=zA H;clear k o;by_cases D:z=z2
    ·subst D
     gi_wp2;gi_region_with fail
     all_goals gi_wp2
     all_goals gi_roundg (l.length- (v+1))
     all_goals first
      |(rw[G.out];omega)
      |exact⟨v+1,by go_num,by omega,a,b,g,⟨fun u hu=>by
        by_cases e:u=v
        ·subst e;rw[<-p.out,<-q.out]
        ·exact j.out u (by omega)⟩,⟨rfl⟩⟩
      |exact⟨v+1,by go_num,by omega,⟨Kd.eS a.out⟩,⟨Kd.eS b.out⟩,⟨bY g.out⟩,⟨fun u hu=>by
        by_cases e:u=v
        ·subst e;rw[<-p.out,<-q.out]
        ·exact j.out u (by omega)⟩,⟨rfl⟩⟩
    ·gi_wp2
     gi_region_with fail
     all_goals gi_wp2
     all_goals refine bodyPost_ret (results_tmp rfl _ _ _) rfl ?_
     all_goals rw[ba (fun e=>D (by rw[p.out,q.out,e]))]
     all_goals first|exact⟨rfl,g.out⟩|exact⟨rfl,bY g.out⟩
   ·have O:v=l.length:=by omega
    gi_wp2;refine bodyPost_ret (results_tmp rfl _ _ _) rfl ?_;refine⟨?_,g.out⟩;rw[aE (Dt (by omega) (fun u hu=>j.out u (by omega)))];rfl
 ·gi_wp2
  refine bodyPost_ret (results_tmp rfl _ _ _) rfl ?_;rw[ba (fun e=>E (by rw[e]))];exact⟨rfl,aj _ _⟩
end
section
attribute [local go_sem] Oper.semAt_some
def en (v:Int) (L:List Int) (pre:List (Int×Int)):List Int:=pre.foldl (fun l x=>if x.1=v then l.set x.2.toNat (wrap64 (rd l x.2-1)) else l) L
theorem Dv (v:Int) (L:List Int) (pre:List (Int×Int)) (x:Int×Int):en v L (pre++[x])=if x.1=v then(en v L pre).set x.2.toNat (wrap64 (rd (en v L pre) x.2-1)) else en v L pre:=by simp[en,List.foldl_append]
theorem rl (v:Int) (L:List Int) (pre:List (Int×Int)):(en v L pre).length=L.length:=by
 unfold en;induction pre generalizing L with
 |nil=>rfl
 |cons x pre a=>
  rw[List.foldl_cons,a];split
  ·simp
  ·rfl
def gv (a:List (Int×Int)) (L0:List Int):Nat->Option (List Int×List Int)
 |0=>some (L0,[])
 |i+1=>(gv a L0 i).bind fun p=>if idxOf p.1 0<0 then none else some (en (idxOf p.1 0) (p.1.set (idxOf p.1 0).toNat (-1)) a,p.2++[idxOf p.1 0])
theorem vL {b:List (Int×Int)} {L0:List Int}:∀{i:Nat} {p:List Int×List Int},gv b L0 i=some p->p.1.length=L0.length/\p.2.length=i
 |0,p,h=>by injection h with h;subst h;exact⟨rfl,rfl⟩
 |i+1,p,h=>by
  obtain⟨q,h1,a⟩:=Option.bind_eq_some_iff.1 h;split at a
  ·cases a
  ·injection a with a
   subst a;have:=vL h1;exact⟨by simp[rl,this.1],by simp[this.2]⟩
theorem Dw {a:List (Int×Int)} {L0:List Int} {i j:Nat} (h:gv a L0 i=none) (b:i<=j):gv a L0 j=none:=by
 induction b with
 |refl=>exact h
 |step _ e=>simp only[gv,e];rfl
structure SO (w:World) (n:Nat) (A0:Option Addr) (c0 m:Nat) (a go c:Nat) (L:List Int) (qv:Value) (out:List Int) (W:World):Prop where
 hb:Below w.heap.size w W
 g:W.heap[w.heap.size]? =some (.cells #[.int .i64 n,.slice A0 m c0] 24 (0,0))
 x:W.heap[a]? =some (.cells #[.slice (some ⟨go,0,none⟩) n c] 25 (0,0))
 r:(Kd.int .i64).R 3 W w.heap.size (fun k=>k=go) (.slice (some ⟨go,0,none⟩) n c) L
 o:(Kd.int .i64).R 3 W w.heap.size (fun k=>k≠go) qv out
 ne:a≠go/\w.heap.size<a/\w.heap.size<go
theorem SO.below {w:World} {n:Nat} {A0:Option Addr} {c0 m a go c:Nat} {L:List Int} {qv:Value} {out:List Int} {W W':World} (h:SO w n A0 c0 m a go c L qv out W) (hb:Below W.heap.size W W'):SO w n A0 c0 m a go c L qv out W':=
 ⟨aQ h.hb hb,az h.g hb,az h.x hb,Kd.cz h.r hb,Kd.cz h.o hb,h.ne⟩
theorem SO.alloc {w:World} {n:Nat} {A0:Option Addr} {c0 m a go c:Nat} {L:List Int} {qv:Value} {out:List Int} {W:World} (h:SO w n A0 c0 m a go c L qv out W) (b:Obj):SO w n A0 c0 m a go c L qv out (W.alloc b):=h.below (ai (aj _ _) b)
theorem SO.bk {w:World} {n:Nat} {A0:Option Addr} {c0 m a go c l:Nat} {L:List Int} {qv:Value} {out:List Int} {W W':World} (h:SO w n A0 c0 m a go c L qv out W) (hb:Bk l W W') (b:w.heap.size<=l):SO w n A0 c0 m a go c L qv out W':=
 ⟨h.hb.trans (hb.below w.heap.size b),hb.cells h.g,hb.cells h.x,cQ h.r hb,cQ h.o hb,h.ne⟩
theorem Dx (k n:Nat) (A0:Option Addr) (c0:Nat) (E:List S83) (y:Option Addr) (co:Nat) (o:List Bool) (S:List (Nat×Int×Int)) (w:World) (b6:Kd.C aM w A0 E.length E) (b_:E.length<=c0) (b':Kd.bool.C w y o.length o) (hn:n<=1000) (ht:a7.f k n E=some 0) (hE:dh E=true) (hS:bu E E.length=S) (X:o.length=S.length) (cc:S.length<=1000000) (a5:fj n S):
  Calls Tryz.prog 67 #[.agg #[.int .i64 n,.slice A0 E.length c0],.slice y o.length co] w fun e w'=>∃v,e= .returned (.tuple #[v,.bool (gv (dE S o S.length) (cB n S o) n).isSome])/\(Kd.int .i64).R 3 w' w.heap.size (fun _=>True) v ((gv (dE S o S.length) (cB n S o) n).elim [] Prod.snd)/\Below w.heap.size w w':=by
 have hu:=Tryz.underlying24;have cd:Aside0 (∀W,Below w.heap.size w W->Calls Tryz.prog 71 #[.agg #[.int .i64 n,.slice A0 E.length c0],.slice y o.length co] W fun e w'=>∃go c,e= .returned (.slice (some ⟨go,0,none⟩) n c)/\(Kd.int .i64).R 3 w' W.heap.size (fun _=>True) (.slice (some ⟨go,0,none⟩) n c) (cB n S o)/\Below W.heap.size W w'):=⟨fun W hW=>ri k n A0 c0 E y co o S W (Kd.ax b6 hW) b_ (Kd.ax b' hW) hn ht hE hS X cc a5⟩;have a9:=zA (nF n (dE S o S.length));rw[show fP n (dE S o S.length)=cB n S o from rfl] at a9;have d6:=zA X;have d7:=zA a5;clear X a5;generalize cB n S o=L0 at cd a9⊢;refine(callsIn_wide (n:=10)).1 ?_;refine callsIn_of_wp_marks Tryz.func67 rfl trivial ?_ rfl;simp only[Tryz.ntmps67,List.size_toArray,List.length_cons,List.length_nil,Nat.reduceAdd,Nat.reduceSub,Array.replicate_succ,Array.replicate_zero,List.push_toArray,List.append_toArray,List.nil_append,List.cons_append];gi_wp2_with (refine⟨trivial,?_⟩;gi_at_call 71;refine(callsIn_wide.2 (cd.out _ (ai (aj _ _) _))).mono ?_;rintro e w3 ⟨go,c,rfl,hR,hB⟩;have HR:=zA (Kd.gD rfl (Kd.bc (base':=w.heap.size) hR (by simp)));have HG:=zA (az (a6 w (.cells #[.int .i64 n,.slice A0 E.length c0] 24)) hB);have HB:=zA (aQ (ai (aj w.heap.size w) _) hB);have cg:w.heap.size<go:=Nat.lt_of_lt_of_le (by simp) ((Kd.dJ hR).1 go rfl).2.1;have y0:(w3.alloc (.cells #[.slice (some ⟨go,0,none⟩) n c] 25)).cell? ⟨w.heap.size,0,none⟩=some (.int .i64 n):=(ah (aq HG.out _) 0).trans rfl;clear hR hB)
 have ch:Aside0 ((Kd.int .i64).R 3 (w3.alloc (.cells #[.slice (some ⟨go,0,none⟩) n c] 25)) w.heap.size (fun k=>k=go) (.slice (some ⟨go,0,none⟩) n c) L0):=⟨Kd.aK (Kd.a_ HR.out (fun k hk=>by simpa [Value.ownBlock] using hk)) _⟩;have d9:go<w3.heap.size:=Kd.a8 HR.out go rfl;have ci:w.heap.size<w3.heap.size:=ay HG.out;have q:Aside0 (SO w n A0 c0 E.length w3.heap.size go c L0 (.slice none 0 0) [] (w3.alloc (.cells #[.slice (some ⟨go,0,none⟩) n c] 25))):=⟨ai HB.out _,aq HG.out _,a6 w3 _,ch.out,Kd.df _ _ _ _ _,by omega,ci,cg⟩;have aT:(w3.alloc (.cells #[.slice (some ⟨go,0,none⟩) n c] 25)).heap.size=w3.heap.size+1:=by simp
 clear HR HG HB ch y0 d9 ci cg;generalize w3.alloc (.cells #[.slice (some ⟨go,0,none⟩) n c] 25)=W1 at q aT⊢;generalize w3.heap.size=G at q aT⊢;refine qW (G+1) (fun kq tm wr=>∃(u8 u9 u10 u17 u18 u19 u20 u21 u22 u23 u24 u25 u26 u27 u28 u29 u30 u31 u32 u33 u34 u35 u36 u37 u38 u39 u40 u41 u42 u43:Value) (L:List Int) (qv:Value) (out:List Int) (i:Nat),Aside0 (SO w n A0 c0 E.length G go c L qv out wr)/\Aside0 (gv (dE S o S.length) L0 i=some (L,out))/\i<=n/\G+1<=wr.heap.size/\Aside0 (kq=n-i)/\tm=#[.agg #[.int .i64 n,.slice A0 E.length c0],.slice y o.length co,.pointer (some ⟨w.heap.size,0,none⟩),undef,.slice none 0 0,.bool false,.pointer (some ⟨G,0,none⟩),qv,u8,u9,u10,.agg #[.int .i64 n,.slice A0 E.length c0],.slice y o.length co,.slice (some ⟨go,0,none⟩) n c,.pointer (some ⟨w.heap.size,0,none⟩),.int .i64 n,.int .i64 i,u17,u18,u19,u20,u21,u22,u23,u24,u25,u26,u27,u28,u29,u30,u31,u32,u33,u34,u35,u36,u37,u38,u39,u40,u41,u42,u43,undef]) n ⟨undef,undef,undef,undef,undef,undef,undef,undef,undef,undef,undef,undef,undef,undef,undef,undef,undef,undef,undef,undef,undef,undef,undef,undef,undef,undef,undef,undef,undef,undef,L0,.slice none 0 0,[],0,q,⟨rfl⟩,Nat.zero_le _,Nat.le_of_eq aT.symm,⟨rfl⟩,rfl⟩ (G+1) (Nat.le_of_eq aT.symm) (cF.nil _ _ _) ?_;clear q aT;rintro gk tm wr ⟨u8,u9,u10,u17,u18,u19,u20,u21,u22,u23,u24,u25,u26,u27,u28,u29,u30,u31,u32,u33,u34,u35,u36,u37,u38,u39,u40,u41,u42,u43,L,qv,out,i,q,ap,hi,aT,HK,rfl⟩ ds b hb cj J K hJ hK;have aB:=zA cj;have HJ:=zA hJ;clear cj hJ;by_cases eg:i<n
 ·have bg:=vL ap.out
  have aF:L.length=n:=by rw[bg.1];exact a9.out
  have X:out.length=i:=bg.2;have fo:(0:Int)<=(i:Int):=by omega
  have fq:(i:Int)<(n:Int):=by omega
  obtain⟨-, -,hC⟩:=Kd.aN q.out.r;rw[aF] at hC;have aL:Aside0 (Calls Tryz.prog 126 #[.slice (some ⟨go,0,none⟩) n c,.int .i64 0] wr fun e w'=>e= .returned (.int .i64 (idxOf L 0))/\Below wr.heap.size wr w'):=⟨by subst aF;exact Dr _ c L 0 wr hC (by omega)⟩;have bi:=zA aF;have cl:=zA X;have bl:=zA (rj L 0);have Y:Aside0 (gv (dE S o S.length) L0 (i+1)=if idxOf L 0<0 then none else some (en (idxOf L 0) (L.set (idxOf L 0).toNat (-1)) (dE S o S.length),out++[idxOf L 0])):=⟨by show (gv (dE S o S.length) L0 i).bind _=_;rw[ap.out];rfl⟩;have y6:wr.cell? ⟨G,0,none⟩=some (.slice (some ⟨go,0,none⟩) n c):=(ah q.out.x 0).trans rfl;clear bg aF X hC;generalize idxOf L 0=v at aL bl Y;by_cases hv:v<0
  ·rw[if_pos hv] at Y
   have cq:=zA (Dw Y.out eg);clear hK;gi_wp2_with (refine⟨trivial,?_⟩;gi_at_call 126;refine(callsIn_wide.2 aL.out).mono ?_;rintro e P ⟨rfl,O⟩;have m:=zA ((q.out.below O).alloc (.cells #[.int .i64 v] 3));have aO:=zA ((aB.out.below O).below (ai (aj _ _) (.cells #[.int .i64 v] 3)));clear O)
   refine(pd aO.out fun w' aP=>?_).1;refine⟨_,results_tmp2 rfl _ _ _,.slice none 0 0,?_,?_,m.out.hb.trans (aP.gG.mono (by have:=m.out.ne;omega))⟩
   ·rw[cq.out];rfl
   ·rw[cq.out];exact Kd.df _ _ _ _ _
  ·rw[if_neg hv] at Y
   obtain⟨a,fr,rfl⟩:∃a:Nat,a<n/\v=a:=by
    rcases bl.out with⟨h, -⟩|⟨a,h1,h2, -⟩
    ·omega
    ·exact⟨a,by rw[<-bi.out];exact h1,h2⟩
   have el:(0:Int)<=(a:Int):=by omega
   have ft:(a:Int)<(n:Int):=by omega
   simp only[aD] at Y;clear bl;obtain⟨Ar,cr,cs⟩:=Kd.bh q.out.o;rw[cl.out] at cs;subst cs;have LN:Aside0 ((out.length+1)*8<=140737488355328):=⟨by rw[cl.out];omega⟩;gi_wp2_with (first|(refine⟨trivial,?_⟩;gi_at_call 127;refine(callsIn_wide.2 (vF n _ _ _ _ _)).mono ?_;rintro e w6 ⟨rfl,rfl⟩)|(refine⟨trivial,?_⟩;gi_at_call 126;refine(callsIn_wide.2 aL.out).mono ?_;rintro e P ⟨rfl,O⟩;have m:=zA ((q.out.below O).alloc (.cells #[.int .i64 a] 3));have cv:=zA (fun k hk=>Kd.a8 (q.out.below O).o k hk);have aO:=zA ((aB.out.below O).below (ai (aj _ _) (.cells #[.int .i64 a] 3)));have cx:=O.size;have bn:=zA (a6 P (.cells #[.int .i64 a] 3));clear O)|(gi_at_builtin;go_loud (refine kB (Kd.int .i64) (w0:=w) w.heap.size rfl (.tmp 22) (.tmp 24) 25 3 (.int .i64 0) 8 rfl Tryz.underlying25 il rfl (by decide) (by omega) (.slice Ar i cr) out (a:Int) [.int .i64 a] (fun k=>k≠go) (fun _=>False) rfl (by rw[World.size_alloc];rfl) rfl (fun _ hk=>hk.elim) (fun k hk=>by have:=Kd.a8 m.out.r go rfl;omega) m.out.o m.out.hb m.out.hb.size LN.out ?_;intro v1 I c1 hb U es;have H:Aside0 (SO w n A0 c0 E.length G go c L v1 (out++[(a:Int)]) I):=⟨hb,(U.block _ (ay m.out.g) (Kd.dm m.out.o m.out.g (by decide))).trans m.out.g,(U.block _ (ay m.out.x) (Kd.dm m.out.o m.out.x (by decide))).trans m.out.x,Kd.iB m.out.r U (fun k hk e=>by subst hk;exact m.out.o.1 k e.symm rfl),c1,m.out.ne⟩;have bo:=zA ((U.block _ (ay bn.out) (fun e=>by have:=cv.out _ e.symm;omega)).trans bn.out);have c2:=zA (aO.out.iI (w':=I) (fun D hD hd=>(U.block D (Array.getElem?_eq_some_iff.1 hd).1 (fun e=>by obtain⟨cells,hc⟩:=Kd.f_ m.out.o D e.symm;rw[hc] at hd;cases hd)).trans hd));have y8:I.cell? ⟨G,0,none⟩=some (.slice (some ⟨go,0,none⟩) n c):=(ah H.out.x 0).trans rfl;have y9:I.cell? ⟨P.heap.size,0,none⟩=some (.int .i64 a):=(ah bo.out 0).trans rfl;have f1:=U.size;obtain⟨c3,c4⟩:=Kd.bP (0:Int) H.out.r (a:Int) el (by first|omega|(rw[bi.out];omega));rw[aD] at c3 c4;have Q:=Kd.dg H.out.r (a:Int) (-1:Int);rw[aD] at Q;have Z:Aside0 (SO w n A0 c0 E.length G go c (L.set a (-1)) v1 (out++[(a:Int)]) (I.setCell ⟨go,a,none⟩ (.int .i64 (-1)))):=⟨Below.setCell (p:=⟨go,a,none⟩) H.out.hb (Nat.le_of_lt H.out.ne.2.2) _,(Below.heap_setCell _ _ _ _ (Nat.ne_of_lt H.out.ne.2.2)).trans H.out.g,(Below.heap_setCell _ _ _ _ H.out.ne.1).trans H.out.x,Q.1,Kd.iB H.out.o Q.2 (fun k hk e=>hk (by injection e)),H.out.ne⟩;have ey:(I.setCell ⟨go,a,none⟩ (.int .i64 (-1))).cell? ⟨w.heap.size,0,none⟩=some (.int .i64 n):=(ah Z.out.g 0).trans rfl;have e0:(I.setCell ⟨go,a,none⟩ (.int .i64 (-1))).cell? ⟨w.heap.size,1,none⟩=some (.slice A0 E.length c0):=(ah Z.out.g 1).trans rfl;clear c1 hb U es Q)))
   have c5:P.heap.size≠go:=by have:=Kd.a8 q.out.r go rfl;omega
   have ak:=zA ((Below.heap_setCell I ⟨go,a,none⟩ (.int .i64 (-1)) _ c5).trans bo.out);obtain⟨cells,aS⟩:=Kd.f_ H.out.r go rfl;have bq:=zA (c2.out.set (p:=⟨go,a,none⟩) aS (.int .i64 (-1)));have c6:P.heap.size<(I.setCell ⟨go,a,none⟩ (.int .i64 (-1))).heap.size:=ay ak.out;have e1:G<P.heap.size:=Nat.lt_of_lt_of_le (ay q.out.x) cx;have e2:b<=P.heap.size:=Nat.le_trans hb cx;have c7:=zA Y.out;clear y6 y8 y9 c3 c4 ey e0 q m H bn bo aB aO c2 cv aL aS;try rw[show I.heap.size=(I.setCell ⟨go,a,none⟩ (.int .i64 (-1))).heap.size by simp]
   generalize I.setCell ⟨go,a,none⟩ (.int .i64 (-1))=M at Z ak bq c6⊢;generalize P.heap.size=vb at ak c6 e1 e2 c5⊢;have c8:=zA (aq (a6 M (.cells #[.int .i64 n,.slice A0 E.length c0] 24)) (.cells #[.slice y o.length co] 43));have c9:=zA (heap_alloc2_new M (.cells #[.int .i64 n,.slice A0 E.length c0] 24) (.cells #[.slice y o.length co] 43));have aa:=zA ((Z.out.alloc (.cells #[.int .i64 n,.slice A0 E.length c0] 24)).alloc (.cells #[.slice y o.length co] 43));have c':=zA (aq (aq ak.out (.cells #[.int .i64 n,.slice A0 E.length c0] 24)) (.cells #[.slice y o.length co] 43));have dk:=zA ((bq.out.below (ai (aj _ _) (.cells #[.int .i64 n,.slice A0 E.length c0] 24))).below (ai (aj _ _) (.cells #[.slice y o.length co] 43)));have e3:=Nat.le_of_eq (show ((M.alloc (.cells #[.int .i64 n,.slice A0 E.length c0] 24)).alloc (.cells #[.slice y o.length co] 43)).heap.size=M.heap.size+2 by simp);have e4:=Nat.le_of_eq (show M.heap.size+2=((M.alloc (.cells #[.int .i64 n,.slice A0 E.length c0] 24)).alloc (.cells #[.slice y o.length co] 43)).heap.size by simp);have f2:go<M.heap.size:=Kd.a8 Z.out.r go rfl;clear Z ak bq;generalize ((M.alloc (.cells #[.int .i64 n,.slice A0 E.length c0] 24)).alloc (.cells #[.slice y o.length co] 43))=V at c8 c9 aa c' dk e3 e4⊢;generalize f3:out++[(a:Int)]=e5 at aa c7;have f4:=aa.out.ne;have f5:=aa.out.hb.size;refine gU (σ:=Unit) (α:=Int×Int) (F:=Fence.wide) (n:=10) rfl (by decide) (gf:=180) (lb:=#[.pointer (some ⟨M.heap.size,0,none⟩),.pointer (some ⟨M.heap.size+1,0,none⟩)]) rfl trivial (enters_of Tryz.func180 (by kernel_rfl) rfl)
    (fun dd=>vG M.heap.size (M.heap.size+1) k (V.heap.size+2) n A0 c0 E y co o S w _ b6 b_ b' ht hE hS d6.out cc (by simp) (ai (ai aa.out.hb _) _) (by omega) (aq (aq c8.out _) _) (aq (aq c9.out _) _)) (fun _=>rfl)
    (fun _=>True) ?dH ?st ?ar
    (fun _ pre W=>V.heap.size<=W.heap.size/\SO w n A0 c0 E.length G go c (en a (L.set a (-1)) pre) v1 e5 W/\W.heap[vb]? =some (.cells #[.int .i64 a] 3 (0,0))/\cF (G+1) b ds W) (fun _ _ _ _=>False)
    ?is (fun _ _ _ _ _ _ h _=>h) ?ib (fun _ _ _ _ _ h _=>h) ?kt ?h0 ?a1 ?assign ?body ?done (fun _ _ _ _ _ _ _ h=>h.elim)
   case assign=>
    intro l x W K hK;gi_wp2;exact hK
   case dH=>
    intro o s W1 h;exact⟨trivial,by rw[h];exact b8.refl _ _⟩
   case st=>intro s A B _ h;exact cS h
   case ar=>intro s x A B _ h;exact cS h.2
   case is=>
    rintro s pre A B _ ⟨hs,h1,h2,h3⟩ a0;exact⟨Nat.le_trans hs a0.size,h1.below a0,az h2 a0,h3.below a0⟩
   case ib=>
    rintro s pre A B ⟨hs,h1,h2,h3⟩ a2;exact⟨by rw[a2.size];exact hs,h1.bk a2 (by omega),a2.cells h2,h3.bk a2 (by omega)⟩
   case kt=>
    intro s A B C D a3 dl dv;refine⟨fun aT=>((a3.below w.heap.size (by omega)).trans (dl.1 (by rw[a3.size];exact aT))).trans (dv.below w.heap.size (by omega)),fun kb bx e6=>?_⟩;have dx:kb≠V.heap.size+1:=by omega
    exact(dv.heap _ dx).trans ((dl.2 kb bx (by rw[a3.size];exact e6)).trans (a3.heap _ dx))
   case h0=>
    rintro o s W1 rfl;exact⟨by simp;omega,(aa.out.alloc _).alloc _,aq (aq c'.out _) _,(dk.out.below (ai (aj _ _) _)).below (ai (aj _ _) _)⟩
   case body=>
    rintro l s' pre ⟨xv,xy⟩ Wb Wc W _ ⟨hs,i1,i2,i3⟩ ⟨⟨j,hj,hx⟩,an⟩ e_ T;obtain⟨tv,u,ga,gb,d3⟩:=d7.out.arrow hj (o.getD j false);rw[d3] at hx;injection hx with e' fb
    subst e' fb;have N:=zA ((i1.below an).bk T (by omega));have I2:=zA (T.cells (az i2 an));have I3:=zA ((i3.below an).bk T (by omega));have b1:V.heap.size<=W.heap.size:=by have:=T.size;have:=an.size;omega
    have d4:=zA (Dv a (L.set a (-1)) pre ((tv:Int),(u:Int)));have b2:=rl a (L.set a (-1)) pre;rw[List.length_set,bi.out] at b2;clear i1 i2 i3 an T e_ hs d3 hj;have z1:W.cell? ⟨G,0,none⟩=some (.slice (some ⟨go,0,none⟩) n c):=(ah N.out.x 0).trans rfl;have z0:W.cell? ⟨vb,0,none⟩=some (.int .i64 a):=(ah I2.out 0).trans rfl;have fd:(0:Int)<=(u:Int):=by omega
    have gc:(u:Int)<(n:Int):=by omega
    obtain⟨z2,z3⟩:=Kd.bP (0:Int) N.out.r (u:Int) fd (by first|omega|(rw[b2];omega));rw[aD] at z2 z3;rw[show bL 0 (en a (L.set a (-1)) pre) (u:Int)=rd (en a (L.set a (-1)) pre) (u:Int) from rfl] at z2;have Q:=Kd.dg N.out.r (u:Int) (wrap64 (rd (en a (L.set a (-1)) pre) (u:Int)-1));rw[aD] at Q;have b3:=zA Q;have b4:=d4.out;simp only[aD] at b4;have ad:=zA b4;clear Q d4 b4 b2;generalize rd (en a (L.set a (-1)) pre) (u:Int)=z at z2 b3 ad;replace z2:W.cell? ⟨go,u,none⟩=some (.int .i64 z):=z2;by_cases d5:(tv:Int)=(a:Int)
    ·rw[d5] at ad⊢
     rw[if_pos rfl] at ad;gi_wp2;obtain⟨cells,aS⟩:=Kd.f_ N.out.r go rfl;refine⟨eU _ _ (by show go<V.heap.size;omega),⟨fun _=>Below.setCell (p:=⟨go,u,none⟩) (aj _ _) (by show w.heap.size<=go;omega) _,fun kb bx _=>Below.heap_setCell _ _ _ _ (by show kb≠go;omega)⟩,by simpa using b1,?_,(Below.heap_setCell _ _ _ _ (by show vb≠go;omega)).trans I2.out,I3.out.set (p:=⟨go,u,none⟩) aS _⟩;rw[ad.out];exact⟨Below.setCell (p:=⟨go,u,none⟩) N.out.hb (by show w.heap.size<=go;omega) _,(Below.heap_setCell _ _ _ _ (by show w.heap.size≠go;omega)).trans N.out.g,(Below.heap_setCell _ _ _ _ (by show G≠go;omega)).trans N.out.x,b3.out.1,Kd.iB N.out.o b3.out.2 (fun k hk e=>hk (by injection e)),N.out.ne⟩
    ·rw[if_neg d5] at ad
     gi_wp2;refine⟨b8.refl _ _,⟨fun _=>aj _ _,fun kb bx _=>rfl⟩,b1,?_,I2.out,I3.out⟩;rw[ad.out];exact N.out
   case done=>
    rintro s' xs W W' _ rfl ⟨hs,i1,i2,i3⟩ T b5;have N:=zA (i1.bk T (by omega));have I3:=zA (i3.bk T (by omega));have fn:=zA b5;have b1:V.heap.size<W'.heap.size:=(Array.getElem?_eq_some_iff.1 b5).1;clear i1 i2 i3 b5;gi_wp2;exact kC.intro (n- (i+1)) (by rw[HK.out];omega) (HJ.out _ _ _ ⟨_,_,_,_,_,_,_,_,_,_,_,_,_,_,_,_,_,_,_,_,_,_,_,_,_,_,_,_,_,_,_,_,_,i+1,N,c7,by omega,by omega,⟨rfl⟩,rfl⟩) (V.heap.size+1) (by omega) (I3.out.push (by omega) (by omega) fn.out)
 ·obtain rfl:n=i:=by omega
  clear hK;gi_wp2;refine(pd aB.out fun w' aP=>?_).1;refine⟨_,results_tmp2 rfl _ _ _,qv,?_,?_,q.out.hb.trans (aP.gG.mono (by have:=q.out.ne;omega))⟩
  ·rw[ap.out];rfl
  ·rw[ap.out];exact Kd.a_ (aP.R q.out.o) (fun _ _=>trivial)
end
end Go.Proofs.YtffdiakgjakngaaGreat.P


namespace Go.Proofs.YtffdiakgjakngaaGreat.P
open Go.RowKit Go.Proofs.YtffdiakgjakngaaGreatW.PrintWords Go.Proofs.YtffdiakgjakngaaGreatW.PrintLast Go.Proofs.YtffdiakgjakngaaGreatW.PrintMore
set_option linter.unusedVariables false
set_option linter.unusedSimpArgs false
set_option maxHeartbeats 8000000
set_option maxRecDepth 100000
section
attribute [local go_sem] Oper.semAt_some
def gJ (L:List Int) (v:Nat):List Int:=((List.range v).filter fun u:Nat=>decide (rd L u=0)).map fun u:Nat=>(u:Int)
theorem Dy (L:List Int) (v:Nat):gJ L (v+1)=if rd L (v:Int)=0 then gJ L v++[(v:Int)] else gJ L v:=by
 unfold gJ;rw[List.range_succ,List.filter_append,List.map_append];by_cases h:rd L (v:Int)=0
 ·simp[h]
 ·simp[h]
theorem vM (L:List Int) (v:Nat):(gJ L v).length<=v:=by
 unfold gJ;rw[List.length_map];exact Nat.le_trans (List.length_filter_le _ _) (by simp)
theorem Dz (k n:Nat) (A0:Option Addr) (c0:Nat) (E:List S83) (j:Option Addr) (co:Nat) (o:List Bool) (S:List (Nat×Int×Int)) (w:World) (q:Kd.C aM w A0 E.length E) (r:E.length<=c0) (u:Kd.bool.C w j o.length o) (hn:n<=1000) (x:a7.f k n E=some 0) (y:dh E=true) (hS:bu E E.length=S) (B:o.length=S.length) (D:S.length<=1000000) (F:fj n S):
  Calls Tryz.prog 69 #[.agg #[.int .i64 n,.slice A0 E.length c0],.slice j o.length co] w fun e w'=>∃v,e= .returned v/\(Kd.int .i64).R 3 w' w.heap.size (fun _=>True) v (gJ (cB n S o) n)/\Below w.heap.size w w':=by
 have hu:=Tryz.underlying24;have G:Aside0 (∀W,Below w.heap.size w W->Calls Tryz.prog 71 #[.agg #[.int .i64 n,.slice A0 E.length c0],.slice j o.length co] W fun e w'=>∃go c,e= .returned (.slice (some ⟨go,0,none⟩) n c)/\(Kd.int .i64).R 3 w' W.heap.size (fun _=>True) (.slice (some ⟨go,0,none⟩) n c) (cB n S o)/\Below W.heap.size W w'):=⟨fun W H=>ri k n A0 c0 E j co o S W (Kd.ax q H) r (Kd.ax u H) hn x y hS B D F⟩;have m:=zA (nF n (dE S o S.length));rw[show fP n (dE S o S.length)=cB n S o from rfl] at m;clear q u x y hS B D F r;generalize cB n S o=L at G m⊢;refine(callsIn_wide (n:=10)).1 ?_;refine callsIn_of_wp Tryz.func69 rfl trivial ?_ rfl;simp only[Tryz.ntmps69,List.size_toArray,List.length_cons,List.length_nil,Nat.reduceAdd,Nat.reduceSub,Array.replicate_succ,Array.replicate_zero,List.push_toArray,List.append_toArray,List.nil_append,List.cons_append];gi_wp2_with (refine⟨trivial,?_⟩;gi_at_call 71;refine(callsIn_wide.2 (G.out _ (ai (aj _ _) _))).mono ?_;rintro e w3 ⟨go,c,rfl,p,I⟩;have a:=zA (Kd.gD rfl (Kd.bc (base':=w.heap.size) p (by simp)));have b:=zA (aQ (ai (aj w.heap.size w) _) I);have ad:w.heap.size<=go:=Nat.le_trans (by simp) ((Kd.dJ p).1 go rfl).2.1;clear p I)
 gi_loopg [5,12] (n) (fun P s i wr=>∃v:Nat,i= .int .i64 v/\v<=n/\Aside0 ((Kd.int .i64).R 3 wr w.heap.size (fun k=>k=go) (.slice (some ⟨go,0,none⟩) n c) L)/\Aside0 ((Kd.int .i64).R 3 wr w.heap.size (fun k=>k≠go) s (gJ L v))/\Aside0 (Below w.heap.size w wr)/\Aside0 (P=n-v))
 case atStart=>exact⟨0,rfl,Nat.zero_le _,⟨Kd.a_ a.out (fun k hk=>by simpa [Value.ownBlock] using hk)⟩,⟨Kd.df _ _ _ _ _⟩,b,⟨rfl⟩⟩
 case round=>
  clear a b;obtain⟨v,rfl,hv,a,g,b,J⟩:=hrel;by_cases ak:v<n
  ·have Q:(0:Int)<=(v:Int):=by omega
   have am:(v:Int)<(n:Int):=by omega
   have h:=zA (Dy L v);have T:=zA (vM L v);have l:=(Kd.bP (0:Int) a.out (v:Int) Q (by first|omega|(rw[m.out];omega))).1;rw[show bL 0 L (v:Int)=rd L (v:Int) from rfl,aD] at l;obtain⟨z,K⟩:∃z,z=rd L (v:Int):=⟨_,rfl⟩;rw[<-K] at l h;clear K;replace l:wr.cell? ⟨go,v,none⟩=some (.int .i64 z):=l;by_cases M:z=0
   ·subst M
    rw[if_pos rfl] at h;obtain⟨U,cr,rfl⟩:=Kd.bh g.out;have V:Aside0 (((gJ L v).length+1)*8<=140737488355328):=⟨by have:=T.out;omega⟩;have X:Aside0 (∀k,wr.heap.size<=k->k≠go):=⟨fun k hk=>by have:=Kd.a8 a.out go rfl;omega⟩;gi_wp2_with (gi_at_builtin;go_loud (refine kB (Kd.int .i64) (w0:=w) w.heap.size rfl (.tmp 19) (.tmp 21) 25 3 (.int .i64 0) 8 rfl Tryz.underlying25 il rfl (by decide) (by omega) (.slice U (gJ L v).length cr) (gJ L v) (v:Int) [.int .i64 v] (fun k=>k≠go) (fun _=>False) rfl rfl rfl (fun _ hk=>hk.elim) X.out g.out b.out b.out.size V.out ?_;intro v1 an N hb O Y;have Z:=zA N;have aa:=zA hb;have ab:=zA (Kd.iB a.out O (fun k hk e=>by subst hk;exact g.out.1 k e.symm rfl));clear N hb O Y))
    gi_roundg (n- (v+1))
    case measure=>rw[J.out];omega
    case rel=>exact⟨v+1,by go_num,by omega,ab,⟨by rw[h.out];exact Z.out⟩,aa,⟨rfl⟩⟩
   ·rw[if_neg M] at h
    gi_wp2;gi_roundg (n- (v+1))
    case measure=>rw[J.out];omega
    case rel=>exact⟨v+1,by go_num,by omega,a,⟨by rw[h.out];exact g.out⟩,b,⟨rfl⟩⟩
  ·obtain rfl:n=v:=by omega
   gi_wp2;refine bodyPost_ret (results_tmp rfl _ _ _) rfl ?_;exact⟨_,rfl,Kd.a_ g.out (fun _ _=>trivial),b.out⟩
end
section
attribute [local go_sem] Oper.semAt_some
theorem vN (k:Nat) (N:Int) (A0:Option Addr) (c0:Nat) (E:List S83) (S:List (Nat×Int×Int)) (w:World) (a:Kd.C aM w A0 E.length E) (b:E.length<=c0) (g:a7.f k N E=some 0) (h:dh E=true) (hS:bu E E.length=S):
  Calls Tryz.prog 123 #[.agg #[.int .i64 N,.slice A0 E.length c0]] w fun e w'=>e= .returned (.tuple #[.int .i64 S.length,.int .i64 0])/\Below w.heap.size w w':=by
 have hu:=Tryz.underlying24;have i:Aside0 (∀W,Below w.heap.size w W->_):=⟨fun W o=>qU k N A0 c0 E W (Kd.ax a o) b g h⟩;rw[hS] at i;clear a g h hS b;refine(callsIn_wide (n:=10)).1 ?_;refine callsIn_of_wp Tryz.func123 rfl trivial ?_ rfl;simp only[Tryz.ntmps123,List.size_toArray,List.length_cons,List.length_nil,Nat.reduceAdd,Nat.reduceSub,Array.replicate_succ,Array.replicate_zero,List.push_toArray,List.append_toArray,List.nil_append,List.cons_append];gi_wp2_with (refine⟨trivial,?_⟩;gi_at_call 178;refine(callsIn_wide.2 (i.out _ (ai (aj _ _) _))).mono ?_;rintro e w3 ⟨v9,rfl,j,l⟩;obtain⟨q,r,m⟩:=Kd.bh j;rw[nC] at m;subst m;have p:=zA (aQ (ai (aj w.heap.size w) _) l);clear j l)
 go_ret2;exact⟨rfl,p.out⟩
theorem DA (k:Nat) (N:Int) (A0:Option Addr) (c0:Nat) (E:List S83) (j:Option Addr) (m co:Nat) (S:List (Nat×Int×Int)) (w:World) (a:Kd.C aM w A0 E.length E) (b:E.length<=c0) (g:a7.f k N E=some 0) (h:dh E=true) (hS:bu E E.length=S) (hm:m=S.length):
  Calls Tryz.prog 70 #[.agg #[.int .i64 N,.slice A0 E.length c0],.slice j m co] w fun e w'=>e= .returned (.int .i64 0)/\Below w.heap.size w w':=by
 have hu:=Tryz.underlying24;have l:Aside0 (∀W,Below w.heap.size w W->_):=⟨fun W o=>vN k N A0 c0 E S W (Kd.ax a o) b g h hS⟩;clear a g h hS b;subst hm;refine(callsIn_wide (n:=10)).1 ?_;refine callsIn_of_wp Tryz.func70 rfl trivial ?_ rfl;simp only[Tryz.ntmps70,List.size_toArray,List.length_cons,List.length_nil,Nat.reduceAdd,Nat.reduceSub,Array.replicate_succ,Array.replicate_zero,List.push_toArray,List.append_toArray,List.nil_append,List.cons_append];gi_wp2_with (refine⟨trivial,?_⟩;gi_at_call 123;refine(callsIn_wide.2 (l.out _ (ai (aj _ _) _))).mono ?_;rintro e w3 ⟨rfl,i⟩;have p:=zA (aQ (ai (aj w.heap.size w) _) i);clear i)
 go_ret;exact⟨rfl,p.out⟩
def dp (L:List Int) (n v:Nat):List Int:=(List.range n).map fun u:Nat=>if u<v then wrap64 (rd L u-1) else rd L u
theorem rp (L:List Int) (n v:Nat):(dp L n v).length=n:=by simp[dp]
theorem DB {L:List Int} {n:Nat} (h:L.length=n):dp L n 0=L:=by
 refine List.ext_getElem (by simp[dp,h]) fun i h1 a=>?_
 simp[dp,rd,aW,bp a]
theorem DC {L:List Int} {n v:Nat} (h:v<n):rd (dp L n v) (v:Int)=rd L (v:Int):=by
 simp[dp,rd,aW,List.getElem?_map,List.getElem?_range,h]
theorem DD {L:List Int} {n v:Nat} (a:v<n):(dp L n v).set v (wrap64 (rd L v-1))=dp L n (v+1):=by
 unfold dp;refine List.ext_getElem (by simp) fun i h1 b=>?_
 rw[List.getElem_set];simp only[List.getElem_map,List.getElem_range];by_cases e:v=i
 ·subst e;simp
 ·rw[if_neg e]
  by_cases h:i<v
  ·rw[if_pos h,if_pos (by omega)]
  ·rw[if_neg h,if_neg (by omega)]
theorem DE (k n:Nat) (A0:Option Addr) (c0:Nat) (E:List S83) (b:Option Addr) (co:Nat) (o:List Bool) (S:List (Nat×Int×Int)) (w:World) (m:Kd.C aM w A0 E.length E) (q:E.length<=c0) (G:Kd.bool.C w b o.length o) (hn:n<=1000) (r:a7.f k n E=some 0) (s:dh E=true) (hS:bu E E.length=S) (u:o.length=S.length) (H:S.length<=1000000) (I:fj n S):
  Calls Tryz.prog 20 #[.agg #[.int .i64 n,.slice A0 E.length c0],.slice b o.length co] w fun e w'=>∃go c,e= .returned (.tuple #[.slice (some ⟨go,0,none⟩) n c,.int .i64 0])/\(Kd.int .i64).R 3 w' w.heap.size (fun _=>True) (.slice (some ⟨go,0,none⟩) n c) (dp (cB n S o) n n)/\Below w.heap.size w w':=by
 have hu:=Tryz.underlying24;have J:Aside0 (∀W,Below w.heap.size w W->Calls Tryz.prog 71 #[.agg #[.int .i64 n,.slice A0 E.length c0],.slice b o.length co] W fun e w'=>∃go c,e= .returned (.slice (some ⟨go,0,none⟩) n c)/\(Kd.int .i64).R 3 w' W.heap.size (fun _=>True) (.slice (some ⟨go,0,none⟩) n c) (cB n S o)/\Below W.heap.size W w'):=⟨fun W j=>ri k n A0 c0 E b co o S W (Kd.ax m j) q (Kd.ax G j) hn r s hS u H I⟩;have O:Aside0 (∀W,Below w.heap.size w W->_):=⟨fun W j=>DA k n A0 c0 E b o.length co S W (Kd.ax m j) q r s hS u⟩;have x:=zA (nF n (dE S o S.length));rw[show fP n (dE S o S.length)=cB n S o from rfl] at x;clear m G r s hS u H I q;generalize cB n S o=L at J x⊢;refine(callsIn_wide (n:=10)).1 ?_;refine callsIn_of_wp Tryz.func20 rfl trivial ?_ rfl;simp only[Tryz.ntmps20,List.size_toArray,List.length_cons,List.length_nil,Nat.reduceAdd,Nat.reduceSub,Array.replicate_succ,Array.replicate_zero,List.push_toArray,List.append_toArray,List.nil_append,List.cons_append];gi_wp2_with (first|(refine⟨trivial,?_⟩;gi_at_call 70;refine(callsIn_wide.2 (O.out _ (ai (aj _ _) _))).mono ?_;rintro e w2 ⟨rfl,y⟩;have B:=zA (az (a6 w (.cells #[.int .i64 n,.slice A0 E.length c0] 24)) y);have g:=zA (aQ (ai (aj w.heap.size w) _) y);have P:w2.cell? ⟨w.heap.size,0,none⟩=some (.int .i64 n):=(ah B.out 0).trans rfl;have Q:w2.cell? ⟨w.heap.size,1,none⟩=some (.slice A0 E.length c0):=(ah B.out 1).trans rfl;clear y)|(refine⟨trivial,?_⟩;gi_at_call 71;refine(callsIn_wide.2 (J.out _ g.out)).mono ?_;rintro e w3 ⟨go,c,rfl,D,K⟩;have a:=zA (Kd.bc (base':=w.heap.size) D g.out.size);have h:=zA (aQ g.out K);have T:w.heap.size<=go:=Nat.le_trans g.out.size ((Kd.dJ D).1 go rfl).2.1;clear D K P Q))
 clear B g;gi_loopg [20] (n) (fun U i wr=>∃v:Nat,i= .int .i64 v/\v<=n/\Aside0 ((Kd.int .i64).R 3 wr w.heap.size (fun _=>True) (.slice (some ⟨go,0,none⟩) n c) (dp L n v))/\Aside0 (Below w.heap.size w wr)/\Aside0 (U=n-v))
 case atStart=>exact⟨0,rfl,Nat.zero_le _,⟨by rw[DB x.out];exact a.out⟩,h,⟨rfl⟩⟩
 case round=>
  clear a h;obtain⟨v,rfl,hv,a,h,V⟩:=hrel;by_cases M:v<n
  ·have X:(0:Int)<=(v:Int):=by omega
   have ab:(v:Int)<(n:Int):=by omega
   have N:=zA (DD (L:=L) M);obtain⟨l,Y⟩:=Kd.bP (0:Int) a.out (v:Int) X (by first|omega|(rw[rp];omega));rw[show bL 0 (dp L n v) (v:Int)=rd (dp L n v) (v:Int) from rfl,DC M,aD] at l;rw[aD] at Y;generalize rd L (v:Int)=z at l N;have F:=Kd.dg a.out (v:Int) (wrap64 (z-1));rw[aD,N.out] at F;have Z:=zA F.1;clear F;replace l:wr.cell? ⟨go,v,none⟩=some (.int .i64 z):=l;gi_wp2;gi_roundg (n- (v+1))
   case measure=>rw[V.out];omega
   case rel=>exact⟨v+1,by go_num,by omega,Z,⟨Below.setCell (p:=⟨go,v,none⟩) h.out T _⟩,⟨rfl⟩⟩
  ·obtain rfl:n=v:=by omega
   gi_wp2;go_ret2;exact⟨_,_,rfl,a.out,h.out⟩
end
end Go.Proofs.YtffdiakgjakngaaGreat.P
namespace Go.Proofs.YtffdiakgjakngaaGreat.T
set_option linter.unusedVariables false
set_option linter.unusedSimpArgs false
set_option maxHeartbeats 8000000
set_option maxRecDepth 100000
def sN (f:Nat->Int):Nat->Int
 |0=>0
 |n+1=>sN f n+f n
theorem eF (f:Nat->Int) (n:Nat):sN f (n+1)=sN f n+f n:=rfl
theorem bK {f g:Nat->Int}:∀{n:Nat},(∀u,u<n->f u=g u)->sN f n=sN g n
 |0,_=>rfl
 |n+1,h=>by rw[eF,eF,bK (n:=n) (fun u hu=>h u (by omega)),h n (by omega)]
theorem cZ {f g:Nat->Int}:∀{n:Nat},(∀u,u<n->f u<=g u)->sN f n<=sN g n
 |0,_=>Int.le_refl _
 |n+1,h=>by
  have h1:=cZ (n:=n) (fun u hu=>h u (by omega));have a:=h n (by omega);rw[eF,eF];omega
theorem kH:∀(n:Nat),sN (fun _=>0) n=0
 |0=>rfl
 |n+1=>by rw[eF,kH n];rfl
theorem gK {f:Nat->Int} {n:Nat} (h:∀u,u<n->f u=0):sN f n=0:=(bK h).trans (kH n)
theorem dR {f:Nat->Int} {n:Nat} (h:∀u,u<n->0<=f u):0<=sN f n:=by
 have:=cZ (f:=fun _=>0) (g:=f) (n:=n) h;rw[kH] at this;exact this
theorem dF (f g:Nat->Int):∀n:Nat,sN (fun v=>f v+g v) n=sN f n+sN g n
 |0=>rfl
 |n+1=>by rw[eF,eF,eF,dF f g n];omega
theorem dB (f g:Nat->Int):∀n:Nat,sN (fun v=>f v-g v) n=sN f n-sN g n
 |0=>rfl
 |n+1=>by rw[eF,eF,eF,dB f g n];omega
theorem nG (f:Nat->Int):∀n:Nat,sN (fun v=> -f v) n= -sN f n
 |0=>rfl
 |n+1=>by rw[eF,eF,nG f n];omega
theorem fk (c:Int) (f:Nat->Int):∀n:Nat,sN (fun v=>c*f v) n=c*sN f n
 |0=>by simp[sN]
 |n+1=>by rw[eF,eF,fk c f n,Int.mul_add]
theorem iw (c:Int):∀n:Nat,sN (fun _=>c) n=n*c
 |0=>by simp[sN]
 |n+1=>by rw[eF,iw c n,Int.natCast_add,Int.add_mul];simp
theorem nH (f:Nat->Nat->Int) (m:Nat):∀n:Nat,sN (fun v=>sN (fun u=>f v u) m) n=sN (fun u=>sN (fun v=>f v u) n) m
 |0=>by show (0:Int)=sN (fun u=>0) m;rw[kH]
 |n+1=>by
  rw[eF,nH f m n,<-dF];exact bK fun u _=>rfl
theorem jH {f:Nat->Int} {v:Nat}:∀{n:Nat},v<n->(∀u,u<n->u≠v->f u=0)->sN f n=f v
 |0,h,_=>by omega
 |n+1,h,a=>by
  rw[eF];by_cases e:v=n
  ·subst e
   rw[gK fun u hu=>a u (by omega) (by omega)];omega
  ·rw[jH (n:=n) (by omega) fun u hu b=>a u (by omega) b,a n (by omega) (fun h=>e h.symm)];omega
theorem vO {f g:Nat->Int}:∀{n:Nat},(∀u,u<n->f u<=g u)->sN f n=sN g n->∀u,u<n->f u=g u
 |0,_,_,u,hu=>by omega
 |n+1,h,he,u,hu=>by
  have h1:=cZ (n:=n) (fun u hu=>h u (by omega));have a:=h n (by omega);rw[eF,eF] at he;by_cases e:u=n
  ·subst e;omega
  ·exact vO (n:=n) (fun u hu=>h u (by omega)) (by omega) u (by omega)
theorem iM {f:Nat->Int} {n v:Nat} (a:v<n) (h:∀u,u<n->0<=f u):f v<=sN f n:=by
 have h1:sN (fun u=>if u=v then f v else 0) n=f v:=by
  rw[jH (f:=fun u=>if u=v then f v else 0) a (fun u _ hu=>if_neg hu)];exact if_pos rfl
 rw[<-h1];refine cZ fun u hu=>?_
 show (if u=v then f v else 0)<=f u
 by_cases e:u=v
 ·subst e;rw[if_pos rfl];exact Int.le_refl _
 ·rw[if_neg e];exact h u hu
theorem rr (s:Nat->Int):∀{n:Nat},0<n->∃v,v<n/\∀u,u<n->s u<=s v
 |0,h=>by omega
 |1,_=>⟨0,by omega,fun u hu=>by
   obtain rfl:u=0:=by omega
   exact Int.le_refl _⟩
 |n+2,_=>by
  obtain⟨v,b,h⟩:=rr s (n:=n+1) (by omega);by_cases a:s (n+1)<=s v
  ·exact⟨v,by omega,fun u hu=>by
    by_cases e:u=n+1
    ·subst e;exact a
    ·exact h u (by omega)⟩
  ·exact⟨n+1,by omega,fun u hu=>by
    by_cases e:u=n+1
    ·subst e;exact Int.le_refl _
    ·have:=h u (by omega);omega⟩
theorem exists_least {P:Nat->Prop} (f:Nat->Nat) (h:∃v,P v):∃v,P v/\∀u,P u->f v<=f u:=by
 obtain⟨v,a⟩:=h;have key:∀(k:Nat) (v:Nat),f v<=k->P v->∃v,P v/\∀u,P u->f v<=f u:=by
  intro k;induction k with
  |zero=>intro v hk a;exact⟨v,a,fun u _=>by omega⟩
  |succ k g=>
   intro v hk a;by_cases b:∃u,P u/\f u<f v
   ·obtain⟨u,hu,e⟩:=b
    exact g u (by omega) hu
   ·exact⟨v,a,fun u hu=>by
     by_cases e:f u<f v
     ·exact absurd ⟨u,hu,e⟩ b
     ·omega⟩
 exact key (f v) v (Nat.le_refl _) a
theorem DF {P:Nat->Prop} (h:∃k,P k):∃k,P k/\∀j,P j->k<=j:=exists_least id h
structure Wt (n:Nat) (t:Nat->Nat->Int):Prop where
 pos:∀u v,0<=t u v
 sym:∀u v,t u v=t v u
 self:∀v,t v v=0
def aY (n:Nat) (t:Nat->Nat->Int) (s:Nat->Int) (v:Nat):Int:=sN (fun u=>t v u*(s v-s u)) n
theorem lJ (n:Nat) (t:Nat->Nat->Int) (s r:Nat->Int) (v:Nat):aY n t (fun u=>s u+r u) v=aY n t s v+aY n t r v:=by
 unfold aY;rw[<-dF];refine bK fun u _=>?_
 rw[<-Int.mul_add];congr 1;show s v+r v- (s u+r u)=_;omega
theorem mu (n:Nat) (t:Nat->Nat->Int) (s:Nat->Int) (v:Nat):aY n t (fun u=> -s u) v= -aY n t s v:=by
 unfold aY;rw[<-nG];refine bK fun u _=>?_
 rw[<-Int.mul_neg];congr 1;show -s v- -s u=_;omega
theorem mw (n:Nat) (t:Nat->Nat->Int) (s r:Nat->Int) (v:Nat):aY n t (fun u=>s u-r u) v=aY n t s v-aY n t r v:=by
 unfold aY;rw[<-dB];refine bK fun u _=>?_
 rw[<-Int.mul_sub];congr 1;show s v-r v- (s u-r u)=_;omega
theorem vP (n:Nat) (t:Nat->Nat->Int) (c:Int) (s:Nat->Int) (v:Nat):aY n t (fun u=>c*s u) v=c*aY n t s v:=by
 unfold aY;rw[<-fk];refine bK fun u _=>?_
 rw[<-Int.mul_sub,Int.mul_left_comm]
theorem my {n:Nat} {t:Nat->Nat->Int} {s r:Nat->Int} (h:∀u,u<n->s u=r u) {v:Nat} (a:v<n):aY n t s v=aY n t r v:=by
 unfold aY;refine bK fun u hu=>?_
 rw[h u hu,h v a]
theorem kI (n:Nat) (t:Nat->Nat->Int) (c:Int) (v:Nat):aY n t (fun _=>c) v=0:=by
 unfold aY;exact gK fun u _=>by rw[Int.sub_self,Int.mul_zero]
theorem DG {n:Nat} {t:Nat->Nat->Int} (a:Wt n t) (s h:Nat->Int):sN (fun v=>h v*aY n t s v) n=sN (fun v=>s v*aY n t h v) n:=by
 have b:sN (fun v=>h v*aY n t s v) n=sN (fun v=>h v*s v*sN (fun u=>t v u) n) n-sN (fun v=>sN (fun u=>h v*t v u*s u) n) n:=by
  rw[<-dB];refine bK fun v _=>?_
  unfold aY;rw[<-fk,<-fk,<-dB];refine bK fun u _=>?_
  rw[Int.mul_sub,Int.mul_sub];congr 1
  ·rw[Int.mul_comm (t v u),<-Int.mul_assoc]
  ·rw[<-Int.mul_assoc]
 have e2:sN (fun v=>s v*aY n t h v) n=sN (fun v=>s v*h v*sN (fun u=>t v u) n) n-sN (fun v=>sN (fun u=>s v*t v u*h u) n) n:=by
  rw[<-dB];refine bK fun v _=>?_
  unfold aY;rw[<-fk,<-fk,<-dB];refine bK fun u _=>?_
  rw[Int.mul_sub,Int.mul_sub];congr 1
  ·rw[Int.mul_comm (t v u),<-Int.mul_assoc]
  ·rw[<-Int.mul_assoc]
 rw[b,e2];congr 1
 ·exact bK fun v _=>by rw[Int.mul_comm (h v)]
 ·rw[nH]
  refine bK fun u _=>bK fun v _=>?_
  rw[a.sym v u,Int.mul_comm (h v),Int.mul_comm _ (s u),Int.mul_assoc]
theorem nI {n:Nat} {t:Nat->Nat->Int} (a:Wt n t) (s:Nat->Int):sN (fun v=>aY n t s v) n=0:=by
 have h:=DG a s (fun _=>1);rw[gK (f:=fun v=>s v*aY n t (fun _=>1) v) fun v _=>by rw[kI,Int.mul_zero]] at h;rw[<-h];exact bK fun v _=>by rw[Int.one_mul]
def bT (n:Nat) (t:Nat->Nat->Int) (D D':Nat->Int):Prop:=∃s:Nat->Int,∀v,v<n->D' v=D v-aY n t s v
theorem bT.refl (n:Nat) (t:Nat->Nat->Int) (D:Nat->Int):bT n t D D:=⟨fun _=>0,fun v _=>by rw[kI];omega⟩
theorem bT.of_eq {n:Nat} {t:Nat->Nat->Int} {D D':Nat->Int} (h:∀v,v<n->D' v=D v):bT n t D D':=⟨fun _=>0,fun v a=>by rw[kI,h v a];omega⟩
theorem bT.symm {n:Nat} {t:Nat->Nat->Int} {D D':Nat->Int} (h:bT n t D D'):bT n t D' D:=by
 obtain⟨s,h⟩:=h;exact⟨fun u=> -s u,fun v a=>by rw[mu,h v a];omega⟩
theorem bT.trans {n:Nat} {t:Nat->Nat->Int} {D D' b:Nat->Int} (h:bT n t D D') (a:bT n t D' b):bT n t D b:=by
 obtain⟨s,h⟩:=h;obtain⟨r,a⟩:=a;exact⟨fun u=>s u+r u,fun v e=>by rw[lJ,a v e,h v e];omega⟩
theorem bT.add {n:Nat} {t:Nat->Nat->Int} {D D' F a:Nat->Int} (h:bT n t D D') (b:bT n t F a):bT n t (fun v=>D v+F v) (fun v=>D' v+a v):=by
 obtain⟨s,h⟩:=h;obtain⟨r,b⟩:=b;exact⟨fun u=>s u+r u,fun v e=>by show D' v+a v=D v+F v-_;rw[lJ,b v e,h v e];omega⟩
theorem bT.neg {n:Nat} {t:Nat->Nat->Int} {D D':Nat->Int} (h:bT n t D D'):bT n t (fun v=> -D v) (fun v=> -D' v):=by
 obtain⟨s,h⟩:=h;exact⟨fun u=> -s u,fun v a=>by show -D' v= -D v-_;rw[mu,h v a];omega⟩
theorem bT.bd {n:Nat} {t:Nat->Nat->Int} (a:Wt n t) {D D':Nat->Int} (h:bT n t D D'):sN D' n=sN D n:=by
 obtain⟨s,h⟩:=h;rw[bK h,dB,nI a];omega
def ph (n:Nat) (D:Nat->Int):Prop:=∀v,v<n->0<=D v
def cn (n:Nat) (t:Nat->Nat->Int) (D:Nat->Int):Prop:=∃D',bT n t D D'/\ph n D'
theorem cn.fQ {n:Nat} {t:Nat->Nat->Int} {D D':Nat->Int} (h:bT n t D D') (hw:cn n t D):cn n t D':=by
 obtain⟨F,h1,a⟩:=hw;exact⟨F,h.symm.trans h1,a⟩
theorem DH {n:Nat} {t:Nat->Nat->Int} {D D':Nat->Int} (h:bT n t D D'):cn n t D↔cn n t D':=⟨cn.fQ h,cn.fQ h.symm⟩
theorem cn.mono {n:Nat} {t:Nat->Nat->Int} {D D':Nat->Int} (hw:cn n t D) (h:∀v,v<n->D v<=D' v):cn n t D':=by
 obtain⟨F,⟨s,h1⟩,b⟩:=hw;exact⟨fun v=>D' v-aY n t s v,⟨s,fun v _=>rfl⟩,fun v a=>by have:=b v a;have:=h1 v a;have:=h v a;show 0<=D' v-aY n t s v;omega⟩
theorem cn.add {n:Nat} {t:Nat->Nat->Int} {D F:Nat->Int} (h1:cn n t D) (g:cn n t F):cn n t (fun v=>D v+F v):=by
 obtain⟨D',a,b⟩:=h1;obtain⟨h,c,d⟩:=g;exact⟨_,a.add c,fun v e=>by have:=b v e;have:=d v e;show 0<=D' v+h v;omega⟩
theorem cn.pk {n:Nat} {t:Nat->Nat->Int} {D:Nat->Int} (h:ph n D):cn n t D:=⟨D,bT.refl _ _ _,h⟩
theorem cn.bd {n:Nat} {t:Nat->Nat->Int} (e:Wt n t) {D:Nat->Int} (h:cn n t D):0<=sN D n:=by
 obtain⟨D',a,b⟩:=h;rw[<-a.bd e];exact dR b
def eo (n:Nat) (t:Nat->Nat->Int) (pos:Nat->Nat) (v:Nat):Int:=sN (fun u=>if pos u<pos v then t v u else 0) n
def val (n:Nat) (t:Nat->Nat->Int) (v:Nat):Int:=sN (fun u=>t v u) n
def nu (n:Nat) (t:Nat->Nat->Int) (pos:Nat->Nat) (v:Nat):Int:=eo n t pos v-1
theorem DJ {n:Nat} {t:Nat->Nat->Int} (a:Wt n t) (hn:0<n) (pos:Nat->Nat) (s:Nat->Int):∃v,v<n/\nu n t pos v-aY n t s v<0:=by
 obtain⟨m,hm,b⟩:=rr s hn;obtain⟨v,⟨g,j⟩,i⟩:=exists_least (P:=fun v=>v<n/\s v=s m) pos ⟨m,hm,rfl⟩;refine⟨v,g,?_⟩;unfold nu eo aY;have:sN (fun u=>if pos u<pos v then t v u else 0) n<=sN (fun u=>t v u*(s v-s u)) n:=by
  refine cZ fun u hu=>?_
  have hp:=a.pos v u;have k:=b u hu;by_cases e:pos u<pos v
  ·show (if pos u<pos v then t v u else 0)<=_
   rw[if_pos e];have l:s u≠s m:=fun h=>by have:=i u ⟨hu,h⟩;omega
   have h1:1<=s v-s u:=by omega
   have:=Int.mul_le_mul_of_nonneg_left h1 hp;rw[Int.mul_one] at this;exact this
  ·show (if pos u<pos v then t v u else 0)<=_
   rw[if_neg e];exact Int.mul_nonneg hp (by omega)
 omega
theorem ru {n:Nat} {t:Nat->Nat->Int} (b:Wt n t) (hn:0<n) (pos:Nat->Nat):¬cn n t (nu n t pos):=by
 rintro⟨D',⟨s,h1⟩,e⟩;obtain⟨v,a,h⟩:=DJ b hn pos s;have:=h1 v a;have:=e v a;omega
def eW (n:Nat) (pos:Nat->Nat):Prop:=∀u v,u<n->v<n->pos u=pos v->u=v
theorem vQ {n:Nat} {t:Nat->Nat->Int} (b:Wt n t) {pos pos':Nat->Nat} (hi:eW n pos) (g:∀u v,u<n->v<n->(pos' u<pos' v↔pos v<pos u)) {v:Nat} (a:v<n):eo n t pos v+eo n t pos' v=val n t v:=by
 unfold eo val;rw[<-dF];refine bK fun u hu=>?_
 have h1:=g u v hu a;by_cases e:pos u<pos v
 ·rw[if_pos e,if_neg (by rw[h1];omega)];omega
 ·by_cases e2:pos v<pos u
  ·rw[if_neg e,if_pos (h1.2 e2)];omega
  ·rw[if_neg e,if_neg (fun h=>e2 (h1.1 h))]
   have:=hi u v hu a (by omega);subst this;rw[b.self];rfl
theorem vR (n:Nat) (pos:Nat->Nat):∃pos':Nat->Nat,∀u v,u<n->v<n->(pos' u<pos' v↔pos v<pos u):=by
 obtain⟨B,a⟩:∃B,∀u,u<n->pos u<=B:=by
  induction n with
  |zero=>exact⟨0,fun u hu=>by omega⟩
  |succ n b=>
   obtain⟨B,a⟩:=b;exact⟨max B (pos n),fun u hu=>by
    by_cases e:u=n
    ·subst e;exact Nat.le_max_right _ _
    ·exact Nat.le_trans (a u (by omega)) (Nat.le_max_left _ _)⟩
 refine⟨fun u=>B-pos u,fun u v hu g=>?_⟩;have:=a u hu;have:=a v g;show B-pos u<B-pos v↔_
 omega
theorem DK {n:Nat} {pos pos':Nat->Nat} (hi:eW n pos) (b:∀u v,u<n->v<n->(pos' u<pos' v↔pos v<pos u)):eW n pos':=by
 intro u v hu a he;have h1:=b u v hu a;have e:=b v u a hu;refine hi u v hu a ?_;omega
theorem DL {n:Nat} {t:Nat->Nat->Int} (a:Wt n t) {pos pos':Nat->Nat} (b:∀u v,u<n->v<n->(pos' u<pos' v↔pos v<pos u)):sN (eo n t pos) n=sN (eo n t pos') n:=by
 unfold eo;rw[nH];refine bK fun u hu=>bK fun v g=>?_
 have:=b v u g hu;by_cases e:pos u<pos v
 ·rw[if_pos e,if_pos (this.2 e),a.sym]
 ·rw[if_neg e,if_neg (fun h=>e (this.1 h))]
theorem DM {n:Nat} {t:Nat->Nat->Int} (a:Wt n t) {pos:Nat->Nat} (hi:eW n pos):2*sN (eo n t pos) n=sN (val n t) n:=by
 obtain⟨pos',b⟩:=vR n pos;have h1:sN (fun v=>eo n t pos v+eo n t pos' v) n=sN (val n t) n:=bK fun v e=>vQ a hi b e
 rw[dF] at h1;have g:=DL a b;omega
theorem DN {n:Nat} {t:Nat->Nat->Int} (pos:Nat->Nat):sN (nu n t pos) n=sN (eo n t pos) n-n:=by
 have:sN (nu n t pos) n=sN (fun v=>eo n t pos v- (fun _=>(1:Int)) v) n:=rfl;rw[this,dB,iw];omega
theorem DO {n:Nat} {t:Nat->Nat->Int} (a:Wt n t) {pos pos':Nat->Nat} (hi:eW n pos) (b:∀u v,u<n->v<n->(pos' u<pos' v↔pos v<pos u)) {v:Nat} (e:v<n):val n t v-2-nu n t pos v=nu n t pos' v:=by
 have:=vQ a hi b e;unfold nu;omega
def dS (n:Nat) (t:Nat->Nat->Int):Prop:=∀S:Nat->Bool,(∃v,v<n/\S v=true)->(∃v,v<n/\S v=false)->∃u v,u<n/\v<n/\S u=true/\S v=false/\0<t u v
theorem DP {f:Nat->Nat->Int} (h:∀u v,f u v= -f v u) (n:Nat):sN (fun v=>sN (fun u=>f v u) n) n=0:=by
 have h1:=nH f n n;have a:sN (fun u=>sN (fun v=>f v u) n) n=sN (fun u=> -sN (fun v=>f u v) n) n:=bK fun u _=>by
  rw[<-nG];exact bK fun v _=>h v u
 rw[a,nG] at h1;omega
theorem DQ {n:Nat} {t:Nat->Nat->Int} (a:Wt n t) (S:Nat->Bool) (s:Nat->Int):sN (fun v=>if S v=true then aY n t s v else 0) n=sN (fun v=>sN (fun u=>if S v=true/\S u=false then t v u*(s v-s u) else 0) n) n:=by
 have h1:=DP (f:=fun v u=>if S v=true/\S u=true then t v u*(s v-s u) else 0) (fun u v=>by
  by_cases e:S u=true/\S v=true
  ·rw[if_pos e,if_pos ⟨e.2,e.1⟩,a.sym v u,<-Int.mul_neg];congr 1;omega
  ·rw[if_neg e,if_neg (fun h=>e ⟨h.2,h.1⟩)];rfl) n
 have b:sN (fun v=>if S v=true then aY n t s v else 0) n=sN (fun v=>sN (fun u=>if S v=true/\S u=true then t v u*(s v-s u) else 0) n+sN (fun u=>if S v=true/\S u=false then t v u*(s v-s u) else 0) n) n:=by
  refine bK fun v _=>?_
  show (if S v=true then aY n t s v else 0)=_
  by_cases e:S v=true
  ·rw[if_pos e,<-dF]
   unfold aY;refine bK fun u _=>?_
   cases hu:S u<;>simp[e]
  ·rw[if_neg e,gK fun u _=>if_neg (fun h=>e h.1),gK fun u _=>if_neg (fun h=>e h.1)];rfl
 rw[b,dF,h1];omega
theorem DR {n:Nat} {t:Nat->Nat->Int} (g:Wt n t) (S:Nat->Bool) (s:Nat->Int) (M:Int) (m:0<=M) (j:∀u v,u<n->v<n->S u=true->S v=false->M<=s u-s v) {a b:Nat} (h:a<n) (hb:b<n) (k:S a=true) (l:S b=false) (q:0<t a b):
  M<=sN (fun v=>if S v=true then aY n t s v else 0) n:=by
 rw[DQ g];have hp:∀v,v<n->∀u,u<n->0<=(if S v=true/\S u=false then t v u*(s v-s u) else 0):=fun v i u hu=>by
  by_cases e:S v=true/\S u=false
  ·rw[if_pos e]
   have:=j v u i hu e.1 e.2;exact Int.mul_nonneg (g.pos _ _) (by omega)
  ·rw[if_neg e];exact Int.le_refl _
 have h1:=iM (f:=fun v=>sN (fun u=>if S v=true/\S u=false then t v u*(s v-s u) else 0) n) h (fun v i=>dR (hp v i));have o:=iM (f:=fun u=>if S a=true/\S u=false then t a u*(s a-s u) else 0) hb (hp a h);refine Int.le_trans ?_ (Int.le_trans o h1);show M<=(if S a=true/\S b=false then t a b*(s a-s b) else 0)
 rw[if_pos ⟨k,l⟩];have p:=j a b h hb k l;have r:=Int.mul_le_mul (show (1:Int)<=t a b by omega) p m (g.pos _ _);omega
def ct (S:Nat->Bool):Nat->Nat
 |0=>0
 |n+1=>ct S n+if S n=true then 1 else 0
theorem j5 (S:Nat->Bool):∀n,ct S n<=n
 |0=>Nat.le_refl _
 |n+1=>by have:=j5 S n;unfold ct;split<;>omega
theorem nJ {S T:Nat->Bool}:∀{n:Nat},(∀v,v<n->S v=true->T v=true)->ct S n<=ct T n
 |0,_=>Nat.le_refl _
 |n+1,h=>by
  have h1:=nJ (n:=n) (fun v b=>h v (by omega));have a:=h n (by omega);unfold ct;cases hS:S n with
  |true=>rw[a hS];simp;exact h1
  |false=>simp only[Bool.false_eq_true,if_false];split<;>omega
theorem pn {S T:Nat->Bool} {w:Nat}:∀{n:Nat},(∀v,v<n->S v=true->T v=true)->w<n->S w=false->T w=true->ct S n<ct T n
 |0,_,h,_,_=>by omega
 |n+1,h,hw,hS,a=>by
  by_cases e:w=n
  ·subst e
   have h1:=nJ (n:=w) (fun v b=>h v (by omega));unfold ct;rw[hS,a];simp;omega
  ·have h1:=pn (n:=n) (fun v b=>h v (by omega)) (by omega) hS a
   have g:=h n (by omega);unfold ct;cases i:S n with
   |true=>rw[g i];simp;omega
   |false=>simp only[Bool.false_eq_true,if_false];split<;>omega
theorem ry {S:Nat->Bool}:∀{n:Nat},n<=ct S n->∀v,v<n->S v=true
 |0,_,v,a=>by omega
 |n+1,h,v,a=>by
  have h1:=j5 S n;unfold ct at h;by_cases e:S n=true
  ·rw[if_pos e] at h
   by_cases e2:v=n
   ·subst e2;exact e
   ·exact ry (n:=n) (by omega) v (by omega)
  ·rw[if_neg e] at h;omega
theorem DS {S:Nat->Bool} {w n:Nat} (hw:w<n) (hS:S w=true):1<=ct S n:=by
 have:=pn (S:=fun _=>false) (T:=S) (n:=n) (fun v _ h=>by cases h) hw rfl hS;omega
theorem rz:∀n:Nat,ct (fun _=>true) n=n
 |0=>rfl
 |n+1=>by unfold ct;rw[rz n];simp
theorem ky {n:Nat} {t:Nat->Nat->Int} (r:Wt n t) (s:dS n t) {b:Nat->Int} {v0:Nat} (l:v0<n) (y:b v0<=0) {M:Int} (z:0<=M)
  (h:∀x:Int,0<=x->sN (fun v=>if decide (x<b v)=true then aY n t b v else 0) n<=M):∀v,v<n->b v<=n*M:=by
 have step:∀j:Nat,j+1<=ct (fun v=>decide (b v<=j*M)) n\/n<=ct (fun v=>decide (b v<=j*M)) n:=by
  intro j;induction j with
  |zero=>
   left
   exact DS l (by simp;exact y)
  |succ j i=>
   have k:(((j+1:Nat):Int))*M=j*M+M:=by rw[Int.natCast_add,Int.add_mul];simp
   have m:∀v,v<n->decide (b v<=(j:Int)*M)=true->decide (b v<=((j+1:Nat):Int)*M)=true:=fun v _ g=>by
    have:=of_decide_eq_true g;exact decide_eq_true (by rw[k];omega)
   by_cases hn:n<=ct (fun v=>decide (b v<=j*M)) n
   ·right;exact Nat.le_trans hn (nJ m)
   ·rcases i with i|i
    ·left
     by_cases o:∃w,w<n/\(j:Int)*M<b w/\b w<=j*M+M
     ·obtain⟨w,hw,L,N⟩:=o
      have:=pn (S:=fun v=>decide (b v<=j*M)) (T:=fun v=>decide (b v<=((j+1:Nat):Int)*M)) m hw (decide_eq_false (by omega)) (decide_eq_true (by rw[k];omega));omega
     ·exfalso
      have B:0<=(j:Int)*M:=Int.mul_nonneg (by omega) z;have hex:∃v,v<n/\decide ((j:Int)*M<b v)=true:=by
       refine Classical.byContradiction fun C=>hn ?_
       have D:∀v,v<n->decide (b v<=(j:Int)*M)=true:=fun v g=>by
        by_cases e:b v<=(j:Int)*M
        ·exact decide_eq_true e
        ·exact absurd ⟨v,g,decide_eq_true (by omega)⟩ C
       have p:=rz n;have q:=nJ (S:=fun _=>true) (T:=fun v=>decide (b v<=(j:Int)*M)) (n:=n) (fun v g _=>D v g);omega
      obtain⟨a,c,E,F,G,H,I⟩:=s (fun v=>decide ((j:Int)*M<b v)) hex ⟨v0,l,decide_eq_false (by omega)⟩;have h1:=DR r (fun v=>decide ((j:Int)*M<b v)) b (M+1) (by omega) (fun u v hu g J K=>by
       have k:=of_decide_eq_true J;have e2:=of_decide_eq_false K;have O:¬(b u<=j*M+M):=fun h=>o ⟨u,hu,k,h⟩
       omega) E F G H I
      have p:=h _ B;omega
    ·exact absurd i hn
 intro v g;have h1:=step n;have p:=j5 (fun v=>decide (b v<=(n:Int)*M)) n;have q:n<=ct (fun v=>decide (b v<=(n:Int)*M)) n:=by omega
 exact of_decide_eq_true (ry q v g)
theorem vS {α:Type} {P:α->Prop} (f:α->Nat) (B:Nat) (h:∃a,P a) (i:∀a,P a->f a<=B):∃a,P a/\∀c,P c->f c<=f a:=by
 obtain⟨a,b⟩:=h;have key:∀(k:Nat) (a:α),B-f a<=k->P a->∃a,P a/\∀c,P c->f c<=f a:=by
  intro k;induction k with
  |zero=>intro a hk b;exact⟨a,b,fun c g=>by have:=i c g;have:=i a b;omega⟩
  |succ k l=>
   intro a hk b;by_cases j:∃c,P c/\f a<f c
   ·obtain⟨c,g,m⟩:=j
    have:=i c g;exact l c (by omega) g
   ·exact⟨a,b,fun c g=>by
     by_cases e:f a<f c
     ·exact absurd ⟨c,g,e⟩ j
     ·omega⟩
 exact key _ a (Nat.le_refl _) b
def one (w:Nat) (v:Nat):Int:=if v=w then 1 else 0
theorem vT {n:Nat} {t:Nat->Nat->Int} (a:Wt n t) {w:Nat} (hw:w<n):aY n t (one w) w=val n t w:=by
 unfold aY val;refine bK fun u _=>?_
 unfold one;by_cases e:u=w
 ·subst e;rw[a.self];simp
 ·rw[if_pos rfl,if_neg e];simp
theorem vU {n:Nat} {t:Nat->Nat->Int} {w v:Nat} (hw:w<n) (a:v≠w):aY n t (one w) v= -t v w:=by
 unfold aY;rw[jH (v:=w) hw]
 ·unfold one;rw[if_neg a,if_pos rfl];omega
 ·intro u _ hu
  unfold one;rw[if_neg a,if_neg hu];simp
theorem fl {n w:Nat} (hw:w<n):sN (one w) n=1:=by
 rw[jH (f:=one w) hw (fun u _ hu=>if_neg hu)];exact if_pos rfl
theorem DT {n:Nat} {t:Nat->Nat->Int} (g:Wt n t) (m:dS n t) {q:Nat} (o:q<n) (D:Nat->Int):∃D',bT n t D D'/\∀v,v<n->v≠q->0<=D' v:=by
 let P:(Nat->Int)->Prop:=fun b=>b q=0/\(∀v,v<n->0<=b v)/\∀v,v<n->0<b v->D v+aY n t b v<=val n t v-1
 have j:∀v,0<=val n t v:=fun v=>dR fun u _=>g.pos v u
 have p:∀b,P b->∀v,v<n->b v<=n*(sN (val n t) n+sN (fun v=>((D v).natAbs:Int)) n):=by
  rintro b ⟨h1,k,l⟩;refine ky g m o (by omega) ?_ ?_
  ·have i:0<=sN (val n t) n:=dR fun v _=>j v
   have z:0<=sN (fun v=>((D v).natAbs:Int)) n:=dR fun v _=>by omega
   omega
  ·intro x B
   have i:sN (fun v=>if decide (x<b v)=true then aY n t b v else 0) n<=sN (fun v=>val n t v+((D v).natAbs:Int)) n:=cZ fun v a=>by
    show (if decide (x<b v)=true then aY n t b v else 0)<=_
    by_cases e:x<b v
    ·rw[if_pos (decide_eq_true e)]
     have:=l v a (by omega);omega
    ·rw[if_neg (by simpa using e)]
     have:=j v;omega
   rw[dF] at i;exact i
 obtain⟨b,hb,r⟩:=vS (P:=P) (fun b=>(sN b n).toNat) (sN (fun _=>n*(sN (val n t) n+sN (fun v=>((D v).natAbs:Int)) n)) n).toNat ⟨fun _=>0,rfl,fun _ _=>Int.le_refl _,fun v _ (h:(0:Int)<0)=>by omega⟩ (fun b hb=>by
  have h1:=cZ (n:=n) (fun v a=>p b hb v a);have k:=dR (f:=b) (n:=n) hb.2.1;show (sN b n).toNat<=_
  omega)
 refine⟨fun v=>D v+aY n t b v,⟨fun u=> -b u,fun v _=>by show D v+aY n t b v=_;rw[mu];omega⟩,fun v a s=>?_⟩;show 0<=D v+aY n t b v
 refine Classical.byContradiction fun C=>?_
 have w:P (fun u=>b u+one v u):=by
  refine⟨by show b q+one v q=0;rw[hb.1];unfold one;rw[if_neg (fun h=>s h.symm)];rfl,fun u hu=>by have:=hb.2.1 u hu;show 0<=b u+one v u;unfold one;split<;>omega,fun u hu y=>?_⟩;rw[lJ];by_cases e:u=v
  ·subst e;rw[vT g a];omega
  ·rw[vU a e]
   have E:b u+one v u=b u:=by unfold one;rw[if_neg e];omega
   have:=hb.2.2 u hu (by have:0<b u+one v u:=y;omega);have:=g.pos u v;omega
 have h1:=r (fun u=>b u+one v u) w;have k:sN (fun u=>b u+one v u) n=sN b n+1:=by rw[dF,fl a]
 have l:=dR (f:=b) (n:=n) hb.2.1;have i:(sN (fun u=>b u+one v u) n).toNat<=(sN b n).toNat:=h1;omega
def iN (n:Nat) (t:Nat->Nat->Int) (q:Nat) (c:Nat->Int):Prop:=∀S:Nat->Bool,(∃v,v<n/\S v=true)->S q=false->∃v,v<n/\S v=true/\c v<sN (fun u=>if S u=false then t v u else 0) n
def j6 (n:Nat) (t:Nat->Nat->Int) (q:Nat) (c:Nat->Int):Prop:=(∀v,v<n->v≠q->0<=c v)/\iN n t q c
def ind (S:Nat->Bool) (v:Nat):Int:=if S v=true then 1 else 0
theorem rA {n:Nat} {t:Nat->Nat->Int} (S:Nat->Bool) (v:Nat):aY n t (ind S) v=if S v=true then sN (fun u=>if S u=false then t v u else 0) n else -sN (fun u=>if S u=true then t v u else 0) n:=by
 unfold aY;by_cases e:S v=true
 ·rw[if_pos e]
  refine bK fun u _=>?_
  unfold ind;cases hu:S u<;>simp[e]
 ·rw[if_neg e,<-nG]
  refine bK fun u _=>?_
  unfold ind;cases hu:S u<;>simp[e]
theorem rB {n:Nat} {t:Nat->Nat->Int} (i:Wt n t) (j:dS n t) {q:Nat} (k:q<n) (D:Nat->Int):∃c,bT n t D c/\j6 n t q c:=by
 obtain⟨a,o,p⟩:=DT i j k D;let P:(Nat->Int)->Prop:=fun b=>b q=0/\(∀v,v<n->0<=b v)/\∀v,v<n->v≠q->0<=a v-aY n t b v
 have r:∀b,P b->∀v,v<n->b v<=n*sN (fun v=>((a v).natAbs:Int)) n:=by
  rintro b ⟨h1,l,m⟩;refine ky i j k (by omega) (dR fun v _=>by omega) ?_;intro x I;refine cZ fun v g=>?_
  show (if decide (x<b v)=true then aY n t b v else 0)<=((a v).natAbs:Int)
  by_cases e:x<b v
  ·rw[if_pos (decide_eq_true e)]
   have:=m v g (fun s=>by subst s;omega);omega
  ·rw[if_neg (by simpa using e)];omega
 obtain⟨b,hb,y⟩:=vS (P:=P) (fun b=>(sN b n).toNat) (sN (fun _=>n*sN (fun v=>((a v).natAbs:Int)) n) n).toNat ⟨fun _=>0,rfl,fun _ _=>Int.le_refl _,fun v g h=>by rw[kI];have:=p v g h;omega⟩ (fun b hb=>by
  have h1:=cZ (n:=n) (fun v g=>r b hb v g);have l:=dR (f:=b) (n:=n) hb.2.1;show (sN b n).toNat<=_
  omega)
 refine⟨fun v=>a v-aY n t b v,o.trans ⟨b,fun v _=>rfl⟩,hb.2.2,fun S hS z=>?_⟩;refine Classical.byContradiction fun B=>?_
 have C:∀v,v<n->S v=true->sN (fun u=>if S u=false then t v u else 0) n<=a v-aY n t b v:=fun v g E=>by
  refine Classical.byContradiction fun h=>B ⟨v,g,E,?_⟩
  show a v-aY n t b v<_
  omega
 have F:P (fun u=>b u+ind S u):=by
  refine⟨by show b q+ind S q=0;rw[hb.1];unfold ind;rw[z];simp,fun u hu=>by have:=hb.2.1 u hu;show 0<=b u+ind S u;unfold ind;split<;>omega,fun u hu G=>?_⟩;rw[lJ,rA];by_cases e:S u=true
  ·rw[if_pos e];have:=C u hu e;omega
  ·rw[if_neg e]
   have:=hb.2.2 u hu G;have:0<=sN (fun w=>if S w=true then t u w else 0) n:=dR fun w _=>by
    show 0<=(if S w=true then t u w else 0)
    have:=i.pos u w;split<;>omega
   omega
 obtain⟨w,hw,H⟩:=hS;have h1:=y (fun u=>b u+ind S u) F;have l:sN (fun u=>b u+ind S u) n=sN b n+sN (ind S) n:=dF _ _ _;have m:=dR (f:=b) (n:=n) hb.2.1;have J:=iM (f:=ind S) hw (fun u _=>by unfold ind;split<;>omega);have K:ind S w=1:=by unfold ind;rw[if_pos H]
 have L:(sN (fun u=>b u+ind S u) n).toNat<=(sN b n).toNat:=h1;omega
theorem rC {n:Nat} {t:Nat->Nat->Int} (i:Wt n t) (w:dS n t) {q:Nat} (j:q<n) {c g:Nat->Int} (h:j6 n t q c) (k:∀v,v<n->v≠q->0<=g v) {s:Nat->Int} (l:∀v,v<n->g v=c v-aY n t s v):∀v,v<n->s v<=s q:=by
 obtain⟨m,hm,b⟩:=rr s (show 0<n by omega);by_cases e:s q=s m
 ·intro v a;rw[e];exact b v a
 ·exfalso
  have x:=b q j;obtain⟨v,a,o,y⟩:=h.2 (fun v=>decide (s v=s m)) ⟨m,hm,by simp⟩ (by simpa using e);have p:s v=s m:=of_decide_eq_true o;have r:v≠q:=fun h=>by subst h;exact e p
  have h1:=k v a r;rw[l v a] at h1;have z:sN (fun u=>if decide (s u=s m)=false then t v u else 0) n<=aY n t s v:=by
   unfold aY;refine cZ fun u hu=>?_
   show (if decide (s u=s m)=false then t v u else 0)<=t v u*(s v-s u)
   have hp:=i.pos v u;have hle:=b u hu;by_cases e2:s u=s m
   ·rw[if_neg (by simp[e2])]
    exact Int.mul_nonneg hp (by omega)
   ·rw[if_pos (by simpa using e2)]
    have:=Int.mul_le_mul_of_nonneg_left (show (1:Int)<=s v-s u by omega) hp;omega
  omega
theorem DU {n:Nat} {t:Nat->Nat->Int} (j:Wt n t) (k:dS n t) {q:Nat} (l:q<n) {c g:Nat->Int} (h:j6 n t q c) (m:j6 n t q g) (he:bT n t c g):∀v,v<n->g v=c v:=by
 obtain⟨s,i⟩:=he;have h1:=rC j k l h m.1 i;have o:=rC j k l m h.1 (s:=fun u=> -s u) (fun v e=>by rw[mu,i v e];omega);intro v e;have:aY n t s v=0:=by
  unfold aY;refine gK fun u hu=>?_
  have a:=h1 u hu;have b:=o u hu;have c:=h1 v e;have d:=o v e;rw[show s v-s u=0 by omega,Int.mul_zero]
 rw[i v e,this];omega
theorem DV (B:Nat->Bool) (n:Nat) {v:Nat} (a:v<n) (b:B v=false):ct B n<ct (fun u=>decide (u=v)||B u) n:=
 pn (fun u _ h=>by simp[h]) a b (by simp)
theorem rD {n:Nat} {t:Nat->Nat->Int} (H:Wt n t) {q:Nat} (Y:q<n) {c:Nat->Int} (P:iN n t q c):
  ∃pos:Nat->Nat,eW n pos/\pos q=0/\∀v,v<n->v≠q->0<pos v/\c v<=nu n t pos v:=by
 have key:∀(m:Nat) (B:Nat->Bool) (pos:Nat->Nat) (k:Nat),n<=ct B n+m->B q=true->pos q=0->0<k->(∀v,v<n->B v=true->pos v<k)->(∀u v,u<n->v<n->B u=true->B v=true->pos u=pos v->u=v)->
   (∀v,v<n->B v=true->v≠q->0<pos v/\c v<sN (fun u=>if B u=true/\pos u<pos v then t v u else 0) n)->
   ∃pos:Nat->Nat,eW n pos/\pos q=0/\∀v,v<n->v≠q->0<pos v/\c v<=nu n t pos v:=by
  intro m;induction m with
  |zero=>
   intro B pos k hm r C hk l D E;have o:=ry (S:=B) (n:=n) (by omega);refine⟨pos,fun u v hu g=>D u v hu g (o u hu) (o v g),C,fun v g s=>?_⟩;obtain⟨h1,i⟩:=E v g (o v g) s;refine⟨h1,?_⟩;unfold nu eo;have:sN (fun u=>if B u=true/\pos u<pos v then t v u else 0) n=sN (fun u=>if pos u<pos v then t v u else 0) n:=bK fun u hu=>by
    show (if B u=true/\pos u<pos v then t v u else 0)=(if pos u<pos v then t v u else 0)
    by_cases e:pos u<pos v
    ·rw[if_pos e,if_pos ⟨o u hu,e⟩]
    ·rw[if_neg e,if_neg (fun h=>e h.2)]
   omega
  |succ m I=>
   intro B pos k hm r C hk l D E;by_cases J:∃v,v<n/\B v=false
   ·obtain⟨w,hw,Q⟩:=J
    obtain⟨v,g,j,R⟩:=P (fun u=> !B u) ⟨w,hw,by simp[Q]⟩ (by simp[r]);have j:B v=false:=by simpa using j
    have s:v≠q:=fun h=>by subst h;rw[r] at j;cases j
    refine I (fun u=>decide (u=v)||B u) (fun u=>if u=v then k else pos u) (k+1) (by have:=DV B n g j;omega) (by simp[r]) (by show (if q=v then k else pos q)=0;rw[if_neg (fun h=>s h.symm)];exact C) (by omega) ?_ ?_ ?_
    ·intro u hu F
     show (if u=v then k else pos u)<k+1
     by_cases e:u=v
     ·rw[if_pos e];omega
     ·rw[if_neg e]
      have:=l u hu (by simpa [e] using F);omega
    ·intro a b K hb L M G
     by_cases p:a=v
     ·by_cases e2:b=v
      ·rw[p,e2]
      ·exfalso
       have h1:=l b hb (by simpa [e2] using M);have i:(if a=v then k else pos a)=(if b=v then k else pos b):=G;rw[if_pos p,if_neg e2] at i;omega
     ·by_cases e2:b=v
      ·exfalso
       have h1:=l a K (by simpa [p] using L);have i:(if a=v then k else pos a)=(if b=v then k else pos b):=G;rw[if_neg p,if_pos e2] at i;omega
      ·have i:(if a=v then k else pos a)=(if b=v then k else pos b):=G
       rw[if_neg p,if_neg e2] at i;exact D a b K hb (by simpa [p] using L) (by simpa [e2] using M) i
    ·intro u hu F U
     by_cases e:u=v
     ·subst e
      show 0<(if u=u then k else pos u)/\_
      rw[if_pos rfl];refine⟨hk,Int.lt_of_lt_of_le R (cZ fun x N=>?_)⟩;show (if(!B x)=false then t u x else 0)<=(if(decide (x=u)||B x)=true/\(if x=u then k else pos x)<k then t u x else 0)
      cases O:B x with
      |false=>
       rw[if_neg (by simp)];have:=H.pos u x;by_cases y:(decide (x=u)||false)=true/\(if x=u then k else pos x)<k
       ·rw[if_pos y];exact this
       ·rw[if_neg y];exact Int.le_refl _
      |true=>
       have V:x≠u:=fun h=>by subst h;rw[O] at j;cases j
       rw[if_pos (by simp),if_pos (by simp[V];exact l x N O)];exact Int.le_refl _
     ·have W:B u=true:=by simpa [e] using F
      obtain⟨h1,i⟩:=E u hu W U;show 0<(if u=v then k else pos u)/\_
      rw[if_neg e];refine⟨h1,Int.lt_of_lt_of_le i (cZ fun x N=>?_)⟩;show (if B x=true/\pos x<pos u then t u x else 0)<=(if(decide (x=v)||B x)=true/\(if x=v then k else pos x)<pos u then t u x else 0)
      by_cases z:B x=true/\pos x<pos u
      ·have X:x≠v:=fun h=>by subst h;rw[j] at z;cases z.1
       rw[if_pos z,if_pos (by simp[X,z])];exact Int.le_refl _
      ·rw[if_neg z]
       have:=H.pos u x;by_cases y:(decide (x=v)||B x)=true/\(if x=v then k else pos x)<pos u
       ·rw[if_pos y];exact this
       ·rw[if_neg y];exact Int.le_refl _
   ·have o:∀v,v<n->B v=true:=fun v g=>by
     cases h:B v with
     |true=>rfl
     |false=>exact absurd ⟨v,g,h⟩ J
    have Z:n<=ct B n:=by
     have i:=rz n;have:=nJ (S:=fun _=>true) (T:=B) (n:=n) (fun v g _=>o v g);omega
    exact I B pos k (by omega) r C hk l D E
 refine key n (fun v=>decide (v=q)) (fun _=>0) 1 (by omega) (by simp) rfl (by omega) (fun _ _ _=>by omega) (fun u v _ _ hu g _=>?_) (fun v _ g s=>absurd (of_decide_eq_true g) s);have h1:u=q:=of_decide_eq_true hu;have i:v=q:=of_decide_eq_true g;rw[h1,i]
theorem rE {n:Nat} {t:Nat->Nat->Int} {pos:Nat->Nat} {q:Nat} (h:pos q=0):nu n t pos q= -1:=by
 unfold nu eo;rw[gK fun u _=>by rw[if_neg (by omega)]];rfl
theorem vV {n:Nat} {t:Nat->Nat->Int} (h:Wt n t) {q:Nat} (i:q<n) {c:Nat->Int} (j:iN n t q c) (hd:c q<0):∃pos:Nat->Nat,eW n pos/\pos q=0/\(∀v,v<n->v≠q->0<pos v)/\∀v,v<n->c v<=nu n t pos v:=by
 obtain⟨pos,h1,b,g⟩:=rD h i j;refine⟨pos,h1,b,fun v a k=>(g v a k).1,fun v a=>?_⟩;by_cases e:v=q
 ·subst e;rw[rE b];omega
 ·exact(g v a e).2
theorem mz {n:Nat} {t:Nat->Nat->Int} (a:Wt n t) {q:Nat} (g:q<n) {c:Nat->Int} (b:j6 n t q c):cn n t c↔0<=c q:=by
 constructor
 ·intro hw
  refine Classical.byContradiction fun hd=>?_
  obtain⟨pos, -, -, -,h⟩:=vV a g b.2 (by omega);exact ru a (by omega) pos (hw.mono h)
 ·intro h
  exact cn.pk fun v i=>by
   by_cases e:v=q
   ·subst e;exact h
   ·exact b.1 v i e
theorem DW {n:Nat} {t:Nat->Nat->Int} (a:Wt n t) (e:dS n t) (hn:0<n) (D:Nat->Int):¬cn n t D↔∃pos:Nat->Nat,eW n pos/\cn n t (fun v=>nu n t pos v-D v):=by
 constructor
 ·intro h
  obtain⟨c,h1,b⟩:=rB a e hn D;have g:c 0<0:=by
   refine Classical.byContradiction fun o=>h ?_
   rw[DH h1];exact(mz a hn b).2 (by omega)
  obtain⟨pos,i, -, -,j⟩:=vV a hn b.2 g;refine⟨pos,i,?_⟩;have k:bT n t (fun v=>nu n t pos v+ -c v) (fun v=>nu n t pos v+ -D v):=(bT.refl _ _ _).add h1.symm.neg;exact cn.fQ k (cn.pk fun v l=>by have:=j v l;show 0<=nu n t pos v+ -c v;omega)
 ·rintro⟨pos, -,hw⟩ m
  refine ru a hn pos ((hw.add m).mono fun v _=>?_);show nu n t pos v-D v+D v<=_
  omega
def fR (n:Nat) (t:Nat->Nat->Int) (D:Nat->Int) (k:Int):Prop:=∀F:Nat->Int,ph n F->sN F n=k->cn n t (fun v=>D v-F v)
def cu (n:Nat) (t:Nat->Nat->Int) (D:Nat->Int) (r:Int):Prop:= -1<=r/\(∀k,0<=k->k<=r->fR n t D k)/\¬fR n t D (r+1)
theorem fR.down {n:Nat} {t:Nat->Nat->Int} (hn:0<n) {D:Nat->Int} {k j:Int} (h:fR n t D k) (e:j<=k):fR n t D j:=by
 intro F hF b;have h1:=h (fun v=>F v+(k-j)*one 0 v) (fun v a=>by
  have:=hF v a;show 0<=F v+(k-j)*one 0 v
  unfold one;split
  ·rw[Int.mul_one];omega
  ·rw[Int.mul_zero];omega) (by rw[dF,fk,fl hn,b];omega)
 refine h1.mono fun v a=>?_
 show D v- (F v+(k-j)*one 0 v)<=D v-F v
 unfold one;split
 ·rw[Int.mul_one];omega
 ·rw[Int.mul_zero];omega
theorem cu.rF {n:Nat} {t:Nat->Nat->Int} (hn:0<n) {D:Nat->Int} {r:Int} (h:cu n t D r) {k:Int} (hk:0<=k):fR n t D k↔k<=r:=by
 constructor
 ·intro a
  refine Classical.byContradiction fun b=>h.2.2 (a.down hn (by omega))
 ·exact fun hle=>h.2.1 k hk hle
theorem cu.unique {n:Nat} {t:Nat->Nat->Int} (hn:0<n) {D:Nat->Int} {r a:Int} (h:cu n t D r) (b:cu n t D a):r=a:=by
 have h1:=h.1;have g:=b.1;rcases Int.lt_trichotomy r a with e|e|e
 ·exact absurd (b.2.1 (r+1) (by omega) (by omega)) h.2.2
 ·exact e
 ·exact absurd (h.2.1 (a+1) (by omega) (by omega)) b.2.2
theorem fR.fQ {n:Nat} {t:Nat->Nat->Int} {D D':Nat->Int} (he:bT n t D D') {k:Int} (h:fR n t D k):fR n t D' k:=fun F hF a=>by
 have b:bT n t (fun v=>D v+ -F v) (fun v=>D' v+ -F v):=he.add (bT.refl _ _ _);exact cn.fQ b (h F hF a)
theorem cu.fQ {n:Nat} {t:Nat->Nat->Int} {D D':Nat->Int} (he:bT n t D D') {r:Int} (h:cu n t D r):cu n t D' r:=
 ⟨h.1,fun k a hk=>(h.2.1 k a hk).fQ he,fun b=>h.2.2 (b.fQ he.symm)⟩
def up (x:Int):Int:=if 0<=x then x else 0
theorem DX (x:Int):0<=up x:=by unfold up;split<;>omega
theorem vW (x:Int):x<=up x:=by unfold up;split<;>omega
theorem rG {n:Nat} {t:Nat->Nat->Int} (g:Wt n t) (i:dS n t) (hn:0<n) (D:Nat->Int) (k:Int) (hk:0<=k):fR n t D k↔∀(D':Nat->Int) (pos:Nat->Nat),bT n t D D'->eW n pos->k<sN (fun v=>up (D' v-nu n t pos v)) n:=by
 constructor
 ·intro h D' pos he hi
  refine Classical.byContradiction fun hle=>?_
  have hle:sN (fun v=>up (D' v-nu n t pos v)) n<=k:=by omega
  have h1:=(h.down hn hle) (fun v=>up (D' v-nu n t pos v)) (fun v _=>DX _) rfl;have j:bT n t (fun v=>D v+ -up (D' v-nu n t pos v)) (fun v=>D' v+ -up (D' v-nu n t pos v)):=he.add (bT.refl _ _ _);have e:cn n t (fun v=>D' v+ -up (D' v-nu n t pos v)):=cn.fQ j h1;exact ru g hn pos (e.mono fun v _=>by
   have:=vW (D' v-nu n t pos v);show D' v+ -up (D' v-nu n t pos v)<=nu n t pos v
   omega)
 ·intro h F hF m
  refine Classical.byContradiction fun l=>?_
  obtain⟨pos,hi,hw⟩:=(DW g i hn _).1 l;obtain⟨a,⟨s,h1⟩,e⟩:=hw;have he:bT n t D (fun v=>nu n t pos v+F v-a v):=⟨fun u=> -s u,fun v b=>by
   have o:a v=nu n t pos v- (D v-F v)-aY n t s v:=h1 v b;rw[mu];show nu n t pos v+F v-a v=_
   omega⟩
  have p:=h _ pos he hi;have q:sN (fun v=>up (nu n t pos v+F v-a v-nu n t pos v)) n<=sN F n:=cZ fun v b=>by
   have:=e v b;have:=hF v b;show up (nu n t pos v+F v-a v-nu n t pos v)<=F v
   unfold up;split<;>omega
  omega
def can (n:Nat) (t:Nat->Nat->Int) (v:Nat):Int:=val n t v-2
def ep (n:Nat) (t:Nat->Nat->Int) (g:Int):Prop:=sN (can n t) n=2*g-2
theorem nK {n:Nat} {t:Nat->Nat->Int} (a:Wt n t) {g:Int} (b:ep n t g) {pos:Nat->Nat} (hi:eW n pos):sN (nu n t pos) n=g-1:=by
 have h1:=DM a hi;have e:=DN (n:=n) (t:=t) pos;have h:sN (can n t) n=sN (val n t) n-n*2:=by
  have:sN (can n t) n=sN (fun v=>val n t v- (fun _=>(2:Int)) v) n:=rfl;rw[this,dB,iw]
 unfold ep at b;omega
theorem DY {n:Nat} {t:Nat->Nat->Int} (a:Wt n t) (e:dS n t) (hn:0<n) {g:Int} (b:ep n t g) {D:Nat->Int} {k:Int} (hk:0<=k) (j:0<=k- (sN D n+1-g)) (h:fR n t D k):fR n t (fun v=>can n t v-D v) (k- (sN D n+1-g)):=by
 rw[rG a e hn _ _ j];rw[rG a e hn _ _ hk] at h;intro D' pos he hi;obtain⟨pos',i⟩:=vR n pos;have hi':=DK hi i;have l:bT n t D (fun v=>can n t v-D' v):=by
  have h1:bT n t (fun v=>can n t v+ -(can n t v-D v)) (fun v=>can n t v+ -D' v):=(bT.refl _ _ _).add he.neg;exact(bT.of_eq (D:=D) (D':=fun v=>can n t v+ -(can n t v-D v)) fun v _=>by show can n t v+ -(can n t v-D v)=D v;omega).trans (h1.trans (bT.of_eq fun v _=>by show can n t v-D' v=can n t v+ -D' v;omega))
 have h1:=h _ pos' l hi';have m:sN (fun v=>up (can n t v-D' v-nu n t pos' v)) n=sN (fun v=>up (D' v-nu n t pos v)) n-sN (fun v=>D' v-nu n t pos v) n:=by
  rw[<-dB];refine bK fun v o=>?_
  have p:=DO a hi i o;show up (can n t v-D' v-nu n t pos' v)=up (D' v-nu n t pos v)- (D' v-nu n t pos v)
  unfold can up;rw[<-p];split<;>split<;>omega
 rw[m,dB,he.bd a,nK a b hi,dB] at h1;unfold ep at b;rw[b] at h1;omega
theorem cu.rH {n:Nat} {t:Nat->Nat->Int} (b:Wt n t) (hn:0<n) {D:Nat->Int} {r:Int} (h:cu n t D r) (a:0<=r):r<=sN D n:=by
 have h1:=h.2.1 r a (Int.le_refl _) (fun v=>r*one 0 v) (fun v _=>Int.mul_nonneg a (by unfold one;split<;>omega)) (by rw[fk,fl hn,Int.mul_one]);have:=h1.bd b;rw[dB,fk,fl hn] at this;omega
theorem cu.mA {n:Nat} {t:Nat->Nat->Int} {D:Nat->Int} {r:Int} (hn:0<n) (h:cu n t D r):r= -1↔¬cn n t D:=by
 have key:fR n t D 0↔cn n t D:=by
  constructor
  ·intro b
   exact(b (fun _=>0) (fun _ _=>Int.le_refl _) (kH n)).mono fun v _=>by show D v-0<=D v;omega
  ·intro hw F hF i
   have e:∀v,v<n->F v=0:=fun v a=>by
    have h1:=iM a hF;have:=hF v a;omega
   exact hw.mono fun v a=>by show D v<=D v-F v;rw[e v a];omega
 have h1:=h.1;have g:=h.rF hn (Int.le_refl 0);rw[<-key,g];omega
theorem j7 {n:Nat} {t:Nat->Nat->Int} (a:Wt n t) (hn:0<n) (D:Nat->Int):∃r,cu n t D r:=by
 have key:∃k:Nat,¬fR n t D k:=by
  refine⟨(sN D n).toNat+1,fun h=>?_⟩;have h1:=h (fun v=>(((sN D n).toNat+1:Nat):Int)*one 0 v) (fun v _=>Int.mul_nonneg (by omega) (by unfold one;split<;>omega)) (by rw[fk,fl hn,Int.mul_one]);have:=h1.bd a;rw[dB,fk,fl hn] at this;omega
 obtain⟨k,hk,b⟩:=DF key;refine⟨(k:Int)-1,by omega,fun j e l=>?_,by rw[show (k:Int)-1+1=k by omega];exact hk⟩;refine Classical.byContradiction fun g=>?_
 obtain⟨i,rfl⟩:=Int.eq_ofNat_of_zero_le e;have:=b i g;omega
theorem vX {n:Nat} {t:Nat->Nat->Int} (j:Wt n t) (l:dS n t) (hn:0<n) {g:Int} (b:ep n t g) {D:Nat->Int} {r a:Int} (h:cu n t D r) (e:cu n t (fun v=>can n t v-D v) a):r-a=sN D n+1-g:=by
 have key:∀{D D':Nat->Int} {r a:Int},(∀v,v<n->D' v=can n t v-D v)->cu n t D r->cu n t D' a->r- (sN D n+1-g)<=a:=by
  intro D D' r a m h e;refine Classical.byContradiction fun s=>?_
  have h1:=h.1;have u:=e.1;have w:sN D' n=2*g-2-sN D n:=by
   rw[bK m,dB];unfold ep at b;rw[b]
  by_cases o:0<=r
  ·have i:=DY j l hn b o (by omega) (h.2.1 r o (Int.le_refl _))
   have k:fR n t D' (r- (sN D n+1-g)):=i.fQ (bT.of_eq m);have p:=(e.rF hn (by omega)).1 k;omega
  ·
   have x:r= -1:=by omega
   have q:0<=a+1:=by omega
   have i:¬fR n t D' (a+1):=e.2.2;rw[rG j l hn _ _ q] at i;refine i fun F pos he hi=>?_
   have k:sN (fun v=>F v-nu n t pos v) n<=sN (fun v=>up (F v-nu n t pos v)) n:=cZ fun v _=>vW _
   have p:sN (fun v=>F v-nu n t pos v) n=sN D' n- (g-1):=by rw[dB,he.bd j,nK j b hi]
   omega
 have h1:=key (fun v _=>rfl) h e;have i:=key (D:=fun v=>can n t v-D v) (D':=D) (fun v _=>by show D v=can n t v- (can n t v-D v);omega) e h;have k:sN (fun v=>can n t v-D v) n=2*g-2-sN D n:=by
  rw[dB];unfold ep at b;rw[b]
 omega
theorem DZ {n:Nat} {t:Nat->Nat->Int} (q:Wt n t) (hn:0<n) {D:Nat->Int} (hw:cn n t D) {r:Int} (h:cu n t D r):(∀v,v<n->∀k,cu n t (fun u=>D u-one v u) k->r<=k+1)/\∃v,v<n/\∀k,cu n t (fun u=>D u-one v u) k->r=k+1:=by
 have j:0<=r:=by
  have h1:=h.1;have:=(h.mA hn).1;refine Classical.byContradiction fun g=>this (by omega) hw
 have i:∀v,v<n->∀k,cu n t (fun u=>D u-one v u) k->r<=k+1:=by
  intro v a k hk;have s:=hk.1;refine Classical.byContradiction fun w=>hk.2.2 fun F hF b=>?_
  have h1:=h.2.1 (k+2) (by omega) (by omega) (fun u=>F u+one v u) (fun u hu=>by have:=hF u hu;show 0<=F u+one v u;unfold one;split<;>omega) (by rw[dF,fl a,b];omega);exact h1.mono fun u _=>by show D u- (F u+one v u)<=D u-one v u-F u;omega
 refine⟨i,?_⟩;obtain⟨F,hF,b,l⟩:∃F,ph n F/\sN F n=r+1/\¬cn n t (fun v=>D v-F v):=by
  refine Classical.byContradiction fun g=>h.2.2 fun F hF b=>?_
  exact Classical.byContradiction fun hw=>g ⟨F,hF,b,hw⟩
 obtain⟨v,a,x⟩:∃v,v<n/\1<=F v:=by
  refine Classical.byContradiction fun g=>?_
  have:sN F n=0:=gK fun v a=>by
   have:=hF v a;refine Classical.byContradiction fun y=>g ⟨v,a,by omega⟩
  omega
 refine⟨v,a,fun k hk=>?_⟩;have h1:=i v a k hk;have m:¬fR n t (fun u=>D u-one v u) r:=fun o=>by
  have p:=o (fun u=>F u-one v u) (fun u hu=>by
   have:=hF u hu;show 0<=F u-one v u
   unfold one;by_cases e:u=v
   ·subst e;rw[if_pos rfl];omega
   ·rw[if_neg e];omega) (by rw[dB,fl a,b];omega)
  exact l (p.mono fun u _=>by show D u-one v u- (F u-one v u)<=D u-F u;omega)
 have:=hk.rF hn j;have:¬r<=k:=fun hle=>m (this.2 hle)
 omega
theorem D0 {n:Nat} {t:Nat->Nat->Int} (a:Wt n t) (i:dS n t) (hn:0<n) {g:Int} (b:ep n t g) {D:Nat->Int} (hd:2*g-2<sN D n) {r:Int} (h:cu n t D r):r=sN D n-g:=by
 obtain⟨k,e⟩:=j7 a hn (fun v=>can n t v-D v);have h1:=vX a i hn b h e;have j:¬cn n t (fun v=>can n t v-D v):=fun hw=>by
  have:=hw.bd a;rw[dB] at this;unfold ep at b;omega
 have:=(e.mA hn).2 j;omega
theorem vY {n:Nat} {t:Nat->Nat->Int} (a:Wt n t) (q:Nat) (pos:Nat->Nat):iN n t q (nu n t pos):=fun S hS j=>by
 obtain⟨v,⟨b,g⟩,i⟩:=exists_least (P:=fun v=>v<n/\S v=true) pos hS;refine⟨v,b,g,?_⟩;unfold nu eo;have:sN (fun u=>if pos u<pos v then t v u else 0) n<=sN (fun u=>if S u=false then t v u else 0) n:=cZ fun u hu=>by
  show (if pos u<pos v then t v u else 0)<=(if S u=false then t v u else 0)
  have hp:=a.pos v u;by_cases e:pos u<pos v
  ·have hf:S u=false:=by
    cases h:S u with
    |false=>rfl
    |true=>have:=i u ⟨hu,h⟩;omega
   rw[if_pos e,if_pos hf];omega
  ·rw[if_neg e];split<;>omega
 omega
theorem iN.down {n:Nat} {t:Nat->Nat->Int} {q:Nat} {c b:Nat->Int} (h:iN n t q c) (hle:∀v,v<n->v≠q->b v<=c v):iN n t q b:=fun S hS a=>by
 obtain⟨v,g,i,j⟩:=h S hS a;have:=hle v g (fun e=>by subst e;rw[i] at a;cases a);exact⟨v,g,i,by omega⟩
def hd (x:Nat×Nat) (b:Bool):Nat:=if b=true then x.2 else x.1
def tl (x:Nat×Nat) (b:Bool):Nat:=if b=true then x.1 else x.2
def gw:List (Nat×Nat)->List Bool->Nat->Int
 |x::L,b::o,v=>(if hd x b=v then 1 else 0)+gw L o v
 |_,_,_=>0
def mult:List (Nat×Nat)->Nat->Nat->Int
 |[],_,_=>0
 |x::L,u,v=>(if x.1=u/\x.2=v\/x.1=v/\x.2=u then 1 else 0)+mult L u v
def iO:List (Nat×Nat)->List Bool->(Nat->Nat)->Prop
 |x::L,b::o,pos=>pos (tl x b)<pos (hd x b)/\iO L o pos
 |_,_,_=>True
def kJ (n:Nat) (L:List (Nat×Nat)):Prop:=∀x∈L,x.1<n/\x.2<n/\x.1≠x.2
theorem kJ.tail {n:Nat} {x:Nat×Nat} {L:List (Nat×Nat)} (h:kJ n (x::L)):kJ n L:=fun y a=>h y (List.mem_cons_of_mem _ a)
theorem D3 {n:Nat} {t a:Nat->Nat->Int} {pos:Nat->Nat} {v:Nat} (h:∀u,u<n->t v u=a v u):eo n t pos v=eo n a pos v:=bK fun u hu=>by
 show (if pos u<pos v then t v u else 0)=(if pos u<pos v then a v u else 0)
 rw[h u hu]
theorem po {n:Nat} {pos:Nat->Nat}:∀{L:List (Nat×Nat)} {o:List Bool},o.length=L.length->kJ n L->iO L o pos->∀v,v<n->gw L o v=eo n (mult L) pos v
 |[],[],_,_,_,v,h=>by
  unfold eo;rw[gK]
  ·rfl
  ·intro u _;show (if pos u<pos v then mult [] v u else 0)=0;split<;>rfl
 |x::L,b::o,j,he,i,v,h=>by
  have k:=po (L:=L) (o:=o) (by simpa using j) he.tail i.2 v h;obtain⟨h1,m,p⟩:=he x (List.mem_cons_self ..);have hp:=i.1;show (if hd x b=v then 1 else 0)+gw L o v=sN (fun u=>if pos u<pos v then(if x.1=v/\x.2=u\/x.1=u/\x.2=v then 1 else 0)+mult L v u else 0) n
  rw[k];unfold eo;have e:sN (fun u=>if pos u<pos v then(if x.1=v/\x.2=u\/x.1=u/\x.2=v then(1:Int) else 0)+mult L v u else 0) n=sN (fun u=>(if pos u<pos v/\(x.1=v/\x.2=u\/x.1=u/\x.2=v) then(1:Int) else 0)+(if pos u<pos v then mult L v u else 0)) n:=bK fun u _=>by
   show (if pos u<pos v then(if x.1=v/\x.2=u\/x.1=u/\x.2=v then(1:Int) else 0)+mult L v u else 0)=_
   by_cases c1:pos u<pos v
   ·by_cases c2:x.1=v/\x.2=u\/x.1=u/\x.2=v
    ·simp[c1,c2]
    ·simp[c1,c2]
   ·simp[c1]
  rw[e,dF];congr 1
  by_cases c:hd x b=v
  ·rw[if_pos c]
   have l:tl x b<n:=by unfold tl;split<;>omega
   rw[jH (f:=fun u=>if pos u<pos v/\(x.1=v/\x.2=u\/x.1=u/\x.2=v) then(1:Int) else 0) l]
   ·show (1:Int)=if pos (tl x b)<pos v/\(x.1=v/\x.2=tl x b\/x.1=tl x b/\x.2=v) then 1 else 0
    rw[if_pos];refine⟨by rw[<-c];exact hp,?_⟩;unfold hd at c;unfold tl;cases b with
    |true=>right;simp at c⊢;exact c
    |false=>left;simp at c⊢;exact c
   ·intro u _ hu
    show (if pos u<pos v/\(x.1=v/\x.2=u\/x.1=u/\x.2=v) then(1:Int) else 0)=0
    rw[if_neg];rintro⟨-,a⟩;unfold hd at c;unfold tl at hu;cases b with
    |true=>simp at c hu;rcases a with a|a<;>omega
    |false=>simp at c hu;rcases a with a|a<;>omega
  ·rw[if_neg c,gK]
   intro u _;show (if pos u<pos v/\(x.1=v/\x.2=u\/x.1=u/\x.2=v) then(1:Int) else 0)=0
   rw[if_neg];rintro⟨q,a⟩;unfold hd at c hp;unfold tl at hp;cases b with
   |true=>
    simp at c hp;rcases a with⟨g,a2⟩|⟨g,a2⟩
    ·subst g a2;omega
    ·exact c a2
   |false=>
    simp at c hp;rcases a with⟨g,a2⟩|⟨g,a2⟩
    ·exact c g
    ·subst g a2;omega
def kK (pos:Nat->Nat) (L:List (Nat×Nat)):List Bool:=L.map fun x=>decide (pos x.1<pos x.2)
theorem vZ {n:Nat} {pos:Nat->Nat} (hi:eW n pos):∀{L:List (Nat×Nat)},kJ n L->iO L (kK pos L) pos
 |[],_=>trivial
 |x::L,he=>by
  obtain⟨h1,a,b⟩:=he x (List.mem_cons_self ..);refine⟨?_,vZ hi he.tail⟩;show pos (tl x (decide (pos x.1<pos x.2)))<pos (hd x (decide (pos x.1<pos x.2)))
  unfold tl hd;by_cases c:pos x.1<pos x.2
  ·rw[decide_eq_true c];exact c
  ·rw[decide_eq_false c]
   have:pos x.1≠pos x.2:=fun e=>b (hi _ _ h1 a e)
   show pos x.2<pos x.1
   omega
theorem rI {pos:Nat->Nat}:∀{L:List (Nat×Nat)} {o:List Bool},o.length=L.length->iO L o pos->o=kK pos L
 |[],[],_,_=>rfl
 |x::L,b::o,e,a=>by
  have g:=rI (L:=L) (o:=o) (by simpa using e) a.2;show b::o=decide (pos x.1<pos x.2)::kK pos L
  rw[<-g];congr 1
  have hp:=a.1;unfold tl hd at hp;cases b with
  |true=>exact(decide_eq_true (by simpa using hp)).symm
  |false=>exact(decide_eq_false (by simp at hp;omega)).symm
theorem D4 {n:Nat} {t:Nat->Nat->Int} (i:Wt n t) {pos pos':Nat->Nat} (hi:eW n pos) (hi':eW n pos') (h:∀v,v<n->eo n t pos v=eo n t pos' v):∀(m v:Nat),v<n->pos' v<=m->∀u,u<n->0<t v u->(pos u<pos v↔pos' u<pos' v):=by
 intro m;induction m using Nat.strongRecOn with
 |_ m o=>
  intro v a hm;have j:∀u,u<n->0<t v u->pos' u<pos' v->pos u<pos v:=fun u hu b k=>by
   have h1:=o (pos' u) (by omega) u hu (Nat.le_refl _) v a (by rw[i.sym];exact b);have p:u≠v:=fun e=>by subst e;omega
   have hp:pos u≠pos v:=fun e=>p (hi u v hu a e)
   refine Classical.byContradiction fun l=>?_
   have:=h1.1 (by omega);omega
  have hle:∀u,u<n->(if pos' u<pos' v then t v u else 0)<=(if pos u<pos v then t v u else 0):=fun u hu=>by
   have hp:=i.pos v u;by_cases c:pos' u<pos' v
   ·rw[if_pos c]
    by_cases c0:0<t v u
    ·rw[if_pos (j u hu c0 c)];omega
    ·split<;>omega
   ·rw[if_neg c];split<;>omega
  have heq:=vO (f:=fun u=>if pos' u<pos' v then t v u else 0) (g:=fun u=>if pos u<pos v then t v u else 0) (n:=n) hle (h v a).symm;intro u hu b;have h1:(if pos' u<pos' v then t v u else 0)=(if pos u<pos v then t v u else 0):=heq u hu;constructor
  ·intro k
   rw[if_pos k] at h1;refine Classical.byContradiction fun l=>?_
   rw[if_neg l] at h1;omega
  ·exact j u hu b
theorem D5 {L:List (Nat×Nat)}:∀{x:Nat×Nat},x∈L->0<mult L x.1 x.2:=by
 have e:∀(L:List (Nat×Nat)) (u v:Nat),0<=mult L u v:=fun L u v=>by
  induction L with
  |nil=>exact Int.le_refl _
  |cons x L b=>show 0<=(if _ then(1:Int) else 0)+mult L u v;split<;>omega
 induction L with
 |nil=>intro x a;simp at a
 |cons y L b=>
  intro x a;show 0<(if y.1=x.1/\y.2=x.2\/y.1=x.2/\y.2=x.1 then(1:Int) else 0)+mult L x.1 x.2
  rcases List.mem_cons.1 a with rfl|a
  ·rw[if_pos (.inl ⟨rfl,rfl⟩)];have:=e L x.1 x.2;omega
  ·have:=b a;split<;>omega
theorem D6 {n:Nat} {L:List (Nat×Nat)} (hw:Wt n (mult L)) (he:kJ n L) {o a:List Bool} {pos pos':Nat->Nat} (g:o.length=L.length) (i:a.length=L.length) (hi:eW n pos) (hi':eW n pos') (h:iO L o pos) (j:iO L a pos') (hd:∀v,v<n->gw L o v=gw L a v):o=a:=by
 rw[rI g h,rI i j];unfold kK;refine List.map_congr_left fun x k=>?_
 obtain⟨h1,m,p⟩:=he x k;have l:=D4 hw hi hi' (fun v b=>by rw[<-po g he h v b,<-po i he j v b];exact hd v b) (pos' x.2) x.2 m (Nat.le_refl _) x.1 h1 (by rw[hw.sym];exact D5 k);by_cases c:pos x.1<pos x.2
 ·rw[decide_eq_true c,decide_eq_true (l.1 c)]
 ·rw[decide_eq_false c,decide_eq_false (fun e=>c (l.2 e))]
def arr (L:List (Nat×Nat)) (o:List Bool):List (Nat×Nat):=List.zipWith (fun x b=>(tl x b,hd x b)) L o
def dq (A:List (Nat×Nat)) (p:Nat->Bool) (v:Nat):Int:=((A.countP fun x=>p x.1&&decide (x.2=v):Nat):Int)
theorem rJ {pos:Nat->Nat}:∀{L:List (Nat×Nat)} {o:List Bool},iO L o pos↔∀x∈arr L o,pos x.1<pos x.2
 |[],o=>by simp[iO,arr]
 |x::L,[]=>by simp[iO,arr]
 |x::L,b::o=>by
  have a:=rJ (pos:=pos) (L:=L) (o:=o);unfold arr at a⊢;rw[List.zipWith_cons_cons,List.forall_mem_cons,<-a];exact Iff.rfl
theorem mB:∀{L:List (Nat×Nat)} {o:List Bool} {v:Nat},gw L o v=dq (arr L o) (fun _=>true) v
 |[],o,v=>by simp[gw,arr,dq]
 |x::L,[],v=>by simp[gw,arr,dq]
 |x::L,b::o,v=>by
  have a:=mB (L:=L) (o:=o) (v:=v);unfold arr dq at a⊢;rw[List.zipWith_cons_cons,List.countP_cons];show (if hd x b=v then 1 else 0)+gw L o v=_
  rw[a];simp only[Bool.true_and,decide_eq_true_eq];split<;>omega
theorem pq {A:List (Nat×Nat)} {p:Nat->Bool} {v:Nat}:dq A p v=0↔∀x∈A,x.2=v->p x.1=false:=by
 unfold dq;rw[Int.natCast_eq_zero,List.countP_eq_zero];constructor
 ·intro h x a b
  have:=h x a;simp only[b,decide_true,Bool.and_true] at this;simpa using this
 ·intro h x a
  by_cases e:x.2=v
  ·rw[h x a e];simp
  ·simp[e]
theorem pr (A:List (Nat×Nat)) (p:Nat->Bool) (v:Nat):0<=dq A p v:=Int.natCast_nonneg _
theorem rK (A:List (Nat×Nat)) (p:Nat->Bool) (v:Nat):dq A p v<=A.length:=by
 unfold dq;have:=List.countP_le_length (p:=fun x:Nat×Nat=>p x.1&&decide (x.2=v)) (l:=A);omega
theorem D7 {A:List (Nat×Nat)} {p q r:Nat->Bool} {v:Nat} (h:∀t,(if p t=true then 1 else 0)=(if q t=true then 1 else 0)+(if r t=true then 1 else(0:Int))):dq A p v=dq A q v+dq A r v:=by
 unfold dq;induction A with
 |nil=>simp
 |cons x A a=>
  rw[List.countP_cons,List.countP_cons,List.countP_cons];have h1:=h x.1;by_cases e:x.2=v
  ·simp only[e,decide_true,Bool.and_true]
   revert h1
   cases p x.1<;>cases q x.1<;>cases r x.1<;>simp<;>omega
  ·simp only[e,decide_false,Bool.and_false,Bool.false_eq_true,if_false]
   omega
theorem nL {α:Type} [DecidableEq α]:∀{l l':List α},l.Nodup->(∀x∈l,x∈l')->l.length<=l'.length
 |[],_,_,_=>Nat.zero_le _
 |x::l,l',hn,a=>by
  obtain⟨h1,h⟩:=List.nodup_cons.1 hn;have i:=nL (l:=l) (l':=l'.erase x) h fun y b=>(List.mem_erase_of_ne (fun e=>h1 (by rw[<-e];exact b))).2 (a y (List.mem_cons_of_mem _ b))
  have g:=a x (List.mem_cons_self ..);rw[List.length_erase_of_mem g] at i;have:=List.length_pos_of_mem g;simp only[List.length_cons];omega
theorem rL {n:Nat} {on:List Nat} (hn:on.Nodup) (a:∀u∈on,u<n) (hlen:on.length=n) {u:Nat} (hu:u<n):u∈on:=by
 refine Classical.byContradiction fun b=>?_
 have h:=nL (l:=u::on) (l':=List.range n) (List.nodup_cons.2 ⟨b,hn⟩) fun y g=>List.mem_range.2 ((List.mem_cons.1 g).elim (fun e=>e▸hu) (a y))
 simp at h;omega
theorem D8 {n:Nat} {on:List Nat} (hlen:on.length<n):∃u,u<n/\u∉on:=by
 refine Classical.byContradiction fun a=>?_
 have h:=nL (l:=List.range n) (l':=on) List.nodup_range fun y b=>Classical.byContradiction fun h=>a ⟨y,List.mem_range.1 b,h⟩
 simp at h;omega
structure gL (n:Nat) (A:List (Nat×Nat)) (on:List Nat) (W:Nat->Int):Prop where
 nd:on.Nodup
 lt:∀u∈on,u<n
 w:∀u,u<n->W u=if u∈on then -1 else dq A (fun t=>decide (t∉on)) u
 up:∀x∈A,x.2∈on->x.1∈on/\on.idxOf x.1<on.idxOf x.2
theorem gL.start {n:Nat} {A:List (Nat×Nat)} {W:Nat->Int} (h:∀u,u<n->W u=dq A (fun _=>true) u):gL n A [] W:=
 ⟨List.nodup_nil,fun u hu=>absurd hu (by simp),fun u hu=>by(rw[h u hu];simp),fun x _ a=>absurd a (by simp)⟩
theorem gL.step {n:Nat} {A:List (Nat×Nat)} {on:List Nat} {W:Nat->Int} (h:gL n A on W) {v:Nat} (k:v<n) (l:W v=0):gL n A (on++[v]) (fun u=>(if u=v then -1 else W u)-dq A (fun t=>decide (t=v)) u):=by
 have i:v∉on:=fun g=>by rw[h.w v k,if_pos g] at l;omega
 have o:∀x∈A,x.2=v->x.1∈on:=fun x g j=>by
  rw[h.w v k,if_neg i] at l;have:=pq.1 l x g j;simpa using this
 refine⟨?_,?_,?_,?_⟩
 ·rw[List.nodup_append]
  refine⟨h.nd,by simp,fun a s b hb e=>?_⟩;rw[List.mem_singleton] at hb;subst hb e;exact i s
 ·intro u hu
  rcases List.mem_append.1 hu with hu|hu
  ·exact h.lt u hu
  ·rw[List.mem_singleton] at hu;subst hu;exact k
 ·intro u hu
  by_cases e:u=v
  ·subst e
   have m:dq A (fun t=>decide (t=u)) u=0:=pq.2 fun x g j=>by
    have:=o x g j;exact decide_eq_false fun e=>i (by rw[<-e];exact this)
   show (if u=u then -1 else W u)-dq A (fun t=>decide (t=u)) u=_
   rw[if_pos rfl,m,if_pos (by simp)];rfl
  ·show (if u=v then -1 else W u)-dq A (fun t=>decide (t=v)) u=_
   rw[if_neg e,h.w u hu];by_cases hm:u∈on
   ·have m:dq A (fun t=>decide (t=v)) u=0:=pq.2 fun x g j=>by
     have:=(h.up x g (by rw[j];exact hm)).1;exact decide_eq_false fun e=>i (by rw[<-e];exact this)
    rw[m,if_pos hm,if_pos (by simp[hm])];rfl
   ·rw[if_neg hm,if_neg (by simp[hm,e])]
    rw[D7 (p:=fun t=>decide (t∉on)) (q:=fun t=>decide (t∉on++[v])) (r:=fun t=>decide (t=v))]
    ·omega
    ·intro t
     by_cases c1:t∈on
     ·have c2:t≠v:=fun e=>i (by rw[<-e];exact c1)
      simp[c1,c2]
     ·by_cases c2:t=v
      ·simp[c1,c2,i]
      ·simp[c1,c2]
 ·intro x g y
  have key:x.1∈on/\on.idxOf x.1<(on++[v]).idxOf x.2:=by
   rcases List.mem_append.1 y with hm|hm
   ·obtain⟨a,b⟩:=h.up x g hm
    exact⟨a,by rw[List.idxOf_append,if_pos hm];exact b⟩
   ·rw[List.mem_singleton] at hm
    have a:=o x g hm;refine⟨a,?_⟩;rw[List.idxOf_append,if_neg (by rw[hm];exact i)];have:=List.idxOf_lt_length_of_mem a;omega
  refine⟨List.mem_append.2 (.inl key.1),?_⟩;rw[List.idxOf_append (a:=x.1),if_pos key.1];exact key.2
theorem gL.next {n:Nat} {A:List (Nat×Nat)} {on:List Nat} {W:Nat->Int} (h:gL n A on W) (e:∀x∈A,x.1<n) {pos:Nat->Nat} (hp:∀x∈A,pos x.1<pos x.2) (g:on.length<n):∃v,v<n/\W v=0:=by
 obtain⟨u,i,j⟩:=D8 g;obtain⟨v,⟨a,k⟩,l⟩:=exists_least (P:=fun v=>v<n/\v∉on) pos ⟨u,i,j⟩;refine⟨v,a,?_⟩;rw[h.w v a,if_neg k];refine pq.2 fun x b m=>decide_eq_false fun o=>?_
 have h1:=l x.1 ⟨e x b,o⟩;have p:=hp x b;rw[m] at p;omega
theorem D9 {on:List Nat} {u v:Nat} (hu:u∈on) (a:v∈on) (h:on.idxOf u=on.idxOf v):u=v:=by
 have h1:=List.getElem_idxOf (List.idxOf_lt_length_of_mem hu);have b:=List.getElem_idxOf (List.idxOf_lt_length_of_mem a);rw[<-h1,<-b];congr 1
theorem gL.order {n:Nat} {A:List (Nat×Nat)} {on:List Nat} {W:Nat->Int} (h:gL n A on W) (e:∀x∈A,x.2<n) (a:on.length=n):∃pos:Nat->Nat,eW n pos/\∀x∈A,pos x.1<pos x.2:=
 ⟨fun u=>on.idxOf u,fun u v hu g he=>D9 (rL h.nd h.lt a hu) (rL h.nd h.lt a g) he,fun x b=>(h.up x b (rL h.nd h.lt a (e x b))).2⟩
end Go.Proofs.YtffdiakgjakngaaGreat.T
namespace Go.Proofs.YtffdiakgjakngaaGreat.P
open Go.RowKit Go.Proofs.YtffdiakgjakngaaGreatW.PrintWords Go.Proofs.YtffdiakgjakngaaGreatW.PrintLast Go.Proofs.YtffdiakgjakngaaGreatW.PrintMore
set_option linter.unusedVariables false
set_option linter.unusedSimpArgs false
set_option maxHeartbeats 8000000
set_option maxRecDepth 100000
def Ev {α:Type} (f:Nat->Option α) (r:α):Prop:=∃B,∀K,B<=K->f K=some r
theorem Ev.const {α:Type} (r:α):Ev (fun _=>some r) r:=⟨0,fun _ _=>rfl⟩
theorem Ev.of_succ {α:Type} {f:Nat->Option α} {r:α} (h:Ev (fun k=>f (k+1)) r):Ev f r:=by
 obtain⟨B,h⟩:=h;refine⟨B+1,fun K a=>?_⟩;obtain⟨k,rfl⟩:∃k,K=k+1:=⟨K-1,by omega⟩;exact h k (by omega)
theorem Ev.bind {α β:Type} {f:Nat->Option α} {g:α->Nat->Option β} {a:α} {r:β} (h1:Ev f a) (b:Ev (g a) r):Ev (fun k=>(f k).bind fun t=>g t k) r:=by
 obtain⟨B,h1⟩:=h1;obtain⟨C,b⟩:=b;refine⟨max B C,fun K e=>?_⟩;show (f K).bind (fun t=>g t K)=some r
 rw[h1 K (by omega),Option.bind_some];exact b K (by omega)
theorem Ev.get {α:Type} {f:Nat->Option α} {r:α} (h:Ev f r):∃k,f k=some r:=by
 obtain⟨B,h⟩:=h;exact⟨B,h B (aI _)⟩
theorem Ev.at_ {α:Type} {f:Nat->Option α} {r:α} (hm:∀k,al (f k) (f (k+1))) {k:Nat} (h:f k=some r):Ev f r:=
 ⟨k,fun K a=>by
  obtain⟨m,rfl⟩:∃m,K=k+m:=⟨K-k,by omega⟩;clear a;induction m with
  |zero=>exact h
  |succ m b=>exact hm _ _ b⟩
theorem eX {i:Nat} (h:i<=1000000):wrap64 ((i:Int)+1)=((i+1:Nat):Int):=by
 rw[show wrap64 ((i:Int)+1)=(i:Int)+1 from by unfold wrap64;omega];omega
theorem jm {x:Int} (h: -1000000000<=x/\x<=1000000000):wrap64 x=x:=by unfold wrap64;omega
def ix.f (b:Int) (e:List (S83)) (a:Int):Option (Bool):=if a>=0 then(some (decide (a<b))) else(some false)
theorem ix.calls (i:Int) (l:Option Addr) (m:Nat) (b:List (S83)) (j:Int) (r:Bool) (w:World) (n:Kd.C aM w l b.length b) (o:b.length<=m) (h:ix.f i b j=some r):
  Calls Tryz.prog 149 #[.agg #[.int .i64 i,.slice l b.length m],.int .i64 j] w fun e w'=>e= .returned (.bool r)/\Below w.heap.size w w':=by
 have x:=Tryz.underlying24;have y:=zA n;have z:=zA o;clear n o;have a:=zA (aj w.heap.size w);have H:(if j>=0 then(some (decide (j<i))) else(some false))=some r:=h;clear h;by_cases c3:j>=0
 ·rw[if_pos c3] at H
  have q:=aE c3;clear c3;obtain rfl:=aX H;go_enter Tryz.func149,Tryz.ntmps149
  go_wp2_with (first|((with_reducible refine aU (N:=2) rfl ?_);refine zX 2 #[.int .i64 i,.slice l b.length m] 24 ?_;intro s g B k hb;have p:=zA (k);have u:=zG a g;have v:=zG a g;replace a:=zS a hb;clear hb k g;obtain⟨D,E,F,G⟩:=aC p))
  go_ret;exact⟨zE,zB⟩
 ·rw[if_neg c3] at H
  have q:=ba c3;clear c3;obtain rfl:=aX H;go_enter Tryz.func149,Tryz.ntmps149
  go_wp2_with (first|((with_reducible refine aU (N:=2) rfl ?_);refine zX 2 #[.int .i64 i,.slice l b.length m] 24 ?_;intro s g I k hb;have p:=zA (k);have u:=zG a g;have v:=zG a g;replace a:=zS a hb;clear hb k g))
  go_ret;exact⟨zE,zB⟩
end Go.Proofs.YtffdiakgjakngaaGreat.P


namespace Go.Proofs.YtffdiakgjakngaaGreat.P
open Go.RowKit Go.Proofs.YtffdiakgjakngaaGreatW.PrintWords Go.Proofs.YtffdiakgjakngaaGreatW.PrintLast Go.Proofs.YtffdiakgjakngaaGreatW.PrintMore
set_option linter.unusedVariables false
set_option linter.unusedSimpArgs false
set_option maxHeartbeats 8000000
set_option maxRecDepth 100000
def fB.j0:Nat->Int->Bool->Int->List (S83)->Int->Int->Int->Option (Int)
 |0,_,_,_,_,_,_,_=>none
 |k+1,x1,g,h,a,b,e,i=>if g=true then(some 2) else(if b>e then(some 9) else(if x1>0 then(if 0<=(wrap64 (x1-1)) then(if(wrap64 (x1-1))<(a.length:Int) then(if b<((ae a (wrap64 (x1-1))).f0) then(some 9) else(if b=((ae a (wrap64 (x1-1))).f0) then(if e<=((ae a (wrap64 (x1-1))).f1) then(some 9) else(some 0)) else(some 0))) else(none)) else(none)) else(some 0)))
def fB.f (k:Nat) (e:Int) (a:List (S83)) (b:Int):Option (Int):=if 0<=b then(if b<(a.length:Int) then((ix.f e a ((ae a b).f0)).bind fun t112=>(if t112=true then((ix.f e a ((ae a b).f1)).bind fun t113=>(if t113=true then(if((ae a b).f2)<1 then(fB.j0 k b true e a ((ae a b).f0) ((ae a b).f1) ((ae a b).f2)) else(fB.j0 k b (decide (((ae a b).f2)>50)) e a ((ae a b).f0) ((ae a b).f1) ((ae a b).f2))) else(fB.j0 k b true e a ((ae a b).f0) ((ae a b).f1) ((ae a b).f2)))) else(fB.j0 k b true e a ((ae a b).f0) ((ae a b).f1) ((ae a b).f2)))) else(none)) else(none)
theorem fB.calls (k:Nat) (n:Int) (aP:Option Addr) (x:Nat) (a:List (S83)) (b:Int) (r:Int) (w:World) (a5:Kd.C aM w aP a.length a) (a9:a.length<=x) (h:fB.f k n a b=some r):
  Calls Tryz.prog 153 #[.agg #[.int .i64 n,.slice aP a.length x],.int .i64 b] w fun e w'=>e= .returned (.int .i64 r)/\Below w.heap.size w w':=by
 have b_:=Tryz.underlying24;have b':=Tryz.underlying83;have I:=zA a5;have K:=zA a9;clear a5 a9;have j:=zA (aj w.heap.size w);unfold fB.f at h;have H:=h;clear h;by_cases c3:0<=b
 ·rw[if_pos c3] at H
  have bb:=aE c3;clear c3;by_cases c4:b<(a.length:Int)
  ·rw[if_pos c4] at H
   have be:=aE c4;clear c4;have aS:=zA H;clear H;go_enter Tryz.func153,Tryz.ntmps153
   go_upto_region 2 with (first|((with_reducible refine aU (N:=2) rfl ?_);refine zX 2 #[.int .i64 n,.slice aP a.length x] 24 ?_;intro p m w6 z hb;have l:=zA (z);have cb:=zG j m;have cc:=zG j m;replace j:=zS j hb;clear hb z m;obtain⟨bf,bg,bi,bk⟩:=aC l;have ad:0<=(b:Int):=aA ‹_›;have ag:b<(a.length:Int):=aA ‹_›;obtain⟨q,bl,ak,am,an⟩:=dM I.out b ad ag;cases bl;replace ak:=(j.out.cell (bm w _ ak)).trans ak;replace am:=(j.out.cell (bm w _ am)).trans am;replace an:=(j.out.cell (bm w _ an)).trans an;replace ad:=eq_true ad;replace ag:=eq_true ag)|((with_reducible refine aU (N:=5) rfl ?_);refine zX 5 #[.int .i64 0,.int .i64 0,.int .i64 0] 83 ?_;intro s m w8 z hb;have i:=zA (z);have ce:=zG j m;have cf:=zG j m;replace j:=zS j hb;have u:=zA ((by rw[m];exact Nat.ne_of_lt (ay (g:=p) (o:=.cells #[.int .i64 n,.slice (some q) a.length x] 24 (0,0)) (zK l)):p≠s));have J:=zA ((by rw[m];exact Nat.ne_of_gt (ay (g:=p) (o:=.cells #[.int .i64 n,.slice (some q) a.length x] 24 (0,0)) (zK l)):s≠p));replace l:=zb l hb;clear hb z m;have cg:=J.out;have ch:=u.out;obtain⟨bn,bo,bq,bv,bw,bx⟩:=cC i))
   (try simp only[Act.put,List.setIfInBounds_toArray,List.set_cons_zero,List.set_cons_succ])
   go_cut [33] (fun v33 wc=>∃(kq:Nat) (ap:Bool),v33= .bool ap/\Aside0 (fB.j0 kq b ap n a ((ae a b).f0) ((ae a b).f1) ((ae a b).f2)=some r)/\Aside0 (kq<=k)/\Aside0 (wc.heap[p]? =some (.cells #[.int .i64 n,(.slice (some q) a.length x)] 24 (0,0)))/\Aside0 (wc.heap[s]? =some (.cells #[.int .i64 ((ae a b).f0),.int .i64 ((ae a b).f1),.int .i64 ((ae a b).f2)] 83 (0,0)))/\Aside0 (Below w.heap.size w wc))
   case first=>
    have H:=aS.out;clear aS;obtain⟨t112,ar,H⟩:=zo H;by_cases av:t112=true
    ·subst av
     replace H:=zi H;obtain⟨t113,a0,H⟩:=zo H;by_cases aB:t113=true
     ·subst aB
      replace H:=zi H;by_cases V:((ae a b).f2)<1
      ·rw[if_pos V] at H
       have aa:=aE V;clear V
       (first|rw[aa]|(simp only[dG,dL];rw[aa])|skip)
       have L:=zA H;clear H;have ci:=u.out;have cj:=J.out;obtain⟨ck,cl,co,cp⟩:=aC l;obtain⟨cq,cr,cv,cx,c0,c1⟩:=cC i;go_wp2_with (first|((with_reducible refine aR (f:=149) rfl ?_);refine zL (some 15) Tryz.func149 #[.agg #[.int .i64 n,.slice (some q) a.length x],.int .i64 ((ae a b).f0)] ?_;(with_reducible refine(ix.calls n _ _ a ((ae a b).f0) true _ ?au ?aw ar.out).mono ?_);(case au=>exact Kd.ax I.out zB);(case aw=>exact K.out);rintro e c2 ⟨rfl,hb⟩;refine⟨_,rfl,?_⟩;replace l:=zA (az (g:=p) (o:=.cells #[.int .i64 n,.slice (some q) a.length x] 24 (0,0)) (by refine zk ?_;refine aG ?_ u.out _;refine zk ?_;refine aG ?_ u.out _;refine zk ?_;refine aG ?_ u.out _;exact zK l) hb);replace i:=zA (az (g:=s) (o:=.cells #[.int .i64 ((ae a b).f0),.int .i64 ((ae a b).f1),.int .i64 ((ae a b).f2)] 83 (0,0)) (by refine zk ?_;refine bH (cs:=#[.int .i64 ((ae a b).f0),.int .i64 ((ae a b).f1),.int .i64 0]) ?_ 2 _ rfl;refine zk ?_;refine bH (cs:=#[.int .i64 ((ae a b).f0),.int .i64 0,.int .i64 0]) ?_ 1 _ rfl;refine zk ?_;refine bH (cs:=#[.int .i64 0,.int .i64 0,.int .i64 0]) ?_ 0 _ rfl;exact zK i) hb);replace j:=zS j hb;(try clear hb);obtain⟨c5,c6,c7,c8⟩:=aC l;obtain⟨c9,c',dd,dk,dl,ds⟩:=cC i)|(go_at_call 149;(with_reducible refine(ix.calls n _ _ a ((ae a b).f1) true _ ?au ?aw a0.out).mono ?_);(case au=>exact Kd.ax I.out zB);(case aw=>exact K.out);rintro e dv ⟨rfl,hb⟩;replace l:=zb l hb;replace i:=zb i hb;replace j:=zS j hb;(try clear hb);obtain⟨dx,d0,d1,d2,d3,d4⟩:=cC i))
       go_meet
       case rel=>exact⟨_,(true),zT,L,⟨by first|omega|exact aI _⟩,⟨zK l⟩,⟨zK i⟩,⟨zB⟩⟩
      ·rw[if_neg V] at H
       have aa:=ba V;clear V
       (first|rw[aa]|(simp only[dG,dL];rw[aa])|skip)
       have L:=zA H;clear H;have d5:=u.out;have d6:=J.out;obtain⟨d7,d8,d9,ea⟩:=aC l;obtain⟨eb,ed,eg,ek,el,em⟩:=cC i;go_wp2_with (first|((with_reducible refine aR (f:=149) rfl ?_);refine zL (some 15) Tryz.func149 #[.agg #[.int .i64 n,.slice (some q) a.length x],.int .i64 ((ae a b).f0)] ?_;(with_reducible refine(ix.calls n _ _ a ((ae a b).f0) true _ ?au ?aw ar.out).mono ?_);(case au=>exact Kd.ax I.out zB);(case aw=>exact K.out);rintro e er ⟨rfl,hb⟩;refine⟨_,rfl,?_⟩;replace l:=zA (az (g:=p) (o:=.cells #[.int .i64 n,.slice (some q) a.length x] 24 (0,0)) (by refine zk ?_;refine aG ?_ u.out _;refine zk ?_;refine aG ?_ u.out _;refine zk ?_;refine aG ?_ u.out _;exact zK l) hb);replace i:=zA (az (g:=s) (o:=.cells #[.int .i64 ((ae a b).f0),.int .i64 ((ae a b).f1),.int .i64 ((ae a b).f2)] 83 (0,0)) (by refine zk ?_;refine bH (cs:=#[.int .i64 ((ae a b).f0),.int .i64 ((ae a b).f1),.int .i64 0]) ?_ 2 _ rfl;refine zk ?_;refine bH (cs:=#[.int .i64 ((ae a b).f0),.int .i64 0,.int .i64 0]) ?_ 1 _ rfl;refine zk ?_;refine bH (cs:=#[.int .i64 0,.int .i64 0,.int .i64 0]) ?_ 0 _ rfl;exact zK i) hb);replace j:=zS j hb;(try clear hb);obtain⟨es,ev,ew,ex⟩:=aC l;obtain⟨ey,e0,e1,e2,e3,e4⟩:=cC i)|(go_at_call 149;(with_reducible refine(ix.calls n _ _ a ((ae a b).f1) true _ ?au ?aw a0.out).mono ?_);(case au=>exact Kd.ax I.out zB);(case aw=>exact K.out);rintro e e5 ⟨rfl,hb⟩;replace l:=zb l hb;replace i:=zb i hb;replace j:=zS j hb;(try clear hb);obtain⟨e6,e_,e',fb,fd,fn⟩:=cC i))
       go_meet
       case rel=>exact⟨_,(decide (((ae a b).f2)>50)),zT,L,⟨by first|omega|exact aI _⟩,⟨zK l⟩,⟨zK i⟩,⟨zB⟩⟩
     ·replace aB:=Bool.eq_false_iff.mpr aB
      subst aB;replace H:=zj H;have L:=zA H;clear H;have fo:=u.out;have fq:=J.out;obtain⟨fr,ft,fv,f3⟩:=aC l;obtain⟨f4,f5,f6,f7,f8,f9⟩:=cC i;go_wp2_with (first|((with_reducible refine aR (f:=149) rfl ?_);refine zL (some 15) Tryz.func149 #[.agg #[.int .i64 n,.slice (some q) a.length x],.int .i64 ((ae a b).f0)] ?_;(with_reducible refine(ix.calls n _ _ a ((ae a b).f0) true _ ?au ?aw ar.out).mono ?_);(case au=>exact Kd.ax I.out zB);(case aw=>exact K.out);rintro e f' ⟨rfl,hb⟩;refine⟨_,rfl,?_⟩;replace l:=zA (az (g:=p) (o:=.cells #[.int .i64 n,.slice (some q) a.length x] 24 (0,0)) (by refine zk ?_;refine aG ?_ u.out _;refine zk ?_;refine aG ?_ u.out _;refine zk ?_;refine aG ?_ u.out _;exact zK l) hb);replace i:=zA (az (g:=s) (o:=.cells #[.int .i64 ((ae a b).f0),.int .i64 ((ae a b).f1),.int .i64 ((ae a b).f2)] 83 (0,0)) (by refine zk ?_;refine bH (cs:=#[.int .i64 ((ae a b).f0),.int .i64 ((ae a b).f1),.int .i64 0]) ?_ 2 _ rfl;refine zk ?_;refine bH (cs:=#[.int .i64 ((ae a b).f0),.int .i64 0,.int .i64 0]) ?_ 1 _ rfl;refine zk ?_;refine bH (cs:=#[.int .i64 0,.int .i64 0,.int .i64 0]) ?_ 0 _ rfl;exact zK i) hb);replace j:=zS j hb;(try clear hb);obtain⟨ga,gb,gc,gd⟩:=aC l;obtain⟨ge,gf,gg,gi,gl,gm⟩:=cC i)|(go_at_call 149;(with_reducible refine(ix.calls n _ _ a ((ae a b).f1) false _ ?au ?aw a0.out).mono ?_);(case au=>exact Kd.ax I.out zB);(case aw=>exact K.out);rintro e gn ⟨rfl,hb⟩;replace l:=zb l hb;replace i:=zb i hb;replace j:=zS j hb;(try clear hb)))
      go_meet
      case rel=>exact⟨_,(true),zT,L,⟨by first|omega|exact aI _⟩,⟨zK l⟩,⟨zK i⟩,⟨zB⟩⟩
    ·replace av:=Bool.eq_false_iff.mpr av
     subst av;replace H:=zj H;have L:=zA H;clear H;have go:=u.out;have gp:=J.out;obtain⟨gq,gr,gs,gt⟩:=aC l;obtain⟨gx,g0,g1,g2,g3,g4⟩:=cC i;go_wp2_with (first|((with_reducible refine aR (f:=149) rfl ?_);refine zL (some 15) Tryz.func149 #[.agg #[.int .i64 n,.slice (some q) a.length x],.int .i64 ((ae a b).f0)] ?_;(with_reducible refine(ix.calls n _ _ a ((ae a b).f0) false _ ?au ?aw ar.out).mono ?_);(case au=>exact Kd.ax I.out zB);(case aw=>exact K.out);rintro e g5 ⟨rfl,hb⟩;refine⟨_,rfl,?_⟩;replace l:=zA (az (g:=p) (o:=.cells #[.int .i64 n,.slice (some q) a.length x] 24 (0,0)) (by refine zk ?_;refine aG ?_ u.out _;refine zk ?_;refine aG ?_ u.out _;refine zk ?_;refine aG ?_ u.out _;exact zK l) hb);replace i:=zA (az (g:=s) (o:=.cells #[.int .i64 ((ae a b).f0),.int .i64 ((ae a b).f1),.int .i64 ((ae a b).f2)] 83 (0,0)) (by refine zk ?_;refine bH (cs:=#[.int .i64 ((ae a b).f0),.int .i64 ((ae a b).f1),.int .i64 0]) ?_ 2 _ rfl;refine zk ?_;refine bH (cs:=#[.int .i64 ((ae a b).f0),.int .i64 0,.int .i64 0]) ?_ 1 _ rfl;refine zk ?_;refine bH (cs:=#[.int .i64 0,.int .i64 0,.int .i64 0]) ?_ 0 _ rfl;exact zK i) hb);replace j:=zS j hb;(try clear hb)))
     go_meet
     case rel=>exact⟨_,(true),zT,L,⟨by first|omega|exact aI _⟩,⟨zK l⟩,⟨zK i⟩,⟨zB⟩⟩
   case rest=>
    clear aS;clear bb be bn bo bq bf bg bv bw bx bi bk ak am an ad ag;obtain⟨kq,ap,rfl,HA,g6,l,i,j⟩:=hcut;cases kq with
    |zero=>exact absurd HA.out (by simp[fB.j0])
    |succ g7=>
     have H:=HA.out;clear HA;simp only[fB.j0] at H;by_cases aF:ap=true
     ·subst aF
      replace H:=zi H;obtain rfl:=aX H;go_wp2;go_ret;exact⟨zE,zB⟩
     ·replace aF:=Bool.eq_false_iff.mpr aF
      subst aF;replace H:=zj H;by_cases W:((ae a b).f0)>((ae a b).f1)
      ·rw[if_pos W] at H
       have b0:=aE W;clear W;obtain rfl:=aX H;have g8:=J.out;have g9:=u.out;obtain⟨g',ha,hc,he,hf,hh⟩:=cC i;go_wp2;go_ret;exact⟨zE,zB⟩
      ·rw[if_neg W] at H
       have b0:=ba W;clear W;by_cases X:b>0
       ·rw[if_pos X] at H
        have b1:=aE X;clear X;obtain⟨v,M⟩:∃j_:Int,(wrap64 (b-1))=j_:=⟨_,rfl⟩;replace H:(if 0<=(v) then(if(v)<(a.length:Int) then(if((ae a b).f0)<((ae a (v)).f0) then(some 9) else(if((ae a b).f0)=((ae a (v)).f0) then(if((ae a b).f1)<=((ae a (v)).f1) then(some 9) else(some 0)) else(some 0))) else(none)) else(none))=some r:=by first|(rw[M] at H;exact H)|(simp only[M] at H⊢;exact H)
        have hj:(IntKind.i64.wrap (b-1))=v:=(dG _).trans M;by_cases aL:0<=(v)
        ·rw[if_pos aL] at H
         have hk:=aE aL;clear aL;by_cases aO:(v)<(a.length:Int)
         ·rw[if_pos aO] at H
          have hl:=aE aO;clear aO;by_cases Y:((ae a b).f0)<((ae a (v)).f0)
          ·rw[if_pos Y] at H
           have b3:=aE Y;clear Y;obtain rfl:=aX H;have hm:=J.out;have hn:=u.out;obtain⟨ho,hp,hq,hr,hs,ht⟩:=cC i;obtain⟨hv,hw,hx,hy⟩:=aC l;have B:0<=((v):Int):=aA ‹_›;have D:(v)<(a.length:Int):=aA ‹_›;obtain⟨O,P,E,F,G⟩:=dM I.out (v) B D;obtain rfl:q=O:=(by injection P);replace E:=(j.out.cell (bm w _ E)).trans E;replace F:=(j.out.cell (bm w _ F)).trans F;replace G:=(j.out.cell (bm w _ G)).trans G;replace B:=eq_true B;replace D:=eq_true D;go_wp2_with (first|((with_reducible refine aU (N:=6) rfl ?_);refine zX 6 #[.int .i64 0,.int .i64 0,.int .i64 0] 83 ?_;intro y m hz z hb;have Q:=zA (z);have a3:=zG j m;have a4:=zG j m;replace j:=zS j hb;have R:=zA ((by rw[m];exact Nat.ne_of_lt (ay (g:=p) (o:=.cells #[.int .i64 n,.slice (some q) a.length x] 24 (0,0)) (zK l)):p≠y));have S:=zA ((by rw[m];exact Nat.ne_of_gt (ay (g:=p) (o:=.cells #[.int .i64 n,.slice (some q) a.length x] 24 (0,0)) (zK l)):y≠p));replace l:=zb l hb;have T:=zA ((by rw[m];exact Nat.ne_of_lt (ay (g:=s) (o:=.cells #[.int .i64 ((ae a b).f0),.int .i64 ((ae a b).f1),.int .i64 ((ae a b).f2)] 83 (0,0)) (zK i)):s≠y));have U:=zA ((by rw[m];exact Nat.ne_of_gt (ay (g:=s) (o:=.cells #[.int .i64 ((ae a b).f0),.int .i64 ((ae a b).f1),.int .i64 ((ae a b).f2)] 83 (0,0)) (zK i)):y≠s));replace i:=zb i hb;clear hb z m;have hA:=S.out;have hB:=R.out;have hC:=U.out;have hD:=T.out;obtain⟨hE,hG,hH,hI,hJ,hK⟩:=cC Q;obtain⟨hL,hM,hN,hO,hP,hQ⟩:=cC i))
           go_ret;exact⟨by first|rfl|(simp[fL,fM]<;>rfl)|(simp only[<-M];first|rfl|(simp[fL,fM]<;>rfl))|(simp[*,fL,fM]<;>rfl),zB⟩
          ·rw[if_neg Y] at H
           have b3:=ba Y;clear Y;by_cases ab:((ae a b).f0)=((ae a (v)).f0)
           ·rw[if_pos ab] at H
            obtain⟨b4,b5⟩:=bZ ab;clear ab;by_cases Z:((ae a b).f1)<=((ae a (v)).f1)
            ·rw[if_pos Z] at H
             have b6:=aE Z;clear Z;obtain rfl:=aX H;have hR:=J.out;have hT:=u.out;obtain⟨hV,hW,hX,hY,hZ,h0⟩:=cC i;obtain⟨h1,h2,h3,h4⟩:=aC l;have B:0<=((v):Int):=aA ‹_›;have D:(v)<(a.length:Int):=aA ‹_›;obtain⟨O,P,E,F,G⟩:=dM I.out (v) B D;obtain rfl:q=O:=(by injection P);replace E:=(j.out.cell (bm w _ E)).trans E;replace F:=(j.out.cell (bm w _ F)).trans F;replace G:=(j.out.cell (bm w _ G)).trans G;replace B:=eq_true B;replace D:=eq_true D;go_wp2_with (first|((with_reducible refine aU (N:=6) rfl ?_);refine zX 6 #[.int .i64 0,.int .i64 0,.int .i64 0] 83 ?_;intro y m h5 z hb;have Q:=zA (z);have a3:=zG j m;have a4:=zG j m;replace j:=zS j hb;have R:=zA ((by rw[m];exact Nat.ne_of_lt (ay (g:=p) (o:=.cells #[.int .i64 n,.slice (some q) a.length x] 24 (0,0)) (zK l)):p≠y));have S:=zA ((by rw[m];exact Nat.ne_of_gt (ay (g:=p) (o:=.cells #[.int .i64 n,.slice (some q) a.length x] 24 (0,0)) (zK l)):y≠p));replace l:=zb l hb;have T:=zA ((by rw[m];exact Nat.ne_of_lt (ay (g:=s) (o:=.cells #[.int .i64 ((ae a b).f0),.int .i64 ((ae a b).f1),.int .i64 ((ae a b).f2)] 83 (0,0)) (zK i)):s≠y));have U:=zA ((by rw[m];exact Nat.ne_of_gt (ay (g:=s) (o:=.cells #[.int .i64 ((ae a b).f0),.int .i64 ((ae a b).f1),.int .i64 ((ae a b).f2)] 83 (0,0)) (zK i)):y≠s));replace i:=zb i hb;clear hb z m;have h6:=S.out;have h7:=R.out;have h8:=U.out;have h9:=T.out;obtain⟨h_,h',ib,id,ih,ii⟩:=cC Q;obtain⟨im,io,ip,it,iv,i0⟩:=cC i))
             go_ret;exact⟨by first|rfl|(simp[fL,fM]<;>rfl)|(simp only[<-M];first|rfl|(simp[fL,fM]<;>rfl))|(simp[*,fL,fM]<;>rfl),zB⟩
            ·rw[if_neg Z] at H
             have b6:=ba Z;clear Z;obtain rfl:=aX H;have i1:=J.out;have i2:=u.out;obtain⟨i3,i4,i5,i6,i7,i8⟩:=cC i;obtain⟨i9,jj,jp,j1⟩:=aC l;have B:0<=((v):Int):=aA ‹_›;have D:(v)<(a.length:Int):=aA ‹_›;obtain⟨O,P,E,F,G⟩:=dM I.out (v) B D;obtain rfl:q=O:=(by injection P);replace E:=(j.out.cell (bm w _ E)).trans E;replace F:=(j.out.cell (bm w _ F)).trans F;replace G:=(j.out.cell (bm w _ G)).trans G;replace B:=eq_true B;replace D:=eq_true D;go_wp2_with (first|((with_reducible refine aU (N:=6) rfl ?_);refine zX 6 #[.int .i64 0,.int .i64 0,.int .i64 0] 83 ?_;intro y m j2 z hb;have Q:=zA (z);have a3:=zG j m;have a4:=zG j m;replace j:=zS j hb;have R:=zA ((by rw[m];exact Nat.ne_of_lt (ay (g:=p) (o:=.cells #[.int .i64 n,.slice (some q) a.length x] 24 (0,0)) (zK l)):p≠y));have S:=zA ((by rw[m];exact Nat.ne_of_gt (ay (g:=p) (o:=.cells #[.int .i64 n,.slice (some q) a.length x] 24 (0,0)) (zK l)):y≠p));replace l:=zb l hb;have T:=zA ((by rw[m];exact Nat.ne_of_lt (ay (g:=s) (o:=.cells #[.int .i64 ((ae a b).f0),.int .i64 ((ae a b).f1),.int .i64 ((ae a b).f2)] 83 (0,0)) (zK i)):s≠y));have U:=zA ((by rw[m];exact Nat.ne_of_gt (ay (g:=s) (o:=.cells #[.int .i64 ((ae a b).f0),.int .i64 ((ae a b).f1),.int .i64 ((ae a b).f2)] 83 (0,0)) (zK i)):y≠s));replace i:=zb i hb;clear hb z m;have j3:=S.out;have j':=R.out;have kb:=U.out;have kd:=T.out;obtain⟨kk,km,ks,kt,kv,kw⟩:=cC Q;obtain⟨kW,k0,k1,k2,k3,k4⟩:=cC i))
             go_ret;exact⟨by first|rfl|(simp[fL,fM]<;>rfl)|(simp only[<-M];first|rfl|(simp[fL,fM]<;>rfl))|(simp[*,fL,fM]<;>rfl),zB⟩
           ·rw[if_neg ab] at H
            obtain⟨b4,b5⟩:=b7 ab;obtain rfl:=aX H;have k5:=J.out;have k6:=u.out;obtain⟨k7,k8,k9,k_,la,lb⟩:=cC i;obtain⟨lc,ld,le,lg⟩:=aC l;have B:0<=((v):Int):=aA ‹_›;have D:(v)<(a.length:Int):=aA ‹_›;obtain⟨O,P,E,F,G⟩:=dM I.out (v) B D;obtain rfl:q=O:=(by injection P);replace E:=(j.out.cell (bm w _ E)).trans E;replace F:=(j.out.cell (bm w _ F)).trans F;replace G:=(j.out.cell (bm w _ G)).trans G;replace B:=eq_true B;replace D:=eq_true D;go_wp2_with (first|((with_reducible refine aU (N:=6) rfl ?_);refine zX 6 #[.int .i64 0,.int .i64 0,.int .i64 0] 83 ?_;intro y m li z hb;have Q:=zA (z);have a3:=zG j m;have a4:=zG j m;replace j:=zS j hb;have R:=zA ((by rw[m];exact Nat.ne_of_lt (ay (g:=p) (o:=.cells #[.int .i64 n,.slice (some q) a.length x] 24 (0,0)) (zK l)):p≠y));have S:=zA ((by rw[m];exact Nat.ne_of_gt (ay (g:=p) (o:=.cells #[.int .i64 n,.slice (some q) a.length x] 24 (0,0)) (zK l)):y≠p));replace l:=zb l hb;have T:=zA ((by rw[m];exact Nat.ne_of_lt (ay (g:=s) (o:=.cells #[.int .i64 ((ae a b).f0),.int .i64 ((ae a b).f1),.int .i64 ((ae a b).f2)] 83 (0,0)) (zK i)):s≠y));have U:=zA ((by rw[m];exact Nat.ne_of_gt (ay (g:=s) (o:=.cells #[.int .i64 ((ae a b).f0),.int .i64 ((ae a b).f1),.int .i64 ((ae a b).f2)] 83 (0,0)) (zK i)):y≠s));replace i:=zb i hb;clear hb z m;have lj:=S.out;have lk:=R.out;have lm:=U.out;have lo:=T.out;obtain⟨lp,ls,lt,lv,lw,l0⟩:=cC Q;obtain⟨l1,l2,l3,l',mb,md⟩:=cC i))
            go_ret;exact⟨by first|rfl|(simp[fL,fM]<;>rfl)|(simp only[<-M];first|rfl|(simp[fL,fM]<;>rfl))|(simp[*,fL,fM]<;>rfl),zB⟩
         ·rw[if_neg aO] at H
          exact absurd H (by simp)
        ·rw[if_neg aL] at H
         exact absurd H (by simp)
       ·rw[if_neg X] at H
        have b1:=ba X;clear X;obtain rfl:=aX H;have mk:=J.out;have ml:=u.out;obtain⟨mm,mn,mp,ms,mt,mv⟩:=cC i;go_wp2;go_ret;exact⟨zE,zB⟩
  ·rw[if_neg c4] at H
   exact absurd H (by simp)
 ·rw[if_neg c3] at H
  exact absurd H (by simp)
mutual
def dw.j0:Nat->Bool->Int->List (S83)->Option (Int)
 |0,_,_,_=>none
 |k+1,a,b,e=>if a=true then(some 2) else(dw.l0 k 0 b e)
def dw.l0:Nat->Int->Int->List (S83)->Option (Int)
 |0,_,_,_=>none
 |k+1,x3,b,a=>if x3<(a.length:Int) then((fB.f k b a x3).bind fun t117=>(if t117=0 then(dw.l0 k (wrap64 (x3+1)) b a) else(some t117))) else(some 0)
end
def dw.f (k:Nat) (a:Int) (b:List (S83)):Option (Int):=if a<1 then(dw.j0 k true a b) else(dw.j0 k (decide (a>12)) a b)
theorem dw.calls (k:Nat) (g:Int) (m:Option Addr) (n:Nat) (a:List (S83)) (r:Int) (w:World) (D:Kd.C aM w m a.length a) (E:a.length<=n) (h:dw.f k g a=some r):
  Calls Tryz.prog 103 #[.agg #[.int .i64 g,.slice m a.length n]] w fun e w'=>e= .returned (.int .i64 r)/\Below w.heap.size w w':=by
 have S:=Tryz.underlying24;have F:=zA D;have G:=zA E;clear D E;have i:=zA (aj w.heap.size w);unfold dw.f at h;have H:=h;clear h;have y:=zA H;clear H;go_enter Tryz.func103,Tryz.ntmps103
 go_upto_region 1 with (first|((with_reducible refine aU (N:=1) rfl ?_);refine zX 1 #[.int .i64 g,.slice m a.length n] 24 ?_;intro I z w3 J hb;have b:=zA (J);have T:=zG i z;have U:=zG i z;replace i:=zS i hb;clear hb J z))
 (try simp only[Act.put,List.setIfInBounds_toArray,List.set_cons_zero,List.set_cons_succ])
 go_cut [12] (fun v12 wc=>∃(o:Nat) (v:Bool),v12= .bool v/\Aside0 (dw.j0 o v g a=some r)/\Aside0 (o<=k)/\Aside0 (wc.heap[I]? =some (.cells #[.int .i64 g,(.slice m a.length n)] 24 (0,0)))/\Aside0 (Below w.heap.size w wc))
 case first=>
  have H:=y.out;clear y;by_cases c4:g<1
  ·rw[if_pos c4] at H
   have s:=aE c4;clear c4
   (first|rw[s]|(simp only[dG,dL];rw[s])|skip)
   have l:=zA H;clear H;obtain⟨V,W,X,Y⟩:=aC b;go_wp2;go_meet
   case rel=>exact⟨_,(true),zT,l,⟨by first|omega|exact aI _⟩,⟨zK b⟩,⟨zB⟩⟩
  ·rw[if_neg c4] at H
   have s:=ba c4;clear c4
   (first|rw[s]|(simp only[dG,dL];rw[s])|skip)
   have l:=zA H;clear H;obtain⟨Z,aa,ab,ad⟩:=aC b;go_wp2;go_meet
   case rel=>exact⟨_,(decide (g>12)),zT,l,⟨by first|omega|exact aI _⟩,⟨zK b⟩,⟨zB⟩⟩
 case rest=>
  clear y;obtain⟨o,v,rfl,p,K,b,i⟩:=hcut;cases o with
  |zero=>exact absurd p.out (by simp[dw.j0])
  |succ L=>
   have H:=p.out;clear p;simp only[dw.j0] at H;by_cases x:v=true
   ·subst x
    replace H:=zi H;obtain rfl:=aX H;go_wp2;go_ret;exact⟨zE,zB⟩
   ·replace x:=Bool.eq_false_iff.mpr x
    subst x;replace H:=zj H;have l:=zA H;clear H;go_wp2;go_loopg [3] L (fun o v3 w'=>∃(j:Int),v3= .int .i64 j/\Aside0 (dw.l0 o j g a=some r)/\Aside0 (o<=L)/\Aside0 (w'.heap[I]? =some (.cells #[.int .i64 g,(.slice m a.length n)] 24 (0,0)))/\Aside0 (Below w.heap.size w w'))
    case atStart=>exact⟨(0),zT,l,⟨aI _⟩,⟨zK b⟩,⟨zB⟩⟩
    case round=>
     clear l;obtain⟨j,rfl,p,M,b,i⟩:=hrel;cases gk with
     |zero=>exact absurd p.out (by simp[dw.l0])
     |succ B=>
      have H:=p.out;clear p;simp only[dw.l0] at H;by_cases q:j<(a.length:Int)
      ·rw[if_pos q] at H
       have P:=aE q;clear q;obtain⟨t117,O,H⟩:=zo H;by_cases u:t117=0
       ·rw[if_pos u] at H
        obtain⟨Q,R⟩:=bZ u;clear u;have l:=zA H;clear H;obtain⟨ag,ak,am,an⟩:=aC b;go_wp2_with (first|((with_reducible refine aR (f:=153) rfl ?_);refine zL (some 22) Tryz.func153 #[.agg #[.int .i64 g,.slice m a.length n],.int .i64 j] ?_;(with_reducible refine(fB.calls B g _ _ a j t117 _ ?au ?aw O.out).mono ?_);(case au=>exact Kd.ax F.out zB);(case aw=>exact G.out);rintro e ao ⟨rfl,hb⟩;refine⟨_,rfl,?_⟩;replace b:=zb b hb;replace i:=zS i hb;(try clear hb)))
        go_roundg B
        case measure=>have:=K.out;have:=M.out;omega
        case rel=>exact⟨(wrap64 (j+1)),zT,l,⟨by have:=K.out;have:=M.out;omega⟩,⟨zK b⟩,⟨zB⟩⟩
       ·rw[if_neg u] at H
        obtain⟨Q,R⟩:=b7 u;obtain rfl:=aX H;obtain⟨ap,ar,av,aB⟩:=aC b;go_wp2_with (first|((with_reducible refine aR (f:=153) rfl ?_);refine zL (some 22) Tryz.func153 #[.agg #[.int .i64 g,.slice m a.length n],.int .i64 j] ?_;(with_reducible refine(fB.calls B g _ _ a j t117 _ ?au ?aw O.out).mono ?_);(case au=>exact Kd.ax F.out zB);(case aw=>exact G.out);rintro e aF ⟨rfl,hb⟩;refine⟨_,rfl,?_⟩;replace b:=zb b hb;replace i:=zS i hb;(try clear hb)))
        go_ret;exact⟨zE,zB⟩
      ·rw[if_neg q] at H
       have P:=ba q;clear q;obtain rfl:=aX H;obtain⟨aL,aO,aP,aS⟩:=aC b;go_wp2;go_ret;exact⟨zE,zB⟩
def bQ (N:Int) (x:S83):Bool:=decide (0<=x.f0/\x.f0<N/\0<=x.f1/\x.f1<N/\1<=x.f2/\x.f2<=50)
def dY (N:Int) (a b:Int) (x:S83):Int:=if bQ N x=false then 2 else if x.f0<a\/x.f0=a/\x.f1<=b\/x.f0>x.f1 then 9 else 0
def iy (N:Int):Int->Int->List S83->Int
 |_,_,[]=>0
 |a,b,x::E=>if dY N a b x=0 then iy N x.f0 x.f1 E else dY N a b x
def cL (N:Int) (E:List S83):Int:=if N<1\/N>12 then 2 else iy N (-1) (-1) E
theorem nM {E:List S83} {i:Nat} (h:i<E.length):E.drop i=ae E i::E.drop (i+1):=by
 rw[List.drop_eq_getElem_cons h];simp[ae,aW,bp h]
theorem D_ (N v:Int):gj.f N v=some (decide (0<=v/\v<N)):=by
 unfold gj.f;by_cases h:v>=0
 ·rw[if_pos h];congr 1;simp[show 0<=v from h]
 ·rw[if_neg h];congr 1;simp;omega
theorem pv (a b:Int):iH.f a b=some (if a<b then -1 else if a>b then 1 else 0):=by
 unfold iH.f cmp_isNaN_int.f;simp only[bne_self_eq_false,Option.bind_some,Bool.false_eq_true,if_false];split
 ·rfl
 ·split<;>rfl
theorem Ea (a b:Int):Ev (fun k=>dz.f k [a,b]) (if a=0 then b else a):=by
 unfold dz.f;refine Ev.of_succ ?_;simp only[dz.l0,List.length_cons,List.length_nil,rd];by_cases e:a=0
 ·subst e
  refine Ev.of_succ ?_;simp only[dz.l0,List.length_cons,List.length_nil,rd,wrap64];simp;by_cases hb:b=0
  ·subst hb
   refine Ev.of_succ ?_;simp[dz.l0,wrap64];exact Ev.const _
  ·simp[hb];exact Ev.const _
 ·simp[e];exact Ev.const _
theorem Eb (a b c d:Int):Ev (fun k=>dN.f k a b c d) (if a<c then -1 else if a>c then 1 else if b<d then -1 else if b>d then 1 else 0):=by
 unfold dN.f;simp only[pv,Option.bind_some];refine Ev.bind (Ea _ _) ?_;have e:(if(if a<c then(-1:Int) else if a>c then 1 else 0)=0 then(if b<d then(-1:Int) else if b>d then 1 else 0) else(if a<c then(-1:Int) else if a>c then 1 else 0))=(if a<c then -1 else if a>c then 1 else if b<d then -1 else if b>d then 1 else 0):=by
  by_cases h1:a<c
  ·simp[h1]
  ·by_cases g:a>c
   ·simp[h1,g]
   ·simp[h1,g]
 rw[e];exact Ev.const _
theorem v_ (N:Int) (E:List S83) (r:E.length<=1000):∀(m i:Nat) (a g:Int),i+m=E.length->Ev (fun k=>a7.l0 k E E.length i N E a g) (iy N a g (E.drop i))
 |0,i,a,g,hi=>by
  refine Ev.of_succ ?_;simp only[a7.l0,if_neg (show ¬((i:Int)<(E.length:Int)) by omega)];rw[List.drop_eq_nil_of_le (by omega)];exact Ev.const _
 |m+1,i,a,g,hi=>by
  have o:=v_ N E r m (i+1) (ae E i).f0 (ae E i).f1 (by omega);refine Ev.of_succ ?_;simp only[a7.l0,if_pos (show (i:Int)<(E.length:Int) by omega),if_pos (show (0:Int)<=(i:Int) by omega),D_,Option.bind_some];rw[nM (by omega),iy];generalize u:ae E i=x at o⊢;have key:∀b:Bool,b= !bQ N x->Ev (fun k=>a7.j2 k E E.length i b N E a g x.f0 x.f1 x.f2 x.f0 x.f1) (if dY N a g x=0 then iy N x.f0 x.f1 (E.drop (i+1)) else dY N a g x):=by
   rintro b rfl;refine Ev.of_succ ?_;simp only[a7.j2];cases l:bQ N x with
   |false=>simp[dY,l];exact Ev.const _
   |true=>
    simp only[Bool.not_true,Bool.false_eq_true,if_false];by_cases n:x.f0>x.f1
    ·have e:dY N a g x=9:=by simp[dY,l,n]
     rw[e];simp only[if_pos n];exact Ev.const _
    ·simp only[if_neg n]
     refine Ev.bind (Eb _ _ _ _) ?_;by_cases s:x.f0<a\/x.f0=a/\x.f1<=g
     ·have e:dY N a g x=9:=by
       unfold dY;rw[l,if_neg (by decide),if_pos (by rcases s with h|h;exact .inl h;exact .inr (.inl h))]
      rw[e];have j:(if a<x.f0 then(-1:Int) else if a>x.f0 then 1 else if g<x.f1 then -1 else if g>x.f1 then 1 else 0)>=0:=by
       rw[if_neg (by omega)];split
       ·decide
       ·rw[if_neg (by omega)];split<;>decide
      simp only[if_pos j];exact Ev.const _
     ·have e:dY N a g x=0:=by
       unfold dY;rw[l,if_neg (by decide),if_neg (by omega)]
      rw[e];have j:¬(if a<x.f0 then(-1:Int) else if a>x.f0 then 1 else if g<x.f1 then -1 else if g>x.f1 then 1 else 0)>=0:=by
       split
       ·decide
       ·rw[if_neg (by omega),if_pos (by omega)];decide
      simp only[if_neg j,eX (show i<=1000000 by omega),if_true];exact o
  by_cases p:0<=x.f0/\x.f0<N
  ·simp only[aE p,if_true]
   by_cases h1:0<=x.f1/\x.f1<N
   ·simp only[aE h1,if_true]
    by_cases q:x.f2<1
    ·simp only[if_pos q]
     exact key true (by simp[bQ];omega)
    ·simp only[if_neg q]
     exact key _ (by unfold bQ;by_cases j:x.f2>50<;>simp[j]<;>omega)
   ·simp only[ba h1,Bool.false_eq_true,if_false]
    exact key true (by simp[bQ];omega)
  ·simp only[ba p,Bool.false_eq_true,if_false]
   exact key true (by simp[bQ];omega)
theorem mC (N:Int) (E:List S83) (a:E.length<=1000):Ev (fun k=>a7.f k N E) (cL N E):=by
 unfold a7.f cL;have key:∀b:Bool,b=decide (N<1\/N>12)->Ev (fun k=>a7.j0 k b N E) (if N<1\/N>12 then 2 else iy N (-1) (-1) E):=by
  rintro b rfl;refine Ev.of_succ ?_;simp only[a7.j0];by_cases h:N<1\/N>12
  ·simp[h];exact Ev.const _
  ·simp only[ba h,Bool.false_eq_true,if_false,if_neg h]
   have:=v_ N E a E.length 0 (-1) (-1) (by omega);simpa using this
 by_cases h:N<1
 ·simp only[if_pos h];exact key true (by simp[h])
 ·simp only[if_neg h];exact key _ (by simp[h])
theorem Ec (N:Int) (E:List S83) (v:Int):ix.f N E v=some (decide (0<=v/\v<N)):=by
 unfold ix.f;by_cases h:v>=0
 ·rw[if_pos h];congr 1;simp[show 0<=v from h]
 ·rw[if_neg h];congr 1;simp;omega
def jn (E:List S83) (i:Nat):Int:=if i=0 then -1 else(ae E (i-1:Nat)).f0
def jo (E:List S83) (i:Nat):Int:=if i=0 then -1 else(ae E (i-1:Nat)).f1
def iP (x y:S83):Prop:=x.f0<y.f0\/x.f0=y.f0/\x.f1<y.f1
structure bt (N:Int) (E:List S83):Prop where
 ok:∀x∈E,bQ N x=true
 le:∀x∈E,x.f0<=x.f1
 order:E.Pairwise iP
theorem wa {N:Int}:∀{E:List S83} {a e:Int},iy N a e E=0->(∀x∈E,bQ N x=true/\x.f0<=x.f1/\(a<x.f0\/a=x.f0/\e<x.f1))/\E.Pairwise iP
 |[],_,_,_=>⟨fun x b=>absurd b (by simp),List.Pairwise.nil⟩
 |y::E,a,e,h=>by
  rw[iy] at h;by_cases he:dY N a e y=0
  ·rw[if_pos he] at h
   obtain⟨h1,i⟩:=wa h;have j:bQ N y=true/\y.f0<=y.f1/\(a<y.f0\/a=y.f0/\e<y.f1):=by
    unfold dY at he;cases g:bQ N y with
    |false=>rw[g] at he;simp at he
    |true=>
     rw[g,if_neg (show ¬(true=false) by decide)] at he;by_cases k:y.f0<a\/y.f0=a/\y.f1<=e\/y.f0>y.f1
     ·rw[if_pos k] at he;exact absurd he (by decide)
     ·exact⟨rfl,by omega,by omega⟩
   refine⟨fun x b=>?_,List.Pairwise.cons (fun x b=>(h1 x b).2.2) i⟩;rcases List.mem_cons.1 b with rfl|b
   ·exact j
   ·have:=h1 x b
    exact⟨this.1,this.2.1,by omega⟩
  ·rw[if_neg he] at h;exact absurd h he
theorem jq {N:Int} {E:List S83} (h:cL N E=0):1<=N/\N<=12/\bt N E:=by
 unfold cL at h;by_cases b:N<1\/N>12
 ·rw[if_pos b] at h;exact absurd h (by decide)
 ·rw[if_neg b] at h
  obtain⟨h1,e⟩:=wa h;exact⟨by omega,by omega,fun x a=>(h1 x a).1,fun x a=>(h1 x a).2.1,e⟩
theorem bt.c_ {N:Int} {E:List S83} (h:bt N E):jf N E=true:=by
 refine List.all_eq_true.2 fun x a=>?_
 have:=h.ok x a;simpa [bQ] using this
def gW (a b:Int) (x:S83):Bool:=decide (x.f0=min a b/\x.f1=max a b)
def dr (E:List S83) (a b:Int):Int:=match E.find? (gW a b) with|some x=>x.f2|none=>0
theorem we (x:S83) (E:List S83) (a b:Int):dr (x::E) a b=if x.f0=min a b/\x.f1=max a b then x.f2 else dr E a b:=by
 unfold dr;rw[List.find?_cons];unfold gW;by_cases h:x.f0=min a b/\x.f1=max a b
 ·simp[h]
 ·rw[ba h,if_neg h]
theorem pw (E:List S83) (a b:Int):dr E a b=dr E b a:=by
 unfold dr gW;rw[show min a b=min b a by omega,show max a b=max b a by omega]
theorem wg {E:List S83} {a b:Int} (h:∀x∈E,¬(x.f0=min a b/\x.f1=max a b)):E.find? (gW a b)=none:=by
 rw[List.find?_eq_none];intro x e;simp[gW,h x e]
theorem wh (a b:Nat) (j:a≠b):∀(E:List S83) (f:Nat->Nat->Int),(∀x∈E,0<=x.f0/\x.f0<=x.f1)->E.Pairwise iP->E.foldl cY f a b=match E.find? (gW a b) with|some x=>x.f2|none=>f a b
 |[],f,_,_=>rfl
 |x::E,f,h,hp=>by
  have m:=h x (List.mem_cons_self ..);obtain⟨h1,k⟩:=List.pairwise_cons.1 hp;rw[List.foldl_cons,wh a b j E _ (fun y g=>h y (List.mem_cons_of_mem _ g)) k,List.find?_cons];by_cases l:x.f0=min (a:Int) b/\x.f1=max (a:Int) b
  ·rw[show gW a b x=true from by simp[gW,l]]
   rw[wg (fun y g n=>by have:=h1 y g;unfold iP at this;omega)];show cY f x a b=x.f2
   unfold cY;rw[if_neg (by omega)];by_cases i:a=x.f1.toNat/\b=x.f0.toNat
   ·rw[if_pos i]
   ·rw[if_neg i,if_pos (by omega)]
  ·rw[show gW a b x=false from by simp[gW];omega]
   have e:cY f x a b=f a b:=by
    unfold cY;split
    ·rfl
    ·dsimp only
     rw[if_neg (by omega),if_neg (by omega)]
   rw[e]
theorem lK {N:Int} {E:List S83} (h:bt N E) (a b:Nat) (g:a≠b):af E a b=dr E a b:=by
 unfold af dr;exact wh a b g E _ (fun x e=>⟨by have:=h.ok x e;simp[bQ] at this;omega,h.le x e⟩) h.order
theorem rM {N:Int} {E:List S83} (h:bt N E) (a b:Int):0<=dr E a b/\dr E a b<=50:=by
 unfold dr;split
 ·rename_i x e
  have:=h.ok x (List.mem_of_find?_eq_some e);simp[bQ] at this;omega
 ·omega
section
attribute [local go_sem] jU jV jW jX nc nf ng nh
def eG.l0:Nat->Int->Int->Int->Int->List (S83)->Option (Int)
 |0,_,_,_,_,_=>none
 |k+1,x1,x2,a,e,b=>if a<(b.length:Int) then(if 0<=a then(if((ae b a).f0)=(mn x1 x2) then(if((ae b a).f1)=(mx x1 x2) then(some ((ae b a).f2)) else(eG.l0 k x1 x2 (wrap64 (a+1)) e b)) else(eG.l0 k x1 x2 (wrap64 (a+1)) e b)) else(none)) else(some 0)
def eG.f (k:Nat) (a:Int) (b:List (S83)) (e:Int) (a2:Int):Option (Int):=eG.l0 k e a2 0 a b
theorem eG.calls (k:Nat) (m:Int) (P:Option Addr) (B:Nat) (a:List (S83)) (n:Int) (a2:Int) (r:Int) (w:World) (Z:Kd.C aM w P a.length a) (aa:a.length<=B) (h:eG.f k m a n a2=some r):
  Calls Tryz.prog 147 #[.agg #[.int .i64 m,.slice P a.length B],.int .i64 n,.int .i64 a2] w fun e w'=>e= .returned (.int .i64 r)/\Below w.heap.size w w':=by
 have av:=Tryz.underlying24;have aB:=Tryz.underlying83;have U:=zA Z;have aF:=zA aa;clear Z aa;have b:=zA (aj w.heap.size w);have H:(eG.l0 k n a2 0 m a)=some r:=h;clear h;have F:=zA H;clear H;go_enter Tryz.func147,Tryz.ntmps147
 go_wp2_with (first|((with_reducible refine aU (N:=3) rfl ?_);(try(refine eh (by rfl) ?_;dsimp only));refine zX 3 #[.int .i64 m,.slice P a.length B] 24 ?_;intro p j w4 q hb;have l:=zA (q);have aO:=zG b j;have aP:=zG b j;replace b:=zS b hb;clear hb q j))
 go_loopg [7] k (fun kq v7 w'=>∃(i:Int),v7= .int .i64 i/\Aside0 (eG.l0 kq n a2 i m a=some r)/\Aside0 (kq<=k)/\Aside0 (w'.heap[p]? =some (.cells #[.int .i64 m,(.slice P a.length B)] 24 (0,0)))/\Aside0 (Below w.heap.size w w'))
 case atStart=>exact⟨(0),zT,F,⟨aI _⟩,⟨zK l⟩,⟨zB⟩⟩
 case round=>
  clear F;obtain⟨i,rfl,V,Q,l,b⟩:=hrel;cases gk with
  |zero=>exact absurd V.out (by simp[eG.l0])
  |succ I=>
   have H:=V.out;clear V;simp only[eG.l0] at H;by_cases G:i<(a.length:Int)
   ·rw[if_pos G] at H
    have am:=aE G;clear G;by_cases R:0<=i
    ·rw[if_pos R] at H
     have aS:=aE R;clear R;obtain⟨W,S⟩:∃X:Int,(mn n a2)=X:=⟨_,rfl⟩;replace H:(if((ae a i).f0)=(W) then(if((ae a i).f1)=(mx n a2) then(some ((ae a i).f2)) else(eG.l0 I n a2 (wrap64 (i+1)) m a)) else(eG.l0 I n a2 (wrap64 (i+1)) m a))=some r:=by first|(rw[S] at H;exact H)|(simp only[S] at H⊢;exact H)
     have a0:(if a2<n then a2 else n)=W:=S;by_cases J:((ae a i).f0)=(W)
     ·rw[if_pos J] at H
      obtain⟨an,ao⟩:=bZ J;clear J;obtain⟨Y,T⟩:∃X:Int,(mx n a2)=X:=⟨_,rfl⟩;replace H:(if((ae a i).f1)=(Y) then(some ((ae a i).f2)) else(eG.l0 I n a2 (wrap64 (i+1)) m a))=some r:=by first|(rw[T] at H;exact H)|(simp only[T] at H⊢;exact H)
      have a3:(if n<a2 then a2 else n)=Y:=T;by_cases K:((ae a i).f1)=(Y)
      ·rw[if_pos K] at H
       obtain⟨ap,ar⟩:=bZ K;clear K;obtain rfl:=aX H;obtain⟨a4,a5,a9,bb⟩:=aC l;have s:0<=(i:Int):=aA ‹_›;have u:i<(a.length:Int):=aA ‹_›;obtain⟨D,L,v,x,y⟩:=dM U.out i s u;cases L;replace v:=(b.out.cell (bm w _ v)).trans v;replace x:=(b.out.cell (bm w _ x)).trans x;replace y:=(b.out.cell (bm w _ y)).trans y;replace s:=eq_true s;replace u:=eq_true u;go_wp2_with (first|((with_reducible refine aU (N:=8) rfl ?_);(try(refine eh (by rfl) ?_;dsimp only));refine zX 8 #[.int .i64 0,.int .i64 0,.int .i64 0] 83 ?_;intro E j be q hb;have M:=zA (q);have ad:=zG b j;have ag:=zG b j;replace b:=zS b hb;have z:=zA ((by rw[j];exact Nat.ne_of_lt (ay (g:=p) (o:=.cells #[.int .i64 m,.slice (some D) a.length B] 24 (0,0)) (zK l)):p≠E));have O:=zA ((by rw[j];exact Nat.ne_of_gt (ay (g:=p) (o:=.cells #[.int .i64 m,.slice (some D) a.length B] 24 (0,0)) (zK l)):E≠p));replace l:=zb l hb;clear hb q j;have bf:=O.out;have bg:=z.out;obtain⟨bi,bk,bl,bn,bo,bq⟩:=cC M))
       go_ret;exact⟨by first|rfl|(simp[fL,fM]<;>rfl)|(simp only[<-S,<-T];first|rfl|(simp[fL,fM]<;>rfl))|(simp[*,fL,fM]<;>rfl),zB⟩
      ·rw[if_neg K] at H
       obtain⟨ap,ar⟩:=b7 K;have F:=zA H;clear H;obtain⟨bv,bw,bx,b0⟩:=aC l;have s:0<=(i:Int):=aA ‹_›;have u:i<(a.length:Int):=aA ‹_›;obtain⟨D,L,v,x,y⟩:=dM U.out i s u;cases L;replace v:=(b.out.cell (bm w _ v)).trans v;replace x:=(b.out.cell (bm w _ x)).trans x;replace y:=(b.out.cell (bm w _ y)).trans y;replace s:=eq_true s;replace u:=eq_true u;go_wp2_with (first|((with_reducible refine aU (N:=8) rfl ?_);(try(refine eh (by rfl) ?_;dsimp only));refine zX 8 #[.int .i64 0,.int .i64 0,.int .i64 0] 83 ?_;intro E j b1 q hb;have M:=zA (q);have ad:=zG b j;have ag:=zG b j;replace b:=zS b hb;have z:=zA ((by rw[j];exact Nat.ne_of_lt (ay (g:=p) (o:=.cells #[.int .i64 m,.slice (some D) a.length B] 24 (0,0)) (zK l)):p≠E));have O:=zA ((by rw[j];exact Nat.ne_of_gt (ay (g:=p) (o:=.cells #[.int .i64 m,.slice (some D) a.length B] 24 (0,0)) (zK l)):E≠p));replace l:=zb l hb;clear hb q j;have b2:=O.out;have b3:=z.out;obtain⟨b4,b5,b6,b_,b',ca⟩:=cC M))
       go_roundg I
       case measure=>have:=Q.out;omega
       case rel=>exact⟨(wrap64 (i+1)),zT,F,⟨by have:=Q.out;omega⟩,⟨by refine zk ?_;refine aG ?_ z.out _;refine zk ?_;refine aG ?_ z.out _;refine zk ?_;refine aG ?_ z.out _;exact zK l⟩,⟨zB⟩⟩
     ·rw[if_neg J] at H
      obtain⟨an,ao⟩:=b7 J;have F:=zA H;clear H;obtain⟨cb,cc,cd,ce⟩:=aC l;have s:0<=(i:Int):=aA ‹_›;have u:i<(a.length:Int):=aA ‹_›;obtain⟨D,L,v,x,y⟩:=dM U.out i s u;cases L;replace v:=(b.out.cell (bm w _ v)).trans v;replace x:=(b.out.cell (bm w _ x)).trans x;replace y:=(b.out.cell (bm w _ y)).trans y;replace s:=eq_true s;replace u:=eq_true u;go_wp2_with (first|((with_reducible refine aU (N:=8) rfl ?_);(try(refine eh (by rfl) ?_;dsimp only));refine zX 8 #[.int .i64 0,.int .i64 0,.int .i64 0] 83 ?_;intro E j cf q hb;have M:=zA (q);have ad:=zG b j;have ag:=zG b j;replace b:=zS b hb;have z:=zA ((by rw[j];exact Nat.ne_of_lt (ay (g:=p) (o:=.cells #[.int .i64 m,.slice (some D) a.length B] 24 (0,0)) (zK l)):p≠E));have O:=zA ((by rw[j];exact Nat.ne_of_gt (ay (g:=p) (o:=.cells #[.int .i64 m,.slice (some D) a.length B] 24 (0,0)) (zK l)):E≠p));replace l:=zb l hb;clear hb q j;have cg:=O.out;have ch:=z.out;obtain⟨ci,cj,ck,cl,co,cp⟩:=cC M))
      go_roundg I
      case measure=>have:=Q.out;omega
      case rel=>exact⟨(wrap64 (i+1)),zT,F,⟨by have:=Q.out;omega⟩,⟨by refine zk ?_;refine aG ?_ z.out _;refine zk ?_;refine aG ?_ z.out _;refine zk ?_;refine aG ?_ z.out _;exact zK l⟩,⟨zB⟩⟩
    ·rw[if_neg R] at H
     exact absurd H (by simp)
   ·rw[if_neg G] at H
    have am:=ba G;clear G;obtain rfl:=aX H;obtain⟨cq,cr,cs,cv⟩:=aC l;go_wp2;go_ret;exact⟨zE,zB⟩
end
theorem wj (N:Int) (E:List S83) (a b:Int) (j:E.length<=1000):∀(m i:Nat),i+m=E.length->Ev (fun k=>eG.l0 k a b i N E) (dr (E.drop i) a b)
 |0,i,hi=>by
  refine Ev.of_succ ?_;simp only[eG.l0,if_neg (show ¬((i:Int)<(E.length:Int)) by omega)];rw[List.drop_eq_nil_of_le (by omega)];exact Ev.const _
 |m+1,i,hi=>by
  have g:=wj N E a b j m (i+1) (by omega);refine Ev.of_succ ?_;simp only[eG.l0,if_pos (show (i:Int)<(E.length:Int) by omega),if_pos (show (0:Int)<=(i:Int) by omega),eX (show i<=1000000 by omega)];rw[nM (by omega),we];rw[show mn a b=min a b from by unfold mn;omega,show mx a b=max a b from by unfold mx;omega];by_cases e:(ae E i).f0=min a b
  ·simp only[if_pos e]
   by_cases h1:(ae E i).f1=max a b
   ·simp only[if_pos h1];rw[if_pos ⟨e,h1⟩];exact Ev.const _
   ·simp only[if_neg h1];rw[if_neg (fun h=>h1 h.2)];exact g
  ·simp only[if_neg e];rw[if_neg (fun h=>e h.1)];exact g
theorem Ed (N:Int) (E:List S83) (a b:Int) (e:E.length<=1000):Ev (fun k=>eG.f k N E a b) (dr E a b):=by
 unfold eG.f;have:=wj N E a b e E.length 0 (by omega);simpa using this
def fC (n:Nat) (E:List S83):Prop:=∀S:Nat->Bool,(∃v,v<n/\S v=true)->(∃v,v<n/\S v=false)->∃x,x∈E/\S x.f0.toNat≠S x.f1.toNat
theorem px {p:Nat->Nat} {v:Nat} (h:p v<v):rootOf p v=rootOf p (p v):=by rw[rootOf,dif_pos h]
theorem mD {p:Nat->Nat} {v:Nat} (h:¬p v<v):rootOf p v=v:=by rw[rootOf,dif_neg h]
theorem Ee {p:Nat->Nat} {v:Nat} (h:rootOf p v=v):¬p v<v:=fun a=>by
 have h1:=px a;have b:=ji p (p v);omega
theorem mE (p:Nat->Nat) (a b v:Nat):rootOf (dP p a b) v=if rootOf p v=max (rootOf p a) (rootOf p b) then min (rootOf p a) (rootOf p b) else rootOf p v:=by
 have l:=mj p a;have hb:=mj p b;have i:rootOf p (max (rootOf p a) (rootOf p b))=max (rootOf p a) (rootOf p b):=by rw[Nat.max_def];split<;>assumption
 have hm:rootOf p (min (rootOf p a) (rootOf p b))=min (rootOf p a) (rootOf p b):=by rw[Nat.min_def];split<;>assumption
 have hle:min (rootOf p a) (rootOf p b)<=max (rootOf p a) (rootOf p b):=by omega
 have h:∀j,dP p a b j=if j=max (rootOf p a) (rootOf p b) then min (rootOf p a) (rootOf p b) else p j:=fun j=>rfl
 generalize max (rootOf p a) (rootOf p b)=M at*;generalize min (rootOf p a) (rootOf p b)=m at*;generalize dP p a b=q at*;induction v using Nat.strongRecOn with
 |ind v k=>
  by_cases e:v=M
  ·subst e
   rw[i,if_pos rfl];by_cases g:m<v
   ·have h1:q v=m:=by rw[h,if_pos rfl]
    rw[px (by omega),h1];refine mD ?_;rw[h,if_neg (by omega)];exact Ee hm
   ·rw[mD (by rw[h,if_pos rfl];exact g)]
    omega
  ·have h1:q v=p v:=by rw[h,if_neg e]
   by_cases g:p v<v
   ·rw[px (p:=q) (by omega),h1,k _ g,px (p:=p) g]
   ·rw[mD (p:=q) (by omega),mD (p:=p) g,if_neg e]
theorem Ef (S:Nat->Bool):∀(E:List S83) (p:Nat->Nat),(∀x∈E,S x.f0.toNat=S x.f1.toNat)->(∀v,S (rootOf p v)=S v)->∀v,S (rootOf (E.foldl (fun p x=>dP p x.f0.toNat x.f1.toNat) p) v)=S v:=by
 intro E;induction E with
 |nil=>exact fun p _ h=>h
 |cons x E g=>
  intro p a h;refine g _ (fun y i=>a y (List.mem_cons_of_mem _ i)) fun v=>?_
  rw[mE];split
  ·rename_i e
   have j:=a x (List.mem_cons_self ..);have h1:=h x.f0.toNat;have k:=h x.f1.toNat;have b:=h v;rw[e] at b;rw[<-b];rw[Nat.min_def,Nat.max_def];split<;>simp_all
  ·exact h v
theorem Eg:∀(E:List S83) (p:Nat->Nat) (u v:Nat),rootOf p u=rootOf p v->rootOf (E.foldl (fun p x=>dP p x.f0.toNat x.f1.toNat) p) u=rootOf (E.foldl (fun p x=>dP p x.f0.toNat x.f1.toNat) p) v:=by
 intro E;induction E with
 |nil=>exact fun p u v h=>h
 |cons x E a=>
  intro p u v h;refine a _ u v ?_;rw[mE,mE,h]
theorem Eh:∀(E:List S83) (p:Nat->Nat),∀x∈E,rootOf (E.foldl (fun p x=>dP p x.f0.toNat x.f1.toNat) p) x.f0.toNat=rootOf (E.foldl (fun p x=>dP p x.f0.toNat x.f1.toNat) p) x.f1.toNat:=by
 intro E;induction E with
 |nil=>exact fun p x a=>absurd a (by simp)
 |cons y E e=>
  intro p x a;rcases List.mem_cons.1 a with rfl|a
  ·refine Eg E _ _ _ ?_
   rw[mE,mE];by_cases h1:rootOf p x.f0.toNat=max (rootOf p x.f0.toNat) (rootOf p x.f1.toNat)<;>by_cases b:rootOf p x.f1.toNat=max (rootOf p x.f0.toNat) (rootOf p x.f1.toNat)
   ·rw[if_pos h1,if_pos b]
   ·rw[if_pos h1,if_neg b];omega
   ·rw[if_neg h1,if_pos b];omega
   ·omega
  ·exact e _ x a
theorem wk (p:Nat->Nat) (a:rootOf p 0=0):∀u,1<=u->1<=cm p u
 |0,h=>by omega
 |u+1,_=>by
  by_cases e:u=0
  ·subst e;simp[cm,a]
  ·have:=wk p a u (by omega)
   simp only[cm];omega
theorem wm (p:Nat->Nat) (a:rootOf p 0=0):∀u,cm p u=1->∀v,v<u->rootOf p v=v->v=0
 |0,h=>by simp[cm] at h
 |u+1,h=>by
  intro v g b;simp only[cm] at h;by_cases e:u=0
  ·omega
  ·have h1:=wk p a u (by omega)
   by_cases hu:rootOf p u=u
   ·rw[if_pos hu] at h;omega
   ·rw[if_neg hu] at h
    by_cases ev:v=u
    ·subst ev;exact absurd b hu
    ·exact wm p a u (by omega) v (by omega) b
theorem wu (p:Nat->Nat):∀u,1<=u->(∀v,v<u->rootOf p v=0)->cm p u=1
 |0,h,_=>by omega
 |u+1,_,h=>by
  by_cases e:u=0
  ·subst e;simp[cm,h 0 (by omega)]
  ·have:=wu p u (by omega) (fun v a=>h v (by omega))
   simp only[cm];rw[this,h u (by omega),if_neg (fun e2=>e e2.symm)]
theorem rN {n:Nat} {E:List S83} (hn:1<=n) (r:eE n E):cm (aJ E) n=1↔fC n E:=by
 have i:rootOf (aJ E) 0=0:=Nat.le_zero.1 (ji _ 0);constructor
 ·rintro h S ⟨u,hu,l⟩ ⟨v,b,m⟩
  refine Classical.byContradiction fun e=>?_
  have hS:∀x∈E,S x.f0.toNat=S x.f1.toNat:=fun x o=>Classical.byContradiction fun g=>e ⟨x,o,g⟩
  have j:=Ef S E id hS (fun v=>by rw[mD (by simp)]);have k:∀w,w<n->rootOf (aJ E) w=0:=fun w hw=>wm _ i n h _ (Nat.lt_of_le_of_lt (ji _ w) hw) (mj _ w)
  have h1:=j u;have a:=j v;rw[show E.foldl (fun p x=>dP p x.f0.toNat x.f1.toNat) id=aJ E from rfl] at h1 a;rw[k u hu] at h1;rw[k v b] at a;rw[h1,l] at a;rw[m] at a;cases a
 ·intro h
  refine wu _ n hn fun v b=>?_
  refine Classical.byContradiction fun g=>?_
  obtain⟨x,e,q⟩:=h (fun u=>decide (rootOf (aJ E) u=0)) ⟨0,by omega,by simp[i]⟩ ⟨v,b,by simp[g]⟩;have:=Eh E id x e;rw[show E.foldl (fun p x=>dP p x.f0.toNat x.f1.toNat) id=aJ E from rfl] at this;simp only[this,ne_eq,not_true_eq_false] at q
mutual
def cw.l0:Nat->List Bool->Int->Int->List (S83)->Option (List Bool)
 |0,_,_,_,_=>none
 |k+1,a,b,e,g=>if b<e then(cw.l1 k a b 0 e g) else(some a)
def cw.l1:Nat->List Bool->Int->Int->Int->List (S83)->Option (List Bool)
 |0,_,_,_,_,_=>none
 |k+1,b,e,g,a,h=>if g<a then(cw.l2 k b e g 0 a h) else(cw.l0 k b (wrap64 (e+1)) a h)
def cw.l2:Nat->List Bool->Int->Int->Int->Int->List (S83)->Option (List Bool)
 |0,_,_,_,_,_,_=>none
 |k+1,e,i,a,b,g,h=>if b<g then(if 0<=a then(if a<(e.length:Int) then(if bL false e a=true then((eG.f k g h a b).bind fun t132=>(if t132>0 then(if 0<=b then(if b<(e.length:Int) then(cw.l2 k (e.set (b:Int).toNat true) i a (wrap64 (b+1)) g h) else(none)) else(none)) else(cw.l2 k e i a (wrap64 (b+1)) g h))) else(cw.l2 k e i a (wrap64 (b+1)) g h)) else(none)) else(none)) else(cw.l1 k e i (wrap64 (a+1)) g h)
end
def cw.f (k:Nat) (a:Int) (g:List (S83)) (b:Int):Option (List Bool):=if 0<=a then(if(a:Int).toNat<=281474976710656 then((some (List.replicate (a:Int).toNat false:List Bool)).bind fun e=>(if 0<=b then(if b<(e.length:Int) then(cw.l0 k (e.set (b:Int).toNat true) 0 a g) else(none)) else(none))) else(none)) else(none)
theorem cw.calls (k:Nat) (g:Int) (P:Option Addr) (Q:Nat) (l:List (S83)) (x:Int) (r:List Bool) (w:World) (bl:Kd.C aM w P l.length l) (bn:l.length<=Q) (h:cw.f k g l x=some r):
  Calls Tryz.prog 131 #[.agg #[.int .i64 g,.slice P l.length Q],.int .i64 x] w fun e w'=>∃bo:Value,e= .returned (bo)/\Kd.R Kd.bool 4 w' w.heap.size (fun _=>True) bo r/\Below w.heap.size w w':=by
 have d2:=Tryz.underlying24;have bq:=zA bl;have bv:=zA bn;clear bl bn;have q:=zA (aj w.heap.size w);unfold cw.f at h;have H:=h;clear h;by_cases c3:0<=g
 ·rw[if_pos c3] at H
  have cd:=eq_true c3;have ce:=aE c3;clear c3;by_cases c4:(g:Int).toNat<=281474976710656
  ·rw[if_pos c4] at H
   have cf:=eq_true c4;have cg:=aE c4;clear c4;obtain⟨M,aO⟩:∃X:List Bool,X=(List.replicate (g:Int).toNat false):=⟨_,rfl⟩;replace H:(if 0<=x then(if x<(M.length:Int) then(cw.l0 k (M.set (x:Int).toNat true) 0 g l) else(none)) else(none))=some r:=zh aO H;have bw:=zA aO;clear aO;by_cases c5:0<=x
   ·rw[if_pos c5] at H
    have ch:=aE c5;clear c5;by_cases c6:x<(M.length:Int)
    ·rw[if_pos c6] at H
     have ci:=aE c6;clear c6;obtain⟨aP,aS⟩:∃X:List Bool,X=(M.set (x:Int).toNat true):=⟨_,rfl⟩;replace H:(cw.l0 k aP 0 g l)=some r:=zh aS H;have cj:=zA aS;clear aS;have n:=zA H;clear H;go_enter Tryz.func131,Tryz.ntmps131
     go_wp2_with (first|((with_reducible refine aU (N:=2) rfl ?_);refine zX 2 #[.int .i64 g,.slice P l.length Q] 24 ?_;intro a0 hg w8 bx hb;have a:=zA (bx);have d4:=zG q hg;have d5:=zG q hg;replace q:=zS q hb;clear hb bx hg;obtain⟨ck,cl,co,cp⟩:=aC a)|((with_reducible refine aU (N:=11) rfl ?_);refine Kd.lr Kd.bool _ 4 rfl (N:=11) rfl 43 _ _ rfl g rfl rfl Tryz.underlying43 (.bool false) 1 lF rfl (by decide) (by omega) false (ok:=fun _=>True) (okp:=fun _=>True) rfl (fun _ hk=>hk) trivial (aA ‹_›) (Nat.le_trans (Nat.mul_le_mul_right _ (aA ‹_› :g.toNat<=281474976710656)) (by omega)) (aj _ _) (aI _) ?_;intro d6 b0 Y hb cq cr;clear cq cr;(first|rw[<-bw.out] at Y|(simp only[Int.reduceToNat] at Y;rw[<-bw.out] at Y));have O:=zA (Kd.bc Y (bO zB));replace a:=zb a hb;replace q:=zS q hb;clear hb Y;have p7:0<=(x:Int):=aA ‹_›;have q7:(x:Int)<((M.length:Int):Int):=aA ‹_›;obtain⟨z,Z,b1,b2,cs,d7,b3⟩:=Kd.gC O.out (by omega);(first|cases b1|(injection b1 with ap cv cx;(first|subst ap|(injection ap with ap;subst ap));subst cx;clear cv));have b4:=zA b2;have d8:=zA b3;clear b2 cs b3;obtain⟨c0,d9⟩:=Kd.bP false O.out (x:Int) p7 q7;replace p7:=eq_true p7;replace q7:=eq_true q7;obtain⟨ea,eb⟩:=Kd.bP false O.out (x:Int) (aA ‹_›) (aA ‹_›);have a2:=Kd.dg O.out (x:Int) true)|((with_reducible refine kr (t:=4) (p:=14) rfl ?_);refine kp (t:=4) (p:=14) (v:=?KM) (w1:=(b0.setCell ⟨z,(x:Int).toNat,none⟩ (.bool true))) ?hg ?ho ?hn ?hr ?_;(case ho=>rfl);(case hg=>rfl);(case hn=>rfl);(case hr=>first|(go_simp;done)|(go_simp;rfl));intro a3 hw;have hg:b0.grownBy a3 (some z):=(by rw[hw];exact a2.2);have aa:Kd.R Kd.bool 4 a3 w.heap.size (fun _=>True) (.slice (some ⟨z,0,none⟩) M.length Z) aP:=(by rw[hw,cj.out];exact a2.1);clear a2;replace a:=zA (di (zK a) hg (Kd.dm O.out a.out (by decide)));replace O:=zA (aa);replace q:=zA ((by rw[hw];exact eK (q.out) b4.out:Below w.heap.size w a3));clear hg hw aa))
     go_loopg [6] k (fun K v6 w'=>∃(ab:List Bool) (B:Int),v6= .int .i64 B/\Aside0 (cw.l0 K ab B g l=some r)/\Aside0 (K<=k)/\Aside0 (Kd.R Kd.bool 4 w' w.heap.size (fun _=>True) (.slice (some ⟨z,0,none⟩) M.length Z) ab)/\Aside0 (w'.heap[a0]? =some (.cells #[.int .i64 g,(.slice P l.length Q)] 24 (0,0)))/\Aside0 (Below w.heap.size w w'))
     case atStart=>exact⟨(aP),(0),zT,n,⟨aI _⟩,⟨zR O⟩,⟨zK a⟩,⟨zB⟩⟩
     case round=>
      clear n;clear cd ce cf cg ch ci p7 q7 ck cl co cp c0;obtain⟨ab,B,rfl,D,I,b,a,q⟩:=hrel;have o:=(Kd.aN b.out).1;rw[o] at b
      (try simp only[o])
      (try simp only[o] at a)
      cases gk with
      |zero=>exact absurd D.out (by simp[cw.l0])
      |succ k1=>
       have H:=D.out;clear D;simp only[cw.l0] at H;by_cases S:B<g
       ·rw[if_pos S] at H
        have b6:=aE S;clear S;have n:=zA H;clear H;obtain⟨c1,c2,c7,c8⟩:=aC a;go_wp2;go_loopg [7] k1 (fun K v7 w'=>∃(T:List Bool) (j:Int),v7= .int .i64 j/\Aside0 (cw.l1 K T B j g l=some r)/\Aside0 (K<=k1)/\Aside0 (Kd.R Kd.bool 4 w' w.heap.size (fun _=>True) (.slice (some ⟨z,0,none⟩) ab.length Z) T)/\Aside0 (w'.heap[a0]? =some (.cells #[.int .i64 g,(.slice P l.length Q)] 24 (0,0)))/\Aside0 (Below w.heap.size w w'))
        case atStart=>exact⟨(ab),(0),zT,n,⟨aI _⟩,⟨by(try simp only[o]);(with_reducible repeat(first|apply Kd.aK|apply Kd.bJ|apply Kd.bA));exact b.out⟩,⟨by(try simp only[o]);exact zK a⟩,⟨zB⟩⟩
        case round=>
         clear n;clear b6 c1 c2 c7 c8;obtain⟨T,j,rfl,D,J,b,a,q⟩:=hrel;have s:=(Kd.aN b.out).1;rw[s] at b
         (try simp only[s])
         (try simp only[s] at a)
         cases gk with
         |zero=>exact absurd D.out (by simp[cw.l1])
         |succ k2=>
          have H:=D.out;clear D;simp only[cw.l1] at H;by_cases U:j<g
          ·rw[if_pos U] at H
           have b':=aE U;clear U;have n:=zA H;clear H;obtain⟨c',dd,dk,dl⟩:=aC a;go_wp2;go_loopg [8] k2 (fun K v8 w'=>∃(m:List Bool) (i:Int),v8= .int .i64 i/\Aside0 (cw.l2 K m B j i g l=some r)/\Aside0 (K<=k2)/\Aside0 (Kd.R Kd.bool 4 w' w.heap.size (fun _=>True) (.slice (some ⟨z,0,none⟩) T.length Z) m)/\Aside0 (w'.heap[a0]? =some (.cells #[.int .i64 g,(.slice P l.length Q)] 24 (0,0)))/\Aside0 (Below w.heap.size w w'))
           case atStart=>exact⟨(T),(0),zT,n,⟨aI _⟩,⟨by(try simp only[o]);(try simp only[s]);(with_reducible repeat(first|apply Kd.aK|apply Kd.bJ|apply Kd.bA));exact b.out⟩,⟨by(try simp only[o]);(try simp only[s]);exact zK a⟩,⟨zB⟩⟩
           case round=>
            clear n;clear b' c' dd dk dl;obtain⟨m,i,rfl,D,L,b,a,q⟩:=hrel;have u:=(Kd.aN b.out).1;rw[u] at b
            (try simp only[u])
            (try simp only[u] at a)
            cases gk with
            |zero=>exact absurd D.out (by simp[cw.l2])
            |succ E=>
             have H:=D.out;clear D;simp only[cw.l2] at H;by_cases V:i<g
             ·rw[if_pos V] at H
              have dv:=aE V;clear V;by_cases ar:0<=j
              ·rw[if_pos ar] at H
               have ed:=aE ar;clear ar;by_cases av:j<(m.length:Int)
               ·rw[if_pos av] at H
                have eg:=aE av;clear av;obtain⟨ca,a5⟩:∃b_:Bool,b_=(bL false m j):=⟨_,rfl⟩;replace H:(if ca=true then((eG.f E g l j i).bind fun t132=>(if t132>0 then(if 0<=i then(if i<(m.length:Int) then(cw.l2 E (m.set (i:Int).toNat true) B j (wrap64 (i+1)) g l) else(none)) else(none)) else(cw.l2 E m B j (wrap64 (i+1)) g l))) else(cw.l2 E m B j (wrap64 (i+1)) g l))=some r:=by rw[<-a5] at H;exact H
                have a9:=zA a5;clear a5;by_cases aB:ca=true
                ·subst aB
                 replace H:=zi H;obtain⟨t132,cb,H⟩:=zo H;by_cases W:t132>0
                 ·rw[if_pos W] at H
                  have d0:=aE W;clear W;by_cases aF:0<=i
                  ·rw[if_pos aF] at H
                   have ek:=aE aF;clear aF;by_cases aL:i<(m.length:Int)
                   ·rw[if_pos aL] at H
                    have el:=aE aL;clear aL;obtain⟨bb,be⟩:∃X:List Bool,X=(m.set (i:Int).toNat true):=⟨_,rfl⟩;replace H:(cw.l2 E bb B j (wrap64 (i+1)) g l)=some r:=zh be H;have d1:=zA be;clear be;have n:=zA H;clear H;obtain⟨em,er,es,ev⟩:=aC a;have F:0<=(j:Int):=aA ‹_›;have G:j<(m.length:Int):=aA ‹_›;obtain⟨ad,ag,y⟩:=Kd.jT (Kd.aN b.out).2.2 j F G
                    (try rw[<-a9.out] at y)
                    obtain rfl:(⟨z,0,none⟩:Addr)=ad:=(by injection ag)
                    (first|simp only[add_plain] at y|simp only[ja] at y|simp only[Addr.add,Nat.zero_add] at y|skip)
                    replace F:=eq_true F;replace G:=eq_true G;go_wp2_with (first|(go_at_call 147;(with_reducible refine(eG.calls E g _ _ l j i t132 _ ?au ?aw cb.out).mono ?_);(case au=>exact Kd.ax bq.out zB);(case aw=>exact bv.out);rintro e cc ⟨rfl,hb⟩;replace b:=bF b hb;replace a:=zb a hb;replace q:=zS q hb;(try clear hb);have bf:0<=(i:Int):=aA ‹_›;have bg:(i:Int)<((m.length:Int):Int):=aA ‹_›;obtain⟨ew,ex⟩:=Kd.bP false b.out (i:Int) bf bg;replace bf:=eq_true bf;replace bg:=eq_true bg;obtain⟨ey,e0⟩:=Kd.bP false b.out (i:Int) (aA ‹_›) (aA ‹_›);have bi:=Kd.dg b.out (i:Int) true)|((with_reducible refine kr (t:=4) (p:=46) rfl ?_);refine kp (t:=4) (p:=46) (v:=?MQ) (w1:=(cc.setCell ⟨z,(i:Int).toNat,none⟩ (.bool true))) ?hg ?ho ?hn ?hr ?_;(case ho=>rfl);(case hg=>rfl);(case hn=>rfl);(case hr=>first|(go_simp;done)|(go_simp;rfl));intro bk hw;have hg:cc.grownBy bk (some z):=(by rw[hw];exact bi.2);have aa:Kd.R Kd.bool 4 bk w.heap.size (fun _=>True) (.slice (some ⟨z,0,none⟩) m.length Z) bb:=(by rw[hw,d1.out];exact bi.1);clear bi;replace a:=zA (di (zK a) hg (Kd.dm b.out a.out (by decide)));replace b:=zA (aa);replace q:=zA ((by rw[hw];exact eK (q.out) b4.out:Below w.heap.size w bk));clear hg hw aa))
                    (try simp only[<-u])
                    go_roundg E
                    case measure=>have:=I.out;have:=J.out;have:=L.out;omega
                    case rel=>exact⟨(bb),(wrap64 (i+1)),zT,n,⟨by have:=I.out;have:=J.out;have:=L.out;omega⟩,⟨by(try simp only[o]);(try simp only[s]);(try simp only[u]);(with_reducible repeat(first|apply Kd.aK|apply Kd.bJ|apply Kd.bA));exact b.out⟩,⟨by(try simp only[o]);(try simp only[s]);(try simp only[u]);exact zK a⟩,⟨zB⟩⟩
                   ·rw[if_neg aL] at H
                    exact absurd H (by simp)
                  ·rw[if_neg aF] at H
                   exact absurd H (by simp)
                 ·rw[if_neg W] at H
                  have d0:=ba W;clear W;have n:=zA H;clear H;obtain⟨e1,e2,e3,e4⟩:=aC a;have F:0<=(j:Int):=aA ‹_›;have G:j<(m.length:Int):=aA ‹_›;obtain⟨ad,ag,y⟩:=Kd.jT (Kd.aN b.out).2.2 j F G
                  (try rw[<-a9.out] at y)
                  obtain rfl:(⟨z,0,none⟩:Addr)=ad:=(by injection ag)
                  (first|simp only[add_plain] at y|simp only[ja] at y|simp only[Addr.add,Nat.zero_add] at y|skip)
                  replace F:=eq_true F;replace G:=eq_true G;go_wp2_with (first|(go_at_call 147;(with_reducible refine(eG.calls E g _ _ l j i t132 _ ?au ?aw cb.out).mono ?_);(case au=>exact Kd.ax bq.out zB);(case aw=>exact bv.out);rintro e e5 ⟨rfl,hb⟩;replace b:=bF b hb;replace a:=zb a hb;replace q:=zS q hb;(try clear hb)))
                  (try simp only[<-u])
                  go_roundg E
                  case measure=>have:=I.out;have:=J.out;have:=L.out;omega
                  case rel=>exact⟨(m),(wrap64 (i+1)),zT,n,⟨by have:=I.out;have:=J.out;have:=L.out;omega⟩,⟨by(try simp only[o]);(try simp only[s]);(try simp only[u]);(with_reducible repeat(first|apply Kd.aK|apply Kd.bJ|apply Kd.bA));exact b.out⟩,⟨by(try simp only[o]);(try simp only[s]);(try simp only[u]);exact zK a⟩,⟨zB⟩⟩
                ·replace aB:=Bool.eq_false_iff.mpr aB
                 subst aB;replace H:=zj H;have n:=zA H;clear H;obtain⟨e6,e_,e',fb⟩:=aC a;have F:0<=(j:Int):=aA ‹_›;have G:j<(m.length:Int):=aA ‹_›;obtain⟨ad,ag,y⟩:=Kd.jT (Kd.aN b.out).2.2 j F G
                 (try rw[<-a9.out] at y)
                 obtain rfl:(⟨z,0,none⟩:Addr)=ad:=(by injection ag)
                 (first|simp only[add_plain] at y|simp only[ja] at y|simp only[Addr.add,Nat.zero_add] at y|skip)
                 replace F:=eq_true F;replace G:=eq_true G;go_wp2
                 (try simp only[<-u])
                 go_roundg E
                 case measure=>have:=I.out;have:=J.out;have:=L.out;omega
                 case rel=>exact⟨(m),(wrap64 (i+1)),zT,n,⟨by have:=I.out;have:=J.out;have:=L.out;omega⟩,⟨by(try simp only[o]);(try simp only[s]);(try simp only[u]);(with_reducible repeat(first|apply Kd.aK|apply Kd.bJ|apply Kd.bA));exact b.out⟩,⟨by(try simp only[o]);(try simp only[s]);(try simp only[u]);exact zK a⟩,⟨zB⟩⟩
               ·rw[if_neg av] at H
                exact absurd H (by simp)
              ·rw[if_neg ar] at H
               exact absurd H (by simp)
             ·rw[if_neg V] at H
              have dv:=ba V;clear V;have n:=zA H;clear H;obtain⟨fd,fn,fo,fq⟩:=aC a;go_wp2
              (try simp only[<-s,<-u])
              go_roundg E
              case measure=>have:=I.out;have:=J.out;have:=L.out;omega
              case rel=>exact⟨(m),(wrap64 (j+1)),zT,n,⟨by have:=I.out;have:=J.out;have:=L.out;omega⟩,⟨by(try simp only[o]);(try simp only[s]);(try simp only[u]);(with_reducible repeat(first|apply Kd.aK|apply Kd.bJ|apply Kd.bA));exact b.out⟩,⟨by(try simp only[o]);(try simp only[s]);(try simp only[u]);exact zK a⟩,⟨zB⟩⟩
          ·rw[if_neg U] at H
           have b':=ba U;clear U;have n:=zA H;clear H;obtain⟨fr,ft,fv,f0⟩:=aC a;go_wp2
           (try simp only[<-o,<-s])
           go_roundg k2
           case measure=>have:=I.out;have:=J.out;omega
           case rel=>exact⟨(T),(wrap64 (B+1)),zT,n,⟨by have:=I.out;have:=J.out;omega⟩,⟨by(try simp only[o]);(try simp only[s]);(with_reducible repeat(first|apply Kd.aK|apply Kd.bJ|apply Kd.bA));exact b.out⟩,⟨by(try simp only[o]);(try simp only[s]);exact zK a⟩,⟨zB⟩⟩
       ·rw[if_neg S] at H
        have b6:=ba S;clear S;obtain rfl:=aX H;obtain⟨f1,f2,f3,f4⟩:=aC a;go_wp2;go_ret;exact⟨_,zE,by(with_reducible repeat(first|apply Kd.aK|apply Kd.bJ|apply Kd.bA));exact b.out,zB⟩
    ·rw[if_neg c6] at H
     exact absurd H (by simp)
   ·rw[if_neg c5] at H
    exact absurd H (by simp)
  ·rw[if_neg c4] at H
   exact absurd H (by simp)
 ·rw[if_neg c3] at H
  exact absurd H (by simp)
end Go.Proofs.YtffdiakgjakngaaGreat.P


namespace Go.Proofs.YtffdiakgjakngaaGreat.P
open Go.RowKit Go.Proofs.YtffdiakgjakngaaGreatW.PrintWords Go.Proofs.YtffdiakgjakngaaGreatW.PrintLast Go.Proofs.YtffdiakgjakngaaGreatW.PrintMore
set_option linter.unusedVariables false
set_option linter.unusedSimpArgs false
set_option maxHeartbeats 8000000
set_option maxRecDepth 100000
mutual
def cX.l0:Nat->Int->List Bool->Int->Int->List (S83)->Option (Int)
 |0,_,_,_,_,_=>none
 |k+1,x3,x4,a,b,e=>if a<b then(if 0<=a then(if a<(x4.length:Int) then(if bL false x4 a=true then(cX.l0 k x3 x4 (wrap64 (a+1)) b e) else((cw.f k b e a).bind fun t139=>(cX.l1 k (wrap64 (x3+1)) x4 a t139 0 b e))) else(none)) else(none)) else(some x3)
def cX.l1:Nat->Int->List Bool->Int->List Bool->Int->Int->List (S83)->Option (Int)
 |0,_,_,_,_,_,_,_=>none
 |k+1,x3,x4,g,b,a,e,h=>if a<e then(if 0<=a then(if a<(x4.length:Int) then(if bL false x4 a=true then(cX.l1 k x3 (x4.set (a:Int).toNat true) g b (wrap64 (a+1)) e h) else(if a<(b.length:Int) then(cX.l1 k x3 (x4.set (a:Int).toNat (bL false b a)) g b (wrap64 (a+1)) e h) else(none))) else(none)) else(none)) else(cX.l0 k x3 x4 (wrap64 (g+1)) e h)
end
def cX.f (k:Nat) (a:Int) (b:List (S83)):Option (Int):=if 0<=a then(if(a:Int).toNat<=281474976710656 then(cX.l0 k 0 (List.replicate (a:Int).toNat false) 0 a b) else(none)) else(none)
theorem cX.calls (k:Nat) (j:Int) (O:Option Addr) (P:Nat) (l:List (S83)) (r:Int) (w:World) (bx:Kd.C aM w O l.length l) (b0:l.length<=P) (h:cX.f k j l=some r):
  Calls Tryz.prog 74 #[.agg #[.int .i64 j,.slice O l.length P]] w fun e w'=>e= .returned (.int .i64 r)/\Below w.heap.size w w':=by
 have eg:=Tryz.underlying24;have cf:=zA bx;have cg:=zA b0;clear bx b0;have q:=zA (aj w.heap.size w);unfold cX.f at h;have H:=h;clear h;by_cases c2:0<=j
 ·rw[if_pos c2] at H
  have ch:=eq_true c2;have ci:=aE c2;clear c2;by_cases c3:(j:Int).toNat<=281474976710656
  ·rw[if_pos c3] at H
   have cj:=eq_true c3;have ck:=aE c3;clear c3;obtain⟨b1,av⟩:∃V:List Bool,V=(List.replicate (j:Int).toNat false):=⟨_,rfl⟩;replace H:(cX.l0 k 0 b1 0 j l)=some r:=zh av H;have b2:=zA av;clear av;have s:=zA H;clear H;go_enter Tryz.func74,Tryz.ntmps74
   go_wp2_with (first|((with_reducible refine aU (N:=1) rfl ?_);refine zX 1 #[.int .i64 j,.slice O l.length P] 24 ?_;intro b3 hg w4 b4 hb;have g:=zA (b4);have el:=zG q hg;have em:=zG q hg;replace q:=zS q hb;clear hb b4 hg;obtain⟨cl,co,cp,cq⟩:=aC g)|((with_reducible refine aU (N:=10) rfl ?_);refine Kd.lr Kd.bool _ 4 rfl (N:=10) rfl 43 _ _ rfl j rfl rfl Tryz.underlying43 (.bool false) 1 lF rfl (by decide) (by omega) false (ok:=fun _=>True) (okp:=fun _=>True) rfl (fun _ hk=>hk) trivial (aA ‹_›) (Nat.le_trans (Nat.mul_le_mul_right _ (aA ‹_› :j.toNat<=281474976710656)) (by omega)) (aj _ _) (aI _) ?_;intro cr w6 W hb cs cv;clear cs cv;(first|rw[<-b2.out] at W|(simp only[Int.reduceToNat] at W;rw[<-b2.out] at W));have cx:=zA (Kd.bc W (bO zB));replace g:=zb g hb;replace q:=zS q hb;clear hb W))
   go_loopg [3,5] k (fun X v3 v5 w'=>∃(x:Int) (u:List Bool) (i:Int),v3= .int .i64 x/\v5= .int .i64 i/\Aside0 (cX.l0 X x u i j l=some r)/\Aside0 (X<=k)/\Aside0 (Kd.R Kd.bool 4 w' w.heap.size (fun _=>True) cr u)/\Aside0 (w'.heap[b3]? =some (.cells #[.int .i64 j,(.slice O l.length P)] 24 (0,0)))/\Aside0 (Below w.heap.size w w'))
   case atStart=>exact⟨(0),(b1),(0),zT,zT,s,⟨aI _⟩,⟨zR cx⟩,⟨zK g⟩,⟨zB⟩⟩
   case round=>
    clear s;clear ch ci cj ck cl co cp cq;obtain⟨x,u,i,rfl,rfl,F,z,b,g,q⟩:=hrel;cases gk with
    |zero=>exact absurd F.out (by simp[cX.l0])
    |succ G=>
     have H:=F.out;clear F;simp only[cX.l0] at H;by_cases Q:i<j
     ·rw[if_pos Q] at H
      have b5:=aE Q;clear Q;by_cases c9:0<=i
      ·rw[if_pos c9] at H
       have c0:=aE c9;clear c9;by_cases ag:i<(u.length:Int)
       ·rw[if_pos ag] at H
        have c1:=aE ag;clear ag;obtain⟨b6,aB⟩:∃b_:Bool,b_=(bL false u i):=⟨_,rfl⟩;replace H:(if b6=true then(cX.l0 G x u (wrap64 (i+1)) j l) else((cw.f G j l i).bind fun t139=>(cX.l1 G (wrap64 (x+1)) u i t139 0 j l)))=some r:=by rw[<-aB] at H;exact H
        have Y:=zA aB;clear aB;by_cases ak:b6=true
        ·subst ak
         replace H:=zi H;have s:=zA H;clear H;obtain⟨es,ev,ew,ex⟩:=aC g;obtain⟨ey,e0,c4⟩:=Kd.bh b.out;subst c4;have B:0<=(i:Int):=aA ‹_›;have D:i<(u.length:Int):=aA ‹_›;obtain⟨c5,aL,S⟩:=Kd.jT (Kd.aN b.out).2.2 i B D
         (try rw[<-Y.out] at S)
         cases aL;replace B:=eq_true B;replace D:=eq_true D;go_wp2;go_roundg G
         case measure=>have:=z.out;omega
         case rel=>exact⟨(x),(u),(wrap64 (i+1)),zT,zT,s,⟨by have:=z.out;omega⟩,⟨zR b⟩,⟨zK g⟩,⟨zB⟩⟩
        ·replace ak:=Bool.eq_false_iff.mpr ak
         subst ak;replace H:=zj H;obtain⟨t139,c6,H⟩:=zo H;have s:=zA H;clear H;obtain⟨c7,c',dd,dk⟩:=aC g;obtain⟨e1,E,dl⟩:=Kd.bh b.out;subst dl;have B:0<=(i:Int):=aA ‹_›;have D:i<(u.length:Int):=aA ‹_›;obtain⟨c5,aL,S⟩:=Kd.jT (Kd.aN b.out).2.2 i B D
         (try rw[<-Y.out] at S)
         cases aL;obtain⟨am,ds⟩:=Kd.lB b.out;subst ds;simp only[add_plain] at S;replace B:=eq_true B;replace D:=eq_true D;go_wp2_with (first|((with_reducible refine aR (f:=131) rfl ?_);refine zL (some 25) Tryz.func131 #[.agg #[.int .i64 j,.slice O l.length P],.int .i64 i] ?_;(with_reducible refine(cw.calls G j _ _ l i t139 _ ?au ?aw c6.out).mono ?_);(case au=>exact Kd.ax cf.out zB);(case aw=>exact cg.out);rintro e e2 ⟨aO,rfl,aP,hb⟩;refine⟨_,rfl,?_⟩;have dv:=zA (Kd.bc (Kd.bS aP (Kd.a8 (zR b))) (bO zB));replace b:=bW b aP hb;replace g:=zb g hb;replace q:=zS q hb;(try clear hb);(try clear aP)))
         go_loopg [7] G (fun X v7 w'=>∃(m:List Bool) (a:Int),v7= .int .i64 a/\Aside0 (cX.l1 X (wrap64 (x+1)) m i t139 a j l=some r)/\Aside0 (X<=G)/\Aside0 (Kd.R Kd.bool 4 w' w.heap.size (fun I=>some I≠(aO:Value).ownBlock) (.slice (some ⟨am,0,none⟩) u.length E) m)/\Aside0 (Kd.R Kd.bool 4 w' w.heap.size (fun I=>some I≠((.slice (some ⟨am,0,none⟩) u.length E):Value).ownBlock) aO t139)/\Aside0 (w'.heap[b3]? =some (.cells #[.int .i64 j,(.slice O l.length P)] 24 (0,0)))/\Aside0 (Below w.heap.size w w'))
         case atStart=>exact⟨(u),(0),zT,s,⟨aI _⟩,⟨by(with_reducible repeat(first|apply Kd.aK|apply Kd.bJ|apply Kd.bA));exact Kd.a_ b.out (fun _ hk=>hk.2)⟩,⟨by(with_reducible repeat(first|apply Kd.aK|apply Kd.bJ|apply Kd.bA));exact Kd.a_ dv.out (fun _ hk=>hk.2)⟩,⟨zK g⟩,⟨zB⟩⟩
         case round=>
          clear s;clear b5 c0 c1 c7 c' dd dk S B D;obtain⟨m,a,rfl,F,T,b,y,g,q⟩:=hrel;have o:=(Kd.aN b.out).1;rw[o] at b
          (try simp only[o])
          (try simp only[o] at g)
          (try simp only[o] at y)
          cases gk with
          |zero=>exact absurd F.out (by simp[cX.l1])
          |succ J=>
           have H:=F.out;clear F;simp only[cX.l1] at H;by_cases U:a<j
           ·rw[if_pos U] at H
            have d0:=aE U;clear U;by_cases an:0<=a
            ·rw[if_pos an] at H
             have e3:=aE an;clear an;by_cases ao:a<(m.length:Int)
             ·rw[if_pos ao] at H
              have e4:=aE ao;clear ao;obtain⟨b',aS⟩:∃b_:Bool,b_=(bL false m a):=⟨_,rfl⟩;replace H:(if b'=true then(cX.l1 J (wrap64 (x+1)) (m.set (a:Int).toNat true) i t139 (wrap64 (a+1)) j l) else(if a<(t139.length:Int) then(cX.l1 J (wrap64 (x+1)) (m.set (a:Int).toNat (bL false t139 a)) i t139 (wrap64 (a+1)) j l) else(none)))=some r:=by rw[<-aS] at H;exact H
              have a0:=zA aS;clear aS;by_cases ap:b'=true
              ·subst ap
               replace H:=zi H;obtain⟨a1,a2⟩:∃V:List Bool,V=(m.set (a:Int).toNat true):=⟨_,rfl⟩;replace H:(cX.l1 J (wrap64 (x+1)) a1 i t139 (wrap64 (a+1)) j l)=some r:=zh a2 H;have d1:=zA a2;clear a2;have s:=zA H;clear H;obtain⟨e5,e6,e_,e'⟩:=aC g;have K:0<=(a:Int):=aA ‹_›;have L:a<(m.length:Int):=aA ‹_›;obtain⟨a3,a4,M⟩:=Kd.jT (Kd.aN b.out).2.2 a K L
               (try rw[<-Y.out] at M)
               (try rw[<-a0.out] at M)
               obtain rfl:(⟨am,0,none⟩:Addr)=a3:=(by injection a4);replace K:=eq_true K;replace L:=eq_true L;have a5:0<=(a:Int):=aA ‹_›;have a9:(a:Int)<((m.length:Int):Int):=aA ‹_›;obtain⟨Z,fb,d2,ca,d3,fd,cb⟩:=Kd.gC b.out (by omega)
               (first|(injection d2 with n bb be;(first|subst n|(injection n with n;first|subst n|(injection n with n;have n:=n.symm;subst n)));subst be;clear bb))
               have d4:=zA ca;have fn:=zA cb;clear ca d3 cb
               (first|simp only[add_plain] at S|skip)
               (first|simp only[add_plain] at M|skip)
               obtain⟨fo,fq⟩:=Kd.bP false b.out (a:Int) a5 a9;replace a5:=eq_true a5;replace a9:=eq_true a9;have bf:=Kd.dg b.out (a:Int) true;go_wp2_with (first|((with_reducible refine kr (t:=4) (p:=44) rfl ?_);refine kp (t:=4) (p:=44) (v:=?KN) (w1:=(wr.setCell ⟨Z,(a:Int).toNat,none⟩ (.bool true))) ?hg ?ho ?hn ?hr ?_;(case ho=>rfl);(case hg=>rfl);(case hn=>rfl);(case hr=>first|(go_simp;done)|(go_simp;rfl));intro bg hw;have hg:wr.grownBy bg (some Z):=(by rw[hw];exact bf.2);have aa:Kd.R Kd.bool 4 bg w.heap.size (fun I=>some I≠(aO:Value).ownBlock) (.slice (some ⟨Z,0,none⟩) m.length E) a1:=(by rw[hw,d1.out];exact bf.1);clear bf;replace y:=zA (Kd.tA (v:=(.slice (some ⟨Z,0,none⟩) m.length E)) (v1:=(.slice (some ⟨Z,0,none⟩) m.length E)) (ok:=(fun _=>True)) (by(with_reducible repeat(first|apply Kd.aK|apply Kd.bJ|apply Kd.bA));exact Kd.a_ y.out (fun _ hk=>⟨trivial,hk⟩)) hg (.inl rfl));replace g:=zA (di (zK g) hg (Kd.dm b.out g.out (by decide)));replace b:=zA (aa);replace q:=zA ((by rw[hw];exact eK (q.out) d4.out:Below w.heap.size w bg));clear hg hw aa))
               (try simp only[<-o])
               go_roundg J
               case measure=>have:=z.out;have:=T.out;omega
               case rel=>exact⟨(a1),(wrap64 (a+1)),zT,s,⟨by have:=z.out;have:=T.out;omega⟩,⟨by(try simp only[o]);(with_reducible repeat(first|apply Kd.aK|apply Kd.bJ|apply Kd.bA));exact b.out⟩,⟨by(try simp only[o]);(with_reducible repeat(first|apply Kd.aK|apply Kd.bJ|apply Kd.bA));exact Kd.a_ y.out (fun _ hk=>hk.2)⟩,⟨by(try simp only[o]);exact zK g⟩,⟨zB⟩⟩
              ·replace ap:=Bool.eq_false_iff.mpr ap
               subst ap;replace H:=zj H;by_cases ar:a<(t139.length:Int)
               ·rw[if_pos ar] at H
                have fr:=aE ar;clear ar;obtain⟨bi,bk⟩:∃V:List Bool,V=(m.set (a:Int).toNat (bL false t139 a)):=⟨_,rfl⟩;replace H:(cX.l1 J (wrap64 (x+1)) bi i t139 (wrap64 (a+1)) j l)=some r:=zh bk H;have d5:=zA bk;clear bk;have s:=zA H;clear H;obtain⟨ft,fv,f0,f1⟩:=aC g;have K:0<=(a:Int):=aA ‹_›;have L:a<(m.length:Int):=aA ‹_›;obtain⟨a3,a4,M⟩:=Kd.jT (Kd.aN b.out).2.2 a K L
                (try rw[<-Y.out] at M)
                (try rw[<-a0.out] at M)
                obtain rfl:(⟨am,0,none⟩:Addr)=a3:=(by injection a4);replace K:=eq_true K;replace L:=eq_true L;obtain⟨f2,d6,d7⟩:=Kd.bh y.out;subst d7;have bl:0<=(a:Int):=aA ‹_›;have bn:a<(t139.length:Int):=aA ‹_›;obtain⟨d8,d9,cc⟩:=Kd.jT (Kd.aN y.out).2.2 a bl bn
                (try rw[<-Y.out] at cc)
                (try rw[<-a0.out] at cc)
                cases d9;replace bl:=eq_true bl;replace bn:=eq_true bn;have bo:0<=(a:Int):=aA ‹_›;have bq:(a:Int)<((m.length:Int):Int):=aA ‹_›;obtain⟨ab,f3,ea,cd,eb,f4,ce⟩:=Kd.gC b.out (by omega)
                (first|(injection ea with n bb be;(first|subst n|(injection n with n;first|subst n|(injection n with n;have n:=n.symm;subst n)));subst be;clear bb))
                have ed:=zA cd;have f5:=zA ce;clear cd eb ce
                (first|simp only[add_plain] at M|skip)
                obtain⟨f6,f7⟩:=Kd.bP false b.out (a:Int) bo bq;replace bo:=eq_true bo;replace bq:=eq_true bq;have bv:=Kd.dg b.out (a:Int) (bL false t139 a);go_wp2_with (first|((with_reducible refine kr (t:=4) (p:=44) rfl ?_);refine kp (t:=4) (p:=44) (v:=?MR) (w1:=(wr.setCell ⟨ab,(a:Int).toNat,none⟩ (.bool (bL false t139 a)))) ?hg ?ho ?hn ?hr ?_;(case ho=>rfl);(case hg=>rfl);(case hn=>rfl);(case hr=>first|(go_simp;done)|(go_simp;rfl));intro bw hw;have hg:wr.grownBy bw (some ab):=(by rw[hw];exact bv.2);have aa:Kd.R Kd.bool 4 bw w.heap.size (fun I=>some I≠(.slice (some d8) t139.length d6:Value).ownBlock) (.slice (some ⟨ab,0,none⟩) m.length E) bi:=(by rw[hw,d5.out];exact bv.1);clear bv;replace y:=zA (Kd.tA (v:=(.slice (some ⟨ab,0,none⟩) m.length E)) (v1:=(.slice (some ⟨ab,0,none⟩) m.length E)) (ok:=(fun _=>True)) (by(with_reducible repeat(first|apply Kd.aK|apply Kd.bJ|apply Kd.bA));exact Kd.a_ y.out (fun _ hk=>⟨trivial,hk⟩)) hg (.inl rfl));replace g:=zA (di (zK g) hg (Kd.dm b.out g.out (by decide)));replace b:=zA (aa);replace q:=zA ((by rw[hw];exact eK (q.out) ed.out:Below w.heap.size w bw));clear hg hw aa))
                (try simp only[<-o])
                go_roundg J
                case measure=>have:=z.out;have:=T.out;omega
                case rel=>exact⟨(bi),(wrap64 (a+1)),zT,s,⟨by have:=z.out;have:=T.out;omega⟩,⟨by(try simp only[o]);(with_reducible repeat(first|apply Kd.aK|apply Kd.bJ|apply Kd.bA));exact b.out⟩,⟨by(try simp only[o]);(with_reducible repeat(first|apply Kd.aK|apply Kd.bJ|apply Kd.bA));exact Kd.a_ y.out (fun _ hk=>hk.2)⟩,⟨by(try simp only[o]);exact zK g⟩,⟨zB⟩⟩
               ·rw[if_neg ar] at H
                exact absurd H (by simp)
             ·rw[if_neg ao] at H
              exact absurd H (by simp)
            ·rw[if_neg an] at H
             exact absurd H (by simp)
           ·rw[if_neg U] at H
            have d0:=ba U;clear U;have s:=zA H;clear H;obtain⟨f8,f9,f',ga⟩:=aC g;go_wp2
            (try simp only[<-o])
            go_roundg J
            case measure=>have:=z.out;have:=T.out;omega
            case rel=>exact⟨((wrap64 (x+1))),(m),(wrap64 (i+1)),zT,zT,s,⟨by have:=z.out;have:=T.out;omega⟩,⟨by(try simp only[o]);(with_reducible repeat(first|apply Kd.aK|apply Kd.bJ|apply Kd.bA));exact Kd.a_ b.out (fun _ hk=>trivial)⟩,⟨by(try simp only[o]);exact zK g⟩,⟨zB⟩⟩
       ·rw[if_neg ag] at H
        exact absurd H (by simp)
      ·rw[if_neg c9] at H
       exact absurd H (by simp)
     ·rw[if_neg Q] at H
      have b5:=ba Q;clear Q;obtain rfl:=aX H;obtain⟨gb,gc,gd,ge⟩:=aC g;go_wp2;go_ret;exact⟨zE,zB⟩
  ·rw[if_neg c3] at H
   exact absurd H (by simp)
 ·rw[if_neg c2] at H
  exact absurd H (by simp)
def mF.f (k:Nat) (a:Int) (b:List (S83)):Option (Bool):=(cX.f k a b).bind fun t147=>(some (t147==1))
theorem mF.calls (k:Nat) (b:Int) (i:Option Addr) (j:Nat) (a:List (S83)) (r:Bool) (w:World) (n:Kd.C aM w i a.length a) (o:a.length<=j) (h:mF.f k b a=some r):
  Calls Tryz.prog 104 #[.agg #[.int .i64 b,.slice i a.length j]] w fun e w'=>e= .returned (.bool r)/\Below w.heap.size w w':=by
 have v:=Tryz.underlying24;have q:=zA n;have s:=zA o;clear n o;have g:=zA (aj w.heap.size w);have H:((cX.f k b a).bind fun t147=>(some (t147==1)))=some r:=h;clear h;obtain⟨t147,u,H⟩:=zo H;obtain rfl:=aX H;go_enter Tryz.func104,Tryz.ntmps104
 go_wp2_with (first|((with_reducible refine aU (N:=1) rfl ?_);refine zX 1 #[.int .i64 b,.slice i a.length j] 24 ?_;intro x l w3 p hb;have m:=zA (p);have y:=zG g l;have z:=zG g l;replace g:=zS g hb;clear hb p l;obtain⟨B,D,E,F⟩:=aC m)|((with_reducible refine aR (f:=74) rfl ?_);refine zL (some 4) Tryz.func74 #[.agg #[.int .i64 b,.slice i a.length j]] ?_;(with_reducible refine(cX.calls k b _ _ a t147 _ ?au ?aw u.out).mono ?_);(case au=>exact Kd.ax q.out zB);(case aw=>exact s.out);rintro e G ⟨rfl,hb⟩;refine⟨_,rfl,?_⟩;replace m:=zb m hb;replace g:=zS g hb;(try clear hb)))
 go_ret;exact⟨zE,zB⟩
def bj (o:List Bool) (i:Nat):Bool:=o.getD i false
theorem rO (o:List Bool) (i:Nat):bL false o (i:Int)=bj o i:=by simp[bL,bj]
theorem mG (o:List Bool) (i j:Nat) (b:Bool):bj (o.set i b) j=if i=j/\j<o.length then b else bj o j:=by
 unfold bj;rw[aW,aW,List.getElem?_set];by_cases h:i=j
 ·subst h
  by_cases a:i<o.length
  ·simp[a]
  ·simp[a]
 ·simp[h]
def gX (E:List S83) (a:Nat) (o:List Bool) (b:Nat):List Bool:=if bj o a=true/\dr E a b>0 then o.set b true else o
def j8 (E:List S83) (n:Nat) (o:List Bool) (a:Nat):List Bool:=(List.range' 0 n).foldl (gX E a) o
def j9 (E:List S83) (n:Nat) (o:List Bool):List Bool:=(List.range' 0 n).foldl (j8 E n) o
def jr (E:List S83) (n:Nat):Nat->List Bool->List Bool
 |0,o=>o
 |m+1,o=>jr E n m (j9 E n o)
def fS (E:List S83) (n v:Nat):List Bool:=jr E n n ((List.replicate n false).set v true)
theorem rP (E:List S83) (a b:Nat) (o:List Bool):(gX E a o b).length=o.length:=by unfold gX;split<;>simp
theorem mH {f:List Bool->Nat->List Bool} (h:∀o b,(f o b).length=o.length):∀(l:List Nat) (o:List Bool),(l.foldl f o).length=o.length
 |[],_=>rfl
 |x::l,o=>by rw[List.foldl_cons,mH h l,h]
theorem rQ (E:List S83) (n a:Nat) (o:List Bool):(j8 E n o a).length=o.length:=mH (fun o b=>rP E a b o) _ _
theorem rR (E:List S83) (n:Nat) (o:List Bool):(j9 E n o).length=o.length:=mH (fun o a=>rQ E n a o) _ _
theorem wv (E:List S83) (n:Nat):∀m o,(jr E n m o).length=o.length
 |0,_=>rfl
 |m+1,o=>by rw[jr,wv E n m,rR]
theorem wx (E:List S83) (i:E.length<=1000) (n a g:Nat) (hn:n<=1000) (p:a<n) (r:List Bool):∀(m j:Nat) (o:List Bool),j+m=n->o.length=n->Ev (fun k=>cw.l1 k ((List.range' j m).foldl (gX E a) o) g ((a+1:Nat):Int) n E) r->Ev (fun k=>cw.l2 k o g a j n E) r
 |0,j,o,q,l,h=>by
  refine Ev.of_succ ?_;simp only[cw.l2,if_neg (show ¬((j:Int)<(n:Int)) by omega),eX (show a<=1000000 by omega)];exact h
 |m+1,j,o,q,l,h=>by
  rw[List.range'_succ,List.foldl_cons] at h;have b:=wx E i n a g hn p r m (j+1) (gX E a o j) (by omega) (by rw[rP];exact l) h;refine Ev.of_succ ?_;simp only[cw.l2,if_pos (show (j:Int)<(n:Int) by omega),if_pos (show (0:Int)<=(a:Int) by omega),if_pos (show (a:Int)<(o.length:Int) by omega),if_pos (show (0:Int)<=(j:Int) by omega),if_pos (show (j:Int)<(o.length:Int) by omega),eX (show j<=1000000 by omega),rO,aD];unfold gX at b;by_cases h1:bj o a=true
  ·simp only[if_pos h1]
   refine Ev.bind (Ed n E a j i) ?_;by_cases e:dr E a j>0
   ·simp only[if_pos e];rw[if_pos ⟨h1,e⟩] at b;exact b
   ·simp only[if_neg e];rw[if_neg (fun h=>e h.2)] at b;exact b
  ·simp only[if_neg h1];rw[if_neg (fun h=>h1 h.1)] at b;exact b
theorem wy (E:List S83) (g:E.length<=1000) (n b:Nat) (hn:n<=1000) (i:b<=1000) (r:List Bool):∀(m a:Nat) (o:List Bool),a+m=n->o.length=n->Ev (fun k=>cw.l0 k ((List.range' a m).foldl (j8 E n) o) ((b+1:Nat):Int) n E) r->Ev (fun k=>cw.l1 k o b a n E) r
 |0,a,o,j,e,h=>by
  refine Ev.of_succ ?_;simp only[cw.l1,if_neg (show ¬((a:Int)<(n:Int)) by omega),eX (show b<=1000000 by omega)];exact h
 |m+1,a,o,j,e,h=>by
  rw[List.range'_succ,List.foldl_cons] at h;have l:=wy E g n b hn i r m (a+1) (j8 E n o a) (by omega) (by rw[rQ];exact e) h;refine Ev.of_succ ?_;simp only[cw.l1,if_pos (show (a:Int)<(n:Int) by omega)];exact wx E g n a b hn (by omega) r n 0 o (by omega) e l
theorem wz (E:List S83) (b:E.length<=1000) (n:Nat) (hn:n<=1000):∀(m i:Nat) (o:List Bool),i+m=n->o.length=n->Ev (fun k=>cw.l0 k o i n E) (jr E n m o)
 |0,i,o,hi,a=>by
  refine Ev.of_succ ?_;simp only[cw.l0,if_neg (show ¬((i:Int)<(n:Int)) by omega)];exact Ev.const _
 |m+1,i,o,hi,a=>by
  have e:=wz E b n hn m (i+1) (j9 E n o) (by omega) (by rw[rR];exact a);refine Ev.of_succ ?_;simp only[cw.l0,if_pos (show (i:Int)<(n:Int) by omega)];exact wy E b n i hn (by omega) _ n 0 o (by omega) a e
theorem Ei (E:List S83) (a:E.length<=1000) (n v:Nat) (hn:n<=1000) (b:v<n):Ev (fun k=>cw.f k n E v) (fS E n v):=by
 unfold cw.f;simp only[if_pos (show (0:Int)<=(n:Int) by omega),aD,if_pos (show n<=281474976710656 by omega),Option.bind_some,if_pos (show (0:Int)<=(v:Int) by omega),List.length_replicate,if_pos (show (v:Int)<(n:Int) by omega)];exact wz E a n hn n 0 _ (by omega) (by simp)
def ka (s r:List Bool):List Bool:=(List.range' 0 s.length).foldl (fun s u=>s.set u (bj s u||bj r u)) s
def iz (E:List S83) (n:Nat):Nat->Nat->Nat->List Bool->Nat
 |0,_,c,_=>c
 |m+1,v,c,s=>if bj s v=true then iz E n m (v+1) c s else iz E n m (v+1) (c+1) (ka s (fS E n v))
theorem Ej (r:List Bool) (o:List Bool) (u:Nat):(o.set u (bj o u||bj r u)).length=o.length:=by simp
theorem wA (E:List S83) (n:Nat) (hn:n<=1000) (c v:Nat) (e:v<=1000) (q:List Bool) (g:q.length=n) (r:Int):∀(m j:Nat) (s:List Bool),j+m=n->s.length=n->Ev (fun k=>cX.l0 k c ((List.range' j m).foldl (fun s u=>s.set u (bj s u||bj q u)) s) ((v+1:Nat):Int) n E) r->Ev (fun k=>cX.l1 k c s v q j n E) r
 |0,j,s,i,b,h=>by
  refine Ev.of_succ ?_;simp only[cX.l1,if_neg (show ¬((j:Int)<(n:Int)) by omega),eX (show v<=1000000 by omega)];exact h
 |m+1,j,s,i,b,h=>by
  rw[List.range'_succ,List.foldl_cons] at h;have a:=wA E n hn c v e q g r m (j+1) _ (by omega) (by rw[List.length_set];exact b) h;refine Ev.of_succ ?_;simp only[cX.l1,if_pos (show (j:Int)<(n:Int) by omega),if_pos (show (0:Int)<=(j:Int) by omega),if_pos (show (j:Int)<(s.length:Int) by omega),if_pos (show (j:Int)<(q.length:Int) by omega),eX (show j<=1000000 by omega),rO,aD];by_cases h1:bj s j=true
  ·simp only[if_pos h1];rw[h1,Bool.true_or] at a;exact a
  ·simp only[if_neg h1];rw[Bool.eq_false_iff.2 h1,Bool.false_or] at a;exact a
theorem rS (E:List S83) (e:E.length<=1000) (n:Nat) (hn:n<=1000):∀(m v c:Nat) (s:List Bool),v+m=n->c<=v->s.length=n->Ev (fun k=>cX.l0 k c s v n E) ((iz E n m v c s:Nat):Int)
 |0,v,c,s,g,h,a=>by
  refine Ev.of_succ ?_;simp only[cX.l0,if_neg (show ¬((v:Int)<(n:Int)) by omega)];exact Ev.const _
 |m+1,v,c,s,g,h,a=>by
  refine Ev.of_succ ?_;simp only[cX.l0,if_pos (show (v:Int)<(n:Int) by omega),if_pos (show (0:Int)<=(v:Int) by omega),if_pos (show (v:Int)<(s.length:Int) by omega),eX (show v<=1000000 by omega),rO,iz];by_cases h1:bj s v=true
  ·simp only[if_pos h1]
   exact rS E e n hn m (v+1) c s (by omega) (by omega) a
  ·simp only[if_neg h1]
   refine Ev.bind (Ei E e n v hn (by omega)) ?_;have i:(fS E n v).length=n:=by unfold fS;rw[wv];simp
   have j:=rS E e n hn m (v+1) (c+1) (ka s (fS E n v)) (by omega) (by omega) (by unfold ka;rw[mH (fun o b=>Ej _ o b)];exact a);rw[eX (show c<=1000000 by omega)];refine wA E n hn (c+1) v (by omega) _ i _ n 0 s (by omega) a ?_;rw[show (List.range' 0 n).foldl (fun s u=>s.set u (bj s u||bj (fS E n v) u)) s=ka s (fS E n v) from by unfold ka;rw[a]];exact j
def partsOf (E:List S83) (n:Nat):Nat:=iz E n n 0 0 (List.replicate n false)
theorem Ek (E:List S83) (a:E.length<=1000) (n:Nat) (hn:n<=1000):Ev (fun k=>cX.f k n E) ((partsOf E n:Nat):Int):=by
 unfold cX.f;simp only[if_pos (show (0:Int)<=(n:Int) by omega),aD,if_pos (show n<=281474976710656 by omega)];exact rS E a n hn n 0 0 _ (by omega) (by omega) (by simp)
theorem rT {E:List S83} {a b:Nat} {o:List Bool} {i:Nat} (h:bj o i=true):bj (gX E a o b) i=true:=by
 unfold gX;split
 ·rw[mG];split<;>simp_all
 ·exact h
theorem lL {f:List Bool->Nat->List Bool} (hf:∀o b i,bj o i=true->bj (f o b) i=true):∀(l:List Nat) (o:List Bool) (i:Nat),bj o i=true->bj (l.foldl f o) i=true
 |[],_,_,h=>h
 |x::l,o,i,h=>by rw[List.foldl_cons];exact lL hf l _ i (hf _ _ _ h)
theorem rU {E:List S83} {n a:Nat} {o:List Bool} {i:Nat} (h:bj o i=true):bj (j8 E n o a) i=true:=lL (fun o b i h=>rT h) _ _ _ h
theorem wB {E:List S83} {n:Nat} {o:List Bool} {i:Nat} (h:bj o i=true):bj (j9 E n o) i=true:=lL (fun o b i h=>rU h) _ _ _ h
theorem wC {E:List S83} {n:Nat}:∀{m:Nat} {o:List Bool} {i:Nat},bj o i=true->bj (jr E n m o) i=true
 |0,_,_,h=>h
 |m+1,o,i,h=>wC (m:=m) (wB h)
def js (E:List S83) (n:Nat) (S:Nat->Bool):Prop:=∀a b:Nat,a<n->b<n->S a=true->dr E a b>0->S b=true
theorem nN {P:List Bool->Prop} {f:List Bool->Nat->List Bool} {n:Nat} (hf:∀o b,b<n->P o->P (f o b)):∀(m j:Nat) (o:List Bool),j+m<=n->P o->P ((List.range' j m).foldl f o)
 |0,_,_,_,h=>h
 |m+1,j,o,a,h=>by rw[List.range'_succ,List.foldl_cons];exact nN hf m (j+1) _ (by omega) (hf _ _ (by omega) h)
theorem El {E:List S83} {n:Nat} {S:Nat->Bool} (hS:js E n S) {o:List Bool} (h:∀i,bj o i=true->S i=true):∀i,bj (j9 E n o) i=true->S i=true:=by
 refine nN (P:=fun o=>∀i,bj o i=true->S i=true) (n:=n) (fun o a g h=>?_) n 0 o (by omega) h;refine nN (P:=fun o=>∀i,bj o i=true->S i=true) (n:=n) (fun o b hb h=>?_) n 0 o (by omega) h;intro i hi;unfold gX at hi;split at hi
 ·rename_i e
  rw[mG] at hi;split at hi
  ·rename_i j
   obtain⟨rfl,_⟩:=j;exact hS a b g hb (h a e.1) e.2
  ·exact h i hi
 ·exact h i hi
theorem wD {E:List S83} {n:Nat} {S:Nat->Bool} (hS:js E n S):∀(m:Nat) {o:List Bool},(∀i,bj o i=true->S i=true)->∀i,bj (jr E n m o) i=true->S i=true
 |0,_,h=>h
 |m+1,o,h=>wD hS m (El hS h)
theorem Em {o:List Bool} {b:Nat} (h:bj o b=true):o.set b true=o:=by
 refine List.ext_getElem (by simp) fun i h1 a=>?_
 rw[List.getElem_set];by_cases e:b=i
 ·subst e
  rw[if_pos rfl];simp only[bj,aW,bp a,Option.getD_some] at h;exact h.symm
 ·rw[if_neg e]
theorem En {E:List S83} {n:Nat} {o:List Bool} (h:js E n (bj o)):j9 E n o=o:=by
 refine nN (P:=fun x=>x=o) (n:=n) (fun x a g i=>?_) n 0 o (by omega) rfl;subst i;refine nN (P:=fun y=>y=x) (n:=n) (fun y b hb j=>?_) n 0 x (by omega) rfl;subst j;unfold gX;split
 ·rename_i e
  exact Em (h a b g hb e.1 e.2)
 ·rfl
theorem wE {E:List S83} {n:Nat}:∀(m:Nat) {o:List Bool},js E n (bj o)->jr E n m o=o
 |0,_,_=>rfl
 |m+1,o,h=>by rw[jr,En h,wE m h]
def kc (o:List Bool) (n:Nat):Nat:=(List.range n).countP (bj o)
theorem Eo (o:List Bool) (n:Nat):kc o n<=n:=by
 unfold kc;exact Nat.le_trans List.countP_le_length (by simp)
theorem rV {o p:List Bool} {b:Nat}:∀{n:Nat},(∀i,bj o i=true->bj p i=true)->b<n->bj o b=false->bj p b=true->kc o n<kc p n
 |0,_,hb,_,_=>by omega
 |n+1,h,hb,h1,g=>by
  have mono:∀m,kc o m<=kc p m:=fun m=>List.countP_mono_left (fun x _ j=>h x j)
  unfold kc at*;rw[List.range_succ,List.countP_append,List.countP_append];by_cases e:b=n
  ·subst e
   have:=mono b;simp[h1,g];omega
  ·have:=rV (n:=n) h (by omega) h1 g
   unfold kc at this;have k:(if bj o n=true then 1 else 0)<=(if bj p n=true then 1 else 0):=by
    by_cases a:bj o n=true
    ·rw[if_pos a,if_pos (h n a)];exact aI _
    ·rw[if_neg a];exact Nat.zero_le _
   simp only[List.countP_cons,List.countP_nil,Nat.zero_add];omega
theorem Er {E:List S83} {n:Nat} {o:List Bool} (r:o.length=n) {a b:Nat} (s:a<n) (hb:b<n) (h1:bj o a=true) (k:dr E a b>0):bj (j9 E n o) b=true:=by
 unfold j9;have l:List.range' 0 n=List.range' 0 a++a::List.range' (a+1) (n-a-1):=by
  rw[<-List.range'_succ,show n-a-1+1=n-a by omega];rw[show List.range' 0 a++List.range' a (n-a)=List.range' 0 a++List.range' (0+a) (n-a) by rw[Nat.zero_add],List.range'_append_1];rw[show a+(n-a)=n by omega]
 have m:List.range' 0 n=List.range' 0 b++b::List.range' (b+1) (n-b-1):=by
  rw[<-List.range'_succ,show n-b-1+1=n-b by omega];rw[show List.range' 0 b++List.range' b (n-b)=List.range' 0 b++List.range' (0+b) (n-b) by rw[Nat.zero_add],List.range'_append_1];rw[show b+(n-b)=n by omega]
 rw[l,List.foldl_append,List.foldl_cons];refine lL (fun o b i h=>rU h) _ _ _ ?_;have g:=lL (f:=j8 E n) (fun o b i h=>rU h) (List.range' 0 a) o a h1;have p:=mH (f:=j8 E n) (fun o a=>rQ E n a o) (List.range' 0 a) o;generalize (List.range' 0 a).foldl (j8 E n) o=e at g p⊢;unfold j8;rw[m,List.foldl_append,List.foldl_cons];refine lL (fun o b i h=>rT h) _ _ _ ?_;have j:=lL (f:=gX E a) (fun o b i h=>rT h) (List.range' 0 b) e a g;have q:=mH (f:=gX E a) (fun o b=>rP E a b o) (List.range' 0 b) e;generalize (List.range' 0 b).foldl (gX E a) e=u at j q⊢;unfold gX;rw[if_pos ⟨j,k⟩,mG,if_pos ⟨rfl,by omega⟩]
theorem wF {E:List S83} {n:Nat}:∀(m:Nat) (o:List Bool),o.length=n->n<kc o n+m->js E n (bj (jr E n m o))
 |0,o,g,h=>by have:=Eo o n;omega
 |m+1,o,g,h=>by
  by_cases e:js E n (bj o)
  ·rw[wE (m+1) e];exact e
  ·rw[jr]
   refine wF m _ (by rw[rR];exact g) ?_;unfold js at e;simp only[Classical.not_forall] at e;obtain⟨a,b,j,hb,h1,k,l⟩:=e;have:=rV (o:=o) (p:=j9 E n o) (b:=b) (n:=n) (fun i hi=>wB hi) hb (Bool.eq_false_iff.2 l) (Er g j hb h1 k);omega
theorem Es {E:List S83} {n v:Nat} (e:v<n):bj (fS E n v) v=true/\js E n (bj (fS E n v))/\∀S:Nat->Bool,js E n S->S v=true->∀i,bj (fS E n v) i=true->S i=true:=by
 have g:bj ((List.replicate n false).set v true) v=true:=by rw[mG,if_pos ⟨rfl,by simpa using e⟩]
 have a:∀i,bj (List.replicate n false) i=false:=fun i=>by simp[bj,aW,List.getElem?_replicate];split<;>rfl
 refine⟨wC g,wF n _ (by simp) ?_,fun S hS j=>wD hS n (fun i hi=>?_)⟩
 ·have:=rV (o:=List.replicate n false) (p:=(List.replicate n false).set v true) (b:=v) (n:=n) (fun i hi=>by rw[a] at hi;cases hi) e (a v) g
  omega
 ·rw[mG] at hi
  split at hi
  ·rename_i h;rw[<-h.1];exact j
  ·rw[a] at hi;cases hi
theorem Et {E:List S83} {a b:Int} (h:dr E a b>0):∃x∈E,x.f0=min a b/\x.f1=max a b:=by
 unfold dr at h;split at h
 ·rename_i x e
  refine⟨x,List.mem_of_find?_eq_some e,?_⟩;have:=List.find?_some e;simpa [gW] using this
 ·omega
theorem wG {N:Int} {E:List S83} (h:bt N E) {x:S83} (a:x∈E):dr E x.f0 x.f1>0:=by
 unfold dr;split
 ·rename_i y b
  have:=h.ok y (List.mem_of_find?_eq_some b);simp[bQ] at this;omega
 ·rename_i hn
  rw[List.find?_eq_none] at hn;have:=hn x a;have hle:=h.le x a;simp[gW] at this;omega
theorem Eu {E:List S83} {n:Nat} {S:Nat->Bool} (h:∀x∈E,S x.f0.toNat=S x.f1.toNat):js E n S:=by
 intro a b k hb e g;obtain⟨x,i,l,h1⟩:=Et g;have:=h x i;rcases Nat.le_total a b with j|j
 ·rw[show x.f0.toNat=a by omega,show x.f1.toNat=b by omega] at this
  rw[<-this];exact e
 ·rw[show x.f0.toNat=b by omega,show x.f1.toNat=a by omega] at this
  rw[this];exact e
theorem Ew {n:Nat} {E:List S83} (b:bt n E) {S:Nat->Bool} (h:js E n S):∀x∈E,S x.f0.toNat=S x.f1.toNat:=by
 intro x e;have hb:=wG b e;have k:=b.ok x e;simp[bQ] at k;have g:((x.f0.toNat:Nat):Int)=x.f0:=by omega
 have i:((x.f1.toNat:Nat):Int)=x.f1:=by omega
 have h1:=h x.f0.toNat x.f1.toNat (by omega) (by omega);have j:=h x.f1.toNat x.f0.toNat (by omega) (by omega);rw[g,i] at h1;rw[g,i,pw] at j;cases a:S x.f0.toNat with
 |true=>exact(h1 a hb).symm
 |false=>
  cases l:S x.f1.toNat with
  |false=>rfl
  |true=>rw[j l hb] at a;cases a
theorem Ex (s r:List Bool) (i:Nat) (hi:i<s.length):bj (ka s r) i=(bj s i||bj r i):=by
 unfold ka;have key:∀(m j:Nat) (o:List Bool),o.length=s.length->bj ((List.range' j m).foldl (fun s u=>s.set u (bj s u||bj r u)) o) i=if j<=i/\i<j+m then(bj o i||bj r i) else bj o i:=by
  intro m;induction m with
  |zero=>intro j o _;rw[if_neg (by omega)];rfl
  |succ m b=>
   intro j o e;rw[List.range'_succ,List.foldl_cons,b _ _ (by rw[List.length_set];exact e),mG];by_cases h1:j=i
   ·subst h1
    rw[if_neg (by omega),if_pos ⟨rfl,by omega⟩,if_pos (by omega)]
   ·rw[if_neg (show ¬(j=i/\i<o.length) from fun h=>h1 h.1)]
    by_cases a:j+1<=i/\i<j+1+m
    ·rw[if_pos a,if_pos (by omega)]
    ·rw[if_neg a,if_neg (by omega)]
 rw[key s.length 0 s rfl,if_pos (by omega)]
theorem wH (E:List S83) (n:Nat):∀(m v c:Nat) (s:List Bool),(∀i,v<=i->i<v+m->bj s i=true)->iz E n m v c s=c
 |0,_,_,_,_=>rfl
 |m+1,v,c,s,h=>by
  rw[iz,if_pos (h v (aI _) (by omega))];exact wH E n m (v+1) c s (fun i h1 a=>h i (by omega) (by omega))
theorem rW (E:List S83) (n:Nat):∀(m v c:Nat) (s:List Bool),c<=iz E n m v c s
 |0,_,_,_=>aI _
 |m+1,v,c,s=>by
  rw[iz];split
  ·exact rW E n m _ _ _
  ·exact Nat.le_trans (Nat.le_succ c) (rW E n m _ _ _)
theorem wI (E:List S83) (n:Nat):∀(m v c:Nat) (s:List Bool) (u:Nat),v<=u->u<v+m->bj s u=false->c+1<=iz E n m v c s
 |0,_,_,_,_,_,h,_=>by omega
 |m+1,v,c,s,u,h1,e,a=>by
  rw[iz];split
  ·rename_i b
   exact wI E n m (v+1) c s u (by rcases Nat.lt_or_ge v u with h|h;exact h;exfalso;have:v=u:=(by omega);subst this;rw[a] at b;cases b) (by omega) a
  ·exact rW E n m _ _ _
theorem jI {n:Nat} {E:List S83} (hn:1<=n) (q:bt n E):partsOf E n=1↔fC n E:=by
 obtain⟨m,rfl⟩:∃m,n=m+1:=⟨n-1,by omega⟩;obtain⟨r,s,w⟩:=Es (E:=E) (n:=m+1) (v:=0) (by omega);have j:∀i,bj (List.replicate (m+1) false) i=false:=fun i=>by simp[bj,aW,List.getElem?_replicate];split<;>rfl
 have e:partsOf E (m+1)=iz E (m+1) m 1 1 (ka (List.replicate (m+1) false) (fS E (m+1) 0)):=by
  unfold partsOf;rw[iz,if_neg (by rw[j];decide)]
 have k:∀i,i<m+1->bj (ka (List.replicate (m+1) false) (fS E (m+1) 0)) i=bj (fS E (m+1) 0) i:=fun i hi=>by
  rw[Ex _ _ _ (by simpa using hi),j,Bool.false_or]
 rw[e];constructor
 ·intro h S y z
  refine Classical.byContradiction fun a=>?_
  have hS:∀x∈E,S x.f0.toNat=S x.f1.toNat:=fun x B=>Classical.byContradiction fun b=>a ⟨x,B,b⟩
  have main:∀T:Nat->Bool,(∀x∈E,T x.f0.toNat=T x.f1.toNat)->T 0=true->(∃u,u<m+1/\T u=false)->False:=by
   rintro T C l ⟨u,hu,g⟩;have h1:bj (fS E (m+1) 0) u=false:=by
    cases o:bj (fS E (m+1) 0) u with
    |false=>rfl
    |true=>have:=w T (Eu C) l u o;rw[g] at this;cases this
   have F:u≠0:=fun e=>by subst e;rw[l] at g;cases g
   have:=wI E (m+1) m 1 1 _ u (by omega) (by omega) (by rw[k u hu];exact h1);omega
  cases p:S 0 with
  |true=>exact main S hS p z
  |false=>
   refine main (fun u=> !S u) (fun x a=>by simp[hS x a]) (by simp[p]) ?_;obtain⟨u,hu,D⟩:=y;exact⟨u,hu,by simp[D]⟩
 ·intro h
  refine wH E _ m 1 1 _ fun i h1 o=>?_
  rw[k i (by omega)];cases hi:bj (fS E (m+1) 0) i with
  |true=>rfl
  |false=>
   obtain⟨x,a,b⟩:=h (bj (fS E (m+1) 0)) ⟨0,by omega,r⟩ ⟨i,by omega,hi⟩;exact absurd (Ew q s x a) b
def fD (N:Int) (E:List S83) (q:Int):Int:=if cL N E=0 then(if partsOf E N.toNat=1 then(if 0<=q/\q<N then 0 else 2) else 13) else cL N E
theorem wJ (N:Int) (E:List S83) (q:Int) (g:E.length<=1000):Ev (fun k=>dA.f k N E q) (fD N E q):=by
 unfold dA.f fD;by_cases b:cL N E=0
 ·obtain⟨h1,m,e⟩:=jq b
  obtain⟨n,rfl⟩:=Int.eq_ofNat_of_zero_le (show 0<=N by omega);refine Ev.bind (a:=(decide (partsOf E n=1),(0:Int))) ?_ ?_
  ·unfold cG.f
   have h:=mC (n:Int) E g;rw[b] at h;refine Ev.bind h ?_;have j:kE (n:Int) E=true:=by
    unfold kE;rw[aE (by omega),Bool.true_and];refine List.all_eq_true.2 fun x l=>?_
    have:=e.ok x l;simp[bQ] at this⊢;omega
   simp only[if_true,if_pos j,aD];rw[show decide (cm (aJ E) n=1)=decide (partsOf E n=1) by
    congr 1;exact propext ((rN (by omega) (jE e.c_)).trans (jI (by omega) e).symm)]
   exact Ev.const _
  ·simp only[if_pos b,if_true,aD]
   by_cases hp:partsOf E n=1
   ·simp only[aE hp,if_true,if_pos hp]
    by_cases i:0<=q/\q<(n:Int)
    ·simp only[if_neg (show ¬q<0 by omega),if_neg (show ¬q>=(n:Int) by omega),if_pos i];exact Ev.const _
    ·simp only[if_neg i]
     by_cases h1:q<0
     ·simp only[if_pos h1];exact Ev.const _
     ·simp only[if_neg h1,if_pos (show q>=(n:Int) by omega)];exact Ev.const _
   ·simp only[ba hp,Bool.false_eq_true,if_false,if_neg hp];exact Ev.const _
 ·refine Ev.bind (a:=(false,cL N E)) ?_ ?_
  ·unfold cG.f
   refine Ev.bind (mC N E g) ?_;simp only[if_neg b];exact Ev.const _
  ·simp only[if_neg b];exact Ev.const _
section
theorem rX {b:Nat->Bool} {u:Nat}:∀(l:List Nat),b u=true->cP b l u=true:=by
 intro l;induction l generalizing b with
 |nil=>exact id
 |cons v l a=>intro h;exact a (b:=ei b v) (by unfold ei;split<;>simp_all)
theorem rY (b:Nat->Bool) (v:Nat) (l:List Nat):cP b (v::l)=cP (ei b v) l:=rfl
section
variable {n:Nat} {c:(Nat->Bool)->Nat->Bool}
theorem rZ (g:∀b v,c b v=true->b v=false):∀(f:Nat) (b:Nat->Bool),dV n b<=f->∀v,v<n->c (cP b (gh n c f b)) v=false:=by
 intro f;induction f with
 |zero=>
  intro b h v e;show c b v=false
  cases i:c b v with
  |false=>rfl
  |true=>
   have:=nt e (g b v i);omega
 |succ f j=>
  intro b h v e;cases a:jY n c b with
  |none=>
   simp only[gh,a];unfold jY at a;rw[List.find?_eq_none] at a;have:=a v (List.mem_range.2 e);simpa [cP] using this
  |some v0=>
   have h1:=List.find?_some a;have k:=List.mem_of_find?_eq_some a;have l:=nt (List.mem_range.1 k) (g b v0 (by simpa using h1));simp only[gh,a,rY];exact j (ei b v0) (by omega) v e
theorem Ey (hm:∀(b b':Nat->Bool) v,(∀u,b u=true->b' u=true)->b' v=false->c b v=true->c b' v=true) (S:Nat->Bool):
  ∀(f:Nat) (b:Nat->Bool),(∀v,S v=true->b v=false)->(∃v,v<n/\S v=true/\cP b (gh n c f b) v=true)->∃v,v<n/\S v=true/\c (fun u=> !S u) v=true:=by
 intro f;induction f with
 |zero=>
  rintro b hb ⟨v,j,a,h⟩;have:=hb v a;simp[gh,cP,this] at h
 |succ f k=>
  rintro b hb ⟨v,j,a,h⟩;cases g:jY n c b with
  |none=>
   simp only[gh,g] at h;have:=hb v a;simp[cP,this] at h
  |some v0=>
   have h1:=List.find?_some g;have l:=List.mem_of_find?_eq_some g;simp only[gh,g,rY] at h;cases i:S v0 with
   |true=>
    refine⟨v0,List.mem_range.1 l,i,hm b _ v0 (fun u hu=>?_) (by simp[i]) (by simpa using h1)⟩;cases m:S u with
    |true=>exact absurd hu (by simp[hb u m])
    |false=>rfl
   |false=>
    refine k (ei b v0) (fun u hu=>?_) ⟨v,j,a,h⟩;unfold ei;rw[if_neg (fun e=>by subst e;rw[i] at hu;cases hu)];exact hb u hu
theorem Ez (g:∀b v,c b v=true->b v=false) (hm:∀(b b':Nat->Bool) v,(∀u,b u=true->b' u=true)->b' v=false->c b v=true->c b' v=true) (b:Nat->Bool):
  (∀v,v<n->cP b (eL n c b) v=true)↔∀S:Nat->Bool,(∃v,v<n/\S v=true)->(∀v,S v=true->b v=false)->∃v,v<n/\S v=true/\c (fun u=> !S u) v=true:=by
 constructor
 ·rintro h S ⟨v,a,i⟩ hb
  exact Ey hm S (dV n b) b hb ⟨v,a,i,h v a⟩
 ·intro h v a
  cases j:cP b (eL n c b) v with
  |true=>rfl
  |false=>
   obtain⟨u,hu,l,e⟩:=h (fun u=> !cP b (eL n c b) u) ⟨v,a,by simp[j]⟩ (fun u hu=>by
    cases k:b u with
    |false=>rfl
    |true=>simp[rX _ k] at hu)
   have:=rZ (n:=n) g (dV n b) b (aI _) u hu;simp only[Bool.not_not] at e;rw[show eL n c b=gh n c (dV n b) b from rfl] at e;rw[this] at e;cases e
end
theorem wK {t:Nat->Nat->Int} (a:∀i j,0<=t i j) {b b':Nat->Bool} (h:∀u,b u=true->b' u=true) (v:Nat):∀u,db t b v u<=db t b' v u
 |0=>Int.le_refl _
 |u+1=>by
  have h1:=wK a h v u;have e:=h u;have g:=a v u;simp only[db];by_cases hb:b u=true
  ·rw[if_pos hb,if_pos (e hb)];omega
  ·rw[if_neg hb]
   split<;>omega
theorem wL {t:Nat->Nat->Int} {b b':Nat->Bool} (v:Nat):∀n,(∀u,u<n->b u=b' u)->db t b v n=db t b' v n
 |0,_=>rfl
 |n+1,h=>by
  simp only[db];rw[wL v n (fun u hu=>h u (by omega)),h n (by omega)]
def kL (n:Nat) (t:Nat->Nat->Int) (q:Nat) (c:Nat->Int):Prop:=∀S:Nat->Bool,(∃v,v<n/\S v=true)->S q=false->∃v,v<n/\S v=true/\c v<db t (fun u=> !S u) v n
def b9 (n:Nat) (t:Nat->Nat->Int) (q:Nat) (l:List Int):Bool:=(List.range n).all (cP (cJ q) (eL n (cD n t l) (cJ q)))
theorem kM {n:Nat} {t:Nat->Nat->Int} (m:∀i j,0<=t i j) (q:Nat) (l:List Int):b9 n t q l=true↔kL n t q (fun v=>rd l v):=by
 have h:=Ez (n:=n) (c:=cD n t l) (fun b v h=>ny b v h) (fun b b' v hb a g=>by
  unfold cD at g⊢;simp only[Bool.and_eq_true,decide_eq_true_eq] at g⊢;exact⟨by simp[a],Int.lt_of_lt_of_le g.2 (wK m hb v n)⟩) (cJ q)
 unfold b9 kL;rw[List.all_eq_true];constructor
 ·intro h1 S hS o
  obtain⟨v,a,k,g⟩:=h.1 (fun v a=>h1 v (List.mem_range.2 a)) S hS (fun v a=>by
   unfold cJ;rw[if_neg (fun e=>by subst e;rw[o] at a;cases a)])
  unfold cD at g;simp only[Bool.and_eq_true,decide_eq_true_eq] at g;exact⟨v,a,k,g.2⟩
 ·intro h1 v a
  refine h.2 (fun S hS hb=>?_) v (List.mem_range.1 a);obtain⟨v,a,k,g⟩:=h1 S hS (by
   cases p:S q with
   |false=>rfl
   |true=>have:=hb q p;simp[cJ] at this)
  refine⟨v,a,k,?_⟩;unfold cD;simp[k,g]
theorem kL.down {n:Nat} {t:Nat->Nat->Int} {q:Nat} {c a:Nat->Int} (h:kL n t q c) (e:∀v,v<n->a v<=c v):kL n t q a:=by
 intro S hS g;obtain⟨v,b,i,j⟩:=h S hS g;exact⟨v,b,i,Int.lt_of_le_of_lt (e v b) j⟩
def valOf (n:Nat) (t:Nat->Nat->Int) (v:Nat):Int:=db t (fun u=> !decide (u=v)) v n
theorem kL.lt {n:Nat} {t:Nat->Nat->Int} {q:Nat} {c:Nat->Int} (h:kL n t q c) {v:Nat} (a:v<n) (b:v≠q):c v<valOf n t v:=by
 obtain⟨u,hu,g,i⟩:=h (fun u=>decide (u=v)) ⟨v,a,by simp⟩ (by simpa using fun e=>b e.symm);have:u=v:=by simpa using g
 subst this;exact i
end
theorem lM {k:Nat} {N:Int} {E:List S83} {q:Int} (h:dA.f k N E q=some 0):a7.f k N E=some 0/\(0<=N/\N<=12)/\cm (aJ E) N.toNat=1/\0<=q/\q<N:=by
 unfold dA.f cG.f at h;simp only[Option.bind_assoc] at h;obtain⟨t,e,h⟩:=Option.bind_eq_some_iff.1 h;by_cases a:t=0
 ·subst a
  rw[if_pos rfl] at h;by_cases hk:kE N E=true
  ·rw[if_pos hk] at h
   simp only[Option.bind_some,if_pos] at h;simp only[kE,Bool.and_eq_true,decide_eq_true_eq] at hk;refine⟨e,hk.1,?_⟩;by_cases b:cm (aJ E) N.toNat=1
   ·simp only[b,decide_true,if_true] at h
    by_cases h1:q<0
    ·rw[if_pos h1] at h;exact absurd (aX h) (by decide)
    ·rw[if_neg h1] at h
     by_cases g:q>=N
     ·rw[if_pos g] at h;exact absurd (aX h) (by decide)
     ·exact⟨b,by omega,by omega⟩
   ·simp[b] at h
  ·rw[if_neg hk] at h;cases h
 ·rw[if_neg a] at h
  simp[a] at h
def lN (N:Int) (E:List S83):Bool:=dh E&&jf N E
theorem wM {α:Type} {f:Nat->Option α} (h:∀k,al (f k) (f (k+1))) {k:Nat} {r:α} (hk:f k=some r):∀m,f (k+m)=some r
 |0=>hk
 |m+1=>h _ _ (wM h hk m)
theorem wN {i:Nat} (h:i<=1000):wrap64 ((i:Int)+1)=((i+1:Nat):Int):=by
 rw[show wrap64 ((i:Int)+1)=(i:Int)+1 from by unfold wrap64;omega];omega
theorem EA {x:Int} (h: -1048576<=x/\x<=1048576):ir.f x=some true:=by
 unfold ir.f;rw[if_pos (show x>= -1048576 from h.1)];simp[h.2]
theorem wO (c:List Int) (b:c.length<=12) (h:∀i:Nat, -1048576<=rd c i/\rd c i<=1048576):∀(m K i:Nat),i+m=c.length->m<K->bz.l0 K c c.length i=some 0
 |0,0,i,_,a=>by omega
 |0,K+1,i,hi,_=>by
  rw[bz.l0,if_neg (by omega)]
 |m+1,0,i,_,a=>by omega
 |m+1,K+1,i,hi,a=>by
  rw[bz.l0,if_pos (by omega),if_pos (by omega),if_pos (by omega),EA (h i),Option.bind_some,if_pos rfl,wN (by omega)];exact wO c b h m K (i+1) (by omega) (by omega)
theorem wP (q:Int) (c:List Int) (b:c.length<=12) (h:∀i:Nat,0<=rd c i):∀(m K i:Nat),i+m=c.length->m<K->cW.l0 K q c c.length i=some 0
 |0,0,i,_,a=>by omega
 |0,K+1,i,hi,_=>by
  rw[cW.l0,if_neg (by omega)]
 |m+1,0,i,_,a=>by omega
 |m+1,K+1,i,hi,a=>by
  have e:=h i;rw[cW.l0,if_pos (by omega),if_pos (by omega),if_pos (by omega),if_neg (show ¬rd c i<0 by omega),wN (by omega),wP q c b h m K (i+1) (by omega) (by omega)];split<;>rfl
theorem r6 (b:Nat->Bool):∀n,(gE b n).length=0↔(List.range n).all b=true
 |0=>by simp[gE]
 |n+1=>by
  have a:=r6 b n;rw[List.range_succ,List.all_append];simp only[gE];cases hb:b n with
  |true=>simp[hb] at a⊢;exact a
  |false=>simp[hb]
theorem EB {k n:Nat} {E:List S83} {q:Nat} {c:List Int} (b:dA.f k n E q=some 0) (a:jl n q c):cW.f (k+20) n E q c=some 0:=by
 obtain⟨_,⟨_,hn⟩,_,g,h⟩:=lM b;have j:=a.1;have h1:=wM (fun k=>dA.mono n E q k) b 20;have e:bz.f (k+20) c n=some 0:=by
  unfold bz.f jF.f;rw[if_neg (by omega),if_neg (by omega),Option.bind_some,if_pos rfl,if_pos (by omega)];exact wO c (by omega) (fun i=>by have:=a.2.1 i;omega) c.length (k+20) 0 (by omega) (by omega)
 unfold cW.f;rw[h1,Option.bind_some,if_pos rfl,e,Option.bind_some,if_pos rfl];exact wP q c (by omega) (fun i=>(a.2.1 i).1) c.length (k+20) 0 (by omega) (by omega)
theorem EC {k n:Nat} {E:List S83} {q:Nat} {c:List Int} (b:dA.f k n E q=some 0) (a:jl n q c):gH.f (k+20) n E q c=some 0:=by
 obtain⟨_,⟨_,hn⟩,_,e,g⟩:=lM b;have h:=a.1;unfold gH.f;rw[EB b a,Option.bind_some,if_pos rfl,if_pos e,if_pos (by omega),if_pos a.2.2]
theorem ED {k n:Nat} {E:List S83} {q:Nat} {c:List Int} (a:dA.f k n E q=some 0) (e:jf n E=true) (b:jl n q c):gI.f (k+20) n E q c=some (b9 n (af E) q c,0):=by
 obtain⟨_,⟨_,hn⟩,_,g,i⟩:=lM a;have j:=b.1;unfold gI.f iK.f;rw[EC a b,Option.bind_some,if_pos rfl,if_pos (by simp only[mo,Bool.and_eq_true,decide_eq_true_eq];exact⟨by omega,e⟩),Option.bind_some,if_pos rfl];congr 2
 rw[aD,aD];have h:=r6 (cP (cJ q) (jZ n E q c)) n;rw[Bool.eq_iff_iff];unfold b9;rw[show eL n (cD n (af E) c) (cJ q)=jZ n E q c from rfl,<-h];simp
theorem EE {k n:Nat} {E:List S83} {q:Nat} {c:List Int} (a:dA.f k n E q=some 0) (b:jf n E=true) (e:jl n q c):eV.f (k+20) n E q c=some (b9 n (af E) q c):=by
 unfold eV.f;rw[ED a b e,Option.bind_some];cases b9 n (af E) q c<;>simp
theorem EF {t:Nat->Nat->Int} (a:∀i j,0<=t i j/\t i j<=50) (b:Nat->Bool) (v:Nat) (n:Nat) (hn:n<=12):db t b v n<=600:=by
 have:=(qQ (burnt:=b) a v n).2;omega
theorem r7 {n:Nat} {E:List S83} {q:Nat} (b:jf n E=true) (hn:n<=12) {l:List Int} {v:Nat} (e:v<n) (g:v≠q) (h:b9 n (af E) q l=true):rd l v<valOf n (af E) v/\valOf n (af E) v<=600:=by
 have a:=(jE b).times;exact⟨((kM (fun i j=>(a i j).1) q l).1 h).lt e g,EF a _ v n hn⟩
section
attribute [local go_sem] Oper.semAt_some
theorem EG {w0:World} {B K n:Nat} {A0:Option Addr} {c0:Nat} {E:List S83} {q gx qx:Nat} {calm:List Int->Bool} (W:World) (m:Nat) (hS:W.heap.size=m) (hn:n<=12) (ad:Kd.C aM w0 A0 E.length E) (ag:E.length<=c0)
  (G:∀c,jl n q c->eV.f K n E q c=some (calm c)) (H:∀(p:List Int) (x I:Nat),calm (p++(x:Int)::List.replicate I 0)=true->p.length+1+I=n->p.length≠q->x+1<B) (hB:B<=1000) (am:0<B)
  (L:(dD q B calm n []).length<=16384)
  (r:W.heap[gx]? =some (.cells #[.int .i64 n,.slice A0 E.length c0] 24 (0,0))) (w:W.heap[qx]? =some (.cells #[.int .i64 q] 3 (0,0))) (hw:Below w0.heap.size w0 W):
  iF (σ:=Unit) Fence.wide 9 Tryz.prog 199 #[.pointer (some ⟨gx,0,none⟩),.pointer (some ⟨qx,0,none⟩)] (fun x:List Int×Value=>#[x.2]) (fun _ W W1=>W1=W) (fun _ A C=>A.grownBy C (some (m+1))) (fun _ x A C=>re m x A C)
   (fun _ X Y=>rf w0 gx qx m X Y) (fun _ xs W'=>xs.map Prod.fst=dD q B calm n []) (fun _ _ _=>True) (fun pre=>pre.length<16384) W:=by
 intro u J Jx y an M N;subst hS;have O:=M () W rfl;have ao:=zA (fun W' h1 z g=>Dl (w0:=w0) (B:=B) (K:=K) (s:=W.heap.size) (l:=u) (J:=J ()) (Jx:=Jx ()) hn ad ag (ay r) (ay w) hw.size G H hB am (fun pre A C h hA=>y _ _ _ _ h hA) (fun pre x A C h1 z g=>N _ _ _ _ _ h1 z g) n 0 [] [] W' rfl (by omega) h1 z g (by simpa using L));have ar:=zA y;have av:=zA O;obtain⟨zs,P,Q⟩:=lG 26 Tryz.underlying26 n (by omega);have HZ:=zA Q;have R:=zA r;have S:=zA w;have T:=zA hw;have bg:(W.alloc (.cells #[.func (.yield u) #[] #[]] 141)).cell? ⟨gx,0,none⟩=some (.int .i64 n):=(ah (aq r _) 0).trans rfl;have aF:=zA (show jl n q (List.replicate n 0) from⟨by simp,fun i=>by simp[rd,aW,List.getElem?_replicate];split<;>simp,by simp[rd,aW,List.getElem?_replicate];split<;>simp⟩);have aL:=ay R.out;have aO:=ay S.out;have aP:=T.out.size;obtain⟨a,U⟩:∃o:Obj,o= .cells #[.func (.yield u) #[] #[]] 141:=⟨_,rfl⟩;obtain⟨j,V⟩:∃o:Obj,o= .cells zs 3:=⟨_,rfl⟩;obtain⟨b,Z⟩:∃o:Obj,o= .cells #[.slice (some ⟨W.heap.size+1,0,none⟩) n n] 26:=⟨_,rfl⟩;obtain⟨fo,aa⟩:∃o:Obj,o= .cells #[.func (.func 200) #[] #[.pointer (some ⟨gx,0,none⟩),.pointer (some ⟨W.heap.size,0,none⟩),.pointer (some ⟨W.heap.size+1+1,0,none⟩),.pointer (some ⟨qx,0,none⟩),.pointer (some ⟨W.heap.size+1+1+1,0,none⟩)]] 121:=⟨_,rfl⟩;have v:=zA (ai (ai (ai (ai (aj W.heap.size W) a) j) b) fo);have E0:=zA (show ((((W.alloc a).alloc j).alloc b).alloc fo).heap[W.heap.size]? =some a from by rw[Below.heap_alloc _ _ _ (by simp;omega),Below.heap_alloc _ _ _ (by simp;omega),Below.heap_alloc _ _ _ (by simp)];exact a6 W a);have D:=HZ.out (W.alloc a) (fun k=>k=W.heap.size+1) (by simp);rw[World.size_alloc,<-V] at D;have E1:=zA (Kd.aK (Kd.aK (Kd.bc D (show w0.heap.size<=W.heap.size+1 by omega)) b) fo);have E2:=zA (show ((((W.alloc a).alloc j).alloc b).alloc fo).heap[W.heap.size+2]? =some b from by rw[Below.heap_alloc _ _ _ (by simp)];have h:=a6 ((W.alloc a).alloc j) b;simpa using h);have E3:=zA (show ((((W.alloc a).alloc j).alloc b).alloc fo).heap[W.heap.size+3]? =some fo from by have h:=a6 (((W.alloc a).alloc j).alloc b) fo;simpa using h);have a3:Aside0 (CS w0 n A0 c0 E q gx qx W.heap.size u ((((W.alloc a).alloc j).alloc b).alloc fo) (List.replicate n 0)):=
  ⟨⟨(v.out.block gx aL).trans R.out,(v.out.block qx aO).trans S.out,E0.out.trans (by rw[U]),E1.out,E2.out.trans (by rw[Z]),E3.out.trans (by rw[aa]),T.out.trans (v.out.mono aP)⟩⟩
 have a4:Aside0 (J () [] ((((W.alloc a).alloc j).alloc b).alloc fo)):=⟨ar.out _ _ _ _ av.out (iZ v.out _)⟩;have a5:=zA ((callsIn_wide (n:=8)).2 (callsIn_wide.1 (ao.out _ (by simpa using a3.out) (by simpa using aF.out) a4.out)));subst U V Z aa;clear y an M N O G H L Q r w hw D;refine callsIn_of_wp Tryz.func199 rfl trivial ?_ rfl;simp only[Tryz.ntmps199,List.size_toArray,List.length_cons,List.length_nil,Nat.reduceAdd,Nat.reduceSub,Array.replicate_succ,Array.replicate_zero,List.push_toArray,List.append_toArray,List.nil_append,List.cons_append];gi_wp2;refine⟨trivial,?_⟩;refine a5.out.mono ?_;rintro e w3 (⟨vs,rfl,g,h4,h5⟩|⟨rfl,be,g⟩)
 ·have F:=zA g
  have H4:=zA h4;clear g h4 h5 P;gi_wp2;go_end0;exact⟨⟨_,rfl⟩,.inl ⟨_,vs,H4.out,F.out⟩⟩
 ·have F:=zA g
  clear g P;gi_wp2;go_end0;exact⟨⟨_,rfl⟩,.inr ⟨_,be,trivial,F.out⟩⟩
end
def gM (val:List Int) (q:Int) (n j:Nat):List Int:=(List.range n).map fun v=>if v<j/\(v:Int)≠q then rd val v-1 else 0
theorem EH (val:List Int) (q:Int) (n:Nat):gM val q n 0=List.replicate n 0:=by
 unfold gM;refine List.ext_getElem (by simp) fun i h1 a=>?_
 simp
theorem EI {val:List Int} {q:Int} {n j:Nat} (h:(j:Int)=q):gM val q n (j+1)=gM val q n j:=by
 unfold gM;refine List.map_congr_left fun v _=>?_
 by_cases e:v=j
 ·subst e;simp[h]
 ·have:(v<j+1/\(v:Int)≠q)↔(v<j/\(v:Int)≠q):=by omega
  simp only[this]
theorem EJ {val:List Int} {q:Int} {n j:Nat} (h:(j:Int)≠q) (a:j<n):gM val q n (j+1)=(gM val q n j).set j (rd val j-1):=by
 refine List.ext_getElem (by simp[gM]) fun i h1 b=>?_
 rw[List.getElem_set];simp only[gM,List.getElem_map,List.getElem_range];by_cases e:j=i
 ·subst e;simp[h]
 ·rw[if_neg e]
  have:(i<j+1/\(i:Int)≠q)↔(i<j/\(i:Int)≠q):=by omega
  simp only[this]
theorem EK (n:Nat) (E:List S83):(gF n E).length=n:=ve n _ _
theorem EL {n:Nat} {E:List S83} (h:dh E=true) (i:Nat):0<=rd (gF n E) i/\rd (gF n E) i<=4000:=by
 have h1:=vg n (bu E E.length) (bu E E.length).length i;have a:=u_ h;unfold gF;omega
theorem EM (k n:Nat) (A0:Option Addr) (c0:Nat) (E:List S83) (q:Int) (a:Option Addr) (cd:Nat) (dl:List Int) (w:World) (h:Kd.C aM w A0 E.length E) (i:E.length<=c0) (hd:Kd.C (Kd.int .i64) w a n dl) (j:n<=cd)
  (hn:n<=12) (l:dl.length=n) (m:a7.f k n E=some 0) (o:dh E=true) (p:eE n E):
  Calls Tryz.prog 212 #[.agg #[.int .i64 n,.slice A0 E.length c0],.int .i64 q,.slice a n cd] w fun e w'=>∃(gp:Nat) (r b:Option Addr) (s g:Nat) (u:Value),e= .returned (.tuple #[.pointer (some ⟨gp,0,none⟩),.int .i64 0])/\cU w' gp (.slice r n s) q u (.slice b n g) (fun x=>if x<n then je q (gF n E) dl x else false)/\(Kd.int .i64).R 3 w' w.heap.size (fun _=>True) (.slice b n g) (gF n E)/\Below w.heap.size w w':=by
 subst l;exact CW k dl.length A0 c0 E q a cd dl w h i hd j hn rfl m o p
def iA.f (k:Nat) (N:Int) (E:List S83) (q:Int):Option (List Int×Int):=
 (dA.f k N E q).bind fun t=>if t=0 then(if lN N E=true then some (gM (gF N.toNat E) q N.toNat N.toNat,0) else none) else some ([],t)
theorem iA.mono:∀a b e k,al (iA.f k a b e) (iA.f (k+1) a b e):=by
 intro a b e k;unfold iA.f;exact al.bind (dA.mono _ _ _ _) (fun _=>al.refl _)
theorem EN (k:Nat) (N:Int) (A0:Option Addr) (c0:Nat) (E:List S83) (q:Int) (t:Int) (w:World) (g:Kd.C aM w A0 E.length E) (h:E.length<=c0)
  (a:dA.f k N E q=some t) (b:t≠0):
  Calls Tryz.prog 198 #[.agg #[.int .i64 N,.slice A0 E.length c0],.int .i64 q] w fun e w'=>e= .returned (.tuple #[.slice none 0 0,.int .i64 t])/\Below w.heap.size w w':=by
 have hu:=Tryz.underlying24;have i:=zA a;have l:(t != 0)=true:=by simpa using b
 clear a b;go_enter Tryz.func198,Tryz.ntmps198
 go_wp2_with (go_at_call 211;refine(dA.calls k N A0 c0 E q t _ (Kd.bC g _) h i.out).mono ?_;rintro e w1 ⟨rfl,hb⟩;have j:=zA (aQ (ai (aj w.heap.size w) _) hb);clear hb)
 go_ret2;exact⟨rfl,j.out⟩
theorem EO (k n:Nat) (A0:Option Addr) (c0:Nat) (E:List S83) (q:Int) (w:World) (L:Kd.C aM w A0 E.length E) (M:E.length<=c0)
  (u:dA.f k n E q=some 0) (N:dh E=true) (O:eE n E):
  Calls Tryz.prog 198 #[.agg #[.int .i64 n,.slice A0 E.length c0],.int .i64 q] w fun e w'=>∃v,e= .returned (.tuple #[v,.int .i64 0])/\(Kd.int .i64).R 3 w' w.heap.size (fun _=>True) v (gM (gF n E) q n n)/\Below w.heap.size w w':=by
 have hu:=Tryz.underlying24;have bl:=Tryz.underlying236;obtain⟨P,⟨_,hn⟩,_,bn,bo⟩:=lM u;obtain⟨zs,aB,Q⟩:=lG 25 Tryz.underlying25 n (by omega);obtain⟨ys,aF,S⟩:=lG 26 Tryz.underlying26 n (by omega);have HZ:=zA Q;have HY:=zA S;have aP:=zA u;have Hg:=zA P;have T:=zA N;have HI:=zA O;have a0:n<=12:=by omega
 clear Q S u P N O hn;have y:=zA (a6 w (.cells #[.int .i64 n,.slice A0 E.length c0] 24));go_enter Tryz.func198,Tryz.ntmps198
 go_wp2_with (go_at_call 211;refine(dA.calls k n A0 c0 E q 0 _ (Kd.bC L _) M aP.out).mono ?_;rintro e w1 ⟨rfl,hb⟩;have b:=zA (aQ (ai (aj w.heap.size w) _) hb);have a:=zA (az y.out hb);clear hb)
 generalize z:w.heap.size=gb at y b a⊢;have a1:=ay a.out;have a2:w1.cell? ⟨gb,0,none⟩=some (.int .i64 n):=(ah a.out 0).trans rfl;have a3:w1.cell? ⟨gb,1,none⟩=some (.slice A0 E.length c0):=(ah a.out 1).trans rfl;have a4:(w1.alloc (.cells zs 3)).drew.cell? ⟨gb,0,none⟩=some (.int .i64 n):=(ah (aq a.out _) 0).trans rfl;have a5:(w1.alloc (.cells zs 3)).drew.cell? ⟨gb,1,none⟩=some (.slice A0 E.length c0):=(ah (aq a.out _) 1).trans rfl;have U:=zA (EM k n A0 c0 E q (some ⟨w1.heap.size,0,none⟩) n (List.replicate n 0) (w1.alloc (.cells zs 3)).drew (Kd.eS (Kd.bC (Kd.ax L (by rw[z];exact b.out)) _)) M (by have h:=(Kd.aN (Kd.bA (HZ.out w1 (fun _=>True) trivial))).2.2;rw[List.length_replicate] at h;exact h) (aI _) a0 (by simp) Hg.out T.out HI.out);have B:Aside0 (gb<=(w1.alloc (.cells zs 3)).drew.heap.size):=⟨by have h:(w1.alloc (.cells zs 3)).drew.heap.size=w1.heap.size+1:=World.size_alloc w1 _;omega⟩;have V:=zA (bY (b.out.alloc (Nat.le_of_lt a1) (.cells zs 3)));have W:=zA (show (w1.alloc (.cells zs 3)).drew.heap[gb]? =some (.cells #[.int .i64 n,.slice A0 E.length c0] 24 (0,0)) from aq a.out _);go_wp2;go_region_with ((go_at_call 212;refine U.out.mono ?_;rintro e w2 ⟨gp,bq,X,bv,Y,rv,rfl,Z,hR,hb⟩;have ab:=zA (V.out.trans (hb.mono B.out));have D:=zA (az W.out hb);have ag:=zA Z;have F:=zA (Kd.bc hR B.out);clear Z hR hb))
 all_goals have a9:w2.cell? ⟨gb,0,none⟩=some (.int .i64 n):=(ah D.out 0).trans rfl
 all_goals have G:=ay D.out
 all_goals have ak:=zA (ag.out.below (ai (aj w2.heap.size w2) (.cells ys 3)))
 all_goals have r:=zA (Kd.aK F.out (.cells ys 3))
 all_goals have H:=zA (ab.out.alloc (Nat.le_of_lt G) (.cells ys 3))
 all_goals have g:=zA (Kd.bc (HY.out w2 (fun k=>k=w2.heap.size) rfl) (Nat.le_of_lt G))
 all_goals have bb:=ak.out.o8
 all_goals have am:Aside0 (some w2.heap.size≠(Value.slice X n Y).ownBlock):=⟨fun e=>by have:=Kd.a8 F.out _ e.symm;omega⟩
 all_goals clear y b a V W B U ab D ag F a2 a3 a4 a5 aB
 all_goals go_wp2
 all_goals clear a9 aF G bb ak
 all_goals generalize w2.alloc (.cells ys 3)=w3 at r H g⊢
 all_goals generalize w2.heap.size=l at g am⊢
 all_goals
  have an:=zA (EL (n:=n) T.out);have ao:=zA (EK n E);obtain⟨vl,I⟩:∃vl,vl=gF n E:=⟨_,rfl⟩;rw[<-I] at r an ao;have be:=zA I;clear I;rw[<-EH vl q n] at g;go_loopw [38] (fun i wr=>∃(j:Nat),j<=n/\i= .int .i64 j/\Aside0 ((Kd.int .i64).R 3 wr gb (fun _=>True) (.slice X n Y) vl)/\Aside0 ((Kd.int .i64).R 3 wr gb (fun k=>k=l) (.slice (some ⟨l,0,none⟩) n n) (gM vl q n j))/\Aside0 (Below gb w wr)) (fun i _=>n- (intOf i).toNat)
  case atStart=>exact⟨0,by omega,rfl,r,g,H⟩
  case round=>
   clear r g H;obtain⟨j,hj,rfl,J,m,K⟩:=hrel;by_cases bf:j<n
   ·obtain⟨-, -,hC⟩:=Kd.aN J.out
    rw[ao.out] at hC;obtain⟨ad,rfl,hx⟩:=Kd.cI hC j (by omega) (by omega);rw[aD] at hx;clear hC;have bg:=an.out j;have b0:(0:Int)<=(j:Int):=by omega
    have b1:(j:Int)<(n:Int):=by omega
    by_cases o:(j:Int)=q
    ·have s:=zA (EI (val:=vl) (n:=n) o)
     subst o;go_wp2;go_roundw
     case rel=>exact⟨j+1,by omega,by go_num,J,⟨by rw[s.out];exact m.out⟩,K⟩
     case measure=>exact(show n- ((j:Int)+1).toNat<n- ((j:Int)).toNat by omega)
    ·have s:=zA (EJ (val:=vl) o bf)
     have b2:((j:Int) != q)=true:=by simpa using o
     obtain⟨bi,bk⟩:=Kd.bP (0:Int) m.out (j:Int) (by omega) (by omega);have hp:=Kd.dg m.out (j:Int) (rd vl j-1);rw[aD] at bi bk hp;have ar:=zA hp.1;have av:=zA (Kd.jd J.out rfl hp.2 am.out);have b:=zA (Below.setCell (p:=⟨l,j,none⟩) K.out (Kd.dK m.out l rfl) (.int .i64 (rd vl j-1)));clear hp o;generalize rd vl j=x at hx bg ar av b s;go_wp2;go_roundw
     case rel=>exact⟨j+1,by omega,by go_num,av,⟨by rw[s.out];exact ar.out⟩,b⟩
     case measure=>exact(show n- ((j:Int)+1).toNat<n- ((j:Int)).toNat by omega)
   ·obtain rfl:j=n:=by omega
    go_wp2;go_ret2;exact⟨.slice (some ⟨l,0,none⟩) _ _,rfl,by rw[z,<-be.out];exact Kd.a_ m.out (fun _ _=>trivial),by rw[z];exact K.out⟩
theorem iA.calls (k:Nat) (g:Int) (i:Option Addr) (j:Nat) (a:List (S83)) (l:Int) (p:List Int) (q:Int) (w:World) (r:Kd.C aM w i a.length a) (s:a.length<=j) (h:iA.f k g a l=some (p,q)):
  Calls Tryz.prog 198 #[.agg #[.int .i64 g,.slice i a.length j],.int .i64 l] w fun e w'=>∃u:Value,e= .returned (.tuple #[u,.int .i64 q])/\Kd.R (Kd.int .i64) 3 w' w.heap.size (fun _=>True) u p/\Below w.heap.size w w':=by
 unfold iA.f at h;obtain⟨t,m,H⟩:=Option.bind_eq_some_iff.mp h;by_cases o:t=0
 ·subst o
  rw[if_pos rfl] at H;by_cases b:lN g a=true
  ·rw[if_pos b] at H
   simp only[Option.some.injEq,Prod.mk.injEq] at H;obtain⟨rfl,rfl⟩:=H;obtain⟨_,⟨v,x⟩,_,_⟩:=lM m;obtain⟨n,rfl⟩:=Int.eq_ofNat_of_zero_le v;simp only[lN,Bool.and_eq_true] at b;rw[aD];exact EO k n i j a l w r s m b.1 (jE b.2)
  ·rw[if_neg b] at H;cases H
 ·rw[if_neg o] at H
  simp only[Option.some.injEq,Prod.mk.injEq] at H;obtain⟨rfl,rfl⟩:=H;refine(EN k g i j a l t w r s m o).mono ?_;rintro e w' ⟨rfl,hb⟩;exact⟨_,rfl,Kd.df _ _ _ _ _,hb⟩
def gy.f (k:Nat) (b:Int) (e:List (S83)) (g:Int):Option (List Int×Int):=(iA.f k b e g).bind fun a=>(some (a.1,a.2))
theorem gy.mono:∀a0 a a2 k,al (gy.f k a0 a a2) (gy.f (k+1) a0 a a2):=by
 intro a0 a a2 k;unfold gy.f;with_reducible repeat' first|exact iA.mono _ _ _ _|exact al.refl _|exact al.none _|refine al.ite ?_ ?_|refine al.bind ?_ (fun _=>?_)
theorem gy.calls (k:Nat) (b:Int) (j:Option Addr) (l:Nat) (a:List (S83)) (i:Int) (m:List Int) (n:Int) (w:World) (q:Kd.C aM w j a.length a) (r:a.length<=l) (h:gy.f k b a i=some (m,n)):
  Calls Tryz.prog 173 #[.agg #[.int .i64 b,.slice j a.length l],.int .i64 i] w fun e w'=>∃s:Value,e= .returned (.tuple #[s,.int .i64 n])/\Kd.R (Kd.int .i64) 3 w' w.heap.size (fun _=>True) s m/\Below w.heap.size w w':=by
 have G:=Tryz.underlying24;have y:=zA q;have z:=zA r;clear q r;have g:=zA (aj w.heap.size w);have H:((iA.f k b a i).bind fun u=>(some (u.1,u.2)))=some (m,n):=h;clear h;obtain⟨⟨B,D⟩,E,H⟩:=zo H;dsimp only at H;simp only[Option.some.injEq,Prod.mk.injEq] at H;obtain⟨rfl,rfl⟩:=H;go_enter Tryz.func173,Tryz.ntmps173
 go_wp2_with (first|((with_reducible refine aU (N:=2) rfl ?_);refine zX 2 #[.int .i64 b,.slice j a.length l] 24 ?_;intro I o J v hb;have p:=zA (v);have K:=zG g o;have L:=zG g o;replace g:=zS g hb;clear hb v o;obtain⟨M,O,P,Q⟩:=aC p)|((with_reducible refine aR (f:=198) rfl ?_);refine zL (some 8) Tryz.func198 #[.agg #[.int .i64 b,.slice j a.length l],.int .i64 i] ?_;(with_reducible refine(iA.calls k b _ _ a i B D _ ?au ?aw E.out).mono ?_);(case au=>exact Kd.ax y.out zB);(case aw=>exact z.out);rintro e S ⟨T,rfl,x,hb⟩;refine⟨_,rfl,?_⟩;have F:=zA (Kd.bc x (bO zB));replace p:=zb p hb;replace g:=zS g hb;(try clear hb);(try clear x)))
 go_ret2;exact⟨_,zE,by(with_reducible repeat(first|apply Kd.aK|apply Kd.bJ|apply Kd.bA));exact F.out,zB⟩
section
attribute [local go_sem] Oper.semAt_some
theorem wQ {P:Program} {ty:TypeId} {d:TypeDesc} (w:World) (a:Addr) (v:Value) (h:P.underlying ty=some d) (k:(match d with| .struct _| .array _ _=>true|_=>false)=false) (c:w.cell? a=some v):(loadVar ty a).run P w= .ok v w:=by
 have e:(isAgg ty).run P w= .ok false w:=by
  unfold isAgg;rw[Sem.run_bind];have hu:(underlying ty).run P w= .ok d w:=by simp[underlying,Sem.run_bind,Result.andThen,h]
  rw[hu];cases d<;>first|(simp at k;done)|rfl
 unfold loadVar;rw[Sem.run_bind,e];simp[Result.andThen,go_sem,c]
theorem r8 {P:Program} {fn:Func} {p u:Tmp} {t1 t2:TypeId} {d1 d2:TypeDesc} (h:fn.results=#[.cell p t1,.cell u t2]) (tmps:Array Value) (w:World) (a b:Addr) (v1 v2:Value) (hp:tmps.getD p undef= .pointer (some a)) (hu:tmps.getD u undef= .pointer (some b))
  (h1:P.underlying t1=some d1) (e:P.underlying t2=some d2) (g:(match d1 with| .struct _| .array _ _=>true|_=>false)=false) (i:(match d2 with| .struct _| .array _ _=>true|_=>false)=false) (c1:w.cell? a=some v1) (c2:w.cell? b=some v2):
  (results fn tmps).run P w= .ok (.tuple #[v1,v2]) w:=by
 have j:tmps[p]?.getD undef= .pointer (some a):=by simpa using hp
 have k:tmps[u]?.getD undef= .pointer (some b):=by simpa using hu
 simp[results,h,j,k,asAddr,Sem.run_bind,Result.andThen,wQ w a v1 h1 g c1,wQ w b v2 e i c2]
theorem EP (N:Int) (A0:Option Addr) (c0:Nat) (E:List S83) (q:Int) (w:World):Calls Tryz.prog 174 #[.agg #[.int .i64 N,.slice A0 E.length c0],.int .i64 q] w fun e w'=>e= .returned (.func (.func 199) #[] #[.pointer (some ⟨w.heap.size,0,none⟩),.pointer (some ⟨w.heap.size+1,0,none⟩)])/\w'=(w.alloc (.cells #[.int .i64 N,.slice A0 E.length c0] 24)).alloc (.cells #[.int .i64 q] 3):=by
 go_enter Tryz.func174,Tryz.ntmps174
 go_wp2;go_ret;exact⟨rfl,rfl⟩
def py:Nat:=1000
def dZ (n:Nat) (E:List S83) (q:Nat):List (List Int):=dD q py (b9 n (af E) q) n []
def eY.f (k:Nat) (N:Int) (E:List S83) (q:Int):Option (List (List Int)×Int):=
 (gy.f k N E q).bind fun t=>if t.2=0 then(if(dZ N.toNat E q.toNat).length<=16384 then some (dZ N.toNat E q.toNat,0) else none) else some ([],t.2)
theorem eY.mono:∀a b e k,al (eY.f k a b e) (eY.f (k+1) a b e):=by
 intro a b e k;unfold eY.f;exact al.bind (gy.mono _ _ _ _) (fun _=>al.refl _)
theorem wR {k:Nat} {N:Int} {E:List S83} {q:Int} {l:List Int} (h:gy.f k N E q=some (l,0)):dA.f k N E q=some 0/\dh E=true/\jf N E=true/\l=gM (gF N.toNat E) q N.toNat N.toNat:=by
 unfold gy.f iA.f at h;simp only[Option.bind_assoc] at h;obtain⟨t,b,h⟩:=Option.bind_eq_some_iff.1 h;by_cases a:t=0
 ·subst a
  rw[if_pos rfl] at h;by_cases hk:lN N E=true
  ·rw[if_pos hk] at h
   simp only[lN,Bool.and_eq_true] at hk;simp only[Option.bind_some,Option.some.injEq,Prod.mk.injEq] at h;exact⟨b,hk.1,hk.2,h.1.symm⟩
  ·rw[if_neg hk] at h;cases h
 ·rw[if_neg a] at h
  simp only[Option.bind_some,Option.some.injEq,Prod.mk.injEq] at h;exact absurd h.2 a
theorem ER {F:Fence} {n:Nat} {P:Program} {fn:Func} {R:Ending->World->Prop} {a:Act} {w:World} {v:Value} (hd:a.defers=[]) (b:(results fn a.tmps).run P w= .ok v w) (e:R (.returned v) w):bodyPostM F n P fn R .ret a w:=by
 show LeavesInM F n P fn a.tmps R a.defers .returning w
 rw[hd];exact⟨_,b,e⟩
theorem ES {w1:World} {r:Nat} {t1 t2:TypeId} {u1 u2:Value} (v1 v2:Value) (a:w1.heap[r]? =some (.cells #[u1] t1 (0,0))) (b:w1.heap[r+1]? =some (.cells #[u2] t2 (0,0))):
  ((w1.setCell ⟨r,0,none⟩ v1).setCell ⟨r+1,0,none⟩ v2).cell? ⟨r,0,none⟩=some v1/\((w1.setCell ⟨r,0,none⟩ v1).setCell ⟨r+1,0,none⟩ v2).cell? ⟨r+1,0,none⟩=some v2:=by
 have h1:=bV a 0 v1;have e:=aG (p:=⟨r+1,0,none⟩) h1 (by show r≠r+1;omega) v2;have g:=aG (p:=⟨r,0,none⟩) b (by show r+1≠r;omega) v1;have h:=bV g 0 v2;exact⟨(ah e 0).trans (by simp),(ah h 0).trans (by simp)⟩
theorem nO (w:World) (a b e:Obj):(((w.alloc a).alloc b).alloc e).heap[w.heap.size]? =some a/\(((w.alloc a).alloc b).alloc e).heap[w.heap.size+1]? =some b/\(((w.alloc a).alloc b).alloc e).heap[w.heap.size+1+1]? =some e:=by
 refine⟨?_,?_,?_⟩
 ·rw[Below.heap_alloc _ _ _ (by simp;omega),Below.heap_alloc _ _ _ (by simp)];exact a6 w a
 ·rw[Below.heap_alloc _ _ _ (by simp)];have h:=a6 (w.alloc a) b;simpa using h
 ·have h:=a6 ((w.alloc a).alloc b) e;simpa using h
theorem ET (k:Nat) (N:Int) (A0:Option Addr) (c0:Nat) (E:List S83) (q:Int) (l:List Int) (t:Int) (w:World) (j:Kd.C aM w A0 E.length E) (m:E.length<=c0) (hf:gy.f k N E q=some (l,t)) (g:t≠0):
  Calls Tryz.prog 114 #[.agg #[.int .i64 N,.slice A0 E.length c0],.int .i64 q] w fun e w'=>e= .returned (.tuple #[.slice none 0 0,.int .i64 t])/\Below w.heap.size w w':=by
 have hu:=Tryz.underlying24;have o:=zA hf;have x:(t != 0)=true:=by simpa using g
 have a:=zA (nO w (.cells #[.int .i64 N,.slice A0 E.length c0] 24) (.cells #[.slice none 0 0] 33) (.cells #[.int .i64 0] 30));have y:(((w.alloc (.cells #[.int .i64 N,.slice A0 E.length c0] 24)).alloc (.cells #[.slice none 0 0] 33)).alloc (.cells #[.int .i64 0] 30)).cell? ⟨w.heap.size,0,none⟩=some (.int .i64 N):=(ah a.out.1 0).trans rfl;have z:(((w.alloc (.cells #[.int .i64 N,.slice A0 E.length c0] 24)).alloc (.cells #[.slice none 0 0] 33)).alloc (.cells #[.int .i64 0] 30)).cell? ⟨w.heap.size,1,none⟩=some (.slice A0 E.length c0):=(ah a.out.1 1).trans rfl;clear hf g;refine(callsIn_wide (n:=10)).1 ?_;refine callsIn_of_wp_marks Tryz.func114 rfl trivial ?_ rfl;simp only[Tryz.ntmps114,List.size_toArray,List.length_cons,List.length_nil,Nat.reduceAdd,Nat.reduceSub,Array.replicate_succ,Array.replicate_zero,List.push_toArray,List.append_toArray,List.nil_append,List.cons_append];gi_wp2_with (refine⟨trivial,?_⟩;gi_at_call 173;refine(callsIn_wide.2 (gy.calls k N A0 c0 E q l t _ (Kd.bC (Kd.bC (Kd.bC j _) _) _) m o.out)).mono ?_;rintro e w1 ⟨v,rfl,r,hb⟩;have s:=zA ((ai (ai (ai (aj w.heap.size w) _) _) _).trans (hb.mono (by simp;omega)));have b:=zA (az a.out.2.1 hb);have h:=zA (az a.out.2.2 hb);have B:w1.cell? ⟨w.heap.size+1,0,none⟩=some (.slice none 0 0):=(ah b.out 0).trans rfl;have D:w1.frozen? ⟨w.heap.size+1,0,none⟩=false:=bE b.out 0;have i:=zA (aG (p:=⟨w.heap.size+1,0,none⟩) h.out (by show w.heap.size+1+1≠w.heap.size+1;omega) (.slice none 0 0));have F:(w1.setCell ⟨w.heap.size+1,0,none⟩ (.slice none 0 0)).cell? ⟨w.heap.size+1+1,0,none⟩=some (.int .i64 0):=(ah i.out 0).trans rfl;have G:=bE i.out 0;clear r hb)
 obtain⟨c1,c2⟩:=ES (.slice none 0 0) (.int .i64 t) b.out h.out;exact ER rfl (r8 (p:=4) (u:=5) rfl _ _ ⟨w.heap.size+1,0,none⟩ ⟨w.heap.size+1+1,0,none⟩ _ _ rfl rfl Tryz.underlying33 Tryz.underlying30 rfl rfl c1 c2) ⟨rfl,(s.out.setCell (p:=⟨w.heap.size+1,0,none⟩) (by show w.heap.size<=w.heap.size+1;omega) _).setCell (p:=⟨w.heap.size+1+1,0,none⟩) (by show w.heap.size<=w.heap.size+1+1;omega) _⟩
end
end Go.Proofs.YtffdiakgjakngaaGreat.P


