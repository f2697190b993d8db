/- Lists2 answers true whatever the input (text 3 of 8): own walks and plain laws; no conditions. -/
import Derived.Laws.EntriesVeiled
import Derived.Lib.SliceRun
import Derived.Test.YtffdiakgjakngaaGreatLists22
namespace Go.Proofs.YtffdiakgjakngaaGreat.P
open Go.RowKit Go.Proofs.YtffdiakgjakngaaGreatW.PrintWords Go.Proofs.YtffdiakgjakngaaGreatW.PrintLast Go.Proofs.YtffdiakgjakngaaGreatW.PrintMore
set_option linter.unusedVariables false
set_option linter.unusedSimpArgs false
set_option maxHeartbeats 8000000
set_option maxRecDepth 100000
section
attribute [local go_sem] Oper.semAt_some
theorem vf (N:Int) (ev:Value) (w:World):Calls Tryz.prog 143 #[.agg #[.int .i64 N,ev]] w fun e w'=>e= .returned (.func (.func 185) #[] #[.pointer (some ⟨w.heap.size,0,none⟩)])/\w'=w.alloc (.cells #[.int .i64 N,ev] 24):=by
 go_enter Tryz.func143,Tryz.ntmps143
 go_wp2;go_ret;exact⟨rfl,rfl⟩
def nB (k:Nat) (N:Int) (E:List S83):Nat->Option (List Int)
 |0=>some []
 |v+1=>(nB k N E v).bind fun l=>(db.f k N E (v:Nat)).bind fun p=>some (l++[p.1])
theorem vg (k:Nat) (N:Int) (E:List S83):∀v,ai (nB k N E v) (nB (k+1) N E v)
 |0=>ai.refl _
 |v+1=>ai.bind (vg k N E v) (fun _=>ai.bind (db.mono _ _ _ _) (fun _=>ai.refl _))
theorem vh {k:Nat} {N:Int} {E:List S83}:∀{v:Nat} {l:List Int},nB k N E v=some l->l.length=v/\∀u:Nat,u<v->∃e,db.f k N E (u:Nat)=some (rd l u,e)
 |0,l,h=>by injection h with h;subst h;exact⟨rfl,fun u hu=>by omega⟩
 |v+1,l,h=>by
  obtain⟨l',h1,b⟩:=Option.bind_eq_some_iff.1 h;obtain⟨p,g,a⟩:=Option.bind_eq_some_iff.1 b;injection a with a
  subst a;obtain⟨i1,i2⟩:=vh h1;refine⟨by simp[i1],fun u hu=>?_⟩;by_cases e:u=v
  ·subst e
   refine⟨p.2,?_⟩;rw[g,show rd (l'++[p.1]) (u:Int)=p.1 by simp[rd,aX,<-i1]]
  ·obtain⟨e',i⟩:=i2 u (by omega)
   refine⟨e',?_⟩;rw[i,show rd (l'++[p.1]) (u:Int)=rd l' u by simp[rd,aX,List.getElem?_append_left (show u<l'.length by omega)]]
def gS (L:List Int) (v:Nat):List (Int×Int):=(List.range v).map fun u:Nat=>((u:Int),rd L u)
theorem vi (L:List Int) (v:Nat):gS L (v+1)=gS L v++[((v:Int),rd L v)]:=by simp[gS,List.range_succ]
def Cv (base a:Nat) (X Y:World):Prop:=(base<=X.heap.size->Below base X Y)/\(a<X.heap.size->Y.heap[a]? =X.heap[a]?)
theorem vj (a k n:Nat) (A0:Option Addr) (c0:Nat) (E:List S83) (L:List Int) (w0 W:World) (O:Kd.C aN w0 A0 E.length E) (P:E.length<=c0) (hn:n<=1000) (q:∀u:Nat,u<n->∃e,db.f k n E (u:Nat)=some (rd L u,e)) (r:Below w0.heap.size w0 W)
  (h:W.heap[a]? =some (.cells #[.int .i64 n,.slice A0 E.length c0] 24 (0,0))):
  jw (σ:=Unit) Fence.wide 9 Tryz.prog 185 #[.pointer (some ⟨a,0,none⟩)] (fun x:Int×Int=>#[.int .i64 x.1,.int .i64 x.2]) (fun _ W W1=>W1=W) (fun _ A B=>Below A.heap.size A B) (fun _ x A B=>(∃v:Nat,v<n/\x=((v:Int),rd L v))/\Below A.heap.size A B)
   (fun _ X Y=>Cv w0.heap.size a X Y)
   (fun _ xs W'=>xs=gS L n) (fun _ _ _=>True) (fun pre=>pre.length<=n) W:=by
 intro lp J Jx s w y z;have Q:=zA s;have ar:=zA w;have R:=zA z;have S:=zA q;have D:=y () W rfl;clear s w y z q;have hu:=Tryz.underlying24;refine callsIn_of_wp Tryz.func185 rfl trivial ?_ rfl;simp only[Tryz.ntmps185,List.size_toArray,List.length_cons,List.length_nil,Nat.reduceAdd,Nat.reduceSub,Array.replicate_succ,Array.replicate_zero,List.push_toArray,List.append_toArray,List.nil_append,List.cons_append];have j:W.cell? ⟨a,0,none⟩=some (.int .i64 n):=(ah h 0).trans rfl;have b:=zA h;clear h;gi_wp2;clear j;gi_loopg [8] (n) (fun T i wr=>∃v:Nat,i= .int .i64 v/\v<=n/\Aside0 (J () (gS L v) wr)/\Aside0 (wr.heap[a]? =some (.cells #[.int .i64 n,.slice A0 E.length c0] 24 (0,0)))/\Aside0 (Below w0.heap.size w0 wr)/\Aside0 (T=n-v))
 case atStart=>exact⟨0,rfl,Nat.zero_le _,⟨D⟩,b,⟨r⟩,⟨rfl⟩⟩
 case round=>
  clear D r b;obtain⟨v,rfl,hv,l,b,m,U⟩:=hrel;by_cases F:v<n
  ·have aB:(0:Int)<=(v:Int):=by omega
   have aF:(v:Int)<(n:Int):=by omega
   obtain⟨ev,G⟩:=S.out v F;have V:=zA G;have Z:=zA (vi L v);have j:wr.cell? ⟨a,0,none⟩=some (.int .i64 n):=(ah b.out 0).trans rfl;have b1:wr.cell? ⟨a,1,none⟩=some (.slice A0 E.length c0):=(ah b.out 1).trans rfl;clear G;gi_wp2_with (refine⟨trivial,?_⟩;gi_at_call 186;refine(callsIn_wide.2 (db.calls k n A0 c0 E v (rd L v) ev _ (Kd.ax O m.out) P V.out)).mono ?_;rintro e w3 ⟨rfl,g⟩;have ab:=zA (Q.out () _ _ _ l.out g);have H:=zA (aW m.out g);have I:=zA (aD b.out g);obtain⟨fn,tmps,aL,aO,o,K⟩:=R.out () (gS L v) ((v:Int),rd L v) _ _ ab.out ⟨⟨v,F,rfl⟩,aq _ _⟩ (by show (gS L v).length<=n;simp[gS];omega);have ad:=zA K;simp only at o;clear K g l m b j b1)
   refine ad.out.mono ?_;rintro e W3 (⟨rfl,M,p⟩|⟨rfl,N⟩)
   ·have ag:=zA M
    have ak:=zA ((p.2 (aC I.out)).trans I.out);have am:=zA (H.out.trans (p.1 H.out.size));clear M p o;gi_wp2;gi_roundg (n- (v+1))
    case measure=>rw[U.out];omega
    case rel=>exact⟨v+1,by go_num,by omega,⟨by rw[Z.out];exact ag.out⟩,ak,am,⟨rfl⟩⟩
   ·have an:=zA N
    clear N o;gi_wp2;refine bodyPost_ret (results_none rfl _ _ _) rfl ?_;exact⟨⟨_,rfl⟩,.inr ⟨(),_,trivial,an.out⟩⟩
  ·obtain rfl:n=v:=by omega
   gi_wp2;go_end0;exact⟨⟨_,rfl⟩,.inl ⟨(),_,rfl,l.out⟩⟩
def lL (L:List Int) (n v:Nat):List Int:=(List.range n).map fun u:Nat=>if u<v then wrap64 (rd L u-2) else 0
theorem Cw {L:List Int} {n v:Nat} (a:v<n):(lL L n v).set v (wrap64 (rd L v-2))=lL L n (v+1):=by
 unfold lL;refine List.ext_getElem (by simp) fun i h1 b=>?_
 rw[List.getElem_set];simp only[List.getElem_map,List.getElem_range];by_cases e:v=i
 ·subst e;simp
 ·rw[if_neg e]
  by_cases h:i<v
  ·rw[if_pos h,if_pos (by omega)]
  ·rw[if_neg h,if_neg (by omega)]
def i' (n:Nat) (pre:List (Int×Int)):List Int:=pre.foldl (fun l x=>l.set x.1.toNat (wrap64 (x.2-2))) (List.replicate n 0)
theorem vk (n:Nat) (pre:List (Int×Int)) (x:Int×Int):i' n (pre++[x])=(i' n pre).set x.1.toNat (wrap64 (x.2-2)):=by simp[i',List.foldl_append]
theorem Cx (n:Nat) (pre:List (Int×Int)):(i' n pre).length=n:=by
 unfold i';have:∀(pre:List (Int×Int)) (l:List Int),(pre.foldl (fun l x=>l.set x.1.toNat (wrap64 (x.2-2))) l).length=l.length:=by
  intro pre;induction pre with
  |nil=>intro l;rfl
  |cons x pre a=>intro l;rw[List.foldl_cons,a];simp
 rw[this];simp
theorem vm (L:List Int) (n:Nat):∀v,v<=n->i' n (gS L v)=lL L n v
 |0,_=>by
  unfold lL;refine List.ext_getElem (by simp[i',gS]) fun i h1 a=>?_
  simp[i',gS]
 |v+1,h=>by
  rw[vi,vk,vm L n v (by omega)];simp only[aG];exact Cw (by omega)
def jA.f (k:Nat) (N:Int) (E:List S83):Option (List Int):=if 1<=N/\N<=1000 then(nB k N E N.toNat).bind fun l=>some (lL l N.toNat N.toNat) else none
theorem jA.mono:∀a b k,ai (jA.f k a b) (jA.f (k+1) a b):=by
 intro N E k;unfold jA.f;exact ai.ite (ai.bind (vg _ _ _ _) (fun _=>ai.refl _)) (ai.refl _)
theorem Cy (k n:Nat) (A0:Option Addr) (c0:Nat) (E:List S83) (L:List Int) (w:World) (ad:Kd.C aN w A0 E.length E) (ag:E.length<=c0) (a5:1<=n) (hn:n<=1000) (J:∀u:Nat,u<n->∃e,db.f k n E (u:Nat)=some (rd L u,e)):
  Calls Tryz.prog 89 #[.agg #[.int .i64 n,.slice A0 E.length c0]] w fun e w'=>∃go co,e= .returned (.slice (some ⟨go,0,none⟩) n co)/\(Kd.int .i64).R 3 w' w.heap.size (fun _=>True) (.slice (some ⟨go,0,none⟩) n co) (lL L n n)/\Below w.heap.size w w':=by
 have hu:=Tryz.underlying24;have HL:=zA J;have a9:(0:Int)<=(n:Int):=by omega
 obtain⟨zs,am,M⟩:=lH 26 Tryz.underlying26 n hn;have N:=zA M;clear J M;refine(callsIn_wide (n:=10)).1 ?_;refine callsIn_of_wp_marks Tryz.func89 rfl trivial ?_ rfl;simp only[Tryz.ntmps89,List.size_toArray,List.length_cons,List.length_nil,Nat.reduceAdd,Nat.reduceSub,Array.replicate_succ,Array.replicate_zero,List.push_toArray,List.append_toArray,List.nil_append,List.cons_append];gi_wp2_with (first|(refine⟨trivial,?_⟩;gi_at_call 143;refine(callsIn_wide.2 (vf n _ _)).mono ?_;rintro e w3 ⟨rfl,rfl⟩))
 have q:=a7 ((w.alloc (.cells #[.int .i64 n,.slice A0 E.length c0] 24)).alloc (.cells zs 3)) (.cells #[.slice (some ⟨w.heap.size+1,0,none⟩) n n] 26);have r:=a7 (((w.alloc (.cells #[.int .i64 n,.slice A0 E.length c0] 24)).alloc (.cells zs 3)).alloc (.cells #[.slice (some ⟨w.heap.size+1,0,none⟩) n n] 26)) (.cells #[.int .i64 n,.slice A0 E.length c0] 24);have hS:=N.out (w.alloc (.cells #[.int .i64 n,.slice A0 E.length c0] 24)) (fun _=>True) trivial;simp only[World.size_alloc] at q r hS;have O:=zA (au q (.cells #[.int .i64 n,.slice A0 E.length c0] 24));have P:=zA r;have y:=zA (ao (ao (ao (ao (aq w.heap.size w) (.cells #[.int .i64 n,.slice A0 E.length c0] 24)) (.cells zs 3)) (.cells #[.slice (some ⟨w.heap.size+1,0,none⟩) n n] 26)) (.cells #[.int .i64 n,.slice A0 E.length c0] 24));have Q:Aside0 ((Kd.int .i64).R 3 ((((w.alloc (.cells #[.int .i64 n,.slice A0 E.length c0] 24)).alloc (.cells zs 3)).alloc (.cells #[.slice (some ⟨w.heap.size+1,0,none⟩) n n] 26)).alloc (.cells #[.int .i64 n,.slice A0 E.length c0] 24)) w.heap.size (fun _=>True) (.slice (some ⟨w.heap.size+1,0,none⟩) n n) (i' n [])):=⟨Kd.bd (Kd.aM (Kd.aM hS _) _) (by omega)⟩;have an:=Nat.le_of_eq (show ((((w.alloc (.cells #[.int .i64 n,.slice A0 E.length c0] 24)).alloc (.cells zs 3)).alloc (.cells #[.slice (some ⟨w.heap.size+1,0,none⟩) n n] 26)).alloc (.cells #[.int .i64 n,.slice A0 E.length c0] 24)).heap.size=w.heap.size+4 by simp);have ap:=Nat.le_of_eq (show w.heap.size+4=((((w.alloc (.cells #[.int .i64 n,.slice A0 E.length c0] 24)).alloc (.cells zs 3)).alloc (.cells #[.slice (some ⟨w.heap.size+1,0,none⟩) n n] 26)).alloc (.cells #[.int .i64 n,.slice A0 E.length c0] 24)).heap.size by simp);clear q r hS N am;generalize (((w.alloc (.cells #[.int .i64 n,.slice A0 E.length c0] 24)).alloc (.cells zs 3)).alloc (.cells #[.slice (some ⟨w.heap.size+1,0,none⟩) n n] 26)).alloc (.cells #[.int .i64 n,.slice A0 E.length c0] 24)=b at O P y Q an ap⊢;refine iU (σ:=Unit) (α:=Int×Int) (F:=Fence.wide) (n:=10) rfl (by decide) (gf:=185) (lb:=#[.pointer (some ⟨w.heap.size+1+1+1,0,none⟩)]) rfl trivial (enters_of Tryz.func185 (by kernel_rfl) rfl)
  (fun o=>vj (w.heap.size+1+1+1) k n A0 c0 E L w _ ad ag hn HL.out (ao (ao y.out _) _) (au (au P.out _) _)) (fun _=>rfl)
  (fun _=>True) ?eL ?st ?ar
  (fun _ pre W=>b.heap.size<=W.heap.size/\(Kd.int .i64).R 3 W w.heap.size (fun _=>True) (.slice (some ⟨w.heap.size+1,0,none⟩) n n) (i' n pre)/\W.heap[w.heap.size+1+1]? =some (.cells #[.slice (some ⟨w.heap.size+1,0,none⟩) n n] 26 (0,0))/\Below w.heap.size w W) (fun _ _ _ _=>False)
  ?is (fun _ _ _ _ _ _ h _=>h) ?ib (fun _ _ _ _ _ h _=>h) ?kt ?h0 ?a1 ?assign ?body ?done (fun _ _ _ _ _ _ _ h=>h.elim)
 case assign=>
  intro l x W K hK;gi_wp2;exact hK
 case eL=>
  intro o s W1 h;exact⟨trivial,by rw[h];exact cB.refl _ _⟩
 case st=>intro s A B _ h;exact di h
 case ar=>intro s x A B _ h;exact di h.2
 case is=>
  rintro s pre A B _ ⟨g,h1,G,H⟩ j;exact⟨Nat.le_trans g j.size,Kd.cY h1 j,aD G j,aW H j⟩
 case ib=>
  rintro s pre A B ⟨g,h1,G,H⟩ hb;exact⟨by rw[hb.size];exact g,dD h1 hb,hb.cells G,H.trans (hb.below w.heap.size (by omega))⟩
 case kt=>
  intro s A B C D m S T;refine⟨fun aY=>((m.below w.heap.size (by omega)).trans (S.1 (by rw[m.size];exact aY))).trans (T.below w.heap.size (by omega)),fun aB=>?_⟩;have U:w.heap.size+1+1+1≠b.heap.size+1:=by omega
  exact(T.heap _ U).trans ((S.2 (by rw[m.size];exact aB)).trans (m.heap _ U))
 case h0=>
  rintro o s W1 rfl;exact⟨by simp;omega,Kd.aM (Kd.aM Q.out _) _,au (au O.out _) _,ao (ao y.out _) _⟩
 case body=>
  rintro l s' pre ⟨xv,V⟩ Wb Wc W _ ⟨g,i1,i2,i3⟩ ⟨⟨v,bi,hx⟩,i⟩ aL a;injection hx with aO aP
  subst aO;have X:=zA (dD (Kd.cY i1 i) a);have Y:=zA (a.cells (aD i2 i));have I3:=zA ((aW i3 i).trans (a.below w.heap.size (by omega)));have aS:b.heap.size<=W.heap.size:=by have:=a.size;have:=i.size;omega
  have a0:=zA (vk n pre ((v:Int),V));have bk:=zA (Cx n pre);clear i1 i2 i3 i a aL g aP;have z1:=dM Y.out;obtain⟨z2,z3⟩:=Kd.bO 0 X.out (v:Int) (by omega) (by omega);rw[aG] at z2 z3;generalize bM 0 (i' n pre) (v:Int)=z at z2;replace z2:W.cell? ⟨w.heap.size+1,v,none⟩=some (.int .i64 z):=z2;have bn:(0:Int)<=(v:Int):=by omega
  have bo:(v:Int)<(n:Int):=by omega
  have I:=Kd.dh X.out (v:Int) (wrap64 (V-2));rw[aG] at I;have a2:=zA I.1;clear I;gi_wp2;refine⟨fI _ _ (by omega),⟨fun _=>Below.setCell (p:=⟨w.heap.size+1,v,none⟩) (aq _ _) (by show w.heap.size<=w.heap.size+1;omega) _,fun _=>Below.heap_setCell _ _ _ _ (by show w.heap.size+1+1+1≠w.heap.size+1;omega)⟩,by simpa using aS,?_,aE Y.out (by show w.heap.size+1+1≠w.heap.size+1;omega) _,Below.setCell (p:=⟨w.heap.size+1,v,none⟩) I3.out (by show w.heap.size<=w.heap.size+1;omega) _⟩;rw[a0.out];exact a2.out
 case done=>
  rintro s' xs W W' _ rfl ⟨g,i1,i2,i3⟩ a Z;have b1:=zA (dD i1 a);have b2:=zA (a.cells i2);have b3:=zA (i3.trans (a.below w.heap.size (by omega)));have aa:=zA Z;clear i1 i2 i3 Z;have hc:=dM b2.out;gi_wp2_with fail
  have ab:Bk b.heap.size W' (W'.putObj b.heap.size (.deferred none)):=⟨_,_,aa.out,rfl,rfl⟩;have h1:=b1.out;rw[vm L n n (aI _)] at h1;exact jx (D:=b.heap.size) rfl aa.out (results_tmp rfl _ _ _) ⟨_,_,rfl,dD h1 ab,b3.out.trans (ab.below w.heap.size (by omega))⟩
theorem jA.calls (k:Nat) (b:Int) (i:Option Addr) (j:Nat) (a:List (S83)) (r:List Int) (w:World) (o:Kd.C aN w i a.length a) (p:a.length<=j) (h:jA.f k b a=some r):
  Calls Tryz.prog 89 #[.agg #[.int .i64 b,.slice i a.length j]] w fun e w'=>∃l:Value,e= .returned (l)/\Kd.R (Kd.int .i64) 3 w' w.heap.size (fun _=>True) l r/\Below w.heap.size w w':=by
 unfold jA.f at h;by_cases m:1<=b/\b<=1000
 ·rw[if_pos m] at h
  obtain⟨n,rfl⟩:=Int.eq_ofNat_of_zero_le (show 0<=b by omega);obtain⟨L,h1,g⟩:=Option.bind_eq_some_iff.1 h;simp only[aG] at h1 g;injection g with g
  subst g;refine(Cy k n i j a L w o p (by omega) (by omega) (vh h1).2).mono ?_;rintro e w' ⟨go,co,rfl,q,s⟩;exact⟨_,rfl,q,s⟩
 ·rw[if_neg m] at h;cases h
end
def iI (a:Nat->Nat):Nat->List Int->List (List Int)
 |0,p=>[p]
 |k+1,p=>(List.range (a p.length+1)).flatMap fun (x:Nat)=>iI a k (p++[(x:Int)])
def dz (q B:Nat) (calm:List Int->Bool):Nat->List Int->List (List Int)
 |0,p=>[p]
 |k+1,p=>if p.length=q then dz q B calm k (p++[0]) else((List.range B).takeWhile fun (x:Nat)=>calm (p++(x:Int)::List.replicate k 0)).flatMap fun (x:Nat)=>dz q B calm k (p++[(x:Int)])
def dQ:List Int->List Int->Prop
 |[],[]=>True
 |x::a,y::b=>x<=y/\dQ a b
 |_,_=>False
theorem dQ.refl:∀l,dQ l l
 |[]=>trivial
 |x::l=>⟨Int.le_refl x,dQ.refl l⟩
theorem dQ.append {a b c d:List Int} (h:dQ a b) (e:dQ c d):dQ (a++c) (b++d):=by
 induction a generalizing b with
 |nil=>cases b with|nil=>exact e|cons=>exact h.elim
 |cons x a g=>cases b with|nil=>exact h.elim|cons y b=>exact⟨h.1,g h.2⟩
theorem dQ.trans {a b c:List Int} (h:dQ a b) (e:dQ b c):dQ a c:=by
 induction a generalizing b c with
 |nil=>cases b with|nil=>exact e|cons=>exact h.elim
 |cons x a g=>cases b with
  |nil=>exact h.elim
  |cons y b=>cases c with|nil=>exact e.elim|cons z c=>exact⟨Int.le_trans h.1 e.1,g h.2 e.2⟩
theorem dQ.length {a b:List Int} (h:dQ a b):a.length=b.length:=by
 induction a generalizing b with
 |nil=>cases b with|nil=>rfl|cons=>exact h.elim
 |cons x a e=>cases b with|nil=>exact h.elim|cons y b=>simp[e h.2]
theorem Cz (a:Nat->Nat):∀(k:Nat) (p l:List Int),l∈iI a k p->dQ (p++List.replicate k 0) l:=by
 intro k;induction k with
 |zero=>intro p l h;simp[iI] at h;subst h;simpa using dQ.refl l
 |succ k b=>
  intro p l h;simp only[iI,List.mem_flatMap] at h;obtain⟨x,g,e⟩:=h;refine dQ.trans ?_ (b _ _ e);rw[List.replicate_succ,List.append_assoc];exact(dQ.refl p).append ⟨by omega,dQ.refl _⟩
theorem range_split {B m:Nat} (h:m<=B):List.range B=List.range m++(List.range (B-m)).map (m+ ·):=by
 conv=>lhs;rw[show B=m+(B-m) by omega,List.range_add]
theorem CD {α:Type} (P:Nat->Bool) (F:Nat->List α) (g:∀x y,y<=x->P x=true->P y=true):∀(B:Nat),((List.range B).takeWhile P).flatMap F=(List.range B).flatMap fun x=>if P x then F x else[]:=by
 intro B;induction B with
 |zero=>rfl
 |succ B i=>
  rw[List.range_succ,List.flatMap_append,<-i];by_cases h:∀x∈List.range B,P x=true
  ·rw[List.takeWhile_append_of_pos h,List.flatMap_append]
   have j:(List.range B).takeWhile P=List.range B:=by
    have:=List.takeWhile_append_of_pos (l₂:=[]) h;simpa using this
   rw[j];congr 1
   cases a:P B<;>simp[a]
  ·have a:P B=false:=by
    cases a:P B with
    |false=>rfl
    |true=>exact absurd (fun x b=>g B x (by have:=List.mem_range.1 b;omega) a) h
   rw[List.takeWhile_append,if_neg ?_]
   ·simp[a]
   ·intro e
    refine h fun x b=>?_
    have k:(List.range B).takeWhile P=List.range B:=(List.takeWhile_prefix P).eq_of_length e;rw[<-k] at b;exact List.all_eq_true.1 (List.all_takeWhile) x b
theorem CE {α:Type} (P:Nat->Bool) (F:Nat->List α) (M B:Nat) (a:M<=B) (b:∀x,P x=true->x<M):((List.range B).flatMap fun x=>if P x then F x else[])=(List.range M).flatMap fun x=>if P x then F x else[]:=by
 rw[range_split a,List.flatMap_append];rw[show ((List.range (B-M)).map (M+ ·)).flatMap (fun x=>if P x then F x else[])=[] from ?_]
 ·simp
 ·rw[List.flatMap_eq_nil_iff]
  intro x e;obtain⟨y,_,rfl⟩:=List.mem_map.1 e;cases h:P (M+y) with
  |false=>simp
  |true=>have:=b _ h;omega
theorem CF (q B:Nat) (calm:List Int->Bool) (g:Nat->Nat) (n:Nat) (j:∀a b,a.length=n->dQ a b->calm b=true->calm a=true) (u:∀l v,l.length=n->v<n->v≠q->calm l=true->rd l v<=(g v:Int)) (w:g q=0) (z:∀v,v<n->g v+1<=B):
  ∀(k:Nat) (p:List Int),p.length+k=n->(calm (p++List.replicate k 0)=true\/∃v,p.length<=v/\v<n/\v≠q)->dz q B calm k p=(iI g k p).filter calm:=by
 intro k;induction k with
 |zero=>
  rintro p hp (h|⟨v,h1,m,_⟩)
  ·simp at h;simp[dz,iI,h]
  ·omega
 |succ k o=>
  intro p hp h;have H:(p++[(0:Int)]).length=p.length+1:=by simp
  by_cases e:p.length=q
  ·rw[dz,if_pos e,iI,e,w]
   simp only[Nat.zero_add,List.range_one,List.flatMap_cons,List.flatMap_nil,List.append_nil,Int.natCast_zero,Int.ofNat_zero];refine o (p++[0]) (by simp;omega) ?_;rcases h with h|⟨v,h1,m,C⟩
   ·left;rw[List.append_assoc];simpa [List.replicate_succ] using h
   ·right;exact⟨v,by simp;omega,m,C⟩
  ·rw[dz,if_neg e,iI,List.filter_flatMap]
   have D:∀x y:Nat,y<=x->calm (p++(x:Int)::List.replicate k 0)=true->calm (p++(y:Int)::List.replicate k 0)=true:=fun x y I i=>j _ _ (by simp;omega) ((dQ.refl p).append (show dQ ((y:Int)::List.replicate k 0) ((x:Int)::List.replicate k 0) from⟨by omega,dQ.refl _⟩)) i
   rw[CD (fun x:Nat=>calm (p++(x:Int)::List.replicate k 0)) _ D];rw[CE (fun x:Nat=>calm (p++(x:Int)::List.replicate k 0)) _ (g p.length+1) B (z _ (by omega)) (fun x i=>by
    have:=u _ p.length (by simp;omega) (by omega) e i;have E:rd (p++(x:Int)::List.replicate k 0) p.length=x:=by simp[rd,aX]
    rw[E] at this;omega)]
   congr 1
   funext x
   have r:(p++[(x:Int)])++List.replicate k 0=p++(x:Int)::List.replicate k 0:=by simp
   cases s:calm (p++(x:Int)::List.replicate k 0) with
   |true=>
    rw[if_pos rfl];exact o _ (by simp;omega) (.inl (by rw[r];exact s))
   |false=>
    rw[if_neg (by simp)];symm
    rw[List.filter_eq_nil_iff];intro l F;have h1:=Cz g k _ l F;rw[r] at h1;cases G:calm l with
    |false=>simp
    |true=>have:=j _ _ (by simp;omega) h1 G;rw[s] at this;cases this
def kL (a:Nat->Nat) (v:Nat) (L:List (List Int)):List (List Int):=L.flatMap fun p=>(List.range (a v+1)).map fun (x:Nat)=>p++[(x:Int)]
def de (a:Nat->Nat):Nat->List (List Int)
 |0=>[[]]
 |v+1=>kL a v (de a v)
theorem kM (a:Nat->Nat):∀(v:Nat) (l:List Int),l∈de a v->l.length=v
 |0,l,h=>by simp[de] at h;subst h;rfl
 |v+1,l,h=>by
  simp only[de,kL,List.mem_flatMap,List.mem_map] at h;obtain⟨p,hp,x,_,rfl⟩:=h;simp[kM a v p hp]
theorem vn {α β:Type} {f g:α->List β}:∀(l:List α),(∀x∈l,f x=g x)->l.flatMap f=l.flatMap g
 |[],_=>rfl
 |x::l,h=>by simp only[List.flatMap_cons];rw[h x (by simp),vn l (fun y a=>h y (by simp[a]))]
theorem CG (a:Nat->Nat) (k:Nat):∀v,(de a v).flatMap (iI a k)=de a (v+k):=by
 induction k with
 |zero=>intro v;simp only[Nat.add_zero];rw[show iI a 0=fun p=>[p] from rfl];simp
 |succ k b=>
  intro v;rw[show v+(k+1)=(v+1)+k by omega,<-b (v+1),de,kL,List.flatMap_assoc];refine vn _ fun p hp=>?_
  rw[iI,kM a v p hp,List.flatMap_map]
theorem CH (a:Nat->Nat) (n:Nat):de a n=iI a n []:=by
 have h:=CG a n 0;simpa [de] using h.symm
def gD.f (k:Nat) (b:Int) (e:List (S83)) (g:Int) (l2:List Int):Option (Bool×Int):=(iH.f k b e g l2).bind fun a=>(if a.2.2=0 then(some (((a.2.1.length:Int)==0),a.2.2)) else(some (false,a.2.2)))
theorem gD.mono:∀a0 a a2 a3 k,ai (gD.f k a0 a a2 a3) (gD.f (k+1) a0 a a2 a3):=by
 intro a0 a a2 a3 k;unfold gD.f;with_reducible repeat' first|exact iH.mono _ _ _ _ _|exact ai.refl _|exact ai.none _|refine ai.ite ?_ ?_|refine ai.bind ?_ (fun _=>?_)
theorem gD.calls (k:Nat) (g:Int) (l:Option Addr) (m:Nat) (b:List (S83)) (n:Int) (s:Option Addr) (c2:Nat) (l2:List Int) (v:Bool) (x:Int) (w:World) (y:Kd.C aN w l b.length b) (z:b.length<=m) (B:Kd.C (Kd.int .i64) w s l2.length l2) (D:l2.length<=c2) (h:gD.f k g b n l2=some (v,x)):
  Calls Tryz.prog 201 #[.agg #[.int .i64 g,.slice l b.length m],.int .i64 n,.slice s l2.length c2] w fun e w'=>e= .returned (.tuple #[.bool v,.int .i64 x])/\Below w.heap.size w w':=by
 have X:=Tryz.underlying24;have E:=zA y;have F:=zA z;clear y z;have G:=zA B;have I:=zA D;clear B D;have a:=zA (aq w.heap.size w);unfold gD.f at h;have H:=h;clear h;obtain⟨⟨J,K,u⟩,L,H⟩:=zo H;dsimp only at H;by_cases o:u=0
 ·rw[if_pos o] at H
  obtain⟨O,P⟩:=bT o;clear o;simp only[Option.some.injEq,Prod.mk.injEq] at H;obtain⟨rfl,rfl⟩:=H;go_enter Tryz.func201,Tryz.ntmps201
  go_wp2_with (first|((with_reducible refine aU (N:=3) rfl ?_);(try(refine ei (by rfl) ?_;dsimp only));refine zX 3 #[.int .i64 g,.slice l b.length m] 24 ?_;intro Q i Y p hb;have j:=zA (p);have R:=zG a i;have S:=zG a i;replace a:=zS a hb;clear hb p i;obtain⟨Z,aa,ab,ad⟩:=aA j)|((with_reducible refine aJ (f:=213) rfl ?_);refine zL (some 15) Tryz.func213 #[.agg #[.int .i64 g,.slice l b.length m],.int .i64 n,.slice s l2.length c2] ?_;(with_reducible refine(iH.calls k g _ _ b n _ _ l2 J K u _ ?al ?aj ?bl ?bm L.out).mono ?_);(case al=>exact Kd.ax E.out zB);(case aj=>exact F.out);(case bl=>exact Kd.ax G.out zB);(case bm=>exact I.out);rintro e w8 ⟨T,U,rfl,q,r,hb⟩;refine⟨_,rfl,?_⟩;have V:=zA (Kd.bd q (bH zB));have M:=zA (Kd.bd r (bH zB));replace j:=zb j hb;replace a:=zS a hb;(try clear hb);(try clear q);(try clear r);obtain⟨ak,am,W⟩:=Kd.bh M.out;subst W))
  go_ret2;exact⟨zE,zB⟩
 ·rw[if_neg o] at H
  obtain⟨O,P⟩:=bU o;simp only[Option.some.injEq,Prod.mk.injEq] at H;obtain⟨rfl,rfl⟩:=H;go_enter Tryz.func201,Tryz.ntmps201
  go_wp2_with (first|((with_reducible refine aU (N:=3) rfl ?_);(try(refine ei (by rfl) ?_;dsimp only));refine zX 3 #[.int .i64 g,.slice l b.length m] 24 ?_;intro Q i an p hb;have j:=zA (p);have R:=zG a i;have S:=zG a i;replace a:=zS a hb;clear hb p i;obtain⟨ap,ar,av,aB⟩:=aA j)|((with_reducible refine aJ (f:=213) rfl ?_);refine zL (some 15) Tryz.func213 #[.agg #[.int .i64 g,.slice l b.length m],.int .i64 n,.slice s l2.length c2] ?_;(with_reducible refine(iH.calls k g _ _ b n _ _ l2 J K u _ ?al ?aj ?bl ?bm L.out).mono ?_);(case al=>exact Kd.ax E.out zB);(case aj=>exact F.out);(case bl=>exact Kd.ax G.out zB);(case bm=>exact I.out);rintro e aF ⟨T,U,rfl,q,r,hb⟩;refine⟨_,rfl,?_⟩;have V:=zA (Kd.bd q (bH zB));have M:=zA (Kd.bd r (bH zB));replace j:=zb j hb;replace a:=zS a hb;(try clear hb);(try clear q);(try clear r)))
  go_ret2;exact⟨zE,zB⟩
def eO.f (k:Nat) (b:Int) (e:List (S83)) (g:Int) (l2:List Int):Option (Bool):=(gD.f k b e g l2).bind fun a=>(if a.1=true then(some (a.2==0)) else(some false))
theorem eO.mono:∀a0 a a2 a3 k,ai (eO.f k a0 a a2 a3) (eO.f (k+1) a0 a a2 a3):=by
 intro a0 a a2 a3 k;unfold eO.f;with_reducible repeat' first|exact gD.mono _ _ _ _ _|exact ai.refl _|exact ai.none _|refine ai.ite ?_ ?_|refine ai.bind ?_ (fun _=>?_)
theorem eO.calls (k:Nat) (g:Int) (l:Option Addr) (m:Nat) (b:List (S83)) (n:Int) (p:Option Addr) (c2:Nat) (l2:List Int) (r:Bool) (w:World) (s:Kd.C aN w l b.length b) (u:b.length<=m) (v:Kd.C (Kd.int .i64) w p l2.length l2) (x:l2.length<=c2) (h:eO.f k g b n l2=some r):
  Calls Tryz.prog 176 #[.agg #[.int .i64 g,.slice l b.length m],.int .i64 n,.slice p l2.length c2] w fun e w'=>e= .returned (.bool r)/\Below w.heap.size w w':=by
 have L:=Tryz.underlying24;have y:=zA s;have z:=zA u;clear s u;have B:=zA v;have D:=zA x;clear v x;have a:=zA (aq w.heap.size w);unfold eO.f at h;have H:=h;clear h;obtain⟨⟨G,E⟩,F,H⟩:=zo H;dsimp only at H;by_cases q:G=true
 ·subst q
  replace H:=zi H;obtain rfl:=aQ H;go_enter Tryz.func176,Tryz.ntmps176
  go_wp2_with (first|((with_reducible refine aU (N:=3) rfl ?_);refine zX 3 #[.int .i64 g,.slice l b.length m] 24 ?_;intro I i M o hb;have j:=zA (o);have J:=zG a i;have K:=zG a i;replace a:=zS a hb;clear hb o i;obtain⟨O,P,Q,R⟩:=aA j)|((with_reducible refine aJ (f:=201) rfl ?_);refine zL (some 13) Tryz.func201 #[.agg #[.int .i64 g,.slice l b.length m],.int .i64 n,.slice p l2.length c2] ?_;(with_reducible refine(gD.calls k g _ _ b n _ _ l2 true E _ ?al ?aj ?bl ?bm F.out).mono ?_);(case al=>exact Kd.ax y.out zB);(case aj=>exact z.out);(case bl=>exact Kd.ax B.out zB);(case bm=>exact D.out);rintro e S ⟨rfl,hb⟩;refine⟨_,rfl,?_⟩;replace j:=zb j hb;replace a:=zS a hb;(try clear hb)))
  go_ret;exact⟨zE,zB⟩
 ·replace q:=Bool.eq_false_iff.mpr q
  subst q;replace H:=zj H;obtain rfl:=aQ H;go_enter Tryz.func176,Tryz.ntmps176
  go_wp2_with (first|((with_reducible refine aU (N:=3) rfl ?_);refine zX 3 #[.int .i64 g,.slice l b.length m] 24 ?_;intro I i T o hb;have j:=zA (o);have J:=zG a i;have K:=zG a i;replace a:=zS a hb;clear hb o i;obtain⟨U,V,W,X⟩:=aA j)|((with_reducible refine aJ (f:=201) rfl ?_);refine zL (some 13) Tryz.func201 #[.agg #[.int .i64 g,.slice l b.length m],.int .i64 n,.slice p l2.length c2] ?_;(with_reducible refine(gD.calls k g _ _ b n _ _ l2 false E _ ?al ?aj ?bl ?bm F.out).mono ?_);(case al=>exact Kd.ax y.out zB);(case aj=>exact z.out);(case bl=>exact Kd.ax B.out zB);(case bm=>exact D.out);rintro e Y ⟨rfl,hb⟩;refine⟨_,rfl,?_⟩;replace j:=zb j hb;replace a:=zS a hb;(try clear hb)))
  go_ret;exact⟨zE,zB⟩
section
attribute [local go_sem] Oper.semAt_some
def jX {α:Type} (P:Nat->Bool) (F:Nat->List α):Nat->Nat->List α
 |0,_=>[]
 |f+1,x=>if P x then F x++jX P F f (x+1) else[]
theorem vo {α:Type} (P:Nat->Bool) (F:Nat->List α):∀f x,jX P F f x=((List.range' x f).takeWhile P).flatMap F
 |0,x=>by simp[jX]
 |f+1,x=>by
  rw[jX,List.range'_succ,List.takeWhile_cons];cases P x with
  |true=>simp[vo P F f (x+1)]
  |false=>simp
theorem CI (q B:Nat) (calm:List Int->Bool) (k:Nat) (p:List Int) (h:p.length≠q):dz q B calm (k+1) p=jX (fun (x:Nat)=>calm (p++(x:Int)::List.replicate k 0)) (fun (x:Nat)=>dz q B calm k (p++[(x:Int)])) B 0:=by
 rw[dz,if_neg h,vo,List.range_eq_range']
def ja (n q:Nat) (c:List Int):Prop:=c.length=n/\(∀i:Nat,0<=rd c i/\rd c i<=1000)/\rd c q=0
structure CS (w0:World) (n:Nat) (A0:Option Addr) (c0:Nat) (E:List S83) (q gx qx s l:Nat) (W:World) (c:List Int):Prop where
 g:W.heap[gx]? =some (.cells #[.int .i64 n,.slice A0 E.length c0] 24 (0,0))
 q:W.heap[qx]? =some (.cells #[.int .i64 q] 3 (0,0))
 y:W.heap[s]? =some (.cells #[.func (.yield l) #[] #[]] 141 (0,0))
 c:(Kd.int .i64).R 3 W w0.heap.size (fun k=>k=s+1) (.slice (some ⟨s+1,0,none⟩) n n) c
 cb:W.heap[s+2]? =some (.cells #[.slice (some ⟨s+1,0,none⟩) n n] 26 (0,0))
 f:W.heap[s+3]? =some (.cells #[.func (.func 200) #[] #[.pointer (some ⟨gx,0,none⟩),.pointer (some ⟨s,0,none⟩),.pointer (some ⟨s+2,0,none⟩),.pointer (some ⟨qx,0,none⟩),.pointer (some ⟨s+3,0,none⟩)]] 121 (0,0))
 below:Below w0.heap.size w0 W
namespace CS
variable {w0:World} {n:Nat} {A0:Option Addr} {c0:Nat} {E:List S83} {q gx qx s l:Nat} {W W':World} {c:List Int}
theorem iY (h:CS w0 n A0 c0 E q gx qx s l W c) (hk:∀k,(k=gx\/k=qx\/s<=k/\k<s+4)->W'.heap[k]? =W.heap[k]?) (hb:Below w0.heap.size w0 W'):CS w0 n A0 c0 E q gx qx s l W' c:=
 ⟨(hk gx (.inl rfl)).trans h.g,(hk qx (.inr (.inl rfl))).trans h.q,(hk s (.inr (.inr ⟨by omega,by omega⟩))).trans h.y,Kd.fC h.c (fun k e=>hk k (.inr (.inr (by subst e;omega)))),(hk (s+2) (.inr (.inr ⟨by omega,by omega⟩))).trans h.cb,(hk (s+3) (.inr (.inr ⟨by omega,by omega⟩))).trans h.f,hb⟩
theorem lt (h:CS w0 n A0 c0 E q gx qx s l W c):s+3<W.heap.size/\gx<W.heap.size/\qx<W.heap.size:=⟨aC h.f,aC h.g,aC h.q⟩
theorem stay (h:CS w0 n A0 c0 E q gx qx s l W c) (hb:Below W.heap.size W W'):CS w0 n A0 c0 E q gx qx s l W' c:=
 h.iY (fun k hk=>hb.block k (by have:=h.lt;rcases hk with rfl|rfl|hk<;>omega)) (h.below.trans (hb.mono h.below.size))
theorem size (h:CS w0 n A0 c0 E q gx qx s l W c):w0.heap.size<=W.heap.size:=h.below.size
end CS
def re (s:Nat) (x:List Int×Value) (A B:World):Prop:=A.grownBy B (some (s+1))/\(Kd.int .i64).R 3 B A.heap.size (fun _=>True) x.2 x.1/\s+4<=A.heap.size
def rf (w0:World) (gx qx s:Nat) (X Y:World):Prop:=(w0.heap.size<=X.heap.size->Below w0.heap.size X Y)/\∀k,(k=gx\/k=qx\/s<=k/\k<s+4)->k<X.heap.size->Y.heap[k]? =X.heap[k]?
def rh (w0:World) (B n:Nat) (A0:Option Addr) (c0:Nat) (E:List S83) (q gx qx s l:Nat) (calm:List Int->Bool) (J Jx:List (List Int×Value)->World->Prop) (a:Nat) (p:List Int) (pre:List (List Int×Value)) (e:Ending) (W':World):Prop:=
 (∃b,e= .returned (.bool true)/\J (pre++b) W'/\b.map Prod.fst=dz q B calm a p/\CS w0 n A0 c0 E q gx qx s l W' (p++List.replicate a 0))\/(e= .returned (.bool false)/\∃g,Jx g W')
theorem CJ {e:Ending} {A B:Prop} (h:(e= .returned (.bool true)/\A)\/(e= .returned (.bool false)/\B)):∃b:Bool,e= .returned (.bool b)/\Aside0 ((b=true/\A)\/(b=false/\B)):=by
 rcases h with⟨h,a⟩|⟨h,hb⟩
 ·exact⟨true,h,⟨.inl ⟨rfl,a⟩⟩⟩
 ·exact⟨false,h,⟨.inr ⟨rfl,hb⟩⟩⟩
theorem CK {w0:World} {B n:Nat} {A0:Option Addr} {c0:Nat} {E:List S83} {q gx qx s l:Nat} {calm:List Int->Bool} {J Jx:List (List Int×Value)->World->Prop} {g:Nat} {p:List Int} {pre:List (List Int×Value)} {e:Ending} {W':World} (h:rh w0 B n A0 c0 E q gx qx s l calm J Jx g p pre e W'):
  ∃b:Bool,e= .returned (.bool b)/\Aside0 ((b=true/\∃a,J (pre++a) W'/\a.map Prod.fst=dz q B calm g p/\CS w0 n A0 c0 E q gx qx s l W' (p++List.replicate g 0))\/(b=false/\∃i,Jx i W')):=by
 rcases h with⟨a,h,j⟩|⟨h,hb⟩
 ·exact⟨true,h,⟨.inl ⟨rfl,a,j⟩⟩⟩
 ·exact⟨false,h,⟨.inr ⟨rfl,hb⟩⟩⟩
theorem CL {w0:World} {B n:Nat} {A0:Option Addr} {c0:Nat} {E:List S83} {q gx qx s l:Nat} {calm:List Int->Bool} {J Jx:List (List Int×Value)->World->Prop} (hn:n<=12)
  (m:∀pre x A C,J pre A->re s x A C->pre.length<16384->YieldAt Fence.wide 8 Tryz.prog l #[x.2] C fun e W'=>(e= .returned (.bool true)/\J (pre++[x]) W'/\rf w0 gx qx s C W')\/(e= .returned (.bool false)/\Jx (pre++[x]) W'))
  (p:List Int) (pre:List (List Int×Value)) (W:World) (hp:p.length=n) (hC:CS w0 n A0 c0 E q gx qx s l W p) (o:J pre W) (hlen:pre.length<16384):
  CallsIn Fence.wide 9 Tryz.prog 200 #[.int .i64 n,.pointer (some ⟨gx,0,none⟩),.pointer (some ⟨s,0,none⟩),.pointer (some ⟨s+2,0,none⟩),.pointer (some ⟨qx,0,none⟩),.pointer (some ⟨s+3,0,none⟩)] W (rh w0 B n A0 c0 E q gx qx s l calm J Jx 0 p pre):=by
 have G:=zA m;have H:=zA o;have j:=zA hC;have N:W.cell? ⟨gx,0,none⟩=some (.int .i64 n):=(ah hC.g 0).trans rfl;have O:W.cell? ⟨s,0,none⟩=some (.func (.yield l) #[] #[]):=(ah hC.y 0).trans rfl;have P:W.cell? ⟨s+2,0,none⟩=some (.slice (some ⟨s+1,0,none⟩) n n):=(ah hC.cb 0).trans rfl;have Q:=zA hp;obtain⟨-, -,r⟩:=Kd.aH hC.c;have S:=hC.below.size;have I:=zA (show CallsIn Fence.wide 8 Tryz.prog 57 #[.slice (some ⟨s+1,0,none⟩) n n] W.drew (fun e w'=>∃u:Value,e= .returned (u)/\Kd.R (Kd.int .i64) 3 w' W.heap.size (fun _=>True) u p/\Below W.heap.size W w'/\Below W.heap.size W.drew w') from callsIn_wide.2 (by
  subst hp;refine(fJ.calls (some ⟨s+1,0,none⟩) p.length p p W.drew (Kd.fD r) (aI _) (by unfold fJ.f clone.f;rw[if_pos (by omega)])).mono ?_;rintro e w' ⟨v,rfl,h1,w⟩;exact⟨v,rfl,h1,(iA (aq _ _)).trans w,w⟩))
 clear m o hC r hp;refine callsIn_of_wp Tryz.func200 rfl trivial ?_ rfl;simp only[Tryz.ntmps200,List.size_toArray,List.length_cons,List.length_nil,Nat.reduceAdd,Nat.reduceSub,Array.replicate_succ,Array.replicate_zero,List.push_toArray,List.append_toArray,List.nil_append,List.cons_append];gi_wp2;gi_region_with (first|(refine⟨trivial,?_⟩;gi_at_call 57;refine I.out.mono ?_;rintro e w1 ⟨v,rfl,z,h,K⟩;have T:w1.cell? ⟨s,0,none⟩=some (.func (.yield l) #[] #[]):=(ah (aD j.out.y h) 0).trans rfl;have i:=zA (j.out.stay h);obtain⟨fn,tmps,U,V,X,D⟩:=G.out pre (p,v) W w1 H.out ⟨jL h _,z,j.out.lt.1⟩ hlen;have L:=zA D;clear D z h K)|(refine L.out.mono ?_;rintro e w3 a;obtain⟨b,rfl,M⟩:=CJ a;clear a))
 all_goals gi_wp2
 all_goals go_ret
 all_goals
  rcases M.out with⟨rfl,a,F⟩|⟨rfl,a⟩
  ·exact .inl ⟨[(p,v)],rfl,a,rfl,by simpa using i.out.iY (fun k hk=>F.2 k hk (by have:=i.out.lt;rcases hk with rfl|rfl|hk<;>omega)) (i.out.below.trans (F.1 i.out.size))⟩
  ·exact .inr ⟨rfl,_,a⟩
theorem CM {n q a:Nat} {p:List Int} {x:Nat} (h:ja n q (p++List.replicate (a+1) 0)) (b:p.length≠q) (g:x<=1000):ja n q (p++(x:Int)::List.replicate a 0):=by
 have e:p++(x:Int)::List.replicate a 0=(p++List.replicate (a+1) 0).set p.length x:=by
  rw[List.replicate_succ,List.set_append_right _ _ (aI _),Nat.sub_self];rfl
 rw[e];refine⟨by rw[List.length_set];exact h.1,fun i=>?_,?_⟩
 ·have hi:=h.2.1 i
  simp only[rd,aG,aX,List.getElem?_set] at hi⊢;split
  ·split<;>simp<;>omega
  ·exact hi
 ·have hi:=h.2.2
  simp only[rd,aG,aX,List.getElem?_set] at hi⊢;rw[if_neg b];exact hi
theorem CS.set {w0:World} {n:Nat} {A0:Option Addr} {c0:Nat} {E:List S83} {q gx qx s l:Nat} {W:World} {p:List Int} {a:Nat} {x:Int} (h:CS w0 n A0 c0 E q gx qx s l W (p++x::List.replicate a 0)) (b:gx<s) (i:qx<s) (j:w0.heap.size<=s) (y:Int):
  CS w0 n A0 c0 E q gx qx s l (W.setCell ⟨s+1,p.length,none⟩ (.int .i64 y)) (p++y::List.replicate a 0)/\W.grownBy (W.setCell ⟨s+1,p.length,none⟩ (.int .i64 y)) (some (s+1)):=by
 have hp:=Kd.dh h.c (p.length:Int) y;rw[aG] at hp;have iL:∀k,k≠s+1->(W.setCell ⟨s+1,p.length,none⟩ (.int .i64 y)).heap[k]? =W.heap[k]? :=fun k hk=>Below.heap_setCell _ _ _ _ (by simpa using hk)
 refine⟨⟨(iL gx (by omega)).trans h.g,(iL qx (by omega)).trans h.q,(iL s (by omega)).trans h.y,?_,(iL (s+2) (by omega)).trans h.cb,(iL (s+3) (by omega)).trans h.f,h.below.setCell (by show w0.heap.size<=s+1;omega) _⟩,hp.2⟩;have e:(p++x::List.replicate a 0).set p.length y=p++y::List.replicate a 0:=by
  rw[List.set_append_right _ _ (aI _),Nat.sub_self];rfl
 rw[<-e];exact hp.1
theorem CS.cell {w0:World} {n:Nat} {A0:Option Addr} {c0:Nat} {E:List S83} {q gx qx s l:Nat} {W:World} {p:List Int} {b:Nat} {x:Int} (h:CS w0 n A0 c0 E q gx qx s l W (p++x::List.replicate b 0)) (hn:p.length<n):
  W.cell? ⟨s+1,p.length,none⟩=some (.int .i64 x)/\W.frozen? ⟨s+1,p.length,none⟩=false:=by
 obtain⟨h1,a⟩:=Kd.bO (0:Int) h.c (p.length:Int) (by omega) (by omega);rw[aG] at h1 a;refine⟨?_,a⟩;rw[h1];simp[bM,aX]
theorem CN (k m:Nat) (b:Int) (g:Option Addr) (i:Nat) (a:List (S83)) (j:Int) (l:Option Addr) (c2:Nat) (l2:List Int) (r:Bool) (w:World) (n:Kd.C aN w g a.length a) (o:a.length<=i) (p:l2.length=m) (q:Kd.C (Kd.int .i64) w l m l2) (s:m<=c2) (h:eO.f k b a j l2=some r):
  Calls Tryz.prog 176 #[.agg #[.int .i64 b,.slice g a.length i],.int .i64 j,.slice l m c2] w fun e w'=>e= .returned (.bool r)/\Below w.heap.size w w':=by
 subst p;exact eO.calls k b g i a j l c2 l2 r w n o q s h
theorem CO {w0:World} {B K n:Nat} {A0:Option Addr} {c0:Nat} {E:List S83} {q gx qx s l:Nat} {calm:List Int->Bool} {J Jx:List (List Int×Value)->World->Prop} (hn:n<=12) (aL:Kd.C aN w0 A0 E.length E) (aO:E.length<=c0) (X:gx<s) (Y:qx<s) (Z:w0.heap.size<=s)
  (aa:∀c,ja n q c->eO.f K n E q c=some (calm c)) (ab:∀(p:List Int) (x a:Nat),calm (p++(x:Int)::List.replicate a 0)=true->p.length+1+a=n->p.length≠q->x+1<B) (hB:B<=1000) (aP:0<B)
  (ad:∀pre A C,J pre A->A.grownBy C (some (s+1))->J pre C)
  (hY:∀pre x A C,J pre A->re s x A C->pre.length<16384->YieldAt Fence.wide 8 Tryz.prog l #[x.2] C fun e W'=>(e= .returned (.bool true)/\J (pre++[x]) W'/\rf w0 gx qx s C W')\/(e= .returned (.bool false)/\Jx (pre++[x]) W')):
  ∀(a v:Nat) (p:List Int) (pre:List (List Int×Value)) (W:World),p.length=v->v+a=n->CS w0 n A0 c0 E q gx qx s l W (p++List.replicate a 0)->ja n q (p++List.replicate a 0)->J pre W->pre.length+(dz q B calm a p).length<=16384->
  CallsIn Fence.wide 9 Tryz.prog 200 #[.int .i64 v,.pointer (some ⟨gx,0,none⟩),.pointer (some ⟨s,0,none⟩),.pointer (some ⟨s+2,0,none⟩),.pointer (some ⟨qx,0,none⟩),.pointer (some ⟨s+3,0,none⟩)] W (rh w0 B n A0 c0 E q gx qx s l calm J Jx a p pre):=by
 intro a;induction a with
 |zero=>
  intro v p pre W hp hv hC hO H hlen;obtain rfl:v=n:=by omega
  exact CL hn hY p pre W hp (by simpa using hC) H (by simp[dz] at hlen;omega)
 |succ a ih=>
  intro v p pre W hp hv hC hO H hlen;have I:W.cell? ⟨gx,0,none⟩=some (.int .i64 n):=(ah hC.g 0).trans rfl;have L:W.cell? ⟨qx,0,none⟩=some (.int .i64 q):=(ah hC.q 0).trans rfl;have aS:W.cell? ⟨s+3,0,none⟩=some (.func (.func 200) #[] #[.pointer (some ⟨gx,0,none⟩),.pointer (some ⟨s,0,none⟩),.pointer (some ⟨s+2,0,none⟩),.pointer (some ⟨qx,0,none⟩),.pointer (some ⟨s+3,0,none⟩)]):=(ah hC.f 0).trans rfl;have a0:((v:Int)==(n:Int))=false:=by simp;omega
  have hu:=Tryz.underlying24;have am:=zA ih;have i:=zA hC;have HO:=zA hO;have w:=zA H;have HL:=zA hlen;have k:=zA hp;have R:=zA ad;have a1:=zA aa;have a2:=zA ab;have b2:v<12:=by omega
  clear ih hC hO H hlen hY ad aa ab hp;refine callsIn_of_wp Tryz.func200 rfl trivial ?_ rfl;simp only[Tryz.ntmps200,List.size_toArray,List.length_cons,List.length_nil,Nat.reduceAdd,Nat.reduceSub,Array.replicate_succ,Array.replicate_zero,List.push_toArray,List.append_toArray,List.nil_append,List.cons_append];by_cases F:v=q
  ·have r:=am.out (v+1) (p++[0]) pre W (by simp[k.out]) (by omega) (by rw[List.append_assoc];exact i.out) (by rw[List.append_assoc];exact HO.out) w.out (by have h:=HL.out;rw[dz,if_pos (by rw[k.out];exact F)] at h;exact h)
   rw[Int.natCast_add,Int.natCast_one] at r;have S:=zA ((callsIn_wide (n:=8)).2 (callsIn_wide.1 r));clear r;have y:=zA F;clear F;have b3:((v:Int)==(q:Int))=true:=by simp[y.out]
   gi_wp2_with (refine⟨trivial,?_⟩;gi_at_call 200;refine S.out.mono ?_;rintro e w3 j;obtain⟨b,rfl,T⟩:=CK j;clear j)
   go_ret;rcases T.out with⟨rfl,m,j,M,z⟩|⟨rfl,j⟩
   ·exact .inl ⟨m,rfl,j,by rw[dz,if_pos (by rw[k.out];exact y.out)];exact M,by rw[List.append_assoc] at z;exact z⟩
   ·exact .inr ⟨rfl,j⟩
  ·have a3:((v:Int)==(q:Int))=false:=by simp;omega
   have y:=zA (show p.length≠q by rw[k.out];exact F);have a4:=zA (CI q B calm a p y.out);clear F;gi_wp2;clear I L aS a0 a3;gi_loopg [] (B) (fun kq wr=>∃(x:Nat) (m:List (List Int×Value)),x<B/\Aside0 (J (pre++m) wr)/\Aside0 (CS w0 n A0 c0 E q gx qx s l wr (p++(x:Int)::List.replicate a 0))/\Aside0 (dz q B calm (a+1) p=m.map Prod.fst++jX (fun (x:Nat)=>calm (p++(x:Int)::List.replicate a 0)) (fun (x:Nat)=>dz q B calm a (p++[(x:Int)])) (B-x) x)/\Aside0 (kq=B-x))
   case atStart=>exact⟨0,[],aP,⟨by simpa using w.out⟩,i,⟨by rw[a4.out];rfl⟩,⟨rfl⟩⟩
   case round=>
    clear w i;obtain⟨x,m,hx,w,i,HT,HK⟩:=hrel;have N:=zA (CM (x:=x) HO.out y.out (by omega));obtain⟨-, -,U⟩:=Kd.aH i.out.c;rw[N.out.1] at U;have O:=zA ((callsIn_wide (n:=8)).2 (CN K n n A0 c0 E q (some ⟨s+1,0,none⟩) n _ _ wr (Kd.ax aL i.out.below) aO N.out.1 U (aI _) (a1.out _ N.out)));have av:=zA (show jX (fun (x:Nat)=>calm (p++(x:Int)::List.replicate a 0)) (fun (x:Nat)=>dz q B calm a (p++[(x:Int)])) (B-x) x=if calm (p++(x:Int)::List.replicate a 0)=true then dz q B calm a (p++[(x:Int)])++jX (fun (x:Nat)=>calm (p++(x:Int)::List.replicate a 0)) (fun (x:Nat)=>dz q B calm a (p++[(x:Int)])) (B- (x+1)) (x+1) else[] from by rw[show B-x=(B- (x+1))+1 by omega];rfl);have I:wr.cell? ⟨gx,0,none⟩=some (.int .i64 n):=(ah i.out.g 0).trans rfl;have aB:wr.cell? ⟨gx,1,none⟩=some (.slice A0 E.length c0):=(ah i.out.g 1).trans rfl;have L:wr.cell? ⟨qx,0,none⟩=some (.int .i64 q):=(ah i.out.q 0).trans rfl;have aF:wr.cell? ⟨s+2,0,none⟩=some (.slice (some ⟨s+1,0,none⟩) n n):=(ah i.out.cb 0).trans rfl;have b5:(0:Int)<=(v:Int):=by omega
    have b6:(v:Int)<(n:Int):=by omega
    clear U;cases hb:calm (p++(x:Int)::List.replicate a 0) with
    |false=>
     rw[hb] at O;have P:=zA (show dz q B calm (a+1) p=m.map Prod.fst from by rw[HT.out,av.out,if_neg (by rw[hb];decide),List.append_nil]);clear hb;gi_wp2_with (refine⟨trivial,?_⟩;gi_at_call 176;refine O.out.mono ?_;rintro e w1 ⟨rfl,u⟩;have D:=zA (i.out.stay u);have Q:w1.cell? ⟨s+2,0,none⟩=some (.slice (some ⟨s+1,0,none⟩) n n):=(ah D.out.cb 0).trans rfl;have G:=D.out.cell (by rw[k.out];omega);rw[k.out] at G;obtain⟨q2,q3⟩:=G;have bg:=zA u;clear u)
     go_ret;have o:=D.out.set X Y Z 0;rw[k.out] at o;exact .inl ⟨m,rfl,R.out _ _ _ w.out (World.grownBy.trans (jL bg.out _) o.2),P.out.symm,o.1⟩
    |true=>
     rw[hb] at O;have HX:=zA (a2.out p x a hb (by rw[k.out];omega) y.out);have P:=zA (show dz q B calm (a+1) p=m.map Prod.fst++(dz q B calm a (p++[(x:Int)])++jX (fun (x:Nat)=>calm (p++(x:Int)::List.replicate a 0)) (fun (x:Nat)=>dz q B calm a (p++[(x:Int)])) (B- (x+1)) (x+1)) from by rw[HT.out,av.out,if_pos hb]);have bk:=zA (show (pre++m).length+(dz q B calm a (p++[(x:Int)])).length<=16384 from by have h1:=HL.out;rw[P.out] at h1;simp only[List.length_append,List.length_map] at h1⊢;omega);clear hb;gi_wp2_with (refine⟨trivial,?_⟩;gi_at_call 176;refine O.out.mono ?_;rintro e w1 ⟨rfl,u⟩;have D:=zA (i.out.stay u);have Q:w1.cell? ⟨s+3,0,none⟩=some (.func (.func 200) #[] #[.pointer (some ⟨gx,0,none⟩),.pointer (some ⟨s,0,none⟩),.pointer (some ⟨s+2,0,none⟩),.pointer (some ⟨qx,0,none⟩),.pointer (some ⟨s+3,0,none⟩)]):=(ah D.out.f 0).trans rfl;have r:=am.out (v+1) (p++[(x:Int)]) (pre++m) w1 (by simp[k.out]) (by omega) (by rw[List.append_assoc];exact D.out) (by rw[List.append_assoc];exact N.out) (R.out _ _ _ w.out (jL u _)) bk.out;rw[Int.natCast_add,Int.natCast_one] at r;have S:=zA ((callsIn_wide (n:=8)).2 (callsIn_wide.1 r));clear u r)
     refine⟨trivial,?_⟩;refine S.out.mono ?_;rintro e w3 (⟨bn,rfl,j,M,z⟩|⟨rfl,bo,j⟩)
     ·rw[List.append_assoc] at z
      have V:=zA (show CS w0 n A0 c0 E q gx qx s l w3 (p++(x:Int)::List.replicate a 0) from z);have bv:=zA j;have H4:=zA M;clear j M z Q I aB L aF;have Q:w3.cell? ⟨s+2,0,none⟩=some (.slice (some ⟨s+1,0,none⟩) n n):=(ah V.out.cb 0).trans rfl;have G:=V.out.cell (by rw[k.out];omega);have o:=V.out.set X Y Z ((x:Int)+1);rw[k.out] at G o;obtain⟨q2,q3⟩:=G;have bx:=zA o.1;have b0:=zA (R.out _ _ _ bv.out o.2);clear o;have b_:(x:Int)<=1000:=by omega
      gi_wp2;gi_roundg (B- (x+1))
      case measure=>rw[HK.out];omega
      case rel=>exact⟨x+1,m++bn,HX.out,⟨by rw[<-List.append_assoc];exact b0.out⟩,bx,⟨by rw[P.out,List.map_append,H4.out,List.append_assoc]⟩,⟨rfl⟩⟩
     ·have T:=zA j
      clear j Q I aB L aF;gi_wp2;go_ret;exact .inr ⟨rfl,bo,T.out⟩
end
section
attribute [local go_sem] Oper.semAt_some
theorem CP {w0:World} {B K n:Nat} {A0:Option Addr} {c0:Nat} {E:List S83} {q gx qx:Nat} {calm:List Int->Bool} (W:World) (m:Nat) (hS:W.heap.size=m) (hn:n<=12) (ad:Kd.C aN w0 A0 E.length E) (ag:E.length<=c0)
  (G:∀c,ja n q c->eO.f K n E q c=some (calm c)) (H:∀(p:List Int) (x I:Nat),calm (p++(x:Int)::List.replicate I 0)=true->p.length+1+I=n->p.length≠q->x+1<B) (hB:B<=1000) (am:0<B)
  (L:(dz q B calm n []).length<=16384)
  (r:W.heap[gx]? =some (.cells #[.int .i64 n,.slice A0 E.length c0] 24 (0,0))) (w:W.heap[qx]? =some (.cells #[.int .i64 q] 3 (0,0))) (hw:Below w0.heap.size w0 W):
  jw (σ:=Unit) Fence.wide 9 Tryz.prog 199 #[.pointer (some ⟨gx,0,none⟩),.pointer (some ⟨qx,0,none⟩)] (fun x:List Int×Value=>#[x.2]) (fun _ W W1=>W1=W) (fun _ A C=>A.grownBy C (some (m+1))) (fun _ x A C=>re m x A C)
   (fun _ X Y=>rf w0 gx qx m X Y) (fun _ xs W'=>xs.map Prod.fst=dz q B calm n []) (fun _ _ _=>True) (fun pre=>pre.length<16384) W:=by
 intro u J Jx y an M N;subst hS;have O:=M () W rfl;have ap:=zA (fun W' h1 z g=>CO (w0:=w0) (B:=B) (K:=K) (s:=W.heap.size) (l:=u) (J:=J ()) (Jx:=Jx ()) hn ad ag (aC r) (aC w) hw.size G H hB am (fun pre A C h hA=>y _ _ _ _ h hA) (fun pre x A C h1 z g=>N _ _ _ _ _ h1 z g) n 0 [] [] W' rfl (by omega) h1 z g (by simpa using L));have av:=zA y;have aB:=zA O;obtain⟨zs,P,Q⟩:=lH 26 Tryz.underlying26 n (by omega);have HZ:=zA Q;have R:=zA r;have S:=zA w;have T:=zA hw;have bi:(W.alloc (.cells #[.func (.yield u) #[] #[]] 141)).cell? ⟨gx,0,none⟩=some (.int .i64 n):=(ah (au r _) 0).trans rfl;have aL:=zA (show ja n q (List.replicate n 0) from⟨by simp,fun i=>by simp[rd,aX,List.getElem?_replicate];split<;>simp,by simp[rd,aX,List.getElem?_replicate];split<;>simp⟩);have aO:=aC R.out;have aP:=aC S.out;have aR:=T.out.size;obtain⟨a,U⟩:∃o:Obj,o= .cells #[.func (.yield u) #[] #[]] 141:=⟨_,rfl⟩;obtain⟨j,V⟩:∃o:Obj,o= .cells zs 3:=⟨_,rfl⟩;obtain⟨b,Z⟩:∃o:Obj,o= .cells #[.slice (some ⟨W.heap.size+1,0,none⟩) n n] 26:=⟨_,rfl⟩;obtain⟨fo,aa⟩:∃o:Obj,o= .cells #[.func (.func 200) #[] #[.pointer (some ⟨gx,0,none⟩),.pointer (some ⟨W.heap.size,0,none⟩),.pointer (some ⟨W.heap.size+1+1,0,none⟩),.pointer (some ⟨qx,0,none⟩),.pointer (some ⟨W.heap.size+1+1+1,0,none⟩)]] 121:=⟨_,rfl⟩;have v:=zA (ao (ao (ao (ao (aq W.heap.size W) a) j) b) fo);have E0:=zA (show ((((W.alloc a).alloc j).alloc b).alloc fo).heap[W.heap.size]? =some a from by rw[Below.heap_alloc _ _ _ (by simp;omega),Below.heap_alloc _ _ _ (by simp;omega),Below.heap_alloc _ _ _ (by simp)];exact a7 W a);have D:=HZ.out (W.alloc a) (fun k=>k=W.heap.size+1) (by simp);rw[World.size_alloc,<-V] at D;have E1:=zA (Kd.aM (Kd.aM (Kd.bd D (show w0.heap.size<=W.heap.size+1 by omega)) b) fo);have E2:=zA (show ((((W.alloc a).alloc j).alloc b).alloc fo).heap[W.heap.size+2]? =some b from by rw[Below.heap_alloc _ _ _ (by simp)];have h:=a7 ((W.alloc a).alloc j) b;simpa using h);have E3:=zA (show ((((W.alloc a).alloc j).alloc b).alloc fo).heap[W.heap.size+3]? =some fo from by have h:=a7 (((W.alloc a).alloc j).alloc b) fo;simpa using h);have a3:Aside0 (CS w0 n A0 c0 E q gx qx W.heap.size u ((((W.alloc a).alloc j).alloc b).alloc fo) (List.replicate n 0)):=
  ⟨⟨(v.out.block gx aO).trans R.out,(v.out.block qx aP).trans S.out,E0.out.trans (by rw[U]),E1.out,E2.out.trans (by rw[Z]),E3.out.trans (by rw[aa]),T.out.trans (v.out.mono aR)⟩⟩
 have a4:Aside0 (J () [] ((((W.alloc a).alloc j).alloc b).alloc fo)):=⟨av.out _ _ _ _ aB.out (jL v.out _)⟩;have a5:=zA ((callsIn_wide (n:=8)).2 (callsIn_wide.1 (ap.out _ (by simpa using a3.out) (by simpa using aL.out) a4.out)));subst U V Z aa;clear y an M N O G H L Q r w hw D;refine callsIn_of_wp Tryz.func199 rfl trivial ?_ rfl;simp only[Tryz.ntmps199,List.size_toArray,List.length_cons,List.length_nil,Nat.reduceAdd,Nat.reduceSub,Array.replicate_succ,Array.replicate_zero,List.push_toArray,List.append_toArray,List.nil_append,List.cons_append];gi_wp2;refine⟨trivial,?_⟩;refine a5.out.mono ?_;rintro e w3 (⟨vs,rfl,g,h4,h5⟩|⟨rfl,bf,g⟩)
 ·have F:=zA g
  have H4:=zA h4;clear g h4 h5 P;gi_wp2;go_end0;exact⟨⟨_,rfl⟩,.inl ⟨_,vs,H4.out,F.out⟩⟩
 ·have F:=zA g
  clear g P;gi_wp2;go_end0;exact⟨⟨_,rfl⟩,.inr ⟨_,bf,trivial,F.out⟩⟩
end
section
theorem ri {b:Nat->Bool} {u:Nat}:∀(l:List Nat),b u=true->cN b l u=true:=by
 intro l;induction l generalizing b with
 |nil=>exact id
 |cons v l a=>intro h;exact a (b:=ej b v) (by unfold ej;split<;>simp_all)
theorem rj (b:Nat->Bool) (v:Nat) (l:List Nat):cN b (v::l)=cN (ej b v) l:=rfl
section
variable {n:Nat} {c:(Nat->Bool)->Nat->Bool}
theorem rl (g:∀b v,c b v=true->b v=false):∀(f:Nat) (b:Nat->Bool),dY n b<=f->∀v,v<n->c (cN b (fW n c f b)) v=false:=by
 intro f;induction f with
 |zero=>
  intro b h v e;show c b v=false
  cases i:c b v with
  |false=>rfl
  |true=>
   have:=nt e (g b v i);omega
 |succ f j=>
  intro b h v e;cases a:jV n c b with
  |none=>
   simp only[fW,a];unfold jV at a;rw[List.find?_eq_none] at a;have:=a v (List.mem_range.2 e);simpa [cN] using this
  |some v0=>
   have h1:=List.find?_some a;have k:=List.mem_of_find?_eq_some a;have l:=nt (List.mem_range.1 k) (g b v0 (by simpa using h1));simp only[fW,a,rj];exact j (ej b v0) (by omega) v e
theorem CQ (hm:∀(b b':Nat->Bool) v,(∀u,b u=true->b' u=true)->b' v=false->c b v=true->c b' v=true) (S:Nat->Bool):
  ∀(f:Nat) (b:Nat->Bool),(∀v,S v=true->b v=false)->(∃v,v<n/\S v=true/\cN b (fW n c f b) v=true)->∃v,v<n/\S v=true/\c (fun u=> !S u) v=true:=by
 intro f;induction f with
 |zero=>
  rintro b hb ⟨v,j,a,h⟩;have:=hb v a;simp[fW,cN,this] at h
 |succ f k=>
  rintro b hb ⟨v,j,a,h⟩;cases g:jV n c b with
  |none=>
   simp only[fW,g] at h;have:=hb v a;simp[cN,this] at h
  |some v0=>
   have h1:=List.find?_some g;have l:=List.mem_of_find?_eq_some g;simp only[fW,g,rj] at h;cases i:S v0 with
   |true=>
    refine⟨v0,List.mem_range.1 l,i,hm b _ v0 (fun u hu=>?_) (by simp[i]) (by simpa using h1)⟩;cases m:S u with
    |true=>exact absurd hu (by simp[hb u m])
    |false=>rfl
   |false=>
    refine k (ej b v0) (fun u hu=>?_) ⟨v,j,a,h⟩;unfold ej;rw[if_neg (fun e=>by subst e;rw[i] at hu;cases hu)];exact hb u hu
theorem CT (g:∀b v,c b v=true->b v=false) (hm:∀(b b':Nat->Bool) v,(∀u,b u=true->b' u=true)->b' v=false->c b v=true->c b' v=true) (b:Nat->Bool):
  (∀v,v<n->cN b (eF n c b) v=true)↔∀S:Nat->Bool,(∃v,v<n/\S v=true)->(∀v,S v=true->b v=false)->∃v,v<n/\S v=true/\c (fun u=> !S u) v=true:=by
 constructor
 ·rintro h S ⟨v,a,i⟩ hb
  exact CQ hm S (dY n b) b hb ⟨v,a,i,h v a⟩
 ·intro h v a
  cases j:cN b (eF n c b) v with
  |true=>rfl
  |false=>
   obtain⟨u,hu,l,e⟩:=h (fun u=> !cN b (eF n c b) u) ⟨v,a,by simp[j]⟩ (fun u hu=>by
    cases k:b u with
    |false=>rfl
    |true=>simp[ri _ k] at hu)
   have:=rl (n:=n) g (dY n b) b (aI _) u hu;simp only[Bool.not_not] at e;rw[show eF n c b=fW n c (dY n b) b from rfl] at e;rw[this] at e;cases e
end
theorem vp {t:Nat->Nat->Int} (a:∀i j,0<=t i j) {b b':Nat->Bool} (h:∀u,b u=true->b' u=true) (v:Nat):∀u,cM t b v u<=cM t b' v u
 |0=>Int.le_refl _
 |u+1=>by
  have h1:=vp a h v u;have e:=h u;have g:=a v u;simp only[cM];by_cases hb:b u=true
  ·rw[if_pos hb,if_pos (e hb)];omega
  ·rw[if_neg hb]
   split<;>omega
theorem vq {t:Nat->Nat->Int} {b b':Nat->Bool} (v:Nat):∀n,(∀u,u<n->b u=b' u)->cM t b v n=cM t b' v n
 |0,_=>rfl
 |n+1,h=>by
  simp only[cM];rw[vq v n (fun u hu=>h u (by omega)),h n (by omega)]
def kN (n:Nat) (t:Nat->Nat->Int) (q:Nat) (c:Nat->Int):Prop:=∀S:Nat->Bool,(∃v,v<n/\S v=true)->S q=false->∃v,v<n/\S v=true/\c v<cM t (fun u=> !S u) v n
def bZ (n:Nat) (t:Nat->Nat->Int) (q:Nat) (l:List Int):Bool:=(List.range n).all (cN (cI q) (eF n (cC n t l) (cI q)))
theorem jY {n:Nat} {t:Nat->Nat->Int} (m:∀i j,0<=t i j) (q:Nat) (l:List Int):bZ n t q l=true↔kN n t q (fun v=>rd l v):=by
 have h:=CT (n:=n) (c:=cC n t l) (fun b v h=>ny b v h) (fun b b' v hb a g=>by
  unfold cC at g⊢;simp only[Bool.and_eq_true,decide_eq_true_eq] at g⊢;exact⟨by simp[a],Int.lt_of_lt_of_le g.2 (vp m hb v n)⟩) (cI q)
 unfold bZ kN;rw[List.all_eq_true];constructor
 ·intro h1 S hS o
  obtain⟨v,a,k,g⟩:=h.1 (fun v a=>h1 v (List.mem_range.2 a)) S hS (fun v a=>by
   unfold cI;rw[if_neg (fun e=>by subst e;rw[o] at a;cases a)])
  unfold cC at g;simp only[Bool.and_eq_true,decide_eq_true_eq] at g;exact⟨v,a,k,g.2⟩
 ·intro h1 v a
  refine h.2 (fun S hS hb=>?_) v (List.mem_range.1 a);obtain⟨v,a,k,g⟩:=h1 S hS (by
   cases p:S q with
   |false=>rfl
   |true=>have:=hb q p;simp[cI] at this)
  refine⟨v,a,k,?_⟩;unfold cC;simp[k,g]
theorem kN.down {n:Nat} {t:Nat->Nat->Int} {q:Nat} {c a:Nat->Int} (h:kN n t q c) (e:∀v,v<n->a v<=c v):kN n t q a:=by
 intro S hS g;obtain⟨v,b,i,j⟩:=h S hS g;exact⟨v,b,i,Int.lt_of_le_of_lt (e v b) j⟩
def valOf (n:Nat) (t:Nat->Nat->Int) (v:Nat):Int:=cM t (fun u=> !decide (u=v)) v n
theorem kN.lt {n:Nat} {t:Nat->Nat->Int} {q:Nat} {c:Nat->Int} (h:kN n t q c) {v:Nat} (a:v<n) (b:v≠q):c v<valOf n t v:=by
 obtain⟨u,hu,g,i⟩:=h (fun u=>decide (u=v)) ⟨v,a,by simp⟩ (by simpa using fun e=>b e.symm);have:u=v:=by simpa using g
 subst this;exact i
end
theorem lM {k:Nat} {N:Int} {E:List S83} {q:Int} (h:du.f k N E q=some 0):bc.f k N E=some 0/\(0<=N/\N<=12)/\bY (aK E) N.toNat=1/\0<=q/\q<N:=by
 unfold du.f cz.f at h;simp only[Option.bind_assoc] at h;obtain⟨t,e,h⟩:=Option.bind_eq_some_iff.1 h;by_cases a:t=0
 ·subst a
  rw[if_pos rfl] at h;by_cases hk:jz N E=true
  ·rw[if_pos hk] at h
   simp only[Option.bind_some,if_pos] at h;simp only[jz,Bool.and_eq_true,decide_eq_true_eq] at hk;refine⟨e,hk.1,?_⟩;by_cases b:bY (aK E) N.toNat=1
   ·simp only[b,decide_true,if_true] at h
    by_cases h1:q<0
    ·rw[if_pos h1] at h;exact absurd (aQ h) (by decide)
    ·rw[if_neg h1] at h
     by_cases g:q>=N
     ·rw[if_pos g] at h;exact absurd (aQ h) (by decide)
     ·exact⟨b,by omega,by omega⟩
   ·simp[b] at h
  ·rw[if_neg hk] at h;cases h
 ·rw[if_neg a] at h
  simp[a] at h
def lN (N:Int) (E:List S83):Bool:=e9 E&&iT N E
theorem vt {α:Type} {f:Nat->Option α} (h:∀k,ai (f k) (f (k+1))) {k:Nat} {r:α} (hk:f k=some r):∀m,f (k+m)=some r
 |0=>hk
 |m+1=>h _ _ (vt h hk m)
theorem vu {i:Nat} (h:i<=1000):wrap64 ((i:Int)+1)=((i+1:Nat):Int):=by
 rw[show wrap64 ((i:Int)+1)=(i:Int)+1 from by unfold wrap64;omega];omega
theorem CU {x:Int} (h: -1048576<=x/\x<=1048576):ij.f x=some true:=by
 unfold ij.f;rw[if_pos (show x>= -1048576 from h.1)];simp[h.2]
theorem vw (c:List Int) (b:c.length<=12) (h:∀i:Nat, -1048576<=rd c i/\rd c i<=1048576):∀(m K i:Nat),i+m=c.length->m<K->bq.l0 K c c.length i=some 0
 |0,0,i,_,a=>by omega
 |0,K+1,i,hi,_=>by
  rw[bq.l0,if_neg (by omega)]
 |m+1,0,i,_,a=>by omega
 |m+1,K+1,i,hi,a=>by
  rw[bq.l0,if_pos (by omega),if_pos (by omega),if_pos (by omega),CU (h i),Option.bind_some,if_pos rfl,vu (by omega)];exact vw c b h m K (i+1) (by omega) (by omega)
theorem vx (q:Int) (c:List Int) (b:c.length<=12) (h:∀i:Nat,0<=rd c i):∀(m K i:Nat),i+m=c.length->m<K->cV.l0 K q c c.length i=some 0
 |0,0,i,_,a=>by omega
 |0,K+1,i,hi,_=>by
  rw[cV.l0,if_neg (by omega)]
 |m+1,0,i,_,a=>by omega
 |m+1,K+1,i,hi,a=>by
  have e:=h i;rw[cV.l0,if_pos (by omega),if_pos (by omega),if_pos (by omega),if_neg (show ¬rd c i<0 by omega),vu (by omega),vx q c b h m K (i+1) (by omega) (by omega)];split<;>rfl
theorem rp (b:Nat->Bool):∀n,(gA b n).length=0↔(List.range n).all b=true
 |0=>by simp[gA]
 |n+1=>by
  have a:=rp b n;rw[List.range_succ,List.all_append];simp only[gA];cases hb:b n with
  |true=>simp[hb] at a⊢;exact a
  |false=>simp[hb]
theorem CV {k n:Nat} {E:List S83} {q:Nat} {c:List Int} (b:du.f k n E q=some 0) (a:ja n q c):cV.f (k+20) n E q c=some 0:=by
 obtain⟨_,⟨_,hn⟩,_,g,h⟩:=lM b;have j:=a.1;have h1:=vt (fun k=>du.mono n E q k) b 20;have e:bq.f (k+20) c n=some 0:=by
  unfold bq.f jy.f;rw[if_neg (by omega),if_neg (by omega),Option.bind_some,if_pos rfl,if_pos (by omega)];exact vw c (by omega) (fun i=>by have:=a.2.1 i;omega) c.length (k+20) 0 (by omega) (by omega)
 unfold cV.f;rw[h1,Option.bind_some,if_pos rfl,e,Option.bind_some,if_pos rfl];exact vx q c (by omega) (fun i=>(a.2.1 i).1) c.length (k+20) 0 (by omega) (by omega)
theorem CW {k n:Nat} {E:List S83} {q:Nat} {c:List Int} (b:du.f k n E q=some 0) (a:ja n q c):gC.f (k+20) n E q c=some 0:=by
 obtain⟨_,⟨_,hn⟩,_,e,g⟩:=lM b;have h:=a.1;unfold gC.f;rw[CV b a,Option.bind_some,if_pos rfl,if_pos e,if_pos (by omega),if_pos a.2.2]
theorem CX {k n:Nat} {E:List S83} {q:Nat} {c:List Int} (a:du.f k n E q=some 0) (e:iT n E=true) (b:ja n q c):gD.f (k+20) n E q c=some (bZ n (ae E) q c,0):=by
 obtain⟨_,⟨_,hn⟩,_,g,i⟩:=lM a;have j:=b.1;unfold gD.f iH.f;rw[CW a b,Option.bind_some,if_pos rfl,if_pos (by simp only[mD,Bool.and_eq_true,decide_eq_true_eq];exact⟨by omega,e⟩),Option.bind_some,if_pos rfl];congr 2
 rw[aG,aG];have h:=rp (cN (cI q) (jW n E q c)) n;rw[Bool.eq_iff_iff];unfold bZ;rw[show eF n (cC n (ae E) c) (cI q)=jW n E q c from rfl,<-h];simp
theorem CY {k n:Nat} {E:List S83} {q:Nat} {c:List Int} (a:du.f k n E q=some 0) (b:iT n E=true) (e:ja n q c):eO.f (k+20) n E q c=some (bZ n (ae E) q c):=by
 unfold eO.f;rw[CX a b e,Option.bind_some];cases bZ n (ae E) q c<;>simp
theorem CZ {t:Nat->Nat->Int} (a:∀i j,0<=t i j/\t i j<=50) (b:Nat->Bool) (v:Nat) (n:Nat) (hn:n<=12):cM t b v n<=600:=by
 have:=(oZ (burnt:=b) a v n).2;omega
theorem rr {n:Nat} {E:List S83} {q:Nat} (b:iT n E=true) (hn:n<=12) {l:List Int} {v:Nat} (e:v<n) (g:v≠q) (h:bZ n (ae E) q l=true):rd l v<valOf n (ae E) v/\valOf n (ae E) v<=600:=by
 have a:=(iE b).times;exact⟨((jY (fun i j=>(a i j).1) q l).1 h).lt e g,CZ a _ v n hn⟩
def gE (val:List Int) (q:Int) (n j:Nat):List Int:=(List.range n).map fun v=>if v<j/\(v:Int)≠q then rd val v-1 else 0
theorem C0 (val:List Int) (q:Int) (n:Nat):gE val q n 0=List.replicate n 0:=by
 unfold gE;refine List.ext_getElem (by simp) fun i h1 a=>?_
 simp
theorem C1 {val:List Int} {q:Int} {n j:Nat} (h:(j:Int)=q):gE val q n (j+1)=gE val q n j:=by
 unfold gE;refine List.map_congr_left fun v _=>?_
 by_cases e:v=j
 ·subst e;simp[h]
 ·have:(v<j+1/\(v:Int)≠q)↔(v<j/\(v:Int)≠q):=by omega
  simp only[this]
theorem C2 {val:List Int} {q:Int} {n j:Nat} (h:(j:Int)≠q) (a:j<n):gE val q n (j+1)=(gE val q n j).set j (rd val j-1):=by
 refine List.ext_getElem (by simp[gE]) fun i h1 b=>?_
 rw[List.getElem_set];simp only[gE,List.getElem_map,List.getElem_range];by_cases e:j=i
 ·subst e;simp[h]
 ·rw[if_neg e]
  have:(i<j+1/\(i:Int)≠q)↔(i<j/\(i:Int)≠q):=by omega
  simp only[this]
theorem C3 (n:Nat) (E:List S83):(gB n E).length=n:=uP n _ _
theorem C4 {n:Nat} {E:List S83} (h:e9 E=true) (i:Nat):0<=rd (gB n E) i/\rd (gB n E) i<=4000:=by
 have h1:=uR n (cy E E.length) (cy E E.length).length i;have a:=uN h;unfold gB;omega
theorem C5 (k n:Nat) (A0:Option Addr) (c0:Nat) (E:List S83) (q:Int) (a:Option Addr) (cd:Nat) (dl:List Int) (w:World) (h:Kd.C aN w A0 E.length E) (i:E.length<=c0) (hd:Kd.C (Kd.int .i64) w a n dl) (j:n<=cd)
  (hn:n<=12) (l:dl.length=n) (m:bc.f k n E=some 0) (o:e9 E=true) (p:ez n E):
  Calls Tryz.prog 212 #[.agg #[.int .i64 n,.slice A0 E.length c0],.int .i64 q,.slice a n cd] w fun e w'=>∃(gp:Nat) (r b:Option Addr) (s g:Nat) (u:Value),e= .returned (.tuple #[.pointer (some ⟨gp,0,none⟩),.int .i64 0])/\cU w' gp (.slice r n s) q u (.slice b n g) (fun x=>if x<n then iV q (gB n E) dl x else false)/\(Kd.int .i64).R 3 w' w.heap.size (fun _=>True) (.slice b n g) (gB n E)/\Below w.heap.size w w':=by
 subst l;exact Ck k dl.length A0 c0 E q a cd dl w h i hd j hn rfl m o p
def il.f (k:Nat) (N:Int) (E:List S83) (q:Int):Option (List Int×Int):=
 (du.f k N E q).bind fun t=>if t=0 then(if lN N E=true then some (gE (gB N.toNat E) q N.toNat N.toNat,0) else none) else some ([],t)
theorem il.mono:∀a b e k,ai (il.f k a b e) (il.f (k+1) a b e):=by
 intro a b e k;unfold il.f;exact ai.bind (du.mono _ _ _ _) (fun _=>ai.refl _)
theorem C6 (k:Nat) (N:Int) (A0:Option Addr) (c0:Nat) (E:List S83) (q:Int) (t:Int) (w:World) (g:Kd.C aN w A0 E.length E) (h:E.length<=c0)
  (a:du.f k N E q=some t) (b:t≠0):
  Calls Tryz.prog 198 #[.agg #[.int .i64 N,.slice A0 E.length c0],.int .i64 q] w fun e w'=>e= .returned (.tuple #[.slice none 0 0,.int .i64 t])/\Below w.heap.size w w':=by
 have hu:=Tryz.underlying24;have i:=zA a;have l:(t != 0)=true:=by simpa using b
 clear a b;go_enter Tryz.func198,Tryz.ntmps198
 go_wp2_with (go_at_call 211;refine(du.calls k N A0 c0 E q t _ (Kd.bz g _) h i.out).mono ?_;rintro e w1 ⟨rfl,hb⟩;have j:=zA (aW (ao (aq w.heap.size w) _) hb);clear hb)
 go_ret2;exact⟨rfl,j.out⟩
theorem C7 (k n:Nat) (A0:Option Addr) (c0:Nat) (E:List S83) (q:Int) (w:World) (L:Kd.C aN w A0 E.length E) (M:E.length<=c0)
  (u:du.f k n E q=some 0) (N:e9 E=true) (O:ez n E):
  Calls Tryz.prog 198 #[.agg #[.int .i64 n,.slice A0 E.length c0],.int .i64 q] w fun e w'=>∃v,e= .returned (.tuple #[v,.int .i64 0])/\(Kd.int .i64).R 3 w' w.heap.size (fun _=>True) v (gE (gB n E) q n n)/\Below w.heap.size w w':=by
 have hu:=Tryz.underlying24;have bo:=Tryz.underlying236;obtain⟨P,⟨_,hn⟩,_,bv,bw⟩:=lM u;obtain⟨zs,aF,Q⟩:=lH 25 Tryz.underlying25 n (by omega);obtain⟨ys,aL,S⟩:=lH 26 Tryz.underlying26 n (by omega);have HZ:=zA Q;have HY:=zA S;have aR:=zA u;have Hg:=zA P;have T:=zA N;have HI:=zA O;have a0:n<=12:=by omega
 clear Q S u P N O hn;have y:=zA (a7 w (.cells #[.int .i64 n,.slice A0 E.length c0] 24));go_enter Tryz.func198,Tryz.ntmps198
 go_wp2_with (go_at_call 211;refine(du.calls k n A0 c0 E q 0 _ (Kd.bz L _) M aR.out).mono ?_;rintro e w1 ⟨rfl,hb⟩;have b:=zA (aW (ao (aq w.heap.size w) _) hb);have a:=zA (aD y.out hb);clear hb)
 generalize z:w.heap.size=gb at y b a⊢;have a1:=aC a.out;have a2:w1.cell? ⟨gb,0,none⟩=some (.int .i64 n):=(ah a.out 0).trans rfl;have a3:w1.cell? ⟨gb,1,none⟩=some (.slice A0 E.length c0):=(ah a.out 1).trans rfl;have a4:(w1.alloc (.cells zs 3)).drew.cell? ⟨gb,0,none⟩=some (.int .i64 n):=(ah (au a.out _) 0).trans rfl;have a5:(w1.alloc (.cells zs 3)).drew.cell? ⟨gb,1,none⟩=some (.slice A0 E.length c0):=(ah (au a.out _) 1).trans rfl;have U:=zA (C5 k n A0 c0 E q (some ⟨w1.heap.size,0,none⟩) n (List.replicate n 0) (w1.alloc (.cells zs 3)).drew (Kd.fD (Kd.bz (Kd.ax L (by rw[z];exact b.out)) _)) M (by have h:=(Kd.aH (Kd.bj (HZ.out w1 (fun _=>True) trivial))).2.2;rw[List.length_replicate] at h;exact h) (aI _) a0 (by simp) Hg.out T.out HI.out);have B:Aside0 (gb<=(w1.alloc (.cells zs 3)).drew.heap.size):=⟨by have h:(w1.alloc (.cells zs 3)).drew.heap.size=w1.heap.size+1:=World.size_alloc w1 _;omega⟩;have V:=zA (bR (b.out.alloc (Nat.le_of_lt a1) (.cells zs 3)));have W:=zA (show (w1.alloc (.cells zs 3)).drew.heap[gb]? =some (.cells #[.int .i64 n,.slice A0 E.length c0] 24 (0,0)) from au a.out _);go_wp2;go_region_with ((go_at_call 212;refine U.out.mono ?_;rintro e w2 ⟨gp,bx,X,b0,Y,rv,rfl,Z,hR,hb⟩;have ab:=zA (V.out.trans (hb.mono B.out));have D:=zA (aD W.out hb);have ag:=zA Z;have F:=zA (Kd.bd hR B.out);clear Z hR hb))
 all_goals have a9:w2.cell? ⟨gb,0,none⟩=some (.int .i64 n):=(ah D.out 0).trans rfl
 all_goals have G:=aC D.out
 all_goals have ak:=zA (ag.out.below (ao (aq w2.heap.size w2) (.cells ys 3)))
 all_goals have r:=zA (Kd.aM F.out (.cells ys 3))
 all_goals have H:=zA (ab.out.alloc (Nat.le_of_lt G) (.cells ys 3))
 all_goals have g:=zA (Kd.bd (HY.out w2 (fun k=>k=w2.heap.size) rfl) (Nat.le_of_lt G))
 all_goals have be:=ak.out.o_
 all_goals have am:Aside0 (some w2.heap.size≠(Value.slice X n Y).ownBlock):=⟨fun e=>by have:=Kd.ba F.out _ e.symm;omega⟩
 all_goals clear y b a V W B U ab D ag F a2 a3 a4 a5 aF
 all_goals go_wp2
 all_goals clear a9 aL G be ak
 all_goals generalize w2.alloc (.cells ys 3)=w3 at r H g⊢
 all_goals generalize w2.heap.size=l at g am⊢
 all_goals
  have an:=zA (C4 (n:=n) T.out);have ap:=zA (C3 n E);obtain⟨vl,I⟩:∃vl,vl=gB n E:=⟨_,rfl⟩;rw[<-I] at r an ap;have bf:=zA I;clear I;rw[<-C0 vl q n] at g;go_loopw [38] (fun i wr=>∃(j:Nat),j<=n/\i= .int .i64 j/\Aside0 ((Kd.int .i64).R 3 wr gb (fun _=>True) (.slice X n Y) vl)/\Aside0 ((Kd.int .i64).R 3 wr gb (fun k=>k=l) (.slice (some ⟨l,0,none⟩) n n) (gE vl q n j))/\Aside0 (Below gb w wr)) (fun i _=>n- (intOf i).toNat)
  case atStart=>exact⟨0,by omega,rfl,r,g,H⟩
  case round=>
   clear r g H;obtain⟨j,hj,rfl,J,m,K⟩:=hrel;by_cases bg:j<n
   ·obtain⟨-, -,hC⟩:=Kd.aH J.out
    rw[ap.out] at hC;obtain⟨ad,rfl,hx⟩:=Kd.bJ hC j (by omega) (by omega);rw[aG] at hx;clear hC;have bi:=an.out j;have b3:(0:Int)<=(j:Int):=by omega
    have b4:(j:Int)<(n:Int):=by omega
    by_cases o:(j:Int)=q
    ·have s:=zA (C1 (val:=vl) (n:=n) o)
     subst o;go_wp2;go_roundw
     case rel=>exact⟨j+1,by omega,by go_num,J,⟨by rw[s.out];exact m.out⟩,K⟩
     case measure=>exact(show n- ((j:Int)+1).toNat<n- ((j:Int)).toNat by omega)
    ·have s:=zA (C2 (val:=vl) o bg)
     have b5:((j:Int) != q)=true:=by simpa using o
     obtain⟨bk,bn⟩:=Kd.bO (0:Int) m.out (j:Int) (by omega) (by omega);have hp:=Kd.dh m.out (j:Int) (rd vl j-1);rw[aG] at bk bn hp;have av:=zA hp.1;have aB:=zA (Kd.iS J.out rfl hp.2 am.out);have b:=zA (Below.setCell (p:=⟨l,j,none⟩) K.out (Kd.dK m.out l rfl) (.int .i64 (rd vl j-1)));clear hp o;generalize rd vl j=x at hx bi av aB b s;go_wp2;go_roundw
     case rel=>exact⟨j+1,by omega,by go_num,aB,⟨by rw[s.out];exact av.out⟩,b⟩
     case measure=>exact(show n- ((j:Int)+1).toNat<n- ((j:Int)).toNat by omega)
   ·obtain rfl:j=n:=by omega
    go_wp2;go_ret2;exact⟨.slice (some ⟨l,0,none⟩) _ _,rfl,by rw[z,<-bf.out];exact Kd.a_ m.out (fun _ _=>trivial),by rw[z];exact K.out⟩
theorem il.calls (k:Nat) (g:Int) (i:Option Addr) (j:Nat) (a:List (S83)) (l:Int) (p:List Int) (q:Int) (w:World) (r:Kd.C aN w i a.length a) (s:a.length<=j) (h:il.f k g a l=some (p,q)):
  Calls Tryz.prog 198 #[.agg #[.int .i64 g,.slice i a.length j],.int .i64 l] w fun e w'=>∃u:Value,e= .returned (.tuple #[u,.int .i64 q])/\Kd.R (Kd.int .i64) 3 w' w.heap.size (fun _=>True) u p/\Below w.heap.size w w':=by
 unfold il.f at h;obtain⟨t,m,H⟩:=Option.bind_eq_some_iff.mp h;by_cases o:t=0
 ·subst o
  rw[if_pos rfl] at H;by_cases b:lN g a=true
  ·rw[if_pos b] at H
   simp only[Option.some.injEq,Prod.mk.injEq] at H;obtain⟨rfl,rfl⟩:=H;obtain⟨_,⟨v,x⟩,_,_⟩:=lM m;obtain⟨n,rfl⟩:=Int.eq_ofNat_of_zero_le v;simp only[lN,Bool.and_eq_true] at b;rw[aG];exact C7 k n i j a l w r s m b.1 (iE b.2)
  ·rw[if_neg b] at H;cases H
 ·rw[if_neg o] at H
  simp only[Option.some.injEq,Prod.mk.injEq] at H;obtain⟨rfl,rfl⟩:=H;refine(C6 k g i j a l t w r s m o).mono ?_;rintro e w' ⟨rfl,hb⟩;exact⟨_,rfl,Kd.dm _ _ _ _ _,hb⟩
def f_.f (k:Nat) (b:Int) (e:List (S83)) (g:Int):Option (List Int×Int):=(il.f k b e g).bind fun a=>(some (a.1,a.2))
theorem f_.mono:∀a0 a a2 k,ai (f_.f k a0 a a2) (f_.f (k+1) a0 a a2):=by
 intro a0 a a2 k;unfold f_.f;with_reducible repeat' first|exact il.mono _ _ _ _|exact ai.refl _|exact ai.none _|refine ai.ite ?_ ?_|refine ai.bind ?_ (fun _=>?_)
theorem f_.calls (k:Nat) (b:Int) (j:Option Addr) (l:Nat) (a:List (S83)) (i:Int) (m:List Int) (n:Int) (w:World) (q:Kd.C aN w j a.length a) (r:a.length<=l) (h:f_.f k b a i=some (m,n)):
  Calls Tryz.prog 173 #[.agg #[.int .i64 b,.slice j a.length l],.int .i64 i] w fun e w'=>∃s:Value,e= .returned (.tuple #[s,.int .i64 n])/\Kd.R (Kd.int .i64) 3 w' w.heap.size (fun _=>True) s m/\Below w.heap.size w w':=by
 have G:=Tryz.underlying24;have y:=zA q;have z:=zA r;clear q r;have g:=zA (aq w.heap.size w);have H:((il.f k b a i).bind fun u=>(some (u.1,u.2)))=some (m,n):=h;clear h;obtain⟨⟨B,D⟩,E,H⟩:=zo H;dsimp only at H;simp only[Option.some.injEq,Prod.mk.injEq] at H;obtain⟨rfl,rfl⟩:=H;go_enter Tryz.func173,Tryz.ntmps173
 go_wp2_with (first|((with_reducible refine aU (N:=2) rfl ?_);refine zX 2 #[.int .i64 b,.slice j a.length l] 24 ?_;intro I o J v hb;have p:=zA (v);have K:=zG g o;have L:=zG g o;replace g:=zS g hb;clear hb v o;obtain⟨M,O,P,Q⟩:=aA p)|((with_reducible refine aJ (f:=198) rfl ?_);refine zL (some 8) Tryz.func198 #[.agg #[.int .i64 b,.slice j a.length l],.int .i64 i] ?_;(with_reducible refine(il.calls k b _ _ a i B D _ ?al ?aj E.out).mono ?_);(case al=>exact Kd.ax y.out zB);(case aj=>exact z.out);rintro e S ⟨T,rfl,x,hb⟩;refine⟨_,rfl,?_⟩;have F:=zA (Kd.bd x (bH zB));replace p:=zb p hb;replace g:=zS g hb;(try clear hb);(try clear x)))
 go_ret2;exact⟨_,zE,by(with_reducible repeat(first|apply Kd.aM|apply Kd.bs|apply Kd.bj));exact F.out,zB⟩
section
attribute [local go_sem] Oper.semAt_some
theorem vy {P:Program} {ty:TypeId} {d:TypeDesc} (w:World) (a:Addr) (v:Value) (h:P.underlying ty=some d) (k:(match d with| .struct _| .array _ _=>true|_=>false)=false) (c:w.cell? a=some v):(loadVar ty a).run P w= .ok v w:=by
 have e:(isAgg ty).run P w= .ok false w:=by
  unfold isAgg;rw[Sem.run_bind];have hu:(underlying ty).run P w= .ok d w:=by simp[underlying,Sem.run_bind,Result.andThen,h]
  rw[hu];cases d<;>first|(simp at k;done)|rfl
 unfold loadVar;rw[Sem.run_bind,e];simp[Result.andThen,go_sem,c]
theorem ru {P:Program} {fn:Func} {p u:Tmp} {t1 t2:TypeId} {d1 d2:TypeDesc} (h:fn.results=#[.cell p t1,.cell u t2]) (tmps:Array Value) (w:World) (a b:Addr) (v1 v2:Value) (hp:tmps.getD p undef= .pointer (some a)) (hu:tmps.getD u undef= .pointer (some b))
  (h1:P.underlying t1=some d1) (e:P.underlying t2=some d2) (g:(match d1 with| .struct _| .array _ _=>true|_=>false)=false) (i:(match d2 with| .struct _| .array _ _=>true|_=>false)=false) (c1:w.cell? a=some v1) (c2:w.cell? b=some v2):
  (results fn tmps).run P w= .ok (.tuple #[v1,v2]) w:=by
 have j:tmps[p]?.getD undef= .pointer (some a):=by simpa using hp
 have k:tmps[u]?.getD undef= .pointer (some b):=by simpa using hu
 simp[results,h,j,k,asAddr,Sem.run_bind,Result.andThen,vy w a v1 h1 g c1,vy w b v2 e i c2]
theorem C8 (N:Int) (A0:Option Addr) (c0:Nat) (E:List S83) (q:Int) (w:World):Calls Tryz.prog 174 #[.agg #[.int .i64 N,.slice A0 E.length c0],.int .i64 q] w fun e w'=>e= .returned (.func (.func 199) #[] #[.pointer (some ⟨w.heap.size,0,none⟩),.pointer (some ⟨w.heap.size+1,0,none⟩)])/\w'=(w.alloc (.cells #[.int .i64 N,.slice A0 E.length c0] 24)).alloc (.cells #[.int .i64 q] 3):=by
 go_enter Tryz.func174,Tryz.ntmps174
 go_wp2;go_ret;exact⟨rfl,rfl⟩
def pc:Nat:=1000
def dp (n:Nat) (E:List S83) (q:Nat):List (List Int):=dz q pc (bZ n (ae E) q) n []
def eP.f (k:Nat) (N:Int) (E:List S83) (q:Int):Option (List (List Int)×Int):=
 (f_.f k N E q).bind fun t=>if t.2=0 then(if(dp N.toNat E q.toNat).length<=16384 then some (dp N.toNat E q.toNat,0) else none) else some ([],t.2)
theorem eP.mono:∀a b e k,ai (eP.f k a b e) (eP.f (k+1) a b e):=by
 intro a b e k;unfold eP.f;exact ai.bind (f_.mono _ _ _ _) (fun _=>ai.refl _)
theorem vz {k:Nat} {N:Int} {E:List S83} {q:Int} {l:List Int} (h:f_.f k N E q=some (l,0)):du.f k N E q=some 0/\e9 E=true/\iT N E=true/\l=gE (gB N.toNat E) q N.toNat N.toNat:=by
 unfold f_.f il.f at h;simp only[Option.bind_assoc] at h;obtain⟨t,b,h⟩:=Option.bind_eq_some_iff.1 h;by_cases a:t=0
 ·subst a
  rw[if_pos rfl] at h;by_cases hk:lN N E=true
  ·rw[if_pos hk] at h
   simp only[lN,Bool.and_eq_true] at hk;simp only[Option.bind_some,Option.some.injEq,Prod.mk.injEq] at h;exact⟨b,hk.1,hk.2,h.1.symm⟩
  ·rw[if_neg hk] at h;cases h
 ·rw[if_neg a] at h
  simp only[Option.bind_some,Option.some.injEq,Prod.mk.injEq] at h;exact absurd h.2 a
theorem C9 {F:Fence} {n:Nat} {P:Program} {fn:Func} {R:Ending->World->Prop} {a:Act} {w:World} {v:Value} (hd:a.defers=[]) (b:(results fn a.tmps).run P w= .ok v w) (e:R (.returned v) w):bodyPostM F n P fn R .ret a w:=by
 show LeavesInM F n P fn a.tmps R a.defers .returning w
 rw[hd];exact⟨_,b,e⟩
theorem C_ {w1:World} {r:Nat} {t1 t2:TypeId} {u1 u2:Value} (v1 v2:Value) (a:w1.heap[r]? =some (.cells #[u1] t1 (0,0))) (b:w1.heap[r+1]? =some (.cells #[u2] t2 (0,0))):
  ((w1.setCell ⟨r,0,none⟩ v1).setCell ⟨r+1,0,none⟩ v2).cell? ⟨r,0,none⟩=some v1/\((w1.setCell ⟨r,0,none⟩ v1).setCell ⟨r+1,0,none⟩ v2).cell? ⟨r+1,0,none⟩=some v2:=by
 have h1:=bV a 0 v1;have e:=aE (p:=⟨r+1,0,none⟩) h1 (by show r≠r+1;omega) v2;have g:=aE (p:=⟨r,0,none⟩) b (by show r+1≠r;omega) v1;have h:=bV g 0 v2;exact⟨(ah e 0).trans (by simp),(ah h 0).trans (by simp)⟩
theorem nC (w:World) (a b e:Obj):(((w.alloc a).alloc b).alloc e).heap[w.heap.size]? =some a/\(((w.alloc a).alloc b).alloc e).heap[w.heap.size+1]? =some b/\(((w.alloc a).alloc b).alloc e).heap[w.heap.size+1+1]? =some e:=by
 refine⟨?_,?_,?_⟩
 ·rw[Below.heap_alloc _ _ _ (by simp;omega),Below.heap_alloc _ _ _ (by simp)];exact a7 w a
 ·rw[Below.heap_alloc _ _ _ (by simp)];have h:=a7 (w.alloc a) b;simpa using h
 ·have h:=a7 ((w.alloc a).alloc b) e;simpa using h
theorem Da (k:Nat) (N:Int) (A0:Option Addr) (c0:Nat) (E:List S83) (q:Int) (l:List Int) (t:Int) (w:World) (j:Kd.C aN w A0 E.length E) (m:E.length<=c0) (hf:f_.f k N E q=some (l,t)) (g:t≠0):
  Calls Tryz.prog 114 #[.agg #[.int .i64 N,.slice A0 E.length c0],.int .i64 q] w fun e w'=>e= .returned (.tuple #[.slice none 0 0,.int .i64 t])/\Below w.heap.size w w':=by
 have hu:=Tryz.underlying24;have o:=zA hf;have x:(t != 0)=true:=by simpa using g
 have a:=zA (nC w (.cells #[.int .i64 N,.slice A0 E.length c0] 24) (.cells #[.slice none 0 0] 33) (.cells #[.int .i64 0] 30));have y:(((w.alloc (.cells #[.int .i64 N,.slice A0 E.length c0] 24)).alloc (.cells #[.slice none 0 0] 33)).alloc (.cells #[.int .i64 0] 30)).cell? ⟨w.heap.size,0,none⟩=some (.int .i64 N):=(ah a.out.1 0).trans rfl;have z:(((w.alloc (.cells #[.int .i64 N,.slice A0 E.length c0] 24)).alloc (.cells #[.slice none 0 0] 33)).alloc (.cells #[.int .i64 0] 30)).cell? ⟨w.heap.size,1,none⟩=some (.slice A0 E.length c0):=(ah a.out.1 1).trans rfl;clear hf g;refine(callsIn_wide (n:=10)).1 ?_;refine callsIn_of_wp_marks Tryz.func114 rfl trivial ?_ rfl;simp only[Tryz.ntmps114,List.size_toArray,List.length_cons,List.length_nil,Nat.reduceAdd,Nat.reduceSub,Array.replicate_succ,Array.replicate_zero,List.push_toArray,List.append_toArray,List.nil_append,List.cons_append];gi_wp2_with (refine⟨trivial,?_⟩;gi_at_call 173;refine(callsIn_wide.2 (f_.calls k N A0 c0 E q l t _ (Kd.bz (Kd.bz (Kd.bz j _) _) _) m o.out)).mono ?_;rintro e w1 ⟨v,rfl,r,hb⟩;have s:=zA ((ao (ao (ao (aq w.heap.size w) _) _) _).trans (hb.mono (by simp;omega)));have b:=zA (aD a.out.2.1 hb);have h:=zA (aD a.out.2.2 hb);have B:w1.cell? ⟨w.heap.size+1,0,none⟩=some (.slice none 0 0):=(ah b.out 0).trans rfl;have D:w1.frozen? ⟨w.heap.size+1,0,none⟩=false:=bF b.out 0;have i:=zA (aE (p:=⟨w.heap.size+1,0,none⟩) h.out (by show w.heap.size+1+1≠w.heap.size+1;omega) (.slice none 0 0));have F:(w1.setCell ⟨w.heap.size+1,0,none⟩ (.slice none 0 0)).cell? ⟨w.heap.size+1+1,0,none⟩=some (.int .i64 0):=(ah i.out 0).trans rfl;have G:=bF i.out 0;clear r hb)
 obtain⟨c1,c2⟩:=C_ (.slice none 0 0) (.int .i64 t) b.out h.out;exact C9 rfl (ru (p:=4) (u:=5) rfl _ _ ⟨w.heap.size+1,0,none⟩ ⟨w.heap.size+1+1,0,none⟩ _ _ rfl rfl Tryz.underlying33 Tryz.underlying30 rfl rfl c1 c2) ⟨rfl,(s.out.setCell (p:=⟨w.heap.size+1,0,none⟩) (by show w.heap.size<=w.heap.size+1;omega) _).setCell (p:=⟨w.heap.size+1+1,0,none⟩) (by show w.heap.size<=w.heap.size+1+1;omega) _⟩
end
end Go.Proofs.YtffdiakgjakngaaGreat.P


namespace Go.Proofs.YtffdiakgjakngaaGreat.P
open Go.RowKit Go.Proofs.YtffdiakgjakngaaGreatW.PrintWords Go.Proofs.YtffdiakgjakngaaGreatW.PrintLast Go.Proofs.YtffdiakgjakngaaGreatW.PrintMore
set_option linter.unusedVariables false
set_option linter.unusedSimpArgs false
set_option maxHeartbeats 8000000
set_option maxRecDepth 100000
section
attribute [local go_sem] Oper.semAt_some
theorem Db (k n:Nat) (A0:Option Addr) (c0:Nat) (E:List S83) (q:Nat) (l:List Int) (w:World) (aP:Kd.C aN w A0 E.length E) (aR:E.length<=c0) (hf:f_.f k n E q=some (l,0)) (aS:(dp n E q).length<=16384):
  Calls Tryz.prog 114 #[.agg #[.int .i64 n,.slice A0 E.length c0],.int .i64 q] w fun e w'=>∃v,e= .returned (.tuple #[v,.int .i64 0])/\(Kd.slice 3 (Kd.int .i64)).R 26 w' w.heap.size (fun _=>True) v (dp n E q)/\Below w.heap.size w w':=by
 have hu:=Tryz.underlying24;obtain⟨hr,hm,an, -⟩:=vz hf;obtain⟨_,⟨_,hn⟩,_,ce,cf⟩:=lM hr;have a0:n<=12:=by omega
 have cg:=zA (fun c (hc:ja n q c)=>CY hr an hc);have ch:Aside0 (∀(p:List Int) (x Q:Nat),bZ n (ae E) q (p++(x:Int)::List.replicate Q 0)=true->p.length+1+Q=n->p.length≠q->x+1<pc):=⟨fun p x Q h hp ci=>by
  have h1:=rr an a0 (v:=p.length) (by omega) ci h;have hx:rd (p++(x:Int)::List.replicate Q 0) p.length=x:=by simp[rd,aX]
  rw[hx] at h1;show x+1<1000
  omega⟩
 have ck:=zA aS;have Hf:=zA hf;have m:=zA (nC w (.cells #[.int .i64 n,.slice A0 E.length c0] 24) (.cells #[.slice none 0 0] 33) (.cells #[.int .i64 0] 30));have cn:(((w.alloc (.cells #[.int .i64 n,.slice A0 E.length c0] 24)).alloc (.cells #[.slice none 0 0] 33)).alloc (.cells #[.int .i64 0] 30)).cell? ⟨w.heap.size,0,none⟩=some (.int .i64 n):=(ah m.out.1 0).trans rfl;have co:(((w.alloc (.cells #[.int .i64 n,.slice A0 E.length c0] 24)).alloc (.cells #[.slice none 0 0] 33)).alloc (.cells #[.int .i64 0] 30)).cell? ⟨w.heap.size,1,none⟩=some (.slice A0 E.length c0):=(ah m.out.1 1).trans rfl;clear hf hr hm an aS ce cf hn;refine(callsIn_wide (n:=10)).1 ?_;refine callsIn_of_wp_marks Tryz.func114 rfl trivial ?_ rfl;simp only[Tryz.ntmps114,List.size_toArray,List.length_cons,List.length_nil,Nat.reduceAdd,Nat.reduceSub,Array.replicate_succ,Array.replicate_zero,List.push_toArray,List.append_toArray,List.nil_append,List.cons_append];gi_wp2_with (first|(refine⟨trivial,?_⟩;gi_at_call 173;refine(callsIn_wide.2 (f_.calls k n A0 c0 E q l 0 _ (Kd.bz (Kd.bz (Kd.bz aP _) _) _) aR Hf.out)).mono ?_;rintro e w1 ⟨v,rfl,cp,hb⟩;have HB:=zA ((ao (ao (ao (aq w.heap.size w) _) _) _).trans (hb.mono (by simp;omega)));have X0:=zA (aD m.out.1 hb);have z:=zA (aD m.out.2.1 hb);have L:=zA (aD m.out.2.2 hb);have y0:(w1.alloc (.cells #[.slice none 0 0] 33)).cell? ⟨w.heap.size,0,none⟩=some (.int .i64 n):=(ah (au X0.out _) 0).trans rfl;have y1:(w1.alloc (.cells #[.slice none 0 0] 33)).cell? ⟨w.heap.size,1,none⟩=some (.slice A0 E.length c0):=(ah (au X0.out _) 1).trans rfl;clear cp hb)|(refine⟨trivial,?_⟩;gi_at_call 174;refine(callsIn_wide.2 (C8 n A0 c0 E q _)).mono ?_;rintro e w3 ⟨rfl,rfl⟩))
 have ct:w.heap.size+1+1<w1.heap.size:=aC L.out;have c2:=HB.out.size;obtain⟨S,a2⟩:∃o:Obj,o= .cells #[.int .i64 n,.slice A0 E.length c0] 24:=⟨_,rfl⟩;obtain⟨T,a3⟩:∃o:Obj,o= .cells #[.int .i64 q] 3:=⟨_,rfl⟩;obtain⟨U,a4⟩:∃o:Obj,o= .cells #[.slice none 0 0] 33:=⟨_,rfl⟩;obtain⟨Z0,Z1,Z2⟩:=nC w1 U S T;have M:=zA (Z0.trans (by rw[a4]:_=some (.cells #[.slice none 0 0] 33 (0,0))));have V:=zA (Z1.trans (by rw[a2]:_=some (.cells #[.int .i64 n,.slice A0 E.length c0] 24 (0,0))));have X:=zA (Z2.trans (by rw[a3]:_=some (.cells #[.int .i64 q] 3 (0,0))));have Y:=zA (ao (ao (ao HB.out U) S) T);have bf:=zA (au (au (au z.out U) S) T);have bg:=zA (au (au (au L.out U) S) T);clear Z0 Z1 Z2;subst a2 a3 a4;clear y0 y1 cn co X0 z L HB m;generalize (((w1.alloc (.cells #[.slice none 0 0] 33)).alloc (.cells #[.int .i64 n,.slice A0 E.length c0] 24)).alloc (.cells #[.int .i64 q] 3))=a at M V X Y bf bg⊢;have c3:=aC M.out;have c4:=aC V.out;have c5:=aC X.out;generalize c6:w1.heap.size+1+1=qx at X c5⊢;generalize c7:w1.heap.size+1=gx at V c4 c6⊢;generalize w1.heap.size=bo at M ct c2 c3 c7⊢;have ea:=Y.out.size;refine iU (σ:=Unit) (α:=List Int×Value) (F:=Fence.wide) (n:=10) rfl (by decide) (gf:=199) (lb:=#[.pointer (some ⟨gx,0,none⟩),.pointer (some ⟨qx,0,none⟩)]) rfl trivial (enters_of Tryz.func199 (by kernel_rfl) rfl)
  (fun o=>CP (w0:=w) (B:=pc) (K:=k+20) (n:=n) (A0:=A0) (c0:=c0) (E:=E) (q:=q) (gx:=gx) (qx:=qx) (calm:=bZ n (ae E) q) _ (a.heap.size+2) (by simp) a0 aP aR cg.out ch.out (by decide) (by decide) ck.out (au (au V.out _) _) (au (au X.out _) _) (ao (ao Y.out _) _)) (fun _=>rfl)
  (fun _=>True) ?eL ?st ?ar
  (fun _ pre W=>a.heap.size+2<=W.heap.size/\∃v,W.heap[bo]? =some (.cells #[v] 33 (0,0))/\W.heap[w.heap.size+1]? =some (.cells #[.slice none 0 0] 33 (0,0))/\W.heap[w.heap.size+1+1]? =some (.cells #[.int .i64 0] 30 (0,0))/\(Kd.slice 3 (Kd.int .i64)).R 26 W w.heap.size (fun k=>¬(k=gx\/k=qx\/a.heap.size+2<=k/\k<a.heap.size+2+4)) v (pre.map Prod.fst)/\Below w.heap.size w W) (fun _ _ _ _=>False)
  ?is (fun _ _ _ _ _ _ h _=>h) ?ib (fun _ _ _ _ _ h _=>h) ?kt ?h0 ?a1 ?assign ?body ?done (fun _ _ _ _ _ _ _ h=>h.elim)
 case assign=>
  intro l x W K hK;gi_wp2;exact hK
 case eL=>
  intro o s W1 h;exact⟨trivial,by rw[h];exact cB.refl _ _⟩
 case st=>intro s A B _ h k o h1 H g _;exact(h.block k (Array.getElem?_eq_some_iff.1 g).1 (fun e=>by injection e;omega)).trans g
 case ar=>intro s x A B _ h k o h1 H g _;exact(h.1.block k (Array.getElem?_eq_some_iff.1 g).1 (fun e=>by injection e;omega)).trans g
 case is=>
  rintro s pre A B _ ⟨N,v,h1,H,g,h4,Z⟩ I;exact⟨Nat.le_trans N I.size,v,(I.block bo (aC h1) (fun e=>by injection e;omega)).trans h1,(I.block _ (aC H) (fun e=>by injection e;omega)).trans H,(I.block _ (aC g) (fun e=>by injection e;omega)).trans g,Kd.l7 h4 I (fun k hk e=>hk (.inr (.inr (by injection e;omega)))),kx Z _ Z.size I (fun k e=>by injection e;omega)⟩
 case ib=>
  rintro s pre A B ⟨N,v,h1,H,g,h4,Z⟩ hb;exact⟨by rw[hb.size];exact N,v,hb.cells h1,hb.cells H,hb.cells g,dD h4 hb,Z.trans (hb.below w.heap.size (by omega))⟩
 case kt=>
  intro s A B C D aa bi bk;refine⟨fun aY=>((aa.below w.heap.size (by omega)).trans (bi.1 (by rw[aa.size];exact aY))).trans (bk.below w.heap.size (by omega)),fun k hk aY=>?_⟩;have bn:k≠a.heap.size+1:=by rcases hk with rfl|rfl|hk<;>omega
  exact(bk.heap k bn).trans ((bi.2 k hk (by rw[aa.size];exact aY)).trans (aa.heap k bn))
 case h0=>
  rintro o s W1 rfl;exact⟨by simp,_,au (au M.out _) _,au (au bf.out _) _,au (au bg.out _) _,Kd.dm _ _ _ _ _,ao (ao Y.out _) _⟩
 case body=>
  rintro l s pre ⟨xl,xv⟩ O W1 W _ ⟨N,v,i1,i2,i3,i4,i5⟩ ⟨G,ab,ed⟩ bw b;simp only at ab;obtain⟨Ax,cx,rfl⟩:=Kd.bh ab;have eg:O.heap.size<=W.heap.size:=by have:=b.size;have:=G.size;omega
  have r:=zA (b.cells ((G.block bo (aC i1) (fun e=>by injection e;omega)).trans i1));have y:=zA (b.cells ((G.block _ (aC i2) (fun e=>by injection e;omega)).trans i2));have b3:=zA (b.cells ((G.block _ (aC i3) (fun e=>by injection e;omega)).trans i3));have b4:=zA (dD (Kd.l7 i4 G (fun k hk e=>hk (.inr (.inr (by injection e;omega))))) b);have b5:=zA ((kx i5 _ i5.size G (fun k e=>by injection e;omega)).trans (b.below w.heap.size (by omega)));have bx:=zA (Kd.lu (Kd.bd (Kd.a_ (ok':=fun k=>O.heap.size<=k) (Kd.ef (dD ab b)) (fun k hk=>hk.2.1)) i5.size));have b0:∀k,v.ownBlock=some k->k<O.heap.size:=fun k hk=>Kd.ba i4 k hk
  have b6:=zA b0;have dk:=zA (Kd.gN i4);clear i1 i2 i3 i4 i5 G ab b b0;obtain⟨Ar,cr,rfl⟩:=Kd.bh b4.out;have b':(pre.map Prod.fst).length=pre.length:=by simp
  rw[b'] at r b4 b6 dk;have hc:=dM r.out;have hf:=bF r.out 0;have ek:(((pre.length:Nat):Int)==16384)=false:=by simp;omega
  have LN:Aside0 (((pre.map Prod.fst).length+1)*24<=140737488355328):=⟨by rw[b'];omega⟩;have ds:Aside0 (∀k,O.heap.size<=k->¬(k=gx\/k=qx\/a.heap.size+2<=k/\k<a.heap.size+2+4)/\some k≠(Value.slice Ar pre.length cr).ownBlock):=⟨fun k hk=>⟨by omega,fun e=>by have:=b6.out k e.symm;omega⟩⟩;have dv:Aside0 (∀k,W.heap.size<=k->¬(k=gx\/k=qx\/a.heap.size+2<=k/\k<a.heap.size+2+4)):=⟨fun k hk=>by omega⟩;gi_wp2_with (gi_at_builtin;go_loud (refine o6 (Kd.slice 3 (Kd.int .i64)) (w0:=w) w.heap.size rfl (.tmp 26) (.tmp 28) 33 26 (.slice none 0 0) 24 rfl Tryz.underlying33 qP rfl (by decide) (by omega) (.slice Ar pre.length cr) (pre.map Prod.fst) xl [.slice Ax xl.length cx] (fun k=>¬(k=gx\/k=qx\/a.heap.size+2<=k/\k<a.heap.size+2+4)) (fun k=>O.heap.size<=k) rfl rfl bx.out ds.out dv.out b4.out b5.out b5.out.size LN.out ?_;intro v1 el aL hb P dx;obtain⟨A1,c1,rfl⟩:=Kd.bh aL;have z:=zA ((P.block bo (aC r.out) (Kd.dr b4.out r.out (by decide))).trans r.out);have L:=zA ((P.block _ (aC y.out) (Kd.dr b4.out y.out (by decide))).trans y.out);have J:=zA ((P.block _ (aC b3.out) (Kd.dr b4.out b3.out (by decide))).trans b3.out);have em:=dM z.out;have er:=bF z.out 0;have d0:=zA aL;have d1:=zA hb;have ag:=zA P;clear aL hb P dx))
  refine⟨(o7 b4.out ag.out).trans (fI _ _ (aC M.out)),⟨fun aY=>Below.setCell ((aq w.heap.size W).grown ag.out aY (Kd.dK b4.out)) (by show w.heap.size<=bo;omega) _,fun k hk d2=>?_⟩,by have:=ag.out.size;simp;omega,.slice A1 (pre.length+1) c1,by simpa using bV z.out 0 (.slice A1 (pre.length+1) c1),aE L.out (by show w.heap.size+1≠bo;omega) _,aE J.out (by show w.heap.size+1+1≠bo;omega) _,?_,dL d1.out (by show w.heap.size<=bo;omega)⟩
  ·have d3:k≠bo:=by rcases hk with rfl|rfl|hk<;>omega
   rw[Below.heap_setCell _ _ _ _ d3];exact ag.out.block k d2 (fun e=>(b4.out.1 k e.symm) hk)
  ·have h:=Kd.fl d0.out z.out (by decide) 0 (.slice A1 (pre.length+1) c1)
   simpa using h
 case done=>
  rintro s xs W W' _ ca ⟨N,v,i1,i2,i3,i4,i5⟩ b cb;obtain⟨i,j,hv⟩:=Kd.bh i4;rw[List.length_map] at hv;subst hv;have r:=zA (b.cells i1);have y:=zA (b.cells i2);have b3:=zA (b.cells i3);have b4:=zA (dD i4 b);have b5:=zA (i5.trans (b.below w.heap.size (by omega)));have d4:=zA cb;have m:=zA (show xs.map Prod.fst=dp n E q from ca);clear i1 i2 i3 i4 i5 cb ca b;have hc:=dM r.out;have q1:W'.cell? ⟨w.heap.size+1,0,none⟩=some (.slice none 0 0):=(ah y.out 0).trans rfl;have q2:W'.frozen? ⟨w.heap.size+1,0,none⟩=false:=bF y.out 0;have J:=zA (aE (p:=⟨w.heap.size+1,0,none⟩) b3.out (by show w.heap.size+1+1≠w.heap.size+1;omega) (.slice i xs.length j));have q3:(W'.setCell ⟨w.heap.size+1,0,none⟩ (.slice i xs.length j)).cell? ⟨w.heap.size+1+1,0,none⟩=some (.int .i64 0):=(ah J.out 0).trans rfl;have q4:=bF J.out 0;have Y1:=zA (aE (p:=⟨w.heap.size+1+1,0,none⟩) (bV y.out 0 (.slice i xs.length j)) (by show w.heap.size+1≠w.heap.size+1+1;omega) (.int .i64 0));have Y2:=zA (bV J.out 0 (.int .i64 0));have bw:w.heap.size+1≠a.heap.size:=by omega
  have d7:w.heap.size+1+1≠a.heap.size:=by omega
  have Y3:=zA (show ((W'.setCell ⟨w.heap.size+1,0,none⟩ (.slice i xs.length j)).setCell ⟨w.heap.size+1+1,0,none⟩ (.int .i64 0)).heap[a.heap.size]? =some (.deferred (some [])) from by rw[Below.heap_setCell _ _ _ _ (fun e=>d7 e.symm),Below.heap_setCell _ _ _ _ (fun e=>bw e.symm)];exact d4.out);have Y4:=zA (Kd.fl (Kd.fl b4.out y.out (by decide) 0 (.slice i xs.length j)) J.out (by decide) 0 (.int .i64 0));have Y5:=zA ((b5.out.setCell (p:=⟨w.heap.size+1,0,none⟩) (by show w.heap.size<=w.heap.size+1;omega) (.slice i xs.length j)).setCell (p:=⟨w.heap.size+1+1,0,none⟩) (by show w.heap.size<=w.heap.size+1+1;omega) (.int .i64 0));gi_wp2_with fail
  have ak:Bk a.heap.size ((W'.setCell ⟨w.heap.size+1,0,none⟩ (.slice i xs.length j)).setCell ⟨w.heap.size+1+1,0,none⟩ (.int .i64 0)) (((W'.setCell ⟨w.heap.size+1,0,none⟩ (.slice i xs.length j)).setCell ⟨w.heap.size+1+1,0,none⟩ (.int .i64 0)).putObj a.heap.size (.deferred none)):=⟨_,_,Y3.out,rfl,rfl⟩;refine jx (D:=a.heap.size) rfl Y3.out (ru (p:=4) (u:=5) rfl _ _ ⟨w.heap.size+1,0,none⟩ ⟨w.heap.size+1+1,0,none⟩ (.slice i xs.length j) (.int .i64 0) rfl rfl Tryz.underlying33 Tryz.underlying30 rfl rfl ((ah (ak.cells Y1.out) 0).trans (by simp)) ((ah (ak.cells Y2.out) 0).trans (by simp))) ⟨_,rfl,?_,Y5.out.trans (ak.below w.heap.size (by omega))⟩;rw[<-m.out];exact Kd.a_ (dD Y4.out ak) (fun _ _=>trivial)
theorem eP.calls (k:Nat) (b:Int) (g:Option Addr) (i:Nat) (a:List (S83)) (j:Int) (r:List (List Int)) (s:Int) (w:World) (u:Kd.C aN w g a.length a) (x:a.length<=i) (h:eP.f k b a j=some (r,s)):
  Calls Tryz.prog 114 #[.agg #[.int .i64 b,.slice g a.length i],.int .i64 j] w fun e w'=>∃y:Value,e= .returned (.tuple #[y,.int .i64 s])/\Kd.N (Kd.slice 3 (Kd.int .i64)) 26 w' w.heap.size (fun z=>(w.heap.size<=z)) y r/\Below w.heap.size w w':=by
 unfold eP.f at h;obtain⟨⟨l,t⟩,o,H⟩:=Option.bind_eq_some_iff.mp h;simp only at H;by_cases p:t=0
 ·subst p
  rw[if_pos rfl] at H;by_cases m:(dp b.toNat a j.toNat).length<=16384
  ·rw[if_pos m] at H
   simp only[Option.some.injEq,Prod.mk.injEq] at H;obtain⟨rfl,rfl⟩:=H;obtain⟨B, -, -, -⟩:=vz o;obtain⟨_,⟨D,G⟩,_,E,_⟩:=lM B;obtain⟨n,rfl⟩:=Int.eq_ofNat_of_zero_le D;obtain⟨q,rfl⟩:=Int.eq_ofNat_of_zero_le E;rw[aG,aG] at m⊢;refine(Db k n g i a q l w u x o m).mono ?_;rintro e w' ⟨v,rfl,h1,F⟩;exact⟨v,rfl,Kd.jP (Kd.a_ (Kd.ef h1) (fun k hk=>hk.2.1)),F⟩
  ·rw[if_neg m] at H;cases H
 ·rw[if_neg p] at H
  simp only[Option.some.injEq,Prod.mk.injEq] at H;obtain⟨rfl,rfl⟩:=H;refine(Da k b g i a j l t w u x o p).mono ?_;rintro e w' ⟨rfl,hb⟩;exact⟨_,rfl,Kd.jP (Kd.dm _ _ _ _ _),hb⟩
end
section
attribute [local go_sem] Oper.semAt_some
theorem Dc (A:Option Addr) (n c:Nat) (bb:Int) (w:World):Calls Tryz.prog 182 #[.slice A n c,.int .i64 bb] w fun e w'=>e= .returned (.func (.func 202) #[] #[.pointer (some ⟨w.heap.size,0,none⟩),.pointer (some ⟨w.heap.size+1,0,none⟩)])/\w'=(w.alloc (.cells #[.slice A n c] 33)).alloc (.cells #[.int .i64 bb] 3):=by
 go_enter Tryz.func182,Tryz.ntmps182
 go_wp2;go_ret;exact⟨rfl,rfl⟩
def jZ (bb:Int) (c:List Int):Int:=c.foldl (fun s x=>wrap64 (s-x)) bb
def c_ (bb:Int) (c:List Int):List Int:=c.set 0 (jZ bb (c.drop 1))
theorem Dd (bb:Int) (c:List Int) (x:Int):jZ bb (c++[x])=wrap64 (jZ bb c-x):=by simp[jZ,List.foldl_append]
theorem De (bb:Int) {c:List Int} {j:Nat} (h:j<c.length-1):jZ bb ((c.drop 1).take (j+1))=wrap64 (jZ bb ((c.drop 1).take j)-c.getD (j+1) 0):=by
 rw[List.take_succ_eq_append_getElem (by simpa using h),Dd,List.getElem_drop,aX,bB (show j+1<c.length by omega)];simp[Nat.add_comm]
theorem j4 {W:World} {e base:Nat} {ok:Nat->Prop} {A:Option Addr} {cap:Nat} {L:List (List Int)} (h:Kd.N (Kd.slice 3 (Kd.int .i64)) e W base ok (.slice A L.length cap) L) (i:Nat) (hi:i<L.length):
  ∃g a cc,A=some ⟨g,0,none⟩/\W.cell? ⟨g,i,none⟩=some (.slice a (L.getD i []).length cc)/\(L.getD i []).length<=cc/\Kd.F (Kd.int .i64) W ok a (L.getD i []).length (L.getD i []):=by
 have hC:=(Kd.iR h).2.2;obtain⟨ad,he,_⟩:=hC.2.2 (by omega);subst he;obtain⟨g,rfl⟩:∃g,ad=⟨g,0,none⟩:=by
  obtain⟨_,rows,_,j,_⟩:=h;exact Kd.mg j
 obtain⟨ce,o,k,l⟩:=Kd.oM h [] (i:Int) (by omega) (by omega);obtain⟨m,n,rfl,ul,ge⟩:=Kd.lE k;have b:=l 0 _ rfl;rw[Nat.add_zero,show ((Kd.slice 3 (Kd.int .i64))).sz=1 from rfl,Nat.mul_one,aG,add_plain] at b;rw[aG] at ul ge;exact⟨g,m,n,rfl,b,ul,Kd.oJ ge (fun _ hk=>hk.1)⟩
theorem vA {W:World} {e base:Nat} {ok:Nat->Prop} {v:Value} {xs:List Int} (h:(Kd.int .i64).R e W base ok v xs) (hp:0<xs.length):∃g c,v= .slice (some ⟨g,0,none⟩) xs.length c:=by
 obtain⟨A,c,rfl⟩:=Kd.bh h;obtain⟨ad,he,_⟩:=(Kd.aH h).2.2.2.2 hp;subst he;obtain⟨g,rfl⟩:=Kd.mg h;exact⟨g,c,rfl⟩
theorem Df {c:List Int} {x:Int} (h:0<c.length):bM 0 (c.set 0 x) 0=x:=by
 cases c with
 |nil=>simp at h
 |cons a c=>rfl
theorem Dg {W:World} {ok:Nat->Prop} {A:Option Addr} {c:List Int} (h:Kd.F (Kd.int .i64) W ok A c.length c) (hp:0<c.length):∃ad,A=some ad:=by
 obtain⟨ad,he,_⟩:=(Kd.fF h).2.2 hp;exact⟨ad,he⟩
theorem Dh {W:World} {ad:Addr} {c:List Int} (h:(Kd.int .i64).C W (some ad) c.length c) {j:Nat} (a:j<c.length-1):W.cell? ⟨ad.block,ad.off+1+j,none⟩=some (.int .i64 (c.getD (j+1) 0)):=by
 have h1:=Kd.Bs h ((j+1:Nat):Int) (by omega) (by omega);rw[aG] at h1;have e:ad.add (j+1)=⟨ad.block,ad.off+1+j,none⟩:=by unfold Addr.add;rw[if_neg (by omega)];simp only[Addr.mk.injEq,and_true,true_and];omega
 rw[e] at h1;simpa [rd] using h1
def Di (a b e gd:Nat) (X Y:World):Prop:=∀k,(a<=k/\k<b\/k=e\/k=gd)->k<X.heap.size->Y.heap[k]? =X.heap[k]?
theorem Dj (a gd I y n:Nat) (s:Option Addr) (cl base:Nat) (L:List (List Int)) (bb:Int) (W:World) (b':y<=a) (hg:a<gd) (hn:2<=n) (cb:n<=12) (hL:∀c∈L,c.length=n) (cd:L.length<=16384)
  (hR:Kd.N (Kd.slice 3 (Kd.int .i64)) 26 W base (fun k=>I<=k/\k<y) (.slice s L.length cl) L)
  (K:W.heap[a]? =some (.cells #[.slice s L.length cl] 33 (0,0))) (am:W.heap[gd]? =some (.cells #[.int .i64 bb] 3 (0,0))):
  jw (σ:=Unit) Fence.wide 9 Tryz.prog 202 #[.pointer (some ⟨a,0,none⟩),.pointer (some ⟨gd,0,none⟩)] (fun x:List Int×Value=>#[x.2]) (fun _ W W1=>W1=W) (fun _ A B=>Below A.heap.size A B) (fun _ x A B=>(∃c,c∈L/\x.1=c_ bb c)/\(Kd.int .i64).R 3 B A.heap.size (fun _=>True) x.2 x.1/\Below A.heap.size A B)
   (fun _ X Y=>Di I y a gd X Y)
   (fun _ xs W'=>xs.map Prod.fst=L.map (c_ bb)) (fun _ _ _=>True) (fun pre=>pre.length<L.length) W:=by
 intro lp J Jx an ap ar av;have bg:=zA an;have cf:=zA ap;have hY:=zA av;have HL:=zA hL;have aB:=ar () W rfl;clear an ap ar av hL;refine callsIn_of_wp Tryz.func202 rfl trivial ?_ rfl;simp only[Tryz.ntmps202,List.size_toArray,List.length_cons,List.length_nil,Nat.reduceAdd,Nat.reduceSub,Array.replicate_succ,Array.replicate_zero,List.push_toArray,List.append_toArray,List.nil_append,List.cons_append];have x0:W.cell? ⟨a,0,none⟩=some (.slice s L.length cl):=(ah K 0).trans rfl;have b:=zA K;have o:=zA am;have h:=zA hR;have cg:L.length<=9223372036854775807:=by omega
 clear K am hR;gi_wp2;clear x0;gi_loopg [11] (L.length) (fun M i wr=>∃(v:Nat) (xs:List (List Int×Value)),i= .int .i64 v/\v<=L.length/\Aside0 (J () xs wr)/\Aside0 (xs.map Prod.fst=(L.take v).map (c_ bb))/\Aside0 (wr.heap[a]? =some (.cells #[.slice s L.length cl] 33 (0,0)))/\Aside0 (wr.heap[gd]? =some (.cells #[.int .i64 bb] 3 (0,0)))/\Aside0 (Kd.N (Kd.slice 3 (Kd.int .i64)) 26 wr base (fun k=>I<=k/\k<y) (.slice s L.length cl) L)/\Aside0 (M=L.length-v))
 case atStart=>exact⟨0,[],rfl,Nat.zero_le _,⟨aB⟩,⟨rfl⟩,b,o,h,⟨rfl⟩⟩
 case round=>
  clear aB b o h;obtain⟨v,xs,rfl,hv,z,O,b,o,h,HK⟩:=hrel;by_cases l:v<L.length
  ·have ci:(0:Int)<=(v:Int):=by omega
   have cj:(v:Int)<(L.length:Int):=by omega
   obtain⟨g,Ac,cc,rfl,y1,y2,u⟩:=j4 h.out v l;have aO:=HL.out (L.getD v []) (by rw[aX,bB l];exact List.getElem_mem l);have aP:=zA (show (L.take (v+1)).map (c_ bb)=(L.take v).map (c_ bb)++[c_ bb (L.getD v [])] by rw[List.take_succ_eq_append_getElem l,List.map_append,aX,bB l];rfl);have aR:=zA (show L.getD v []∈L by rw[aX,bB l];exact List.getElem_mem l);generalize L.getD v []=c at y1 y2 u aO aP aR;subst aO;obtain⟨ad,rfl⟩:=Dg u (by omega);have P:=zA u;have cn:=Kd.AV u;have bv:Aside0 (∀W,(Kd.int .i64).C W (some ad) c.length c->Calls Tryz.prog 57 #[.slice (some ad) c.length cc] W fun e w'=>∃aS:Value,e= .returned (aS)/\Kd.R (Kd.int .i64) 3 w' W.heap.size (fun _=>True) aS c/\Below W.heap.size W w'):=⟨fun W hC=>fJ.calls (some ad) cc c c W hC y2 (by unfold fJ.f clone.f;rw[if_pos (by omega)])⟩;clear u;have co:(0:Int)<(c.length:Int):=by omega
   have cp:(1:Int)<=(c.length:Int):=by omega
   have cq:¬cc=1:=by omega
   gi_wp2_with (refine⟨trivial,?_⟩;gi_at_call 57;refine(callsIn_wide.2 (bv.out _ (Kd.fF P.out))).mono ?_;rintro e w3 ⟨vd,rfl,D,m⟩;obtain⟨g0,c0,rfl⟩:=vA D (by omega);have Q:=zA D;have S:=zA (bg.out () _ _ _ z.out m);have T:=zA (aD b.out m);have E:=zA (aD o.out m);have U:=zA (Kd.dF h.out m);have bw:=zA (Kd.kC P.out m);have a0:=zA m;have z1:w3.cell? ⟨gd,0,none⟩=some (.int .i64 bb):=(ah E.out 0).trans rfl;obtain⟨z2,z3⟩:=Kd.bO 0 D (0:Int) (by omega) (by omega);simp only[Int.toNat_zero] at z2 z3;clear D m y1)
   have a1:=zA (show wr.heap.size<=g0 from Kd.dK Q.out g0 rfl);have cs:=zA (aC b.out);have F:=zA (Kd.dh Q.out 0 bb).1;have V:=zA (Below.setCell (p:=⟨g0,0,none⟩) a0.out a1.out (.int .i64 bb));simp only[Int.toNat_zero] at F;clear S T E U bw a0 Q z1 z2 z3;generalize w3.setCell ⟨g0,0,none⟩ (.int .i64 bb)=w4 at F V⊢;obtain⟨q,rfl⟩:∃q:World,q=wr:=⟨_,rfl⟩;gi_loopg [23] (c.length-1) (fun M i wi=>∃j:Nat,i= .int .i64 j/\j<=c.length-1/\Aside0 (Kd.R (Kd.int .i64) 3 wi q.heap.size (fun _=>True) (.slice (some ⟨g0,0,none⟩) c.length c0) (c.set 0 (jZ bb ((c.drop 1).take j))))/\Aside0 (Below q.heap.size q wi)/\Aside0 (M=c.length-1-j))
   case atStart=>exact⟨0,rfl,Nat.zero_le _,F,V,⟨rfl⟩⟩
   case round=>
    clear F V;obtain⟨j,rfl,hj,w,r,bx⟩:=hrel;by_cases a2:j<c.length-1
    ·have cx:(0:Int)<=(j:Int):=by omega
     have c1:(j:Int)<((c.length-1:Nat):Int):=by omega
     have z1:=Dh (Kd.fF (Kd.kC P.out r.out)) a2;obtain⟨z2,z3⟩:=Kd.bO 0 w.out (0:Int) (by omega) (by simp;omega);rw[Df (by omega)] at z2;simp only[Int.toNat_zero] at z2 z3;have Z:=zA (De bb a2);have G:=zA (Kd.dh w.out 0 (wrap64 (jZ bb ((c.drop 1).take j)-c.getD (j+1) 0))).1;have aa:=zA (Below.setCell (p:=⟨g0,0,none⟩) r.out a1.out (.int .i64 (wrap64 (jZ bb ((c.drop 1).take j)-c.getD (j+1) 0))));simp only[Int.toNat_zero,List.set_set] at G;rw[<-Z.out] at G;rw[<-Z.out] at aa;gi_wp2;gi_roundg (c.length-1- (j+1))
     case measure=>rw[bx.out];omega
     case rel=>
      have e:=Z.out;rw[List.drop_one,aX] at e;rw[List.drop_one] at G aa;rw[<-e];exact⟨j+1,by go_num,by omega,by rw[List.drop_one];exact G,aa,⟨rfl⟩⟩
    ·obtain rfl:j=c.length-1:=by omega
     rw[List.take_of_length_le (by simp)] at w;have a3:Aside0 (Kd.R (Kd.int .i64) 3 wr q.heap.size (fun _=>True) (.slice (some ⟨g0,0,none⟩) c.length c0) (c_ bb c)):=w;have c2:xs.length=v:=by have:=congrArg List.length O.out;simp at this;omega
     obtain⟨fn,tmps,c3,c4,hy,a4⟩:=hY.out () xs (c_ bb c,.slice (some ⟨g0,0,none⟩) c.length c0) _ _ z.out ⟨⟨c,aR.out,rfl⟩,a3.out,r.out⟩ (by omega);have b2:=zA a4;have a5:=zA (aD b.out r.out);have a9:=zA (aD o.out r.out);have b3:=zA (Kd.dF h.out r.out);have b4:=zA (aC a9.out);have b5:=zA (aC a5.out);simp only at hy;clear a4 z b o h w a3;gi_wp2;refine b2.out.mono ?_;rintro e W3 (⟨rfl,be,H⟩|⟨rfl,bf⟩)
     ·have S:=zA be
      have T:=zA ((H a (.inr (.inl rfl)) b5.out).trans a5.out);have E:=zA ((H gd (.inr (.inr rfl)) b4.out).trans a9.out);have U:=zA (Kd.mj b3.out (fun k hk b6=>H k (.inl hk) b6));clear be H hy;gi_wp2;gi_roundg (L.length- (v+1))
      case measure=>rw[HK.out];omega
      case rel=>exact⟨v+1,xs++[(c_ bb c,.slice (some ⟨g0,0,none⟩) c.length c0)],by go_num,by omega,S,⟨by rw[aP.out,List.map_append,O.out];rfl⟩,T,E,U,⟨rfl⟩⟩
     ·have b_:=zA bf
      clear bf hy;gi_wp2;refine bodyPost_ret (results_none rfl _ _ _) rfl ?_;exact⟨⟨_,rfl⟩,.inr ⟨(),_,trivial,b_.out⟩⟩
  ·obtain rfl:v=L.length:=by omega
   gi_wp2;go_end0;exact⟨⟨_,rfl⟩,.inl ⟨(),xs,by rw[O.out,List.take_length],z.out⟩⟩
end
def bt.l0:Nat->List Int->List Int->Int->Int->Option (Bool)
 |0,_,_,_,_=>none
 |k+1,b,x1,e,a=>if a<e then(if 0<=a then(if a<(b.length:Int) then(if a<(x1.length:Int) then(if(rd b a)=(rd x1 a) then(bt.l0 k b x1 e (wrap64 (a+1))) else(some false)) else(none)) else(none)) else(none)) else(some true)
def bt.f (k:Nat) (l0:List Int) (l1:List Int):Option (Bool):=if(l0.length:Int)=(l1.length:Int) then(bt.l0 k l0 l1 (l0.length:Int) 0) else(some false)
theorem bt.cD:∀k,(∀a b e g,ai (bt.l0 k a b e g) (bt.l0 (k+1) a b e g))
 |0=>fun _ _ _ _ r h=>by simp[bt.l0] at h
 |k+1=>by
  have i:=bt.cD k
  ·intro a b e g
   unfold bt.l0;with_reducible repeat' first|exact i _ _ _ _|exact ai.refl _|exact ai.none _|refine ai.ite ?_ ?_|refine ai.bind ?_ (fun _=>?_)
theorem bt.mono:∀a0 a k,ai (bt.f k a0 a) (bt.f (k+1) a0 a):=by
 intro a0 a k;have b:=bt.cD k;unfold bt.f;with_reducible repeat' first|exact b _ _ _ _|exact ai.refl _|exact ai.none _|refine ai.ite ?_ ?_|refine ai.bind ?_ (fun _=>?_)
theorem bt.calls (k:Nat) (A0:Option Addr) (c0:Nat) (l0:List Int) (v:Option Addr) (c1:Nat) (l1:List Int) (r:Bool) (w:World) (x:Kd.C (Kd.int .i64) w A0 l0.length l0) (y:l0.length<=c0) (z:Kd.C (Kd.int .i64) w v l1.length l1) (B:l1.length<=c1) (h:bt.f k l0 l1=some r):
  Calls Tryz.prog 33 #[.slice A0 l0.length c0,.slice v l1.length c1] w fun e w'=>e= .returned (.bool r)/\az w w':=by
 have D:=zA x;have U:=zA y;clear x y;have E:=zA z;have V:=zA B;clear z B;unfold bt.f at h;have H:=h;clear h;by_cases c3:(l0.length:Int)=(l1.length:Int)
 ·rw[if_pos c3] at H
  obtain⟨F,G⟩:=bT c3;have I:(l0.length==l1.length)=true:=by first|simpa using c3|(simp at c3⊢;omega)
  clear c3;have m:=zA H;clear H;go_enter Tryz.func33,Tryz.ntmps33
  go_wp2;repeat(go_quiet (fail);try go_wp2)
  go_loopg [13] k (fun J L w'=>∃(a:Int),L= .int .i64 a/\Aside0 (bt.l0 J l0 l1 (l0.length:Int) a=some r)/\Aside0 (J<=k)/\az w w')
  case atStart=>exact⟨(0),zT,m,⟨aI _⟩,by repeat(first|exact az.refl _|apply az.step)⟩
  case round=>
   clear m;clear F G I;obtain⟨a,rfl,q,K,⟨m1,rfl⟩⟩:=hrel;cases gk with
   |zero=>exact absurd q.out (by simp[bt.l0])
   |succ M=>
    have H:=q.out;clear q;simp only[bt.l0] at H;by_cases c4:a<(l0.length:Int)
    ·rw[if_pos c4] at H
     have N:=ay c4;clear c4;by_cases n:0<=a
     ·rw[if_pos n] at H
      have W:=ay n;clear n;by_cases o:a<(l0.length:Int)
      ·rw[if_pos o] at H
       have X:=ay o;clear o;by_cases p:a<(l1.length:Int)
       ·rw[if_pos p] at H
        have Y:=ay p;clear p;by_cases l:(rd l0 a)=(rd l1 a)
        ·rw[if_pos l] at H
         obtain⟨O,P⟩:=bT l;clear l;have m:=zA H;clear H;have b:0<=(a:Int):=aw ‹_›;have g:a<(l0.length:Int):=aw ‹_›;obtain⟨Q,s,R⟩:=Kd.bJ D.out a b g;cases s;replace b:=eq_true b;replace g:=eq_true g;have i:0<=(a:Int):=aw ‹_›;have j:a<(l1.length:Int):=aw ‹_›;obtain⟨S,u,T⟩:=Kd.bJ E.out a i j;cases u;replace i:=eq_true i;replace j:=eq_true j;go_wp2;repeat(go_quiet (fail);try go_wp2)
         go_roundg M
         case measure=>have:=K.out;omega
         case rel=>exact⟨(wrap64 (a+1)),zT,m,⟨by have:=K.out;omega⟩,by repeat(first|exact az.refl _|apply az.step)⟩
        ·rw[if_neg l] at H
         obtain⟨O,P⟩:=bU l;obtain rfl:=aQ H;have b:0<=(a:Int):=aw ‹_›;have g:a<(l0.length:Int):=aw ‹_›;obtain⟨Q,s,R⟩:=Kd.bJ D.out a b g;cases s;replace b:=eq_true b;replace g:=eq_true g;have i:0<=(a:Int):=aw ‹_›;have j:a<(l1.length:Int):=aw ‹_›;obtain⟨S,u,T⟩:=Kd.bJ E.out a i j;cases u;replace i:=eq_true i;replace j:=eq_true j;go_wp2;repeat(go_quiet (fail);try go_wp2)
         go_ret;exact⟨zT,by repeat(first|exact az.refl _|apply az.step)⟩
       ·rw[if_neg p] at H
        exact absurd H (by simp)
      ·rw[if_neg o] at H
       exact absurd H (by simp)
     ·rw[if_neg n] at H
      exact absurd H (by simp)
    ·rw[if_neg c4] at H
     have N:=aZ c4;clear c4;obtain rfl:=aQ H;go_wp2;repeat(go_quiet (fail);try go_wp2)
     go_ret;exact⟨zT,by repeat(first|exact az.refl _|apply az.step)⟩
 ·rw[if_neg c3] at H
  obtain⟨F,G⟩:=bU c3;have I:(l0.length==l1.length)=false:=by first|simpa using c3|(simp at c3⊢;omega)
  obtain rfl:=aQ H;go_enter Tryz.func33,Tryz.ntmps33
  go_wp2;repeat(go_quiet (fail);try go_wp2)
  go_ret;exact⟨zT,by repeat(first|exact az.refl _|apply az.step)⟩
def dH.f (k:Nat) (b:Int) (e:List (S83)):Option (Int):=(cz.f k b e).bind fun a=>(if a.2=0 then(if a.1=true then(some 0) else(some 13)) else(some a.2))
theorem dH.mono:∀a0 a k,ai (dH.f k a0 a) (dH.f (k+1) a0 a):=by
 intro a0 a k;unfold dH.f;with_reducible repeat' first|exact cz.mono _ _ _|exact ai.refl _|exact ai.none _|refine ai.ite ?_ ?_|refine ai.bind ?_ (fun _=>?_)
theorem dH.calls (k:Nat) (g:Int) (l:Option Addr) (m:Nat) (b:List (S83)) (r:Int) (w:World) (s:Kd.C aN w l b.length b) (u:b.length<=m) (h:dH.f k g b=some r):
  Calls Tryz.prog 55 #[.agg #[.int .i64 g,.slice l b.length m]] w fun e w'=>e= .returned (.int .i64 r)/\Below w.heap.size w w':=by
 have D:=Tryz.underlying24;have o:=zA s;have p:=zA u;clear s u;have a:=zA (aq w.heap.size w);unfold dH.f at h;have H:=h;clear h;obtain⟨⟨t198,t199⟩,q,H⟩:=zo H;dsimp only at H;by_cases c3:t199=0
 ·rw[if_pos c3] at H
  obtain⟨z,B⟩:=bT c3;clear c3;by_cases c4:t198=true
  ·subst c4
   replace H:=zi H;obtain rfl:=aQ H;go_enter Tryz.func55,Tryz.ntmps55
   go_wp2_with (first|((with_reducible refine aU (N:=1) rfl ?_);refine zX 1 #[.int .i64 g,.slice l b.length m] 24 ?_;intro v i E n hb;have j:=zA (n);have x:=zG a i;have y:=zG a i;replace a:=zS a hb;clear hb n i;obtain⟨F,G,I,J⟩:=aA j)|((with_reducible refine aJ (f:=113) rfl ?_);refine zL (some 7) Tryz.func113 #[.agg #[.int .i64 g,.slice l b.length m]] ?_;(with_reducible refine(cz.calls k g _ _ b true t199 _ ?al ?aj q.out).mono ?_);(case al=>exact Kd.ax o.out zB);(case aj=>exact p.out);rintro e K ⟨rfl,hb⟩;refine⟨_,rfl,?_⟩;replace j:=zb j hb;replace a:=zS a hb;(try clear hb)))
   go_ret;exact⟨zE,zB⟩
  ·replace c4:=Bool.eq_false_iff.mpr c4
   subst c4;replace H:=zj H;obtain rfl:=aQ H;go_enter Tryz.func55,Tryz.ntmps55
   go_wp2_with (first|((with_reducible refine aU (N:=1) rfl ?_);refine zX 1 #[.int .i64 g,.slice l b.length m] 24 ?_;intro v i L n hb;have j:=zA (n);have x:=zG a i;have y:=zG a i;replace a:=zS a hb;clear hb n i;obtain⟨M,O,P,Q⟩:=aA j)|((with_reducible refine aJ (f:=113) rfl ?_);refine zL (some 7) Tryz.func113 #[.agg #[.int .i64 g,.slice l b.length m]] ?_;(with_reducible refine(cz.calls k g _ _ b false t199 _ ?al ?aj q.out).mono ?_);(case al=>exact Kd.ax o.out zB);(case aj=>exact p.out);rintro e R ⟨rfl,hb⟩;refine⟨_,rfl,?_⟩;replace j:=zb j hb;replace a:=zS a hb;(try clear hb)))
   go_ret;exact⟨zE,zB⟩
 ·rw[if_neg c3] at H
  obtain⟨z,B⟩:=bU c3;obtain rfl:=aQ H;go_enter Tryz.func55,Tryz.ntmps55
  go_wp2_with (first|((with_reducible refine aU (N:=1) rfl ?_);refine zX 1 #[.int .i64 g,.slice l b.length m] 24 ?_;intro v i S n hb;have j:=zA (n);have x:=zG a i;have y:=zG a i;replace a:=zS a hb;clear hb n i;obtain⟨T,U,V,W⟩:=aA j)|((with_reducible refine aJ (f:=113) rfl ?_);refine zL (some 7) Tryz.func113 #[.agg #[.int .i64 g,.slice l b.length m]] ?_;(with_reducible refine(cz.calls k g _ _ b t198 t199 _ ?al ?aj q.out).mono ?_);(case al=>exact Kd.ax o.out zB);(case aj=>exact p.out);rintro e X ⟨rfl,hb⟩;refine⟨_,rfl,?_⟩;replace j:=zb j hb;replace a:=zS a hb;(try clear hb)))
  go_ret;exact⟨zE,zB⟩
def pd (qx gx:Nat) (row:Option Nat) (a:World) (l:List (List Int)) (del:List Int->Bool):Prop:=
 ∀(W':World) (A0:Option Addr) (c0:Nat) (x:List Int),a.grownBy W' row->x∈l->x.length<=c0->Kd.C (Kd.int .i64) W' A0 x.length x->
  Calls Tryz.prog 116 #[.slice A0 x.length c0,.pointer (some ⟨qx,0,none⟩),.pointer (some ⟨gx,0,none⟩)] W' fun e w'=>e= .returned (.bool (del x))/\Below W'.heap.size W' w'
theorem vB {l:List (List Int)} {i:Nat} (h:i<l.length):a6 l i∈l:=by
 have e:a6 l i=l[i]:=by simp[a6,aX,bB h]
 rw[e];exact List.getElem_mem h
theorem vC (qx gx base:Nat) (row:Option Nat) (A:Option Addr) (cap:Nat) (ok:Nat->Prop) (l:List (List Int)) (del:List Int->Bool) (o W:World) (p:Kd.N (Kd.slice 3 (Kd.int .i64)) 26 W base ok (.slice A l.length cap) l) (q:o.grownBy W row) (s:pd qx gx row o l del):
  Calls Tryz.prog 175 #[.slice A l.length cap,.func (.func 116) #[] #[.pointer (some ⟨qx,0,none⟩),.pointer (some ⟨gx,0,none⟩)]] W fun e w'=>∃r:Int,e= .returned (.int .i64 r)/\((r= -1/\∀j:Nat,j<l.length->del (a6 l j)=false)\/∃i:Nat,r=i/\i<l.length/\del (a6 l i)=true/\∀j:Nat,j<i->del (a6 l j)=false)/\Below W.heap.size W w':=by
 have x:=zA p;have y:=zA q;have z:=zA s;clear p q s;go_enter Tryz.func175,Tryz.ntmps175
 go_wp2;go_loopw [8] (fun i wr=>∃k:Nat,k<=l.length/\i= .int .i64 k/\Aside0 (∀j:Nat,j<k->del (a6 l j)=false)/\Aside0 (Below W.heap.size W wr)) (fun i _=>l.length- (intOf i).toNat)
 case atStart=>exact⟨0,by omega,rfl,⟨fun j B=>by omega⟩,⟨aq _ _⟩⟩
 case round=>
  obtain⟨k,hk,rfl,h,a⟩:=hrel;by_cases u:k<l.length
  ·obtain⟨-,C,hC⟩:=Kd.iR (Kd.dF x.out a.out)
   obtain⟨ad,D,cc,rfl,E,v,w⟩:=gQ hC k (by omega) (by omega);rw[aG] at E;have g:=zA (z.out wr D cc (a6 l k) (y.out.trans (jL a.out _)) (vB u) v w);have F:=zA (rfl:a6 l k=a6 l k);have G:(0:Int)<=(k:Int):=by omega
   have H:(k:Int)<(l.length:Int):=by omega
   have I:l.length<=9223372036854775807:=Kd.mV hC;clear hC w v C;cases hb:del (a6 l k) with
   |true=>
    rw[hb] at g;have m:=zA hb;clear hb;go_wp2_with (go_at_call 116;refine g.out.mono ?_;rintro e w1 ⟨rfl,b⟩;have n:=zA b;clear b)
    go_ret;exact⟨k,rfl,.inr ⟨k,rfl,u,m.out,h.out⟩,a.out.trans (n.out.mono a.out.size)⟩
   |false=>
    rw[hb] at g;have m:=zA hb;clear hb;go_wp2_with (go_at_call 116;refine g.out.mono ?_;rintro e w1 ⟨rfl,b⟩;have n:=zA b;clear b)
    go_roundw
    case rel=>exact⟨k+1,by omega,by go_num,⟨fun j B=>by
     by_cases e:j=k
     ·subst e;exact m.out
     ·exact h.out j (by omega)⟩,⟨a.out.trans (n.out.mono a.out.size)⟩⟩
    case measure=>exact(show l.length- ((k:Int)+1).toNat<l.length- ((k:Int)).toNat by omega)
  ·obtain rfl:k=l.length:=by omega
   go_wp2;go_ret;exact⟨-1,rfl,.inl ⟨rfl,h.out⟩,a.out⟩
theorem Dk {ys:List (List Int)} {i m:Nat} (h:i≠m) (x:List Int):a6 (ys.set i x) m=a6 ys m:=by
 simp[a6,aX,List.getElem?_set,h]
theorem Dl (i:Nat):((i:Int)== -1)=false:=by
 rw[beq_eq_false_iff_ne];omega
theorem vD {l:List (List Int)} {j:Nat} (h:j<l.length):l.take (j+1)=l.take j++[a6 l j]:=by
 rw[List.take_succ_eq_append_getElem h];simp[a6,aX,bB h]
theorem Dm {ys:List (List Int)} {i:Nat} (h:i<ys.length) (x:List Int):(ys.set i x).take (i+1)=ys.take i++[x]:=by
 rw[List.take_succ_eq_append_getElem (by simpa using h)];simp[List.take_set_of_le]
theorem Dn {l:List (List Int)} {del:List Int->Bool} {j:Nat} (h:j<l.length):(l.take (j+1)).filter (fun x=> !del x)=(l.take j).filter (fun x=> !del x)++(if del (a6 l j) then[] else[a6 l j]):=by
 rw[vD h,List.filter_append];cases hd:del (a6 l j)<;>simp[hd]
theorem Dp (w:World):(zeroValue 26).run Tryz.prog w= .ok (.slice none 0 0) w:=by kernel_rfl
theorem Dq {l:List (List Int)} {del:List Int->Bool} {i:Nat} (h1:del (a6 l i)=true) (b:∀j:Nat,j<i->del (a6 l j)=false) (h:i<l.length):l.take i=(l.take (i+1)).filter fun x=> !del x:=by
 rw[vD h,List.filter_append];rw[show[a6 l i].filter (fun x=> !del x)=[] by simp[h1],List.append_nil];symm
 rw[List.filter_eq_self];intro x g;obtain⟨j,k,rfl⟩:=List.mem_take_iff_getElem.1 g;have a:=b j (by omega);have e:a6 l j=l[j]'(by omega):=by simp[a6,aX,bB (by omega:j<l.length)]
 rw[e] at a;simp[a]
theorem pg {W:World} {base g0 n cap:Nat} {ok:Nat->Prop} {ys:List (List Int)} {x:List Int} {v:Value} {i:Nat} (h:Kd.N (Kd.slice 3 (Kd.int .i64)) 26 W base ok (.slice (some ⟨g0,0,none⟩) n cap) ys) (l:Kd.FK (Kd.slice 3 (Kd.int .i64)) W (fun k=>ok k/\k≠g0) x [v]) (hi:i<n):
  (∃u,W.cell? ⟨g0,i,none⟩=some u)/\W.frozen? ⟨g0,i,none⟩=false/\Kd.N (Kd.slice 3 (Kd.int .i64)) 26 (W.setCell ⟨g0,i,none⟩ v) base ok (.slice (some ⟨g0,0,none⟩) n cap) (ys.set i x)/\W.grownBy (W.setCell ⟨g0,i,none⟩ v) (some g0):=by
 obtain⟨c,b, -,a,m⟩:=Kd.qE h [] (i:Int) (by omega) (by omega);obtain⟨u,rfl⟩:∃u,c=[u]:=List.length_eq_one_iff.1 b;have e:=Kd.Bp h (i:Int) (by omega) (by omega) (c:=[u]) (seg:=[v]) (j:=0) (x':=x) (okp:=fun k=>ok k/\k≠g0) b a (by simp[Kd.slice]) (by simpa using l) (fun k hk=>hk);rw[aG] at a e;have o:=a 0 u rfl;have g:=m 0;rw[aG] at g;refine⟨⟨u,by simpa [Kd.slice] using o⟩,by simpa [Kd.slice] using g,?_⟩;simpa [Kd.slice,World.setCells] using e
theorem Dr {base g0 n cap:Nat} {ok:Nat->Prop}:∀(m i:Nat) (W:World) (ys:List (List Int)),i+m=n->ys.length=n->Kd.N (Kd.slice 3 (Kd.int .i64)) 26 W base ok (.slice (some ⟨g0,0,none⟩) n cap) ys->
  ∃zs:List (List Int),zs.length=n/\zs.take i=ys.take i/\Kd.N (Kd.slice 3 (Kd.int .i64)) 26 (W.setCells g0 i (List.replicate m (.slice none 0 0))) base ok (.slice (some ⟨g0,0,none⟩) n cap) zs/\W.grownBy (W.setCells g0 i (List.replicate m (.slice none 0 0))) (some g0):=by
 intro m;induction m with
 |zero=>intro i W ys _ a h;exact⟨ys,a,rfl,h,⟨rfl,rfl,rfl,aI _,fun _ _ _=>rfl⟩⟩
 |succ m e=>
  intro i W ys hi a h;obtain⟨-, -,h1,g⟩:=pg (x:=[]) (v:=.slice none 0 0) (i:=i) h (fun W' _=>⟨none,0,rfl,aI _,Kd.oA _ _⟩) (by omega);obtain⟨zs,z1,z2,z3,z4⟩:=e (i+1) _ (ys.set i []) (by omega) (by rw[List.length_set];exact a) h1;refine⟨zs,z1,?_,by rw[List.replicate_succ,World.setCells];exact z3,by rw[List.replicate_succ,World.setCells];exact g.trans z4⟩;have b:=congrArg (List.take i) z2;rw[List.take_take,List.take_take,show min i (i+1)=i by omega] at b;rw[b,List.take_set_of_le (aI i)]
theorem Dt (qx gx base g0 cap:Nat) (ok:Nat->Prop) (l:List (List Int)) (del:List Int->Bool) (y W:World) (g:Kd.N (Kd.slice 3 (Kd.int .i64)) 26 W base ok (.slice (some ⟨g0,0,none⟩) l.length cap) l) (z:y.grownBy W (some g0)) (B:pd qx gx (some g0) y l del) (hex:∃j:Nat,j<l.length/\del (a6 l j)=true):
  Calls Tryz.prog 115 #[.slice (some ⟨g0,0,none⟩) l.length cap,.func (.func 116) #[] #[.pointer (some ⟨qx,0,none⟩),.pointer (some ⟨gx,0,none⟩)]] W fun e w'=>∃m:Nat,e= .returned (.slice (some ⟨g0,0,none⟩) m cap)/\m=(l.filter fun x=> !del x).length/\Kd.N (Kd.slice 3 (Kd.int .i64)) 26 w' base ok (.slice (some ⟨g0,0,none⟩) m cap) (l.filter fun x=> !del x)/\W.grownBy w' (some g0):=by
 have HN:=zA g;have an:=zA z;have HD:=zA B;have ar:=zA hex;have J:Aside0 (Calls Tryz.prog 175 #[.slice (some ⟨g0,0,none⟩) l.length cap,.func (.func 116) #[] #[.pointer (some ⟨qx,0,none⟩),.pointer (some ⟨gx,0,none⟩)]] W fun e w'=>∃i:Nat,e= .returned (.int .i64 i)/\i<l.length/\del (a6 l i)=true/\(∀j:Nat,j<i->del (a6 l j)=false)/\Below W.heap.size W w'):=⟨(vC qx gx base (some g0) (some ⟨g0,0,none⟩) cap ok l del y W g z B).mono (by
  rintro e w' ⟨r,rfl,h|⟨i,rfl,h1,h2,h3⟩,hb⟩
  ·obtain⟨j,k,K⟩:=hex
   rw[h.2 j k] at K;cases K
  ·exact⟨i,rfl,h1,h2,h3,hb⟩)⟩
 obtain⟨-,a1,L⟩:=Kd.iR g;have a2:l.length<=9223372036854775807:=Kd.mV L;clear g z B hex L;go_enter Tryz.func115,Tryz.ntmps115
 go_wp2_with (go_at_call 175;refine J.out.mono ?_;rintro e w1 ⟨i0,rfl,M,O,Q,hb⟩;have R:=zA O;have S:=zA Q;have C:=zA hb;have aF:=Dl i0;clear O Q hb)
 have T:=zA (Dq R.out S.out M);have U:=zA (jL C.out (some g0));have V:=zA (Kd.dF HN.out C.out);clear J R S C ar aF;go_loopw [5,6] (fun ii D wr=>∃(i j:Nat) (ys:List (List Int)),i<j/\j<=l.length/\ii= .int .i64 i/\D= .int .i64 j/\Aside0 (ys.length=l.length)/\Aside0 (ys.take i=(l.take j).filter fun x=> !del x)/\Aside0 (∀m:Nat,j<=m->a6 ys m=a6 l m)/\Aside0 (Kd.N (Kd.slice 3 (Kd.int .i64)) 26 wr base ok (.slice (some ⟨g0,0,none⟩) l.length cap) ys)/\Aside0 (W.grownBy wr (some g0))) (fun _ D _=>l.length- (intOf D).toNat)
 case atStart=>exact⟨i0,i0+1,l,by omega,by omega,rfl,by go_num,⟨rfl⟩,T,⟨fun _ _=>rfl⟩,V,U⟩
 case round=>
  clear T U V;obtain⟨i,j,ys,a3,k,rfl,rfl,n,E,F,b,o⟩:=hrel;by_cases X:j<l.length
  ·obtain⟨c,G,p,H, -⟩:=Kd.qE b.out [] (j:Int) (by omega) (by omega)
   rw[show ys.getD (j:Int).toNat []=a6 l j from F.out j (aI _)] at p;rw[aG] at H;obtain⟨Y,Z,rfl,hle,hF⟩:=Kd.lE p;have a4:wr.cell? ⟨g0,j,none⟩=some (.slice Y (a6 l j).length Z):=by have h:=H 0 _ rfl;simpa [Kd.slice] using h
   have q:=zA (HD.out wr Y Z (a6 l j) (an.out.trans o.out) (vB X) hle (Kd.fF hF));have aL:=zA p;have a5:(0:Int)<=(j:Int):=by omega
   have a9:(j:Int)<(l.length:Int):=by omega
   have be:(0:Int)<=(i:Int):=by omega
   have aO:(i:Int)<(l.length:Int):=by omega
   have s:=zA (show (l.take (j+1)).filter (fun x=> !del x)=(l.take j).filter (fun x=> !del x)++(if del (a6 l j) then[] else[a6 l j]) from Dn X);have bf:=zA (show ∃x,x=a6 l j from⟨_,rfl⟩);clear G p H hle hF;cases hb:del (a6 l j) with
   |true=>
    rw[hb] at q s;clear hb;go_wp2_with (go_at_call 116;refine q.out.mono ?_;rintro e w2 ⟨rfl,a⟩;have w:=zA a;clear a)
    go_roundw
    case rel=>exact⟨i,j+1,ys,by omega,by omega,rfl,by go_num,n,⟨by rw[s.out,E.out];simp⟩,⟨fun m hm=>F.out m (by omega)⟩,⟨Kd.dF b.out w.out⟩,⟨o.out.trans (jL w.out _)⟩⟩
    case measure=>exact(show l.length- ((j:Int)+1).toNat<l.length- ((j:Int)).toNat by omega)
   |false=>
    rw[hb] at q s;clear hb;go_wp2_with (go_at_call 116;refine q.out.mono ?_;rintro e w2 ⟨rfl,a⟩;obtain⟨q1,q2,I⟩:=pg (Kd.dF b.out a) (Kd.AZ aL.out a) (show i<l.length by omega);have w:=zA a;have aP:=zA I.1;have aR:=zA I.2;obtain⟨q0,q1⟩:=q1;clear I a)
    go_roundw
    case rel=>exact⟨i+1,j+1,ys.set i (a6 l j),by omega,by omega,by go_num,by go_num,⟨by rw[List.length_set];exact n.out⟩,⟨by rw[Dm (by rw[n.out];omega),s.out,E.out];simp⟩,⟨fun m hm=>by rw[Dk (by omega)];exact F.out m (by omega)⟩,aP,⟨(o.out.trans (jL w.out _)).trans aR.out⟩⟩
    case measure=>exact(show l.length- ((j:Int)+1).toNat<l.length- ((j:Int)).toNat by omega)
  ·obtain rfl:j=l.length:=by omega
   have G:=Lib.run_clear_slice (P:=Tryz.prog) wr 33 26 0 (.slice none 0 0) Tryz.underlying33 Dp rfl rfl g0 i (l.length-i) (cap-i) (by omega) (fun j k=>by
    obtain⟨⟨u,hu⟩, -⟩:=pg (x:=[]) (v:=.slice none 0 0) (i:=i+j) b.out (fun W' _=>⟨none,0,rfl,aI _,Kd.oA _ _⟩) (by omega);rw[hu];rfl) (fun j k=>(pg (x:=[]) (v:=.slice none 0 0) (i:=i+j) b.out (fun W' _=>⟨none,0,rfl,aI _,Kd.oA _ _⟩) (by omega)).2.1)
   obtain⟨zs,z1,z2,z3,z4⟩:=Dr (l.length-i) i wr ys (by omega) n.out b.out;have ab:=zA z1;have aS:=zA z2;have ad:=zA z3;have ag:=zA z4;have M:(0:Int)<=(i:Int):=by omega
   have aO:(i:Int)<=(l.length:Int):=by omega
   have bi:(i:Int)<=(cap:Int):=by omega
   have bk:¬cap=i:=by omega
   clear z1 z2 z3 z4;generalize wr.setCells g0 i (List.replicate (l.length-i) (.slice none 0 0))=w9 at G ad ag;go_wp2;go_ret;have ak:(l.filter fun x=> !del x)=zs.take i:=by
    have h:=E.out;rw[List.take_length] at h;rw[<-h,aS.out]
   have a0:i=(l.filter fun x=> !del x).length:=by rw[ak,List.length_take,ab.out];omega
   refine⟨i,rfl,a0,?_,o.out.trans ag.out⟩;rw[ak];exact Kd.Bo ad.out (by rw[ab.out];omega)
theorem filter_none {l:List (List Int)} {del:List Int->Bool} (h:∀j:Nat,j<l.length->del (a6 l j)=false):(l.filter fun x=> !del x)=l:=by
 rw[List.filter_eq_self];intro x g;obtain⟨j,a,rfl⟩:=List.mem_iff_getElem.1 g;have b:=h j a;have e:a6 l j=l[j]:=by simp[a6,aX,bB a]
 rw[e] at b;simp[b]
theorem Du (qx gx base:Nat) (row:Option Nat) (A:Option Addr) (cap:Nat) (ok:Nat->Prop) (l:List (List Int)) (del:List Int->Bool) (a W:World) (b:Kd.N (Kd.slice 3 (Kd.int .i64)) 26 W base ok (.slice A l.length cap) l) (g:a.grownBy W row) (k:pd qx gx row a l del) (hex:∀j:Nat,j<l.length->del (a6 l j)=false):
  Calls Tryz.prog 115 #[.slice A l.length cap,.func (.func 116) #[] #[.pointer (some ⟨qx,0,none⟩),.pointer (some ⟨gx,0,none⟩)]] W fun e w'=>e= .returned (.slice A l.length cap)/\Below W.heap.size W w':=by
 have n:Aside0 (Calls Tryz.prog 175 #[.slice A l.length cap,.func (.func 116) #[] #[.pointer (some ⟨qx,0,none⟩),.pointer (some ⟨gx,0,none⟩)]] W fun e w'=>e= .returned (.int .i64 (-1))/\Below W.heap.size W w'):=⟨(vC qx gx base row A cap ok l del a W b g k).mono (by
  rintro e w' ⟨r,rfl,⟨rfl,h⟩|⟨i,rfl,h1,m,p⟩,hb⟩
  ·exact⟨rfl,hb⟩
  ·rw[hex i h1] at m;cases m)⟩
 clear b g k hex;go_enter Tryz.func115,Tryz.ntmps115
 go_wp2_with (go_at_call 175;refine n.out.mono ?_;rintro e w1 ⟨rfl,hb⟩;have o:=zA hb;clear hb)
 go_ret;exact⟨rfl,o.out⟩
def cR.l0:Nat->Int->List Int->Int->Int->List (S83)->Option (List Int)
 |0,_,_,_,_,_=>none
 |k+1,x1,x2,x3,a,b=>(eO.f k a b x1 x2).bind fun e=>(if e=true then(if 0<=x3 then(if x3<(x2.length:Int) then(cR.l0 k x1 (x2.set (x3:Int).toNat (wrap64 ((rd x2 x3)+1))) x3 a b) else(none)) else(none)) else(if 0<=x3 then(if x3<(x2.length:Int) then(some (x2.set (x3:Int).toNat (wrap64 ((rd x2 x3)-1)))) else(none)) else(none)))
def cR.f (k:Nat) (b:Int) (e:List (S83)) (g:Int) (l2:List Int) (a3:Int):Option (List Int):=(fJ.f l2).bind fun a=>(if 0<=a3 then(if a3<(a.length:Int) then(cR.l0 k g (a.set (a3:Int).toNat (wrap64 ((rd a a3)+1))) a3 b e) else(none)) else(none))
theorem cR.cD:∀k,(∀a b e g i,ai (cR.l0 k a b e g i) (cR.l0 (k+1) a b e g i))
 |0=>fun _ _ _ _ _ r h=>by simp[cR.l0] at h
 |k+1=>by
  have j:=cR.cD k
  ·intro a b e g i
   unfold cR.l0;with_reducible repeat' first|exact j _ _ _ _ _|exact eO.mono _ _ _ _ _|exact ai.refl _|exact ai.none _|refine ai.ite ?_ ?_|refine ai.bind ?_ (fun _=>?_)
theorem cR.mono:∀a0 a a2 a3 a4 k,ai (cR.f k a0 a a2 a3 a4) (cR.f (k+1) a0 a a2 a3 a4):=by
 intro a0 a a2 a3 a4 k;have b:=cR.cD k;unfold cR.f;with_reducible repeat' first|exact b _ _ _ _ _|exact eO.mono _ _ _ _ _|exact ai.refl _|exact ai.none _|refine ai.ite ?_ ?_|refine ai.bind ?_ (fun _=>?_)
theorem cR.calls (k:Nat) (m:Int) (u:Option Addr) (x:Nat) (j:List (S83)) (o:Int) (U:Option Addr) (c2:Nat) (l2:List Int) (a3:Int) (r:List Int) (w:World) (a2:Kd.C aN w u j.length j) (a4:j.length<=x) (a5:Kd.C (Kd.int .i64) w U l2.length l2) (a9:l2.length<=c2) (h:cR.f k m j o l2 a3=some r):
  Calls Tryz.prog 117 #[.agg #[.int .i64 m,.slice u j.length x],.int .i64 o,.slice U l2.length c2,.int .i64 a3] w fun e w'=>∃be:Value,e= .returned (be)/\Kd.R (Kd.int .i64) 3 w' w.heap.size (fun _=>True) be r/\Below w.heap.size w w':=by
 have cs:=Tryz.underlying24;have bf:=zA a2;have bg:=zA a4;clear a2 a4;have b6:=zA a5;have b_:=zA a9;clear a5 a9;have i:=zA (aq w.heap.size w);unfold cR.f at h;have H:=h;clear h;obtain⟨n,A5,H⟩:=zo H;by_cases D:0<=a3
 ·rw[if_pos D] at H
  have ca:=ay D;clear D;by_cases E:a3<(n.length:Int)
  ·rw[if_pos E] at H
   have cb:=ay E;clear E;obtain⟨V,W⟩:∃B:List Int,B=(n.set (a3:Int).toNat (wrap64 ((rd n a3)+1))):=⟨_,rfl⟩;replace H:(cR.l0 k o V a3 m j)=some r:=zh W H;have cc:=zA W;clear W;have F:=zA H;clear H;go_enter Tryz.func117,Tryz.ntmps117
   go_wp2_with (first|((with_reducible refine aU (N:=4) rfl ?_);refine zX 4 #[.int .i64 m,.slice u j.length x] 24 ?_;intro cd hg w9 bi hb;have g:=zA (bi);have cv:=zG i hg;have cx:=zG i hg;replace i:=zS i hb;clear hb bi hg)|((with_reducible refine aJ (f:=57) rfl ?_);refine zL (some 10) Tryz.func57 #[.slice U l2.length c2] ?_;(with_reducible refine(fJ.calls _ _ l2 n _ ?al ?aj A5.out).mono ?_);(case al=>exact Kd.ax b6.out zB);(case aj=>exact b_.out);rintro e bk ⟨c0,rfl,bn,hb⟩;refine⟨_,rfl,?_⟩;have q:=zA (Kd.bd bn (bH zB));replace g:=zb g hb;replace i:=zS i hb;(try clear hb);(try clear bn);obtain⟨c1,y,ce⟩:=Kd.bh q.out;subst ce;have G:0<=(a3:Int):=aw ‹_›;have I:a3<(n.length:Int):=aw ‹_›;obtain⟨c3,cf,bo⟩:=Kd.bJ (Kd.aH q.out).2.2 a3 G I;cases cf;replace G:=eq_true G;replace I:=eq_true I;have J:0<=(a3:Int):=aw ‹_›;have K:(a3:Int)<((n.length:Int):Int):=aw ‹_›;obtain⟨l,c4,bv,bw,cg,c5,bx⟩:=Kd.fE q.out (by omega);(first|cases bv|(injection bv with L ch ci;(first|subst L|(injection L with L;subst L));subst ci;clear ch));have X:=zA bw;have c8:=zA bx;clear bw cg bx;(first|simp only[add_plain] at bo|skip);obtain⟨cj,c9⟩:=Kd.bO 0 q.out (a3:Int) J K;replace J:=eq_true J;replace K:=eq_true K;obtain⟨c',dd⟩:=Kd.bO 0 q.out (a3:Int) (aw ‹_›) (aw ‹_›);have Y:=Kd.dh q.out (a3:Int) (wrap64 ((rd n a3)+1)))|((with_reducible refine jO (t:=3) (p:=16) rfl ?_);refine jN (t:=3) (p:=16) (v:=?JV) (w1:=(bk.setCell ⟨l,(a3:Int).toNat,none⟩ (.int .i64 (wrap64 ((rd n a3)+1))))) ?hg ?ho ?hn ?hr ?_;(case ho=>rfl);(case hg=>rfl);(case hn=>rfl);(case hr=>first|(go_simp;done)|(go_simp;rfl));intro Z hw;have hg:bk.grownBy Z (some l):=(by rw[hw];exact Y.2);have s:Kd.R (Kd.int .i64) 3 Z w.heap.size (fun _=>True) (.slice (some ⟨l,0,none⟩) n.length y) V:=(by rw[hw,cc.out];exact Y.1);clear Y;replace g:=zA (dc (zK g) hg (Kd.dr q.out g.out (by decide)));replace q:=zA (s);replace i:=zA ((by rw[hw];exact dL (i.out) X.out:Below w.heap.size w Z));clear hg hw s))
   go_loopg [] k (fun kq w'=>∃(b:List Int),Aside0 (cR.l0 kq o b a3 m j=some r)/\Aside0 (kq<=k)/\Aside0 (Kd.R (Kd.int .i64) 3 w' w.heap.size (fun _=>True) (.slice (some ⟨l,0,none⟩) n.length y) b)/\Aside0 (w'.heap[cd]? =some (.cells #[.int .i64 m,(.slice u j.length x)] 24 (0,0)))/\Aside0 (Below w.heap.size w w'))
   case atStart=>exact⟨(V),F,⟨aI _⟩,⟨zR q⟩,⟨zK g⟩,⟨zB⟩⟩
   case round=>
    clear F;clear ca cb J K bo cj G I;obtain⟨b,HA,b1,a,g,i⟩:=hrel;have z:=(Kd.aH a.out).1;rw[z] at a
    (try simp only[z])
    (try simp only[z] at g)
    cases gk with
    |zero=>exact absurd HA.out (by simp[cR.l0])
    |succ M=>
     have H:=HA.out;clear HA;simp only[cR.l0] at H;obtain⟨ck,b2,H⟩:=zo H;by_cases O:ck=true
     ·subst O
      replace H:=zi H;by_cases P:0<=a3
      ·rw[if_pos P] at H
       have dk:=ay P;clear P;by_cases Q:a3<(b.length:Int)
       ·rw[if_pos Q] at H
        have dl:=ay Q;clear Q;obtain⟨ab,ad⟩:∃B:List Int,B=(b.set (a3:Int).toNat (wrap64 ((rd b a3)+1))):=⟨_,rfl⟩;replace H:(cR.l0 M o ab a3 m j)=some r:=zh ad H;have cl:=zA ad;clear ad;have F:=zA H;clear H;obtain⟨ds,dv,dx,d0⟩:=aA g;go_wp2_with (first|((with_reducible refine aJ (f:=176) rfl ?_);refine zL (some 20) Tryz.func176 #[.agg #[.int .i64 m,.slice u j.length x],.int .i64 o,.slice (some ⟨l,0,none⟩) b.length y] ?_;(with_reducible refine(eO.calls M m _ _ j o _ _ b true _ ?al ?aj ?bl ?bm b2.out).mono ?_);(case al=>exact Kd.ax bf.out zB);(case aj=>exact bg.out);(case bl=>exact zC (Kd.aH a.out).2.2);(case bm=>exact(Kd.aH a.out).2.1);rintro e b3 ⟨rfl,hb⟩;refine⟨_,rfl,?_⟩;replace a:=bp a hb;replace g:=zb g hb;replace i:=zS i hb;(try clear hb);have ag:0<=(a3:Int):=aw ‹_›;have ak:a3<(b.length:Int):=aw ‹_›;obtain⟨cn,co,am⟩:=Kd.bJ (Kd.aH a.out).2.2 a3 ag ak;obtain rfl:(⟨l,0,none⟩:Addr)=cn:=(by injection co);(first|simp only[add_plain] at am|simp only[iC] at am|simp only[Addr.add,Nat.zero_add] at am|skip);replace ag:=eq_true ag;replace ak:=eq_true ak;have an:0<=(a3:Int):=aw ‹_›;have ap:(a3:Int)<((b.length:Int):Int):=aw ‹_›;obtain⟨d1,d2⟩:=Kd.bO 0 a.out (a3:Int) an ap;replace an:=eq_true an;replace ap:=eq_true ap;obtain⟨d3,d4⟩:=Kd.bO 0 a.out (a3:Int) (aw ‹_›) (aw ‹_›);have ar:=Kd.dh a.out (a3:Int) (wrap64 ((rd b a3)+1)))|((with_reducible refine jO (t:=3) (p:=26) rfl ?_);refine jN (t:=3) (p:=26) (v:=?L5) (w1:=(b3.setCell ⟨l,(a3:Int).toNat,none⟩ (.int .i64 (wrap64 ((rd b a3)+1))))) ?hg ?ho ?hn ?hr ?_;(case ho=>rfl);(case hg=>rfl);(case hn=>rfl);(case hr=>first|(go_simp;done)|(go_simp;rfl));intro av hw;have hg:b3.grownBy av (some l):=(by rw[hw];exact ar.2);have s:Kd.R (Kd.int .i64) 3 av w.heap.size (fun _=>True) (.slice (some ⟨l,0,none⟩) b.length y) ab:=(by rw[hw,cl.out];exact ar.1);clear ar;replace g:=zA (dc (zK g) hg (Kd.dr a.out g.out (by decide)));replace a:=zA (s);replace i:=zA ((by rw[hw];exact dL (i.out) X.out:Below w.heap.size w av));clear hg hw s))
        (try simp only[<-z])
        go_roundg M
        case measure=>have:=b1.out;omega
        case rel=>exact⟨(ab),F,⟨by have:=b1.out;omega⟩,⟨by(try simp only[z]);(with_reducible repeat(first|apply Kd.aM|apply Kd.bs|apply Kd.bj));exact a.out⟩,⟨by(try simp only[z]);exact zK g⟩,⟨zB⟩⟩
       ·rw[if_neg Q] at H
        exact absurd H (by simp)
      ·rw[if_neg P] at H
       exact absurd H (by simp)
     ·replace O:=Bool.eq_false_iff.mpr O
      subst O;replace H:=zj H;by_cases S:0<=a3
      ·rw[if_pos S] at H
       have d5:=ay S;clear S;by_cases T:a3<(b.length:Int)
       ·rw[if_pos T] at H
        have d6:=ay T;clear T;obtain⟨b4,aB⟩:∃B:List Int,B=(b.set (a3:Int).toNat (wrap64 ((rd b a3)-1))):=⟨_,rfl⟩;replace H:(some b4)=some r:=zh aB H;have cp:=zA aB;clear aB;obtain rfl:=aQ H;obtain⟨d7,d8,d9,ea⟩:=aA g;go_wp2_with (first|((with_reducible refine aJ (f:=176) rfl ?_);refine zL (some 20) Tryz.func176 #[.agg #[.int .i64 m,.slice u j.length x],.int .i64 o,.slice (some ⟨l,0,none⟩) b.length y] ?_;(with_reducible refine(eO.calls M m _ _ j o _ _ b false _ ?al ?aj ?bl ?bm b2.out).mono ?_);(case al=>exact Kd.ax bf.out zB);(case aj=>exact bg.out);(case bl=>exact zC (Kd.aH a.out).2.2);(case bm=>exact(Kd.aH a.out).2.1);rintro e b5 ⟨rfl,hb⟩;refine⟨_,rfl,?_⟩;replace a:=bp a hb;replace g:=zb g hb;replace i:=zS i hb;(try clear hb);have aF:0<=(a3:Int):=aw ‹_›;have aL:a3<(b.length:Int):=aw ‹_›;obtain⟨cq,cr,aO⟩:=Kd.bJ (Kd.aH a.out).2.2 a3 aF aL;obtain rfl:(⟨l,0,none⟩:Addr)=cq:=(by injection cr);(first|simp only[add_plain] at aO|simp only[iC] at aO|simp only[Addr.add,Nat.zero_add] at aO|skip);replace aF:=eq_true aF;replace aL:=eq_true aL;have aP:0<=(a3:Int):=aw ‹_›;have aR:(a3:Int)<((b.length:Int):Int):=aw ‹_›;obtain⟨eb,ed⟩:=Kd.bO 0 a.out (a3:Int) aP aR;replace aP:=eq_true aP;replace aR:=eq_true aR;obtain⟨eg,ek⟩:=Kd.bO 0 a.out (a3:Int) (aw ‹_›) (aw ‹_›);have aS:=Kd.dh a.out (a3:Int) (wrap64 ((rd b a3)-1)))|((with_reducible refine jO (t:=3) (p:=32) rfl ?_);refine jN (t:=3) (p:=32) (v:=?L6) (w1:=(b5.setCell ⟨l,(a3:Int).toNat,none⟩ (.int .i64 (wrap64 ((rd b a3)-1))))) ?hg ?ho ?hn ?hr ?_;(case ho=>rfl);(case hg=>rfl);(case hn=>rfl);(case hr=>first|(go_simp;done)|(go_simp;rfl));intro a0 hw;have hg:b5.grownBy a0 (some l):=(by rw[hw];exact aS.2);have s:Kd.R (Kd.int .i64) 3 a0 w.heap.size (fun _=>True) (.slice (some ⟨l,0,none⟩) b.length y) b4:=(by rw[hw,cp.out];exact aS.1);clear aS;replace g:=zA (dc (zK g) hg (Kd.dr a.out g.out (by decide)));replace a:=zA (s);replace i:=zA ((by rw[hw];exact dL (i.out) X.out:Below w.heap.size w a0));clear hg hw s))
        go_ret;exact⟨_,zE,by(with_reducible repeat(first|apply Kd.aM|apply Kd.bs|apply Kd.bj));exact a.out,zB⟩
       ·rw[if_neg T] at H
        exact absurd H (by simp)
      ·rw[if_neg S] at H
       exact absurd H (by simp)
  ·rw[if_neg E] at H
   exact absurd H (by simp)
 ·rw[if_neg D] at H
  exact absurd H (by simp)
def eQ (x:List Int) (q:Int) (r:Nat->List Int) (k:Nat):Bool:=(List.range k).any fun v=>decide ((v:Int)≠q)&&decide (rd x v<rd (r v) v)
theorem ph (x:List Int) (q:Int) (r:Nat->List Int) (k:Nat):eQ x q r (k+1)=(eQ x q r k||(decide ((k:Int)≠q)&&decide (rd x k<rd (r k) k))):=by simp[eQ,List.range_succ,List.any_append]
theorem Dv {x:List Int} {q:Int} {r:Nat->List Int} {k n:Nat} (hk:k<n) (a:(k:Int)≠q) (h:rd x k<rd (r k) k):eQ x q r n=true:=by
 unfold eQ;rw[List.any_eq_true];exact⟨k,List.mem_range.2 hk,by simp[a,h]⟩
theorem Dw (K:Nat) (N:Int) (A0:Option Addr) (c0:Nat) (E:List S83) (q:Int) (qx gx:Nat) (A:Option Addr) (c:Nat) (x:List Int) (r:Nat->List Int) (W:World) (w:Kd.C aN W A0 E.length E) (J:E.length<=c0) (y:W.heap[gx]? =some (.cells #[.int .i64 N,.slice A0 E.length c0] 24 (0,0))) (z:W.heap[qx]? =some (.cells #[.int .i64 q] 3 (0,0)))
  (l:Kd.C (Kd.int .i64) W A x.length x) (L:x.length<=c) (B:∀v:Nat,v<x.length->(v:Int)≠q->cR.f K N E q x v=some (r v)/\v<(r v).length):
  Calls Tryz.prog 116 #[.slice A x.length c,.pointer (some ⟨qx,0,none⟩),.pointer (some ⟨gx,0,none⟩)] W fun e w'=>e= .returned (.bool (eQ x q r x.length))/\Below W.heap.size W w':=by
 have M:=zA w;have D:=zA y;have O:=zA z;have P:=zA l;have Q:=zA B;have Z:x.length<=9223372036854775807:=Kd.mV l;clear w y z l B;go_enter Tryz.func116,Tryz.ntmps116
 go_wp2;go_loopw [10] (fun i wr=>∃k:Nat,k<=x.length/\i= .int .i64 k/\Aside0 (eQ x q r k=false)/\Aside0 (Below W.heap.size W wr)) (fun i _=>x.length- (intOf i).toNat)
 case atStart=>exact⟨0,by omega,rfl,⟨rfl⟩,⟨aq _ _⟩⟩
 case round=>
  obtain⟨k,hk,rfl,m,a⟩:=hrel;have aa:wr.cell? ⟨qx,0,none⟩=some (.int .i64 q):=(ah (aD O.out a.out) 0).trans rfl;have ab:wr.cell? ⟨gx,0,none⟩=some (.int .i64 N):=(ah (aD D.out a.out) 0).trans rfl;have ag:wr.cell? ⟨gx,1,none⟩=some (.slice A0 E.length c0):=(ah (aD D.out a.out) 1).trans rfl;have hu:=Tryz.underlying24;by_cases F:k<x.length
  ·have hC:=Kd.ax P.out a.out
   have R:=zA hC;obtain⟨ad,rfl,S⟩:=Kd.bJ hC k (by omega) (by omega);rw[aG] at S;have ak:(0:Int)<=(k:Int):=by omega
   have am:(k:Int)<(x.length:Int):=by omega
   clear hC;by_cases b:(k:Int)=q
   ·have o:=zA (show eQ x q r (k+1)=false from by rw[ph,m.out];simp[b])
    have T:((k:Int)==q)=true:=by simpa using b
    have G:=zA b;clear b;go_wp2;go_roundw
    case rel=>exact⟨k+1,by omega,by go_num,o,a⟩
    case measure=>exact(show x.length- ((k:Int)+1).toNat<x.length- ((k:Int)).toNat by omega)
   ·have T:((k:Int)==q)=false:=by simpa using b
    obtain⟨H,an⟩:=Q.out k F b;have I:=zA (cR.calls K N A0 c0 E q (some ad) c x k (r k) wr (Kd.ax M.out a.out) J R.out L H);have G:=zA b;clear b H;by_cases p:rd x k<rd (r k) k
    ·have U:=zA (Dv (n:=x.length) F G.out p)
     have V:(k:Int)<((r k).length:Int):=by omega
     go_wp2_with (go_at_call 117;refine I.out.mono ?_;rintro e w1 ⟨v1,rfl,g,h⟩;obtain⟨X,cr,rfl⟩:=Kd.bh g;obtain⟨-, -,j⟩:=Kd.aH g;obtain⟨Y,rfl,s⟩:=Kd.bJ j k (by omega) (by omega);rw[aG] at s;have u:=zA h;clear g h j)
     go_ret;exact⟨by rw[U.out];rfl,a.out.trans (u.out.mono a.out.size)⟩
    ·have o:=zA (show eQ x q r (k+1)=false from by rw[ph,m.out];simp[p])
     have ap:¬rd (r k) k>rd x k:=p;have V:(k:Int)<((r k).length:Int):=by omega
     go_wp2_with (go_at_call 117;refine I.out.mono ?_;rintro e w1 ⟨v1,rfl,g,h⟩;obtain⟨X,cr,rfl⟩:=Kd.bh g;obtain⟨-, -,j⟩:=Kd.aH g;obtain⟨Y,rfl,s⟩:=Kd.bJ j k (by omega) (by omega);rw[aG] at s;have u:=zA h;clear g h j)
     go_roundw
     case rel=>exact⟨k+1,by omega,by go_num,o,⟨a.out.trans (u.out.mono a.out.size)⟩⟩
     case measure=>exact(show x.length- ((k:Int)+1).toNat<x.length- ((k:Int)).toNat by omega)
  ·obtain rfl:k=x.length:=by omega
   go_wp2;go_ret;exact⟨by rw[m.out];rfl,a.out⟩
theorem Dx (k:Nat) (N:Int) (A0:Option Addr) (c0:Nat) (E:List S83) (q:Int) (l:List (List Int)) (t:Int) (w:World) (g:Kd.C aN w A0 E.length E) (h:E.length<=c0) (hf:eP.f k N E q=some (l,t)) (a:t≠0):
  Calls Tryz.prog 56 #[.agg #[.int .i64 N,.slice A0 E.length c0],.int .i64 q] w fun e w'=>e= .returned (.tuple #[.slice none 0 0,.int .i64 t])/\Below w.heap.size w w':=by
 have hu:=Tryz.underlying24;have i:=zA hf;have n:(t != 0)=true:=by simpa using a
 have b:=zA (au (a7 w (.cells #[.int .i64 N,.slice A0 E.length c0] 24)) (.cells #[.int .i64 q] 3));have o:((w.alloc (.cells #[.int .i64 N,.slice A0 E.length c0] 24)).alloc (.cells #[.int .i64 q] 3)).cell? ⟨w.heap.size,0,none⟩=some (.int .i64 N):=(ah b.out 0).trans rfl;have p:((w.alloc (.cells #[.int .i64 N,.slice A0 E.length c0] 24)).alloc (.cells #[.int .i64 q] 3)).cell? ⟨w.heap.size,1,none⟩=some (.slice A0 E.length c0):=(ah b.out 1).trans rfl;clear hf a;go_enter Tryz.func56,Tryz.ntmps56
 go_wp2_with (go_at_call 114;refine(eP.calls k N A0 c0 E q l t _ (Kd.bz (Kd.bz g _) _) h i.out).mono ?_;rintro e w1 ⟨v,rfl,j,hb⟩;have m:=zA (aW (ao (ao (aq w.heap.size w) _) _) hb);clear j hb)
 go_ret2;exact⟨rfl,m.out⟩
theorem Dy (k K:Nat) (N:Int) (A0:Option Addr) (c0:Nat) (E:List S83) (q:Int) (l:List (List Int)) (r:List Int->Nat->List Int) (w:World) (F:Kd.C aN w A0 E.length E) (G:E.length<=c0) (hf:eP.f k N E q=some (l,0)) (H:∀x∈l,∀v:Nat,v<x.length->(v:Int)≠q->cR.f K N E q x v=some (r x v)/\v<(r x v).length):
  Calls Tryz.prog 56 #[.agg #[.int .i64 N,.slice A0 E.length c0],.int .i64 q] w fun e w'=>∃v,e= .returned (.tuple #[v,.int .i64 0])/\Kd.N (Kd.slice 3 (Kd.int .i64)) 26 w' w.heap.size (fun R=>(w.heap.size<=R)) v (l.filter fun x=> !eQ x q (r x) x.length)/\Below w.heap.size w w':=by
 have hu:=Tryz.underlying24;have S:=zA hf;have i:=zA (au (a7 w (.cells #[.int .i64 N,.slice A0 E.length c0] 24)) (.cells #[.int .i64 q] 3));have T:=zA (heap_alloc2_new w (.cells #[.int .i64 N,.slice A0 E.length c0] 24) (.cells #[.int .i64 q] 3));have ag:((w.alloc (.cells #[.int .i64 N,.slice A0 E.length c0] 24)).alloc (.cells #[.int .i64 q] 3)).cell? ⟨w.heap.size,0,none⟩=some (.int .i64 N):=(ah i.out 0).trans rfl;have ak:((w.alloc (.cells #[.int .i64 N,.slice A0 E.length c0] 24)).alloc (.cells #[.int .i64 q] 3)).cell? ⟨w.heap.size,1,none⟩=some (.slice A0 E.length c0):=(ah i.out 1).trans rfl;have U:=zA H;clear hf H;go_enter Tryz.func56,Tryz.ntmps56
 go_wp2_with (go_at_call 114;refine(eP.calls k N A0 c0 E q l 0 _ (Kd.bz (Kd.bz F _) _) G S.out).mono ?_;rintro e w1 ⟨v,rfl,n,hb⟩;obtain⟨I,o,rfl⟩:=Kd.nf n;have a:=zA (aW (ao (ao (aq w.heap.size w) _) _) hb);have J:=zA (aD i.out hb);have L:=zA (aD T.out hb);have b:=zA n;clear n hb)
 have p:w.heap.size+2=((w.alloc (.cells #[.int .i64 N,.slice A0 E.length c0] 24)).alloc (.cells #[.int .i64 q] 3)).heap.size:=by simp
 rw[<-p] at b;have M:Aside0 (∀row,(∀g,row=some g->w.heap.size+2<=g)->pd (w.heap.size+1) w.heap.size row w1 l (fun x=>eQ x q (r x) x.length)):=⟨fun row s W' A c x u V W X=>by
  have Y:Below w.heap.size w W':=kx a.out row a.out.size u (fun g e=>by have:=s g e;omega);refine Dw K N A0 c0 E q (w.heap.size+1) w.heap.size A c x (r x) W' (Kd.ax F Y) G ((u.block _ (aC J.out) (fun e=>by have:=s _ e.symm;omega)).trans J.out) ((u.block _ (aC L.out) (fun e=>by have:=s _ e.symm;omega)).trans L.out) X W (U.out x V)⟩
 have aY:=a.out.size;by_cases hex:∃j:Nat,j<l.length/\(fun x=>eQ x q (r x) x.length) (a6 l j)=true
 ·obtain⟨g0,cap,Z,am, -, -⟩:=Kd.Bl b.out (by obtain⟨j,O,_⟩:=hex;omega)
  injection Z with aa an ab
  subst aa ab;refine(Dt (w.heap.size+1) w.heap.size (w.heap.size+2) g0 o (fun k=>w.heap.size+2<=k) l _ w1 w1 b.out ⟨rfl,rfl,rfl,aI _,fun _ _ _=>rfl⟩ (M.out (some g0) (fun g e=>by injection e with e;omega)) hex).mono ?_;rintro e w2 ⟨m,rfl,hm,P,Q⟩;have y:=zA (Kd.eE (Kd.kF (base':=w.heap.size) P (by omega)) (ok':=fun k=>w.heap.size<=k) (fun k hk=>by omega));have z:=zA (kx a.out (some g0) a.out.size Q (fun k e=>by injection e with e;omega));clear hm P Q hex p;go_wp2;go_ret2;exact⟨_,rfl,y.out,z.out⟩
 ·have B:∀j:Nat,j<l.length->(fun x=>eQ x q (r x) x.length) (a6 l j)=false:=fun j O=>by
   cases h:(fun x=>eQ x q (r x) x.length) (a6 l j) with
   |false=>rfl
   |true=>exact absurd ⟨j,O,h⟩ hex
  have ad:=zA (filter_none (l:=l) (del:=fun x=>eQ x q (r x) x.length) B);refine(Du (w.heap.size+1) w.heap.size (w.heap.size+2) none I o (fun k=>w.heap.size+2<=k) l _ w1 w1 b.out ⟨rfl,rfl,rfl,aI _,fun _ _ _=>rfl⟩ (M.out none (fun g e=>by cases e)) B).mono ?_;rintro e w2 ⟨rfl,D⟩;have y:=zA (Kd.dF (Kd.eE (Kd.kF (base':=w.heap.size) b.out (by omega)) (ok':=fun k=>w.heap.size<=k) (fun k hk=>by omega)) D);have z:=zA (a.out.trans (D.mono a.out.size));clear D hex B p;go_wp2;go_ret2;exact⟨.slice I l.length o,rfl,by rw[ad.out];exact y.out,z.out⟩
def kO (k:Nat) (N:Int) (E:List S83) (q:Int) (l:List (List Int)):Bool:=l.all fun c=>(List.range c.length).all fun v=>decide ((v:Int)=q)||match cR.f k N E q c v with|some r=>decide (v<r.length)|none=>false
def gT (k:Nat) (N:Int) (E:List S83) (q:Int) (c:List Int) (v:Nat):List Int:=(cR.f k N E q c v).getD []
theorem vE {k:Nat} {N:Int} {E:List S83} {q:Int} {l:List (List Int)} (h:kO k N E q l=true):∀x∈l,∀v:Nat,v<x.length->(v:Int)≠q->cR.f k N E q x v=some (gT k N E q x v)/\v<(gT k N E q x v).length:=by
 intro x b v e g;have h1:=List.all_eq_true.1 (List.all_eq_true.1 h x b) v (List.mem_range.2 e);rw[aZ g,Bool.false_or] at h1;unfold gT;cases a:cR.f k N E q x v with
 |none=>rw[a] at h1;cases h1
 |some r=>rw[a] at h1;exact⟨rfl,by simpa using h1⟩
def gF.f (k:Nat) (N:Int) (E:List S83) (q:Int):Option (List (List Int)×Int):=
 (eP.f k N E q).bind fun t=>if t.2=0 then(if kO k N E q t.1=true then some (t.1.filter fun x=> !eQ x q (gT k N E q x) x.length,0) else none) else some ([],t.2)
theorem vF {x:List Int} {q:Int} {r a:Nat->List Int}:∀k,(∀v:Nat,v<k->(v:Int)≠q->r v=a v)->eQ x q r k=eQ x q a k
 |0,_=>rfl
 |k+1,h=>by
  rw[ph,ph,vF k (fun v e=>h v (by omega))];by_cases b:(k:Int)=q
  ·simp[b]
  ·rw[h k (by omega) b]
theorem gF.mono:∀h i j k,ai (gF.f k h i j) (gF.f (k+1) h i j):=by
 intro N E q k;unfold gF.f;refine ai.bind (eP.mono _ _ _ _) (fun t=>?_);refine ai.ite ?_ (ai.refl _);intro r g;by_cases hk:kO k N E q t.1=true
 ·rw[if_pos hk] at g
  have l:=vE hk;have m:∀x∈t.1,∀v:Nat,v<x.length->(v:Int)≠q->cR.f (k+1) N E q x v=some (gT k N E q x v):=fun x e v a b=>cR.mono _ _ _ _ _ _ _ (l x e v a b).1
  have n:∀x∈t.1,∀v:Nat,v<x.length->(v:Int)≠q->gT k N E q x v=gT (k+1) N E q x v:=fun x e v a b=>by
   have h1:=m x e v a b;generalize gT k N E q x v=y at h1;unfold gT;rw[h1];rfl
  have o:kO (k+1) N E q t.1=true:=by
   refine List.all_eq_true.2 fun x e=>List.all_eq_true.2 fun v a=>?_
   have a:=List.mem_range.1 a;by_cases b:(v:Int)=q
   ·simp[b]
   ·rw[m x e v a b]
    simp[(l x e v a b).2]
  rw[if_pos o,<-g];congr 2
  refine List.filter_congr fun x e=>?_
  rw[vF x.length (fun v a b=>(n x e v a b).symm)]
 ·rw[if_neg hk] at g;cases g
theorem gF.calls (k:Nat) (b:Int) (i:Option Addr) (j:Nat) (a:List (S83)) (g:Int) (o:List (List Int)) (p:Int) (w:World) (q:Kd.C aN w i a.length a) (r:a.length<=j) (h:gF.f k b a g=some (o,p)):
  Calls Tryz.prog 56 #[.agg #[.int .i64 b,.slice i a.length j],.int .i64 g] w fun e w'=>∃s:Value,e= .returned (.tuple #[s,.int .i64 p])/\Kd.N (Kd.slice 3 (Kd.int .i64)) 26 w' w.heap.size (fun v=>(w.heap.size<=v)) s o/\Below w.heap.size w w':=by
 unfold gF.f at h;obtain⟨⟨l,t⟩,u,H⟩:=Option.bind_eq_some_iff.mp h;simp only at H;by_cases m:t=0
 ·subst m
  rw[if_pos rfl] at H;by_cases n:kO k b a g l=true
  ·rw[if_pos n] at H
   simp only[Option.some.injEq,Prod.mk.injEq] at H;obtain⟨rfl,rfl⟩:=H;exact Dy k k b i j a g l _ w q r u (vE n)
  ·rw[if_neg n] at H;cases H
 ·rw[if_neg m] at H
  simp only[Option.some.injEq,Prod.mk.injEq] at H;obtain⟨rfl,rfl⟩:=H;refine(Dx k b i j a g l t w q r u m).mono ?_;rintro e w' ⟨rfl,hb⟩;exact⟨_,rfl,Kd.fV _ _ _ _ _,hb⟩
end Go.Proofs.YtffdiakgjakngaaGreat.P


namespace Go.Proofs.YtffdiakgjakngaaGreat.P
open Go.RowKit Go.Proofs.YtffdiakgjakngaaGreatW.PrintWords Go.Proofs.YtffdiakgjakngaaGreatW.PrintLast Go.Proofs.YtffdiakgjakngaaGreatW.PrintMore
set_option linter.unusedVariables false
set_option linter.unusedSimpArgs false
set_option maxHeartbeats 8000000
set_option maxRecDepth 100000
mutual
def bK.j0:Nat->Int->Bool->Int->List (S83)->Option ((List (List Int))×Int)
 |0,_,_,_,_=>none
 |k+1,x1,b,e,g=>if b=true then(some (([]:List (List Int)),2)) else((gF.f k e g x1).bind fun a=>(if a.2=0 then(bK.l0 k x1 ([]:List (List Int)) a.1 (a.1.length:Int) 0) else(some (([]:List (List Int)),a.2))))
def bK.l0:Nat->Int->List (List Int)->List (List Int)->Int->Int->Option ((List (List Int))×Int)
 |0,_,_,_,_,_=>none
 |k+1,x1,b,e,g,a=>if a<g then(if 0<=a then(if a<(e.length:Int) then((fJ.f (a6 e a)).bind fun h=>(if 0<=x1 then(if x1<(h.length:Int) then(if b.length<5864062014805 then(bK.l0 k x1 (b++[(h.set (x1:Int).toNat (-1))]) e g (wrap64 (a+1))) else(none)) else(none)) else(none))) else(none)) else(none)) else(some (b,0))
end
def bK.f (k:Nat) (a:Int) (e:List (S83)) (b:Int):Option ((List (List Int))×Int):=(dH.f k a e).bind fun g=>(if g=0 then(if b<0 then(bK.j0 k b true a e) else(bK.j0 k b (decide (b>=a)) a e)) else(some (([]:List (List Int)),g)))
theorem bK.cD:∀k,(∀a b e g,ai (bK.j0 k a b e g) (bK.j0 (k+1) a b e g))/\(∀a b e g i,ai (bK.l0 k a b e g i) (bK.l0 (k+1) a b e g i))
 |0=>⟨fun _ _ _ _ r h=>by simp[bK.j0] at h,fun _ _ _ _ _ r h=>by simp[bK.l0] at h⟩
 |k+1=>by
  obtain⟨j,l⟩:=bK.cD k;refine⟨?_,?_⟩
  ·intro a b e g
   unfold bK.j0;with_reducible repeat' first|exact j _ _ _ _|exact l _ _ _ _ _|exact dH.mono _ _ _|exact gF.mono _ _ _ _|exact ai.refl _|exact ai.none _|refine ai.ite ?_ ?_|refine ai.bind ?_ (fun _=>?_)
  ·intro a b e g i
   unfold bK.l0;with_reducible repeat' first|exact j _ _ _ _|exact l _ _ _ _ _|exact dH.mono _ _ _|exact gF.mono _ _ _ _|exact ai.refl _|exact ai.none _|refine ai.ite ?_ ?_|refine ai.bind ?_ (fun _=>?_)
theorem bK.mono:∀a0 a a2 k,ai (bK.f k a0 a a2) (bK.f (k+1) a0 a a2):=by
 intro a0 a a2 k;obtain⟨b,e⟩:=bK.cD k;unfold bK.f;with_reducible repeat' first|exact b _ _ _ _|exact e _ _ _ _ _|exact dH.mono _ _ _|exact gF.mono _ _ _ _|exact ai.refl _|exact ai.none _|refine ai.ite ?_ ?_|refine ai.bind ?_ (fun _=>?_)
theorem bK.calls (k:Nat) (n:Int) (z:Option Addr) (B:Nat) (m:List (S83)) (l:Int) (O:List (List Int)) (P:Int) (w:World) (b4:Kd.C aN w z m.length m) (b5:m.length<=B) (h:bK.f k n m l=some (O,P)):
  Calls Tryz.prog 15 #[.agg #[.int .i64 n,.slice z m.length B],.int .i64 l] w fun e w'=>∃b6:Value,e= .returned (.tuple #[b6,.int .i64 P])/\Kd.N (Kd.slice 3 (Kd.int .i64)) 26 w' w.heap.size (fun a=>(w.heap.size<=a)) b6 O/\Below w.heap.size w w':=by
 have el:=Tryz.underlying24;have aa:=zA b4;have ab:=zA b5;clear b4 b5;have j:=zA (aq w.heap.size w);unfold bK.f at h;have H:=h;clear h;obtain⟨a5,A3,H⟩:=zo H;by_cases c4:a5=0
 ·rw[if_pos c4] at H
  obtain⟨b',ca⟩:=bT c4;clear c4;have a9:=zA H;clear H;go_enter Tryz.func15,Tryz.ntmps15
  go_upto_region 4 with (first|((with_reducible refine aU (N:=2) rfl ?_);refine zX 2 #[.int .i64 n,.slice z m.length B] 24 ?_;intro o hg w6 U hb;have g:=zA (U);have cv:=zG j hg;have cx:=zG j hg;replace j:=zS j hb;clear hb U hg;obtain⟨c0,c1,c2,c3⟩:=aA g)|((with_reducible refine aJ (f:=55) rfl ?_);refine zL (some 14) Tryz.func55 #[.agg #[.int .i64 n,.slice z m.length B]] ?_;(with_reducible refine(dH.calls k n _ _ m a5 _ ?al ?aj A3.out).mono ?_);(case al=>exact Kd.ax aa.out zB);(case aj=>exact ab.out);rintro e w8 ⟨rfl,hb⟩;refine⟨_,rfl,?_⟩;replace g:=zb g hb;replace j:=zS j hb;(try clear hb)))
  (try simp only[Act.put,List.setIfInBounds_toArray,List.set_cons_zero,List.set_cons_succ])
  go_cut [25] (fun v25 wc=>∃(J:Nat) (ad:Bool),v25= .bool ad/\Aside0 (bK.j0 J l ad n m=some (O,P))/\Aside0 (J<=k)/\Aside0 (wc.heap[o]? =some (.cells #[.int .i64 n,(.slice z m.length B)] 24 (0,0)))/\Aside0 (Below w.heap.size w wc))
  case first=>
   have H:=a9.out;clear a9;by_cases Q:l<0
   ·rw[if_pos Q] at H
    have W:=ay Q;clear Q
    (first|rw[W]|(simp only[cH,cP];rw[W])|skip)
    have G:=zA H;clear H;go_wp2;go_meet
    case rel=>exact⟨_,(true),zT,G,⟨by first|omega|exact aI _⟩,⟨zK g⟩,⟨zB⟩⟩
   ·rw[if_neg Q] at H
    have W:=aZ Q;clear Q
    (first|rw[W]|(simp only[cH,cP];rw[W])|skip)
    have G:=zA H;clear H;obtain⟨es,ev,ew,ex⟩:=aA g;go_wp2;go_meet
    case rel=>exact⟨_,(decide (l>=n)),zT,G,⟨by first|omega|exact aI _⟩,⟨zK g⟩,⟨zB⟩⟩
  case rest=>
   clear a9;clear b' ca c0 c1 c2 c3;obtain⟨J,ad,rfl,K,cb,g,j⟩:=hcut;cases J with
   |zero=>exact absurd K.out (by simp[bK.j0])
   |succ ag=>
    have H:=K.out;clear K;simp only[bK.j0] at H;by_cases ak:ad=true
    ·subst ak
     replace H:=zi H;simp only[Option.some.injEq,Prod.mk.injEq] at H;obtain⟨rfl,rfl⟩:=H;go_wp2;go_ret2;exact⟨_,zE,by first|exact Kd.ic _ _ _ _ _|exact Kd.fV _ _ _ _ _|exact Kd.V_nil _ _ _ _ _|exact Kd.Q_nil _ _ _ _ _|exact Kd.dm _ _ _ _ _,zB⟩
    ·replace ak:=Bool.eq_false_iff.mpr ak
     subst ak;replace H:=zj H;obtain⟨⟨i,be⟩,cc,H⟩:=zo H;dsimp only at H;by_cases X:be=0
     ·rw[if_pos X] at H
      obtain⟨cd,ce⟩:=bT X;clear X;have G:=zA H;clear H;obtain⟨c5,c6,c7,c8⟩:=aA g;go_wp2_with (first|((with_reducible refine aJ (f:=56) rfl ?_);refine zL (some 29) Tryz.func56 #[.agg #[.int .i64 n,.slice z m.length B],.int .i64 l] ?_;(with_reducible refine(gF.calls ag n _ _ m l i be _ ?al ?aj cc.out).mono ?_);(case al=>exact Kd.ax aa.out zB);(case aj=>exact ab.out);rintro e ey ⟨c',rfl,y,hb⟩;refine⟨_,rfl,?_⟩;have bf:=zA (Kd.kF (Kd.eE (ok':=fun a=>(w.heap.size<=a)/\a≠o) y (fun a Y=>⟨(Nat.le_trans (bH zB) Y),(Kd.ma (zK g) a Y)⟩)) (bH zB));replace g:=zb g hb;replace j:=zS j hb;(try clear hb);(try clear y);obtain⟨cf,F,dd⟩:=Kd.nf bf.out;subst dd))
      go_loopg [9,37] ag (fun J v9 v37 w'=>∃(I:List (List Int)) (q:Int),v37= .int .i64 q/\Aside0 (bK.l0 J l I i (i.length:Int) q=some (O,P))/\Aside0 (J<=ag)/\Aside0 (Kd.N (Kd.slice 3 (Kd.int .i64)) 26 w' w.heap.size (fun a=>(w.heap.size<=a)/\some a≠((.slice cf i.length F):Value).ownBlock/\a≠o) v9 I)/\Aside0 (Kd.N (Kd.slice 3 (Kd.int .i64)) 26 w' w.heap.size (fun a=>(w.heap.size<=a)/\some a≠(v9:Value).ownBlock/\a≠o) (.slice cf i.length F) i)/\Aside0 (w'.heap[o]? =some (.cells #[.int .i64 n,(.slice z m.length B)] 24 (0,0)))/\Aside0 (Below w.heap.size w w'))
      case atStart=>exact⟨(([]:List (List Int))),(0),zT,G,⟨aI _⟩,⟨by first|exact Kd.ic _ _ _ _ _|exact Kd.fV _ _ _ _ _|exact Kd.V_nil _ _ _ _ _|exact Kd.Q_nil _ _ _ _ _|exact Kd.dm _ _ _ _ _⟩,⟨by(with_reducible repeat(first|apply Kd.e8|apply Kd.gP|apply Kd.gO));exact Kd.eE bf.out (fun _ hk=>⟨hk.1,⟨(by simp[Value.ownBlock]),hk.2⟩⟩)⟩,⟨zK g⟩,⟨zB⟩⟩
      case round=>
       clear G;clear cd ce c5 c6 c7 c8;obtain⟨I,q,rfl,K,cg,D,s,g,j⟩:=hrel;cases gk with
       |zero=>exact absurd K.out (by simp[bK.l0])
       |succ k2=>
        have H:=K.out;clear K;simp only[bK.l0] at H;by_cases S:q<(i.length:Int)
        ·rw[if_pos S] at H
         have dk:=ay S;clear S;by_cases am:0<=q
         ·rw[if_pos am] at H
          have e0:=ay am;clear am;by_cases an:q<(i.length:Int)
          ·rw[if_pos an] at H
           have e1:=ay an;clear an;obtain⟨r,dl,H⟩:=zo H;by_cases ap:0<=l
           ·rw[if_pos ap] at H
            have e2:=ay ap;clear ap;by_cases ar:l<(r.length:Int)
            ·rw[if_pos ar] at H
             have e3:=ay ar;clear ar;obtain⟨av,bi⟩:∃y_:List Int,y_=(r.set (l:Int).toNat (-1)):=⟨_,rfl⟩;replace H:(if I.length<5864062014805 then(bK.l0 k2 l (I++[av]) i (i.length:Int) (wrap64 (q+1))) else(none))=some (O,P):=zh bi H;have ds:=zA bi;clear bi;by_cases aR:I.length<5864062014805
             ·rw[if_pos aR] at H
              have dv:=zA aR;clear aR;obtain⟨ch,bn⟩:∃y_:List (List Int),y_=(I++[av]):=⟨_,rfl⟩;replace H:(bK.l0 k2 l ch i (i.length:Int) (wrap64 (q+1)))=some (O,P):=zh bn H;have dx:=zA bn;clear bn;have G:=zA H;clear H;have a0:0<=(q:Int):=aw ‹_›;have a2:q<(i.length:Int):=aw ‹_›;obtain⟨L,d0,d1,d2,d3,ci,cj⟩:=gQ (Kd.iR s.out).2.2 q a0 a2;cases d2;obtain⟨e4,d4,d5,ck⟩:=Kd.oM s.out [] q a0 (by first|exact a2|exact aw ‹_› |(have e_:=(Kd.iR s.out).1;omega));obtain⟨e6,e',rfl,bo,bv⟩:=Kd.lE d5;have a3:=ck 0 _ rfl;rw[Nat.add_zero,show ((Kd.slice 3 (Kd.int .i64))).sz=1 from rfl,Nat.mul_one] at a3;replace a3:=aQ (a3.symm.trans d3);injection a3 with cl d6 cn
              rw[cl] at bv;rw[cn] at bo;have T:=zA (show Kd.V (Kd.int .i64) 3 _ w.heap.size _ _ (a6 i q) from Kd.qG bo bv);clear cl d6 cn bv bo;clear ck d4;have Z:=zA cj;have d7:=zA ci;clear cj ci;replace a0:=eq_true a0;replace a2:=eq_true a2;go_wp2_with (first|((with_reducible refine aJ (f:=57) rfl ?_);refine zL (some 42) Tryz.func57 #[.slice d0 (a6 i q).length d1] ?_;(with_reducible refine(fJ.calls _ _ (a6 i q) r _ ?al ?aj dl.out).mono ?_);(case al=>repeat(first|exact(by repeat(first|(with_reducible exact Z.out)|(with_reducible refine Kd.bz ?_ _)|(with_reducible refine Kd.gy ?_ _)|(with_reducible refine Kd.fD ?_)|exact Z.out))|(with_reducible refine Kd.bz ?_ _)|(with_reducible refine Kd.gy ?_ _)|(with_reducible refine Kd.fD ?_)));(case aj=>exact d7.out);rintro e co ⟨fb,rfl,y,hb⟩;refine⟨_,rfl,?_⟩;replace D:=ie D y hb;replace s:=ie s y hb;replace T:=zA (Kd.oP (by(with_reducible repeat(first|apply Kd.V_alloc|apply Kd.mo|apply Kd.V_drew));exact T.out) (Kd.dK y) hb);have u:=zA (Kd.bd (Kd.Bt (M:=fun a=>(w.heap.size<=a)) y (bH zB) (fun a h_=>h_)) (bH zB));replace g:=zb g hb;replace Z:=zA (Kd.ax (by repeat(first|(with_reducible exact Z.out)|(with_reducible refine Kd.bz ?_ _)|(with_reducible refine Kd.gy ?_ _)|(with_reducible refine Kd.fD ?_)|exact Z.out)) hb);replace j:=zS j hb;(try clear hb);(try clear y);have bw:0<=(l:Int):=aw ‹_›;have bx:(l:Int)<((r.length:Int):Int):=aw ‹_›;obtain⟨x,E,cp,cq,d9,fd,cr⟩:=Kd.fE u.out (by omega);(first|cases cp|(injection cp with a4 ea eb;(first|subst a4|(injection a4 with a4;subst a4));subst eb;clear ea));have ed:=zA cq;have fn:=zA cr;clear cq d9 cr;obtain⟨fo,fq⟩:=Kd.bO 0 u.out (l:Int) bw bx;replace bw:=eq_true bw;replace bx:=eq_true bx;have n_:=zA (Kd.a_ (ok':=(fun a=>(w.heap.size<=a))) u.out (fun a hk=>hk.1));clear u;have u:=n_;clear n_;obtain⟨fr,ft⟩:=Kd.bO 0 u.out (l:Int) (aw ‹_›) (aw ‹_›);have b0:=Kd.dh u.out (l:Int) (-1))|((with_reducible refine jO (t:=3) (p:=45) rfl ?_);refine jN (t:=3) (p:=45) (v:=?JW) (w1:=(co.setCell ⟨x,(l:Int).toNat,none⟩ (.int .i64 (-1)))) ?hg ?ho ?hn ?hr ?_;(case ho=>rfl);(case hg=>rfl);(case hn=>rfl);(case hr=>first|(go_simp;done)|(go_simp;rfl));intro b1 hw;have hg:co.grownBy b1 (some x):=(by rw[hw];exact b0.2);have ct:Kd.R (Kd.int .i64) 3 b1 w.heap.size (fun a=>(w.heap.size<=a)) (.slice (some ⟨x,0,none⟩) r.length E) av:=(by rw[hw,ds.out];exact b0.1);clear b0;replace D:=zA (Kd.qH (v:=(.slice (some ⟨x,0,none⟩) r.length E)) (v1:=(.slice (some ⟨x,0,none⟩) r.length E)) (ok:=(fun a=>(w.heap.size<=a)/\some a≠(.slice (some L) i.length F:Value).ownBlock/\a≠o)) (zN D) hg (.inl rfl));replace s:=zA (Kd.qH (v:=(.slice (some ⟨x,0,none⟩) r.length E)) (v1:=(.slice (some ⟨x,0,none⟩) r.length E)) (ok:=(fun a=>(w.heap.size<=a)/\some a≠(u9:Value).ownBlock/\a≠o)) (zN s) hg (.inl rfl));replace g:=zA (dc (zK g) hg (Kd.dr u.out g.out (by decide)));replace T:=zA (Kd.ub (v:=(.slice (some ⟨x,0,none⟩) r.length E)) (v1:=(.slice (some ⟨x,0,none⟩) r.length E)) (ok:=(fun a=>(w.heap.size<=a)/\some a≠(u9:Value).ownBlock/\some a≠(.slice (some L) i.length F:Value).ownBlock/\a≠o)) (by(with_reducible repeat(first|apply Kd.V_alloc|apply Kd.mo|apply Kd.V_drew));exact Kd.t' T.out (fun _ hk=>⟨⟨hk.1.1.1,⟨hk.1.1.2.1,⟨hk.1.2,hk.1.1.2.2⟩⟩⟩,hk.2⟩)) hg (.inl rfl));replace u:=zA (ct);replace j:=zA ((by rw[hw];exact dL (j.out) ed.out:Below w.heap.size w b1));clear hg hw ct)|((with_reducible refine qF (b:=.append) (xs:=#[.tmp 46,.tmp 48]) rfl ?_);at_builtin;refine Kd.oN (Kd.slice 3 (Kd.int .i64)) (w0:=w) w.heap.size rfl (.tmp 46) (.tmp 48) 33 26 (.slice none 0 0) 24 rfl Tryz.underlying33 qP rfl (by decide) (by omega) u9 I av [.slice (some ⟨x,0,none⟩) r.length E] (fun a=>(w.heap.size<=a)/\some a≠(.slice (some L) i.length F:Value).ownBlock/\a≠o) (fun a=>((fun a=>(w.heap.size<=a)/\some a≠(.slice (some L) i.length F:Value).ownBlock/\a≠o)) a/\some a≠(u9:Value).ownBlock) rfl rfl ?aP (fun _ hk=>hk) ?aF ?aO ?aB ?aS ?aL ?_;(case aP=>have eg:=(Kd.aH u.out).1;have b2:=zA u.out;rw[eg] at b2⊢;exact(Kd.oQ (Kd.aH (Kd.a_ (ok':=(fun a=>((fun a=>(w.heap.size<=a)/\some a≠(.slice (some L) i.length F:Value).ownBlock/\a≠o)) a/\some a≠(u9:Value).ownBlock)) (Kd.gM (Kd.oD (Kd.oD (b2.out) (Kd.oL s.out) (by decide)) (Kd.oL D.out) (by decide)) g.out (by decide)) (fun a hk=>⟨⟨hk.1.1.1,⟨hk.1.1.2,hk.2⟩⟩,hk.1.2⟩))).2.1 (Kd.AY (Kd.a_ (ok':=(fun a=>((fun a=>(w.heap.size<=a)/\some a≠(.slice (some L) i.length F:Value).ownBlock/\a≠o)) a/\some a≠(u9:Value).ownBlock)) (Kd.gM (Kd.oD (Kd.oD (b2.out) (Kd.oL s.out) (by decide)) (Kd.oL D.out) (by decide)) g.out (by decide)) (fun a hk=>⟨⟨hk.1.1.1,⟨hk.1.1.2,hk.2⟩⟩,hk.1.2⟩)))));(case aB=>exact zB);(case aF=>exact(fun a hk=>⟨(Nat.le_trans (bH zB) hk),Kd.ly (Kd.qC (zN s)) a hk,Kd.ma (zK g) a hk⟩));(case aO=>exact(by(with_reducible repeat(first|apply Kd.e8|apply Kd.gP|apply Kd.gO));exact Kd.eE D.out (fun _ hk=>⟨hk.1.1,⟨hk.1.2.1,hk.1.2.2⟩⟩)));(case aS=>exact(bH zB));(case aL=>have:=dv.out;omega);intro fv f0 ho hb hg b3;rw[<-dx.out] at ho;replace s:=zA (Kd.qH (ok:=(fun a=>(w.heap.size<=a)/\some a≠(.slice (some ⟨x,0,none⟩) r.length E:Value).ownBlock/\a≠o)) (by(with_reducible repeat(first|apply Kd.e8|apply Kd.gP|apply Kd.gO));exact Kd.eE s.out (fun _ hk=>⟨⟨hk.1.1,⟨hk.2,hk.1.2.2⟩⟩,hk.1.2.1⟩)) hg b3);replace g:=zA (dc (zK g) hg (Kd.Bh D.out g.out (by decide)));replace T:=zA (Kd.ub (ok:=(fun a=>(w.heap.size<=a)/\some a≠(.slice (some L) i.length F:Value).ownBlock/\some a≠(.slice (some ⟨x,0,none⟩) r.length E:Value).ownBlock/\a≠o)) (by(with_reducible repeat(first|apply Kd.V_alloc|apply Kd.mo|apply Kd.V_drew));exact Kd.t' T.out (fun _ hk=>⟨⟨hk.1.1,⟨hk.1.2.2.1,⟨hk.2,hk.1.2.2.2⟩⟩⟩,hk.1.2.1⟩)) hg b3);replace j:=zA (hb);have ek:=zA (ho);clear D u;clear ho hb hg b3))
              go_roundg k2
              case measure=>have:=cb.out;have:=cg.out;omega
              case rel=>exact⟨(ch),(wrap64 (q+1)),zT,G,⟨by have:=cb.out;have:=cg.out;omega⟩,⟨zN ek⟩,⟨by(with_reducible repeat(first|apply Kd.e8|apply Kd.gP|apply Kd.gO));exact Kd.eE s.out (fun _ hk=>⟨hk.1.1,⟨hk.2,hk.1.2.2⟩⟩)⟩,⟨zK g⟩,⟨zB⟩⟩
             ·rw[if_neg aR] at H
              exact absurd H (by simp)
            ·rw[if_neg ar] at H
             exact absurd H (by simp)
           ·rw[if_neg ap] at H
            exact absurd H (by simp)
          ·rw[if_neg an] at H
           exact absurd H (by simp)
         ·rw[if_neg am] at H
          exact absurd H (by simp)
        ·rw[if_neg S] at H
         have dk:=aZ S;clear S;simp only[Option.some.injEq,Prod.mk.injEq] at H;obtain⟨rfl,rfl⟩:=H;go_wp2;go_ret2;exact⟨_,zE,by(with_reducible repeat(first|apply Kd.e8|apply Kd.gP|apply Kd.gO));exact Kd.eE D.out (fun _ hk=>hk.1),zB⟩
     ·rw[if_neg X] at H
      obtain⟨cd,ce⟩:=bU X;simp only[Option.some.injEq,Prod.mk.injEq] at H;obtain⟨rfl,rfl⟩:=H;obtain⟨f1,f2,f3,f4⟩:=aA g;go_wp2_with (first|((with_reducible refine aJ (f:=56) rfl ?_);refine zL (some 29) Tryz.func56 #[.agg #[.int .i64 n,.slice z m.length B],.int .i64 l] ?_;(with_reducible refine(gF.calls ag n _ _ m l i be _ ?al ?aj cc.out).mono ?_);(case al=>exact Kd.ax aa.out zB);(case aj=>exact ab.out);rintro e f5 ⟨c',rfl,y,hb⟩;refine⟨_,rfl,?_⟩;have bf:=zA (Kd.kF (Kd.eE (ok':=fun a=>(w.heap.size<=a)/\a≠o) y (fun a Y=>⟨(Nat.le_trans (bH zB) Y),(Kd.ma (zK g) a Y)⟩)) (bH zB));replace g:=zb g hb;replace j:=zS j hb;(try clear hb);(try clear y)))
      go_ret2;exact⟨_,zE,by first|exact Kd.ic _ _ _ _ _|exact Kd.fV _ _ _ _ _|exact Kd.V_nil _ _ _ _ _|exact Kd.Q_nil _ _ _ _ _|exact Kd.dm _ _ _ _ _,zB⟩
 ·rw[if_neg c4] at H
  obtain⟨b',ca⟩:=bU c4;simp only[Option.some.injEq,Prod.mk.injEq] at H;obtain⟨rfl,rfl⟩:=H;go_enter Tryz.func15,Tryz.ntmps15
  go_wp2_with (first|((with_reducible refine aU (N:=2) rfl ?_);refine zX 2 #[.int .i64 n,.slice z m.length B] 24 ?_;intro o hg f6 U hb;have g:=zA (U);have cv:=zG j hg;have cx:=zG j hg;replace j:=zS j hb;clear hb U hg;obtain⟨f7,f8,f9,f'⟩:=aA g)|((with_reducible refine aJ (f:=55) rfl ?_);refine zL (some 14) Tryz.func55 #[.agg #[.int .i64 n,.slice z m.length B]] ?_;(with_reducible refine(dH.calls k n _ _ m a5 _ ?al ?aj A3.out).mono ?_);(case al=>exact Kd.ax aa.out zB);(case aj=>exact ab.out);rintro e ga ⟨rfl,hb⟩;refine⟨_,rfl,?_⟩;replace g:=zb g hb;replace j:=zS j hb;(try clear hb)))
  go_ret2;exact⟨_,zE,by first|exact Kd.ic _ _ _ _ _|exact Kd.fV _ _ _ _ _|exact Kd.V_nil _ _ _ _ _|exact Kd.Q_nil _ _ _ _ _|exact Kd.dm _ _ _ _ _,zB⟩
section
attribute [local go_sem] Oper.semAt_some
def eo (B:Nat->Bool) (L:List (Int×Int)):Int:=L.foldl (fun s x=>if B x.1.toNat=true then wrap64 (s+x.2) else s) 0
theorem ry (B:Nat->Bool) (L:List (Int×Int)) (x:Int×Int):eo B (L++[x])=if B x.1.toNat=true then wrap64 (eo B L+x.2) else eo B L:=by simp[eo,List.foldl_append]
end
section
attribute [local go_sem] Oper.semAt_some
theorem Dz (g n:Nat) (A0:Option Addr) (c0:Nat) (E:List S83) (q:Int) (dv Q:Value) (R:Int) (v:Nat) (lb:Array Value) (B:Nat->Bool) (w:World) (ab:Kd.C aN w A0 E.length E) (hE:ez n E) (hn:n<=1000) (hv:v<n) (i:ik w g n (.slice A0 E.length c0) q dv Q R)
  (hB:∀(W:World) (u:Int),Below w.heap.size w W->0<=u->u<n->Calls Tryz.prog 171 (#[.int .i64 u]++lb) W fun e w'=>e= .returned (.bool (B u.toNat))/\Below W.heap.size W w'):
  Calls Tryz.prog 168 #[.pointer (some ⟨g,0,none⟩),.int .i64 v,.func (.func 171) #[] lb] w fun e w'=>e= .returned (.int .i64 (eo B (cJ E v E.length)))/\Below w.heap.size w w':=by
 have a9:=zA hB;have HE:=zA hE;have ak:=zA i;clear hB hE i;refine(callsIn_wide (n:=10)).1 ?_;refine callsIn_of_wp_marks Tryz.func168 rfl trivial ?_ rfl;simp only[Tryz.ntmps168,List.size_toArray,List.length_cons,List.length_nil,Nat.reduceAdd,Nat.reduceSub,Array.replicate_succ,Array.replicate_zero,List.push_toArray,List.append_toArray,List.nil_append,List.cons_append];gi_wp2_with (refine⟨trivial,?_⟩;gi_at_call 194;refine(callsIn_wide.2 (mE g v _)).mono ?_;rintro e w3 ⟨rfl,rfl⟩)
 obtain⟨p,am⟩:∃o:Obj,o= .cells #[.func (.func 171) #[] lb] 121:=⟨_,rfl⟩;obtain⟨on,an⟩:∃o:Obj,o= .cells #[.int .i64 0] 3:=⟨_,rfl⟩;obtain⟨r,ap⟩:∃o:Obj,o= .cells #[.pointer (some ⟨g,0,none⟩)] 135:=⟨_,rfl⟩;obtain⟨y,av⟩:∃o:Obj,o= .cells #[.int .i64 v] 3:=⟨_,rfl⟩;have Z0:=a7 w p;have S:=a7 (w.alloc p) on;have T:=a7 ((w.alloc p).alloc on) r;have U:=a7 (((w.alloc p).alloc on).alloc r) y;simp only[World.size_alloc] at S T U;have H0:=zA ((au (au (au Z0 on) r) y).trans (by rw[am]:_=some (.cells #[.func (.func 171) #[] lb] 121 (0,0))));have H1:=zA ((au (au S r) y).trans (by rw[an]:_=some (.cells #[.int .i64 0] 3 (0,0))));have H2:=zA ((au T y).trans (by rw[ap]:_=some (.cells #[.pointer (some ⟨g,0,none⟩)] 135 (0,0))));have H3:=zA (U.trans (by rw[av]:_=some (.cells #[.int .i64 v] 3 (0,0))));have z:=zA (ao (ao (ao (ao (aq w.heap.size w) p) on) r) y);have aP:Aside0 (ik ((((w.alloc p).alloc on).alloc r).alloc y) g n (.slice A0 E.length c0) q dv Q R):=⟨aD ak.out z.out⟩;have bv:g<w.heap.size:=aC ak.out;have bf:=zA (Kd.ax ab z.out);clear Z0 S T U;subst am an ap av;have bg:=z.out.size;have bi:((((w.alloc (.cells #[.func (.func 171) #[] lb] 121)).alloc (.cells #[.int .i64 0] 3)).alloc (.cells #[.pointer (some ⟨g,0,none⟩)] 135)).alloc (.cells #[.int .i64 v] 3)).heap.size=w.heap.size+4:=by simp
 generalize ((((w.alloc (.cells #[.func (.func 171) #[] lb] 121)).alloc (.cells #[.int .i64 0] 3)).alloc (.cells #[.pointer (some ⟨g,0,none⟩)] 135)).alloc (.cells #[.int .i64 v] 3))=j at H0 H1 H2 H3 z aP bf bg bi⊢;refine iU (σ:=Unit) (α:=Int×Int) (F:=Fence.wide) (n:=10) rfl (by decide) (gf:=207) (lb:=#[.pointer (some ⟨w.heap.size+1+1,0,none⟩),.pointer (some ⟨w.heap.size+1+1+1,0,none⟩)]) rfl trivial (enters_of Tryz.func207 (by kernel_rfl) rfl)
  (fun o=>pa (w.heap.size+1+1) (w.heap.size+1+1+1) g n A0 c0 E q dv Q R v w _ ab HE.out hn hv (ao (ao z.out _) _) (au (au H2.out _) _) (au (au H3.out _) _) (au (au aP.out _) _)) (fun _=>rfl)
  (fun _=>True) ?eL ?st ?ar
  (fun _ pre W=>j.heap.size<=W.heap.size/\W.heap[w.heap.size]? =some (.cells #[.func (.func 171) #[] lb] 121 (0,0))/\W.heap[w.heap.size+1]? =some (.cells #[.int .i64 (eo B pre)] 3 (0,0))/\Below w.heap.size w W) (fun _ _ _ _=>False)
  ?is (fun _ _ _ _ _ _ h _=>h) ?ib (fun _ _ _ _ _ h _=>h) ?kt ?h0 ?a1 ?assign ?body ?done (fun _ _ _ _ _ _ _ h=>h.elim)
 case assign=>
  intro l x W K hK;gi_wp2;exact hK
 case eL=>
  intro o s W1 h;exact⟨trivial,by rw[h];exact cB.refl _ _⟩
 case st=>intro s A B _ h;exact di h
 case ar=>intro s x A B _ h;exact di h.2
 case is=>
  rintro s pre A B _ ⟨H,h1,V,X⟩ i;exact⟨Nat.le_trans H i.size,aD h1 i,aD V i,aW X i⟩
 case ib=>
  rintro s pre A B ⟨H,h1,V,X⟩ hb;exact⟨by rw[hb.size];exact H,hb.cells h1,hb.cells V,X.trans (hb.below w.heap.size (by omega))⟩
 case kt=>
  intro s A B C D N aR aS;refine⟨fun aY=>((N.below w.heap.size (by omega)).trans (aR.1 (by rw[N.size];exact aY))).trans (aS.below w.heap.size (by omega)),fun k hk I=>?_⟩;have a0:k≠j.heap.size+1:=by rcases hk with rfl|rfl|rfl<;>omega
  exact(aS.heap k a0).trans ((aR.2 k hk (by rw[N.size];exact I)).trans (N.heap k a0))
 case h0=>
  rintro o s W1 rfl;exact⟨by simp;omega,au (au H0.out _) _,au (au H1.out _) _,ao (ao z.out _) _⟩
 case body=>
  rintro l s pre ⟨u,m⟩ Wb W1 W _ ⟨H,i1,i2,i3⟩ ⟨Y,J⟩ bn b;have Z:=zA (b.cells (aD i1 J));have L:=zA (b.cells (aD i2 J));have b3:=zA ((aW i3 J).trans (b.below w.heap.size (by omega)));have bx:j.heap.size<=W.heap.size:=by have:=b.size;have:=J.size;omega
  clear i1 i2 i3 J b bn;simp only at Y;have b0:W.cell? ⟨w.heap.size,0,none⟩=some (.func (.func 171) #[] lb):=(ah Z.out 0).trans rfl;have O:=zA (a9.out W u b3.out Y.1 Y.2.1);have M:=zA (ry B pre (u,m));generalize eo B pre=s0 at L M;cases P:B u.toNat with
  |true=>
   rw[P] at O M;clear P;gi_wp2_with (refine⟨trivial,?_⟩;gi_at_call 171;refine(callsIn_wide.2 O.out).mono ?_;rintro e w5 ⟨rfl,G⟩;have a:=zA G;have D2:=zA (aD L.out G);have c5:w5.cell? ⟨w.heap.size+1,0,none⟩=some (.int .i64 s0):=(ah D2.out 0).trans rfl;have f5:=bF D2.out 0;clear G)
   have aY:=a.out.size;refine⟨(di a.out).trans (fI _ _ (by show w.heap.size+1<j.heap.size;omega)),⟨fun aY=>Below.setCell (a.out.mono aY) (by show w.heap.size<=w.heap.size+1;omega) _,fun k hk I=>?_⟩,by simp;omega,?_,?_,Below.setCell (aW b3.out a.out) (by show w.heap.size<=w.heap.size+1;omega) _⟩
   ·rw[Below.heap_setCell _ _ _ _ (by rcases hk with rfl|rfl|rfl<;>(show _≠w.heap.size+1)<;>omega)]
    exact a.out.block k I
   ·rw[Below.heap_setCell _ _ _ _ (by show w.heap.size≠w.heap.size+1;omega)]
    exact aD Z.out a.out
   ·have h:=bV D2.out 0 (.int .i64 (wrap64 (s0+m)))
    rw[M.out];simpa using h
  |false=>
   rw[P] at O M;clear P;gi_wp2_with (refine⟨trivial,?_⟩;gi_at_call 171;refine(callsIn_wide.2 O.out).mono ?_;rintro e w5 ⟨rfl,G⟩;have a:=zA G;clear G)
   have aY:=a.out.size;exact⟨di a.out,⟨fun aY=>a.out.mono aY,fun k hk I=>a.out.block k I⟩,by omega,aD Z.out a.out,by rw[M.out];exact aD L.out a.out,aW b3.out a.out⟩
 case done=>
  rintro s xs W W' _ rfl ⟨H,i1,i2,i3⟩ b a3;have L:=zA (b.cells i2);have b3:=zA (i3.trans (b.below w.heap.size (by omega)));have a4:=zA a3;clear i1 i2 i3 a3;have hc:W'.cell? ⟨w.heap.size+1,0,none⟩=some (.int .i64 (eo B (cJ E v E.length))):=(ah L.out 0).trans rfl;gi_wp2_with fail
  have bo:Bk j.heap.size W' (W'.putObj j.heap.size (.deferred none)):=⟨_,_,a4.out,rfl,rfl⟩;exact jx (D:=j.heap.size) rfl a4.out (results_tmp rfl _ _ _) ⟨rfl,b3.out.trans (bo.below w.heap.size (by omega))⟩
end
def Ev {α:Type} (f:Nat->Option α) (r:α):Prop:=∃B,∀K,B<=K->f K=some r
theorem Ev.const {α:Type} (r:α):Ev (fun _=>some r) r:=⟨0,fun _ _=>rfl⟩
theorem Ev.of_succ {α:Type} {f:Nat->Option α} {r:α} (h:Ev (fun k=>f (k+1)) r):Ev f r:=by
 obtain⟨B,h⟩:=h;refine⟨B+1,fun K a=>?_⟩;obtain⟨k,rfl⟩:∃k,K=k+1:=⟨K-1,by omega⟩;exact h k (by omega)
theorem Ev.bind {α β:Type} {f:Nat->Option α} {g:α->Nat->Option β} {a:α} {r:β} (h1:Ev f a) (b:Ev (g a) r):Ev (fun k=>(f k).bind fun t=>g t k) r:=by
 obtain⟨B,h1⟩:=h1;obtain⟨C,b⟩:=b;refine⟨max B C,fun K e=>?_⟩;show (f K).bind (fun t=>g t K)=some r
 rw[h1 K (by omega),Option.bind_some];exact b K (by omega)
theorem Ev.get {α:Type} {f:Nat->Option α} {r:α} (h:Ev f r):∃k,f k=some r:=by
 obtain⟨B,h⟩:=h;exact⟨B,h B (aI _)⟩
theorem Ev.at_ {α:Type} {f:Nat->Option α} {r:α} (hm:∀k,ai (f k) (f (k+1))) {k:Nat} (h:f k=some r):Ev f r:=
 ⟨k,fun K a=>by
  obtain⟨m,rfl⟩:∃m,K=k+m:=⟨K-k,by omega⟩;clear a;induction m with
  |zero=>exact h
  |succ m b=>exact hm _ _ b⟩
theorem eA {i:Nat} (h:i<=1000000):wrap64 ((i:Int)+1)=((i+1:Nat):Int):=by
 rw[show wrap64 ((i:Int)+1)=(i:Int)+1 from by unfold wrap64;omega];omega
theorem iq {x:Int} (h: -1000000000<=x/\x<=1000000000):wrap64 x=x:=by unfold wrap64;omega
def fK.f (b:Int) (e:List (S83)) (a:Int):Option (Bool):=if a>=0 then(some (decide (a<b))) else(some false)
theorem fK.calls (i:Int) (l:Option Addr) (m:Nat) (b:List (S83)) (j:Int) (r:Bool) (w:World) (n:Kd.C aN w l b.length b) (o:b.length<=m) (h:fK.f i b j=some r):
  Calls Tryz.prog 149 #[.agg #[.int .i64 i,.slice l b.length m],.int .i64 j] w fun e w'=>e= .returned (.bool r)/\Below w.heap.size w w':=by
 have x:=Tryz.underlying24;have y:=zA n;have z:=zA o;clear n o;have a:=zA (aq w.heap.size w);have H:(if j>=0 then(some (decide (j<i))) else(some false))=some r:=h;clear h;by_cases c3:j>=0
 ·rw[if_pos c3] at H
  have q:=ay c3;clear c3;obtain rfl:=aQ H;go_enter Tryz.func149,Tryz.ntmps149
  go_wp2_with (first|((with_reducible refine aU (N:=2) rfl ?_);refine zX 2 #[.int .i64 i,.slice l b.length m] 24 ?_;intro s g B k hb;have p:=zA (k);have u:=zG a g;have v:=zG a g;replace a:=zS a hb;clear hb k g;obtain⟨D,E,F,G⟩:=aA p))
  go_ret;exact⟨zE,zB⟩
 ·rw[if_neg c3] at H
  have q:=aZ c3;clear c3;obtain rfl:=aQ H;go_enter Tryz.func149,Tryz.ntmps149
  go_wp2_with (first|((with_reducible refine aU (N:=2) rfl ?_);refine zX 2 #[.int .i64 i,.slice l b.length m] 24 ?_;intro s g I k hb;have p:=zA (k);have u:=zG a g;have v:=zG a g;replace a:=zS a hb;clear hb k g))
  go_ret;exact⟨zE,zB⟩
def fp.j0:Nat->Int->Bool->Int->List (S83)->Int->Int->Int->Option (Int)
 |0,_,_,_,_,_,_,_=>none
 |k+1,x1,g,h,a,b,e,i=>if g=true then(some 2) else(if b>e then(some 9) else(if x1>0 then(if 0<=(wrap64 (x1-1)) then(if(wrap64 (x1-1))<(a.length:Int) then(if b<((af a (wrap64 (x1-1))).f0) then(some 9) else(if b=((af a (wrap64 (x1-1))).f0) then(if e<=((af a (wrap64 (x1-1))).f1) then(some 9) else(some 0)) else(some 0))) else(none)) else(none)) else(some 0)))
def fp.f (k:Nat) (e:Int) (a:List (S83)) (b:Int):Option (Int):=if 0<=b then(if b<(a.length:Int) then((fK.f e a ((af a b).f0)).bind fun t112=>(if t112=true then((fK.f e a ((af a b).f1)).bind fun t113=>(if t113=true then(if((af a b).f2)<1 then(fp.j0 k b true e a ((af a b).f0) ((af a b).f1) ((af a b).f2)) else(fp.j0 k b (decide (((af a b).f2)>50)) e a ((af a b).f0) ((af a b).f1) ((af a b).f2))) else(fp.j0 k b true e a ((af a b).f0) ((af a b).f1) ((af a b).f2)))) else(fp.j0 k b true e a ((af a b).f0) ((af a b).f1) ((af a b).f2)))) else(none)) else(none)
theorem fp.calls (k:Nat) (n:Int) (aR:Option Addr) (x:Nat) (a:List (S83)) (b:Int) (r:Int) (w:World) (a5:Kd.C aN w aR a.length a) (a9:a.length<=x) (h:fp.f k n a b=some r):
  Calls Tryz.prog 153 #[.agg #[.int .i64 n,.slice aR a.length x],.int .i64 b] w fun e w'=>e= .returned (.int .i64 r)/\Below w.heap.size w w':=by
 have cb:=Tryz.underlying24;have cc:=Tryz.underlying83;have I:=zA a5;have K:=zA a9;clear a5 a9;have j:=zA (aq w.heap.size w);unfold fp.f at h;have H:=h;clear h;by_cases c3:0<=b
 ·rw[if_pos c3] at H
  have be:=ay c3;clear c3;by_cases c4:b<(a.length:Int)
  ·rw[if_pos c4] at H
   have bf:=ay c4;clear c4;have aS:=zA H;clear H;go_enter Tryz.func153,Tryz.ntmps153
   go_upto_region 2 with (first|((with_reducible refine aU (N:=2) rfl ?_);refine zX 2 #[.int .i64 n,.slice aR a.length x] 24 ?_;intro p m w6 z hb;have l:=zA (z);have ce:=zG j m;have cf:=zG j m;replace j:=zS j hb;clear hb z m;obtain⟨bg,bi,bk,bn⟩:=aA l;have ad:0<=(b:Int):=aw ‹_›;have ag:b<(a.length:Int):=aw ‹_›;obtain⟨q,bo,ak,am,an⟩:=eN I.out b ad ag;cases bo;replace ak:=(j.out.cell (bu w _ ak)).trans ak;replace am:=(j.out.cell (bu w _ am)).trans am;replace an:=(j.out.cell (bu w _ an)).trans an;replace ad:=eq_true ad;replace ag:=eq_true ag)|((with_reducible refine aU (N:=5) rfl ?_);refine zX 5 #[.int .i64 0,.int .i64 0,.int .i64 0] 83 ?_;intro s m w8 z hb;have i:=zA (z);have ch:=zG j m;have ci:=zG j m;replace j:=zS j hb;have u:=zA ((by rw[m];exact Nat.ne_of_lt (aC (g:=p) (o:=.cells #[.int .i64 n,.slice (some q) a.length x] 24 (0,0)) (zK l)):p≠s));have J:=zA ((by rw[m];exact Nat.ne_of_gt (aC (g:=p) (o:=.cells #[.int .i64 n,.slice (some q) a.length x] 24 (0,0)) (zK l)):s≠p));replace l:=zb l hb;clear hb z m;have cj:=J.out;have ck:=u.out;obtain⟨bv,bw,bx,b0,b1,b2⟩:=cA i))
   (try simp only[Act.put,List.setIfInBounds_toArray,List.set_cons_zero,List.set_cons_succ])
   go_cut [33] (fun v33 wc=>∃(kq:Nat) (ar:Bool),v33= .bool ar/\Aside0 (fp.j0 kq b ar n a ((af a b).f0) ((af a b).f1) ((af a b).f2)=some r)/\Aside0 (kq<=k)/\Aside0 (wc.heap[p]? =some (.cells #[.int .i64 n,(.slice (some q) a.length x)] 24 (0,0)))/\Aside0 (wc.heap[s]? =some (.cells #[.int .i64 ((af a b).f0),.int .i64 ((af a b).f1),.int .i64 ((af a b).f2)] 83 (0,0)))/\Aside0 (Below w.heap.size w wc))
   case first=>
    have H:=aS.out;clear aS;obtain⟨t112,av,H⟩:=zo H;by_cases aB:t112=true
    ·subst aB
     replace H:=zi H;obtain⟨t113,a0,H⟩:=zo H;by_cases aF:t113=true
     ·subst aF
      replace H:=zi H;by_cases V:((af a b).f2)<1
      ·rw[if_pos V] at H
       have aa:=ay V;clear V
       (first|rw[aa]|(simp only[cH,cP];rw[aa])|skip)
       have L:=zA H;clear H;have cl:=u.out;have cn:=J.out;obtain⟨co,cp,cq,cr⟩:=aA l;obtain⟨ct,cv,cx,c0,c1,c2⟩:=cA i;go_wp2_with (first|((with_reducible refine aJ (f:=149) rfl ?_);refine zL (some 15) Tryz.func149 #[.agg #[.int .i64 n,.slice (some q) a.length x],.int .i64 ((af a b).f0)] ?_;(with_reducible refine(fK.calls n _ _ a ((af a b).f0) true _ ?al ?aj av.out).mono ?_);(case al=>exact Kd.ax I.out zB);(case aj=>exact K.out);rintro e c5 ⟨rfl,hb⟩;refine⟨_,rfl,?_⟩;replace l:=zA (aD (g:=p) (o:=.cells #[.int .i64 n,.slice (some q) a.length x] 24 (0,0)) (by refine zk ?_;refine aE ?_ u.out _;refine zk ?_;refine aE ?_ u.out _;refine zk ?_;refine aE ?_ u.out _;exact zK l) hb);replace i:=zA (aD (g:=s) (o:=.cells #[.int .i64 ((af a b).f0),.int .i64 ((af a b).f1),.int .i64 ((af a b).f2)] 83 (0,0)) (by refine zk ?_;refine bE (cs:=#[.int .i64 ((af a b).f0),.int .i64 ((af a b).f1),.int .i64 0]) ?_ 2 _ rfl;refine zk ?_;refine bE (cs:=#[.int .i64 ((af a b).f0),.int .i64 0,.int .i64 0]) ?_ 1 _ rfl;refine zk ?_;refine bE (cs:=#[.int .i64 0,.int .i64 0,.int .i64 0]) ?_ 0 _ rfl;exact zK i) hb);replace j:=zS j hb;(try clear hb);obtain⟨c6,c7,c8,c9⟩:=aA l;obtain⟨c',dd,dk,dl,ds,dv⟩:=cA i)|(go_at_call 149;(with_reducible refine(fK.calls n _ _ a ((af a b).f1) true _ ?al ?aj a0.out).mono ?_);(case al=>exact Kd.ax I.out zB);(case aj=>exact K.out);rintro e dx ⟨rfl,hb⟩;replace l:=zb l hb;replace i:=zb i hb;replace j:=zS j hb;(try clear hb);obtain⟨d0,d1,d2,d3,d4,d5⟩:=cA i))
       go_meet
       case rel=>exact⟨_,(true),zT,L,⟨by first|omega|exact aI _⟩,⟨zK l⟩,⟨zK i⟩,⟨zB⟩⟩
      ·rw[if_neg V] at H
       have aa:=aZ V;clear V
       (first|rw[aa]|(simp only[cH,cP];rw[aa])|skip)
       have L:=zA H;clear H;have d6:=u.out;have d7:=J.out;obtain⟨d8,d9,ea,eb⟩:=aA l;obtain⟨ed,eg,ek,el,em,er⟩:=cA i;go_wp2_with (first|((with_reducible refine aJ (f:=149) rfl ?_);refine zL (some 15) Tryz.func149 #[.agg #[.int .i64 n,.slice (some q) a.length x],.int .i64 ((af a b).f0)] ?_;(with_reducible refine(fK.calls n _ _ a ((af a b).f0) true _ ?al ?aj av.out).mono ?_);(case al=>exact Kd.ax I.out zB);(case aj=>exact K.out);rintro e es ⟨rfl,hb⟩;refine⟨_,rfl,?_⟩;replace l:=zA (aD (g:=p) (o:=.cells #[.int .i64 n,.slice (some q) a.length x] 24 (0,0)) (by refine zk ?_;refine aE ?_ u.out _;refine zk ?_;refine aE ?_ u.out _;refine zk ?_;refine aE ?_ u.out _;exact zK l) hb);replace i:=zA (aD (g:=s) (o:=.cells #[.int .i64 ((af a b).f0),.int .i64 ((af a b).f1),.int .i64 ((af a b).f2)] 83 (0,0)) (by refine zk ?_;refine bE (cs:=#[.int .i64 ((af a b).f0),.int .i64 ((af a b).f1),.int .i64 0]) ?_ 2 _ rfl;refine zk ?_;refine bE (cs:=#[.int .i64 ((af a b).f0),.int .i64 0,.int .i64 0]) ?_ 1 _ rfl;refine zk ?_;refine bE (cs:=#[.int .i64 0,.int .i64 0,.int .i64 0]) ?_ 0 _ rfl;exact zK i) hb);replace j:=zS j hb;(try clear hb);obtain⟨ev,ew,ex,ey⟩:=aA l;obtain⟨e0,e1,e2,e3,e4,e5⟩:=cA i)|(go_at_call 149;(with_reducible refine(fK.calls n _ _ a ((af a b).f1) true _ ?al ?aj a0.out).mono ?_);(case al=>exact Kd.ax I.out zB);(case aj=>exact K.out);rintro e e6 ⟨rfl,hb⟩;replace l:=zb l hb;replace i:=zb i hb;replace j:=zS j hb;(try clear hb);obtain⟨e_,e',fb,fd,fn,fo⟩:=cA i))
       go_meet
       case rel=>exact⟨_,(decide (((af a b).f2)>50)),zT,L,⟨by first|omega|exact aI _⟩,⟨zK l⟩,⟨zK i⟩,⟨zB⟩⟩
     ·replace aF:=Bool.eq_false_iff.mpr aF
      subst aF;replace H:=zj H;have L:=zA H;clear H;have fq:=u.out;have fr:=J.out;obtain⟨ft,fv,f3,f4⟩:=aA l;obtain⟨f5,f6,f7,f8,f9,f'⟩:=cA i;go_wp2_with (first|((with_reducible refine aJ (f:=149) rfl ?_);refine zL (some 15) Tryz.func149 #[.agg #[.int .i64 n,.slice (some q) a.length x],.int .i64 ((af a b).f0)] ?_;(with_reducible refine(fK.calls n _ _ a ((af a b).f0) true _ ?al ?aj av.out).mono ?_);(case al=>exact Kd.ax I.out zB);(case aj=>exact K.out);rintro e ga ⟨rfl,hb⟩;refine⟨_,rfl,?_⟩;replace l:=zA (aD (g:=p) (o:=.cells #[.int .i64 n,.slice (some q) a.length x] 24 (0,0)) (by refine zk ?_;refine aE ?_ u.out _;refine zk ?_;refine aE ?_ u.out _;refine zk ?_;refine aE ?_ u.out _;exact zK l) hb);replace i:=zA (aD (g:=s) (o:=.cells #[.int .i64 ((af a b).f0),.int .i64 ((af a b).f1),.int .i64 ((af a b).f2)] 83 (0,0)) (by refine zk ?_;refine bE (cs:=#[.int .i64 ((af a b).f0),.int .i64 ((af a b).f1),.int .i64 0]) ?_ 2 _ rfl;refine zk ?_;refine bE (cs:=#[.int .i64 ((af a b).f0),.int .i64 0,.int .i64 0]) ?_ 1 _ rfl;refine zk ?_;refine bE (cs:=#[.int .i64 0,.int .i64 0,.int .i64 0]) ?_ 0 _ rfl;exact zK i) hb);replace j:=zS j hb;(try clear hb);obtain⟨gb,gc,gd,ge⟩:=aA l;obtain⟨gf,gg,gi,gl,gm,gn⟩:=cA i)|(go_at_call 149;(with_reducible refine(fK.calls n _ _ a ((af a b).f1) false _ ?al ?aj a0.out).mono ?_);(case al=>exact Kd.ax I.out zB);(case aj=>exact K.out);rintro e go ⟨rfl,hb⟩;replace l:=zb l hb;replace i:=zb i hb;replace j:=zS j hb;(try clear hb)))
      go_meet
      case rel=>exact⟨_,(true),zT,L,⟨by first|omega|exact aI _⟩,⟨zK l⟩,⟨zK i⟩,⟨zB⟩⟩
    ·replace aB:=Bool.eq_false_iff.mpr aB
     subst aB;replace H:=zj H;have L:=zA H;clear H;have gp:=u.out;have gq:=J.out;obtain⟨gr,gs,gt,gx⟩:=aA l;obtain⟨g0,g1,g2,g3,g4,g5⟩:=cA i;go_wp2_with (first|((with_reducible refine aJ (f:=149) rfl ?_);refine zL (some 15) Tryz.func149 #[.agg #[.int .i64 n,.slice (some q) a.length x],.int .i64 ((af a b).f0)] ?_;(with_reducible refine(fK.calls n _ _ a ((af a b).f0) false _ ?al ?aj av.out).mono ?_);(case al=>exact Kd.ax I.out zB);(case aj=>exact K.out);rintro e g6 ⟨rfl,hb⟩;refine⟨_,rfl,?_⟩;replace l:=zA (aD (g:=p) (o:=.cells #[.int .i64 n,.slice (some q) a.length x] 24 (0,0)) (by refine zk ?_;refine aE ?_ u.out _;refine zk ?_;refine aE ?_ u.out _;refine zk ?_;refine aE ?_ u.out _;exact zK l) hb);replace i:=zA (aD (g:=s) (o:=.cells #[.int .i64 ((af a b).f0),.int .i64 ((af a b).f1),.int .i64 ((af a b).f2)] 83 (0,0)) (by refine zk ?_;refine bE (cs:=#[.int .i64 ((af a b).f0),.int .i64 ((af a b).f1),.int .i64 0]) ?_ 2 _ rfl;refine zk ?_;refine bE (cs:=#[.int .i64 ((af a b).f0),.int .i64 0,.int .i64 0]) ?_ 1 _ rfl;refine zk ?_;refine bE (cs:=#[.int .i64 0,.int .i64 0,.int .i64 0]) ?_ 0 _ rfl;exact zK i) hb);replace j:=zS j hb;(try clear hb)))
     go_meet
     case rel=>exact⟨_,(true),zT,L,⟨by first|omega|exact aI _⟩,⟨zK l⟩,⟨zK i⟩,⟨zB⟩⟩
   case rest=>
    clear aS;clear be bf bv bw bx bg bi b0 b1 b2 bk bn ak am an ad ag;obtain⟨kq,ar,rfl,HA,g7,l,i,j⟩:=hcut;cases kq with
    |zero=>exact absurd HA.out (by simp[fp.j0])
    |succ g8=>
     have H:=HA.out;clear HA;simp only[fp.j0] at H;by_cases aL:ar=true
     ·subst aL
      replace H:=zi H;obtain rfl:=aQ H;go_wp2;go_ret;exact⟨zE,zB⟩
     ·replace aL:=Bool.eq_false_iff.mpr aL
      subst aL;replace H:=zj H;by_cases W:((af a b).f0)>((af a b).f1)
      ·rw[if_pos W] at H
       have b3:=ay W;clear W;obtain rfl:=aQ H;have g9:=J.out;have g':=u.out;obtain⟨ha,hc,he,hf,hh,hj⟩:=cA i;go_wp2;go_ret;exact⟨zE,zB⟩
      ·rw[if_neg W] at H
       have b3:=aZ W;clear W;by_cases X:b>0
       ·rw[if_pos X] at H
        have b4:=ay X;clear X;obtain⟨v,M⟩:∃j_:Int,(wrap64 (b-1))=j_:=⟨_,rfl⟩;replace H:(if 0<=(v) then(if(v)<(a.length:Int) then(if((af a b).f0)<((af a (v)).f0) then(some 9) else(if((af a b).f0)=((af a (v)).f0) then(if((af a b).f1)<=((af a (v)).f1) then(some 9) else(some 0)) else(some 0))) else(none)) else(none))=some r:=by first|(rw[M] at H;exact H)|(simp only[M] at H⊢;exact H)
        have hk:(IntKind.i64.wrap (b-1))=v:=(cH _).trans M;by_cases aO:0<=(v)
        ·rw[if_pos aO] at H
         have hl:=ay aO;clear aO;by_cases aP:(v)<(a.length:Int)
         ·rw[if_pos aP] at H
          have hm:=ay aP;clear aP;by_cases Y:((af a b).f0)<((af a (v)).f0)
          ·rw[if_pos Y] at H
           have b6:=ay Y;clear Y;obtain rfl:=aQ H;have hn:=J.out;have ho:=u.out;obtain⟨hp,hq,hr,hs,ht,hv⟩:=cA i;obtain⟨hw,hx,hy,hz⟩:=aA l;have B:0<=((v):Int):=aw ‹_›;have D:(v)<(a.length:Int):=aw ‹_›;obtain⟨O,P,E,F,G⟩:=eN I.out (v) B D;obtain rfl:q=O:=(by injection P);replace E:=(j.out.cell (bu w _ E)).trans E;replace F:=(j.out.cell (bu w _ F)).trans F;replace G:=(j.out.cell (bu w _ G)).trans G;replace B:=eq_true B;replace D:=eq_true D;go_wp2_with (first|((with_reducible refine aU (N:=6) rfl ?_);refine zX 6 #[.int .i64 0,.int .i64 0,.int .i64 0] 83 ?_;intro y m hA z hb;have Q:=zA (z);have a3:=zG j m;have a4:=zG j m;replace j:=zS j hb;have R:=zA ((by rw[m];exact Nat.ne_of_lt (aC (g:=p) (o:=.cells #[.int .i64 n,.slice (some q) a.length x] 24 (0,0)) (zK l)):p≠y));have S:=zA ((by rw[m];exact Nat.ne_of_gt (aC (g:=p) (o:=.cells #[.int .i64 n,.slice (some q) a.length x] 24 (0,0)) (zK l)):y≠p));replace l:=zb l hb;have T:=zA ((by rw[m];exact Nat.ne_of_lt (aC (g:=s) (o:=.cells #[.int .i64 ((af a b).f0),.int .i64 ((af a b).f1),.int .i64 ((af a b).f2)] 83 (0,0)) (zK i)):s≠y));have U:=zA ((by rw[m];exact Nat.ne_of_gt (aC (g:=s) (o:=.cells #[.int .i64 ((af a b).f0),.int .i64 ((af a b).f1),.int .i64 ((af a b).f2)] 83 (0,0)) (zK i)):y≠s));replace i:=zb i hb;clear hb z m;have hB:=S.out;have hC:=R.out;have hD:=U.out;have hE:=T.out;obtain⟨hG,hH,hI,hJ,hK,hL⟩:=cA Q;obtain⟨hM,hN,hO,hP,hQ,hR⟩:=cA i))
           go_ret;exact⟨by first|rfl|(simp[fG,fH]<;>rfl)|(simp only[<-M];first|rfl|(simp[fG,fH]<;>rfl))|(simp[*,fG,fH]<;>rfl),zB⟩
          ·rw[if_neg Y] at H
           have b6:=aZ Y;clear Y;by_cases ab:((af a b).f0)=((af a (v)).f0)
           ·rw[if_pos ab] at H
            obtain⟨b_,b'⟩:=bT ab;clear ab;by_cases Z:((af a b).f1)<=((af a (v)).f1)
            ·rw[if_pos Z] at H
             have ca:=ay Z;clear Z;obtain rfl:=aQ H;have hT:=J.out;have hV:=u.out;obtain⟨hW,hX,hY,h0,h1,h2⟩:=cA i;obtain⟨h3,h4,h5,h6⟩:=aA l;have B:0<=((v):Int):=aw ‹_›;have D:(v)<(a.length:Int):=aw ‹_›;obtain⟨O,P,E,F,G⟩:=eN I.out (v) B D;obtain rfl:q=O:=(by injection P);replace E:=(j.out.cell (bu w _ E)).trans E;replace F:=(j.out.cell (bu w _ F)).trans F;replace G:=(j.out.cell (bu w _ G)).trans G;replace B:=eq_true B;replace D:=eq_true D;go_wp2_with (first|((with_reducible refine aU (N:=6) rfl ?_);refine zX 6 #[.int .i64 0,.int .i64 0,.int .i64 0] 83 ?_;intro y m h7 z hb;have Q:=zA (z);have a3:=zG j m;have a4:=zG j m;replace j:=zS j hb;have R:=zA ((by rw[m];exact Nat.ne_of_lt (aC (g:=p) (o:=.cells #[.int .i64 n,.slice (some q) a.length x] 24 (0,0)) (zK l)):p≠y));have S:=zA ((by rw[m];exact Nat.ne_of_gt (aC (g:=p) (o:=.cells #[.int .i64 n,.slice (some q) a.length x] 24 (0,0)) (zK l)):y≠p));replace l:=zb l hb;have T:=zA ((by rw[m];exact Nat.ne_of_lt (aC (g:=s) (o:=.cells #[.int .i64 ((af a b).f0),.int .i64 ((af a b).f1),.int .i64 ((af a b).f2)] 83 (0,0)) (zK i)):s≠y));have U:=zA ((by rw[m];exact Nat.ne_of_gt (aC (g:=s) (o:=.cells #[.int .i64 ((af a b).f0),.int .i64 ((af a b).f1),.int .i64 ((af a b).f2)] 83 (0,0)) (zK i)):y≠s));replace i:=zb i hb;clear hb z m;have h8:=S.out;have h9:=R.out;have h_:=U.out;have h':=T.out;obtain⟨ib,id,ih,ii,im,io⟩:=cA Q;obtain⟨ip,it,iv,i0,i1,i2⟩:=cA i))
             go_ret;exact⟨by first|rfl|(simp[fG,fH]<;>rfl)|(simp only[<-M];first|rfl|(simp[fG,fH]<;>rfl))|(simp[*,fG,fH]<;>rfl),zB⟩
            ·rw[if_neg Z] at H
             have ca:=aZ Z;clear Z;obtain rfl:=aQ H;have i3:=J.out;have i4:=u.out;obtain⟨i5,i6,i7,i8,i9,i_⟩:=cA i;obtain⟨jj,jp,j1,j2⟩:=aA l;have B:0<=((v):Int):=aw ‹_›;have D:(v)<(a.length:Int):=aw ‹_›;obtain⟨O,P,E,F,G⟩:=eN I.out (v) B D;obtain rfl:q=O:=(by injection P);replace E:=(j.out.cell (bu w _ E)).trans E;replace F:=(j.out.cell (bu w _ F)).trans F;replace G:=(j.out.cell (bu w _ G)).trans G;replace B:=eq_true B;replace D:=eq_true D;go_wp2_with (first|((with_reducible refine aU (N:=6) rfl ?_);refine zX 6 #[.int .i64 0,.int .i64 0,.int .i64 0] 83 ?_;intro y m j3 z hb;have Q:=zA (z);have a3:=zG j m;have a4:=zG j m;replace j:=zS j hb;have R:=zA ((by rw[m];exact Nat.ne_of_lt (aC (g:=p) (o:=.cells #[.int .i64 n,.slice (some q) a.length x] 24 (0,0)) (zK l)):p≠y));have S:=zA ((by rw[m];exact Nat.ne_of_gt (aC (g:=p) (o:=.cells #[.int .i64 n,.slice (some q) a.length x] 24 (0,0)) (zK l)):y≠p));replace l:=zb l hb;have T:=zA ((by rw[m];exact Nat.ne_of_lt (aC (g:=s) (o:=.cells #[.int .i64 ((af a b).f0),.int .i64 ((af a b).f1),.int .i64 ((af a b).f2)] 83 (0,0)) (zK i)):s≠y));have U:=zA ((by rw[m];exact Nat.ne_of_gt (aC (g:=s) (o:=.cells #[.int .i64 ((af a b).f0),.int .i64 ((af a b).f1),.int .i64 ((af a b).f2)] 83 (0,0)) (zK i)):y≠s));replace i:=zb i hb;clear hb z m;have j':=S.out;have kd:=R.out;have kh:=U.out;have kk:=T.out;obtain⟨kl,km,ks,kt,kv,kw⟩:=cA Q;obtain⟨kW,k0,k1,k2,k3,k4⟩:=cA i))
             go_ret;exact⟨by first|rfl|(simp[fG,fH]<;>rfl)|(simp only[<-M];first|rfl|(simp[fG,fH]<;>rfl))|(simp[*,fG,fH]<;>rfl),zB⟩
           ·rw[if_neg ab] at H
            obtain⟨b_,b'⟩:=bU ab;obtain rfl:=aQ H;have k5:=J.out;have k6:=u.out;obtain⟨k7,k8,k9,k_,la,lb⟩:=cA i;obtain⟨lc,ld,le,lf⟩:=aA l;have B:0<=((v):Int):=aw ‹_›;have D:(v)<(a.length:Int):=aw ‹_›;obtain⟨O,P,E,F,G⟩:=eN I.out (v) B D;obtain rfl:q=O:=(by injection P);replace E:=(j.out.cell (bu w _ E)).trans E;replace F:=(j.out.cell (bu w _ F)).trans F;replace G:=(j.out.cell (bu w _ G)).trans G;replace B:=eq_true B;replace D:=eq_true D;go_wp2_with (first|((with_reducible refine aU (N:=6) rfl ?_);refine zX 6 #[.int .i64 0,.int .i64 0,.int .i64 0] 83 ?_;intro y m lg z hb;have Q:=zA (z);have a3:=zG j m;have a4:=zG j m;replace j:=zS j hb;have R:=zA ((by rw[m];exact Nat.ne_of_lt (aC (g:=p) (o:=.cells #[.int .i64 n,.slice (some q) a.length x] 24 (0,0)) (zK l)):p≠y));have S:=zA ((by rw[m];exact Nat.ne_of_gt (aC (g:=p) (o:=.cells #[.int .i64 n,.slice (some q) a.length x] 24 (0,0)) (zK l)):y≠p));replace l:=zb l hb;have T:=zA ((by rw[m];exact Nat.ne_of_lt (aC (g:=s) (o:=.cells #[.int .i64 ((af a b).f0),.int .i64 ((af a b).f1),.int .i64 ((af a b).f2)] 83 (0,0)) (zK i)):s≠y));have U:=zA ((by rw[m];exact Nat.ne_of_gt (aC (g:=s) (o:=.cells #[.int .i64 ((af a b).f0),.int .i64 ((af a b).f1),.int .i64 ((af a b).f2)] 83 (0,0)) (zK i)):y≠s));replace i:=zb i hb;clear hb z m;have li:=S.out;have lj:=R.out;have lk:=U.out;have lm:=T.out;obtain⟨lo,lp,ls,lt,lv,lw⟩:=cA Q;obtain⟨l0,l1,l2,l3,l',mb⟩:=cA i))
            go_ret;exact⟨by first|rfl|(simp[fG,fH]<;>rfl)|(simp only[<-M];first|rfl|(simp[fG,fH]<;>rfl))|(simp[*,fG,fH]<;>rfl),zB⟩
         ·rw[if_neg aP] at H
          exact absurd H (by simp)
        ·rw[if_neg aO] at H
         exact absurd H (by simp)
       ·rw[if_neg X] at H
        have b4:=aZ X;clear X;obtain rfl:=aQ H;have md:=J.out;have mk:=u.out;obtain⟨ml,mm,mn,mp,ms,mt⟩:=cA i;go_wp2;go_ret;exact⟨zE,zB⟩
  ·rw[if_neg c4] at H
   exact absurd H (by simp)
 ·rw[if_neg c3] at H
  exact absurd H (by simp)
mutual
def dq.j0:Nat->Bool->Int->List (S83)->Option (Int)
 |0,_,_,_=>none
 |k+1,a,b,e=>if a=true then(some 2) else(dq.l0 k 0 b e)
def dq.l0:Nat->Int->Int->List (S83)->Option (Int)
 |0,_,_,_=>none
 |k+1,x3,b,a=>if x3<(a.length:Int) then((fp.f k b a x3).bind fun t117=>(if t117=0 then(dq.l0 k (wrap64 (x3+1)) b a) else(some t117))) else(some 0)
end
def dq.f (k:Nat) (a:Int) (b:List (S83)):Option (Int):=if a<1 then(dq.j0 k true a b) else(dq.j0 k (decide (a>12)) a b)
theorem dq.calls (k:Nat) (g:Int) (m:Option Addr) (n:Nat) (a:List (S83)) (r:Int) (w:World) (D:Kd.C aN w m a.length a) (E:a.length<=n) (h:dq.f k g a=some r):
  Calls Tryz.prog 103 #[.agg #[.int .i64 g,.slice m a.length n]] w fun e w'=>e= .returned (.int .i64 r)/\Below w.heap.size w w':=by
 have S:=Tryz.underlying24;have F:=zA D;have G:=zA E;clear D E;have i:=zA (aq w.heap.size w);unfold dq.f at h;have H:=h;clear h;have y:=zA H;clear H;go_enter Tryz.func103,Tryz.ntmps103
 go_upto_region 1 with (first|((with_reducible refine aU (N:=1) rfl ?_);refine zX 1 #[.int .i64 g,.slice m a.length n] 24 ?_;intro I z w3 J hb;have b:=zA (J);have T:=zG i z;have U:=zG i z;replace i:=zS i hb;clear hb J z))
 (try simp only[Act.put,List.setIfInBounds_toArray,List.set_cons_zero,List.set_cons_succ])
 go_cut [12] (fun v12 wc=>∃(o:Nat) (v:Bool),v12= .bool v/\Aside0 (dq.j0 o v g a=some r)/\Aside0 (o<=k)/\Aside0 (wc.heap[I]? =some (.cells #[.int .i64 g,(.slice m a.length n)] 24 (0,0)))/\Aside0 (Below w.heap.size w wc))
 case first=>
  have H:=y.out;clear y;by_cases c4:g<1
  ·rw[if_pos c4] at H
   have s:=ay c4;clear c4
   (first|rw[s]|(simp only[cH,cP];rw[s])|skip)
   have l:=zA H;clear H;obtain⟨V,W,X,Y⟩:=aA b;go_wp2;go_meet
   case rel=>exact⟨_,(true),zT,l,⟨by first|omega|exact aI _⟩,⟨zK b⟩,⟨zB⟩⟩
  ·rw[if_neg c4] at H
   have s:=aZ c4;clear c4
   (first|rw[s]|(simp only[cH,cP];rw[s])|skip)
   have l:=zA H;clear H;obtain⟨Z,aa,ab,ad⟩:=aA b;go_wp2;go_meet
   case rel=>exact⟨_,(decide (g>12)),zT,l,⟨by first|omega|exact aI _⟩,⟨zK b⟩,⟨zB⟩⟩
 case rest=>
  clear y;obtain⟨o,v,rfl,p,K,b,i⟩:=hcut;cases o with
  |zero=>exact absurd p.out (by simp[dq.j0])
  |succ L=>
   have H:=p.out;clear p;simp only[dq.j0] at H;by_cases x:v=true
   ·subst x
    replace H:=zi H;obtain rfl:=aQ H;go_wp2;go_ret;exact⟨zE,zB⟩
   ·replace x:=Bool.eq_false_iff.mpr x
    subst x;replace H:=zj H;have l:=zA H;clear H;go_wp2;go_loopg [3] L (fun o v3 w'=>∃(j:Int),v3= .int .i64 j/\Aside0 (dq.l0 o j g a=some r)/\Aside0 (o<=L)/\Aside0 (w'.heap[I]? =some (.cells #[.int .i64 g,(.slice m a.length n)] 24 (0,0)))/\Aside0 (Below w.heap.size w w'))
    case atStart=>exact⟨(0),zT,l,⟨aI _⟩,⟨zK b⟩,⟨zB⟩⟩
    case round=>
     clear l;obtain⟨j,rfl,p,M,b,i⟩:=hrel;cases gk with
     |zero=>exact absurd p.out (by simp[dq.l0])
     |succ B=>
      have H:=p.out;clear p;simp only[dq.l0] at H;by_cases q:j<(a.length:Int)
      ·rw[if_pos q] at H
       have P:=ay q;clear q;obtain⟨t117,O,H⟩:=zo H;by_cases u:t117=0
       ·rw[if_pos u] at H
        obtain⟨Q,R⟩:=bT u;clear u;have l:=zA H;clear H;obtain⟨ag,ak,am,an⟩:=aA b;go_wp2_with (first|((with_reducible refine aJ (f:=153) rfl ?_);refine zL (some 22) Tryz.func153 #[.agg #[.int .i64 g,.slice m a.length n],.int .i64 j] ?_;(with_reducible refine(fp.calls B g _ _ a j t117 _ ?al ?aj O.out).mono ?_);(case al=>exact Kd.ax F.out zB);(case aj=>exact G.out);rintro e ap ⟨rfl,hb⟩;refine⟨_,rfl,?_⟩;replace b:=zb b hb;replace i:=zS i hb;(try clear hb)))
        go_roundg B
        case measure=>have:=K.out;have:=M.out;omega
        case rel=>exact⟨(wrap64 (j+1)),zT,l,⟨by have:=K.out;have:=M.out;omega⟩,⟨zK b⟩,⟨zB⟩⟩
       ·rw[if_neg u] at H
        obtain⟨Q,R⟩:=bU u;obtain rfl:=aQ H;obtain⟨ar,av,aB,aF⟩:=aA b;go_wp2_with (first|((with_reducible refine aJ (f:=153) rfl ?_);refine zL (some 22) Tryz.func153 #[.agg #[.int .i64 g,.slice m a.length n],.int .i64 j] ?_;(with_reducible refine(fp.calls B g _ _ a j t117 _ ?al ?aj O.out).mono ?_);(case al=>exact Kd.ax F.out zB);(case aj=>exact G.out);rintro e aL ⟨rfl,hb⟩;refine⟨_,rfl,?_⟩;replace b:=zb b hb;replace i:=zS i hb;(try clear hb)))
        go_ret;exact⟨zE,zB⟩
      ·rw[if_neg q] at H
       have P:=aZ q;clear q;obtain rfl:=aQ H;obtain⟨aO,aP,aR,aS⟩:=aA b;go_wp2;go_ret;exact⟨zE,zB⟩
def cu (N:Int) (x:S83):Bool:=decide (0<=x.f0/\x.f0<N/\0<=x.f1/\x.f1<N/\1<=x.f2/\x.f2<=50)
def d_ (N:Int) (a b:Int) (x:S83):Int:=if cu N x=false then 2 else if x.f0<a\/x.f0=a/\x.f1<=b\/x.f0>x.f1 then 9 else 0
def ir (N:Int):Int->Int->List S83->Int
 |_,_,[]=>0
 |a,b,x::E=>if d_ N a b x=0 then ir N x.f0 x.f1 E else d_ N a b x
def cw (N:Int) (E:List S83):Int:=if N<1\/N>12 then 2 else ir N (-1) (-1) E
theorem rz {E:List S83} {i:Nat} (h:i<E.length):E.drop i=af E i::E.drop (i+1):=by
 rw[List.drop_eq_getElem_cons h];simp[af,aX,bB h]
theorem DA (N v:Int):fX.f N v=some (decide (0<=v/\v<N)):=by
 unfold fX.f;by_cases h:v>=0
 ·rw[if_pos h];congr 1;simp[show 0<=v from h]
 ·rw[if_neg h];congr 1;simp;omega
theorem DB (a b:Int):iF.f a b=some (if a<b then -1 else if a>b then 1 else 0):=by
 unfold iF.f cmp_isNaN_int.f;simp only[bne_self_eq_false,Option.bind_some,Bool.false_eq_true,if_false];split
 ·rfl
 ·split<;>rfl
theorem DC (a b:Int):Ev (fun k=>dt.f k [a,b]) (if a=0 then b else a):=by
 unfold dt.f;refine Ev.of_succ ?_;simp only[dt.l0,List.length_cons,List.length_nil,rd];by_cases e:a=0
 ·subst e
  refine Ev.of_succ ?_;simp only[dt.l0,List.length_cons,List.length_nil,rd,wrap64];simp;by_cases hb:b=0
  ·subst hb
   refine Ev.of_succ ?_;simp[dt.l0,wrap64];exact Ev.const _
  ·simp[hb];exact Ev.const _
 ·simp[e];exact Ev.const _
theorem DD (a b c d:Int):Ev (fun k=>dN.f k a b c d) (if a<c then -1 else if a>c then 1 else if b<d then -1 else if b>d then 1 else 0):=by
 unfold dN.f;simp only[DB,Option.bind_some];refine Ev.bind (DC _ _) ?_;have e:(if(if a<c then(-1:Int) else if a>c then 1 else 0)=0 then(if b<d then(-1:Int) else if b>d then 1 else 0) else(if a<c then(-1:Int) else if a>c then 1 else 0))=(if a<c then -1 else if a>c then 1 else if b<d then -1 else if b>d then 1 else 0):=by
  by_cases h1:a<c
  ·simp[h1]
  ·by_cases g:a>c
   ·simp[h1,g]
   ·simp[h1,g]
 rw[e];exact Ev.const _
theorem vG (N:Int) (E:List S83) (r:E.length<=1000):∀(m i:Nat) (a g:Int),i+m=E.length->Ev (fun k=>bc.l0 k E E.length i N E a g) (ir N a g (E.drop i))
 |0,i,a,g,hi=>by
  refine Ev.of_succ ?_;simp only[bc.l0,if_neg (show ¬((i:Int)<(E.length:Int)) by omega)];rw[List.drop_eq_nil_of_le (by omega)];exact Ev.const _
 |m+1,i,a,g,hi=>by
  have o:=vG N E r m (i+1) (af E i).f0 (af E i).f1 (by omega);refine Ev.of_succ ?_;simp only[bc.l0,if_pos (show (i:Int)<(E.length:Int) by omega),if_pos (show (0:Int)<=(i:Int) by omega),DA,Option.bind_some];rw[rz (by omega),ir];generalize u:af E i=x at o⊢;have key:∀b:Bool,b= !cu N x->Ev (fun k=>bc.j2 k E E.length i b N E a g x.f0 x.f1 x.f2 x.f0 x.f1) (if d_ N a g x=0 then ir N x.f0 x.f1 (E.drop (i+1)) else d_ N a g x):=by
   rintro b rfl;refine Ev.of_succ ?_;simp only[bc.j2];cases l:cu N x with
   |false=>simp[d_,l];exact Ev.const _
   |true=>
    simp only[Bool.not_true,Bool.false_eq_true,if_false];by_cases n:x.f0>x.f1
    ·have e:d_ N a g x=9:=by simp[d_,l,n]
     rw[e];simp only[if_pos n];exact Ev.const _
    ·simp only[if_neg n]
     refine Ev.bind (DD _ _ _ _) ?_;by_cases s:x.f0<a\/x.f0=a/\x.f1<=g
     ·have e:d_ N a g x=9:=by
       unfold d_;rw[l,if_neg (by decide),if_pos (by rcases s with h|h;exact .inl h;exact .inr (.inl h))]
      rw[e];have j:(if a<x.f0 then(-1:Int) else if a>x.f0 then 1 else if g<x.f1 then -1 else if g>x.f1 then 1 else 0)>=0:=by
       rw[if_neg (by omega)];split
       ·decide
       ·rw[if_neg (by omega)];split<;>decide
      simp only[if_pos j];exact Ev.const _
     ·have e:d_ N a g x=0:=by
       unfold d_;rw[l,if_neg (by decide),if_neg (by omega)]
      rw[e];have j:¬(if a<x.f0 then(-1:Int) else if a>x.f0 then 1 else if g<x.f1 then -1 else if g>x.f1 then 1 else 0)>=0:=by
       split
       ·decide
       ·rw[if_neg (by omega),if_pos (by omega)];decide
      simp only[if_neg j,eA (show i<=1000000 by omega),if_true];exact o
  by_cases p:0<=x.f0/\x.f0<N
  ·simp only[ay p,if_true]
   by_cases h1:0<=x.f1/\x.f1<N
   ·simp only[ay h1,if_true]
    by_cases q:x.f2<1
    ·simp only[if_pos q]
     exact key true (by simp[cu];omega)
    ·simp only[if_neg q]
     exact key _ (by unfold cu;by_cases j:x.f2>50<;>simp[j]<;>omega)
   ·simp only[aZ h1,Bool.false_eq_true,if_false]
    exact key true (by simp[cu];omega)
  ·simp only[aZ p,Bool.false_eq_true,if_false]
   exact key true (by simp[cu];omega)
theorem mF (N:Int) (E:List S83) (a:E.length<=1000):Ev (fun k=>bc.f k N E) (cw N E):=by
 unfold bc.f cw;have key:∀b:Bool,b=decide (N<1\/N>12)->Ev (fun k=>bc.j0 k b N E) (if N<1\/N>12 then 2 else ir N (-1) (-1) E):=by
  rintro b rfl;refine Ev.of_succ ?_;simp only[bc.j0];by_cases h:N<1\/N>12
  ·simp[h];exact Ev.const _
  ·simp only[aZ h,Bool.false_eq_true,if_false,if_neg h]
   have:=vG N E a E.length 0 (-1) (-1) (by omega);simpa using this
 by_cases h:N<1
 ·simp only[if_pos h];exact key true (by simp[h])
 ·simp only[if_neg h];exact key _ (by simp[h])
theorem DE (N:Int) (E:List S83) (v:Int):fK.f N E v=some (decide (0<=v/\v<N)):=by
 unfold fK.f;by_cases h:v>=0
 ·rw[if_pos h];congr 1;simp[show 0<=v from h]
 ·rw[if_neg h];congr 1;simp;omega
def jb (E:List S83) (i:Nat):Int:=if i=0 then -1 else(af E (i-1:Nat)).f0
def jc (E:List S83) (i:Nat):Int:=if i=0 then -1 else(af E (i-1:Nat)).f1
def jB (x y:S83):Prop:=x.f0<y.f0\/x.f0=y.f0/\x.f1<y.f1
structure br (N:Int) (E:List S83):Prop where
 ok:∀x∈E,cu N x=true
 le:∀x∈E,x.f0<=x.f1
 order:E.Pairwise jB
theorem vH {N:Int}:∀{E:List S83} {a e:Int},ir N a e E=0->(∀x∈E,cu N x=true/\x.f0<=x.f1/\(a<x.f0\/a=x.f0/\e<x.f1))/\E.Pairwise jB
 |[],_,_,_=>⟨fun x b=>absurd b (by simp),List.Pairwise.nil⟩
 |y::E,a,e,h=>by
  rw[ir] at h;by_cases he:d_ N a e y=0
  ·rw[if_pos he] at h
   obtain⟨h1,i⟩:=vH h;have j:cu N y=true/\y.f0<=y.f1/\(a<y.f0\/a=y.f0/\e<y.f1):=by
    unfold d_ at he;cases g:cu N y with
    |false=>rw[g] at he;simp at he
    |true=>
     rw[g,if_neg (show ¬(true=false) by decide)] at he;by_cases k:y.f0<a\/y.f0=a/\y.f1<=e\/y.f0>y.f1
     ·rw[if_pos k] at he;exact absurd he (by decide)
     ·exact⟨rfl,by omega,by omega⟩
   refine⟨fun x b=>?_,List.Pairwise.cons (fun x b=>(h1 x b).2.2) i⟩;rcases List.mem_cons.1 b with rfl|b
   ·exact j
   ·have:=h1 x b
    exact⟨this.1,this.2.1,by omega⟩
  ·rw[if_neg he] at h;exact absurd h he
theorem jC {N:Int} {E:List S83} (h:cw N E=0):1<=N/\N<=12/\br N E:=by
 unfold cw at h;by_cases b:N<1\/N>12
 ·rw[if_pos b] at h;exact absurd h (by decide)
 ·rw[if_neg b] at h
  obtain⟨h1,e⟩:=vH h;exact⟨by omega,by omega,fun x a=>(h1 x a).1,fun x a=>(h1 x a).2.1,e⟩
theorem br.cS {N:Int} {E:List S83} (h:br N E):iT N E=true:=by
 refine List.all_eq_true.2 fun x a=>?_
 have:=h.ok x a;simpa [cu] using this
def gU (a b:Int) (x:S83):Bool:=decide (x.f0=min a b/\x.f1=max a b)
def df (E:List S83) (a b:Int):Int:=match E.find? (gU a b) with|some x=>x.f2|none=>0
theorem vI (x:S83) (E:List S83) (a b:Int):df (x::E) a b=if x.f0=min a b/\x.f1=max a b then x.f2 else df E a b:=by
 unfold df;rw[List.find?_cons];unfold gU;by_cases h:x.f0=min a b/\x.f1=max a b
 ·simp[h]
 ·rw[aZ h,if_neg h]
theorem pk (E:List S83) (a b:Int):df E a b=df E b a:=by
 unfold df gU;rw[show min a b=min b a by omega,show max a b=max b a by omega]
theorem vJ {E:List S83} {a b:Int} (h:∀x∈E,¬(x.f0=min a b/\x.f1=max a b)):E.find? (gU a b)=none:=by
 rw[List.find?_eq_none];intro x e;simp[gU,h x e]
theorem vK (a b:Nat) (j:a≠b):∀(E:List S83) (f:Nat->Nat->Int),(∀x∈E,0<=x.f0/\x.f0<=x.f1)->E.Pairwise jB->E.foldl dn f a b=match E.find? (gU a b) with|some x=>x.f2|none=>f a b
 |[],f,_,_=>rfl
 |x::E,f,h,hp=>by
  have m:=h x (List.mem_cons_self ..);obtain⟨h1,k⟩:=List.pairwise_cons.1 hp;rw[List.foldl_cons,vK a b j E _ (fun y g=>h y (List.mem_cons_of_mem _ g)) k,List.find?_cons];by_cases l:x.f0=min (a:Int) b/\x.f1=max (a:Int) b
  ·rw[show gU a b x=true from by simp[gU,l]]
   rw[vJ (fun y g n=>by have:=h1 y g;unfold jB at this;omega)];show dn f x a b=x.f2
   unfold dn;rw[if_neg (by omega)];by_cases i:a=x.f1.toNat/\b=x.f0.toNat
   ·rw[if_pos i]
   ·rw[if_neg i,if_pos (by omega)]
  ·rw[show gU a b x=false from by simp[gU];omega]
   have e:dn f x a b=f a b:=by
    unfold dn;split
    ·rfl
    ·dsimp only
     rw[if_neg (by omega),if_neg (by omega)]
   rw[e]
theorem iJ {N:Int} {E:List S83} (h:br N E) (a b:Nat) (g:a≠b):ae E a b=df E a b:=by
 unfold ae df;exact vK a b g E _ (fun x e=>⟨by have:=h.ok x e;simp[cu] at this;omega,h.le x e⟩) h.order
theorem nD {N:Int} {E:List S83} (h:br N E) (a b:Int):0<=df E a b/\df E a b<=50:=by
 unfold df;split
 ·rename_i x e
  have:=h.ok x (List.mem_of_find?_eq_some e);simp[cu] at this;omega
 ·omega
end Go.Proofs.YtffdiakgjakngaaGreat.P
namespace Go.Proofs.YtffdiakgjakngaaGreat.T
set_option linter.unusedVariables false
set_option linter.unusedSimpArgs false
set_option maxHeartbeats 8000000
set_option maxRecDepth 100000
def sN (f:Nat->Int):Nat->Int
 |0=>0
 |n+1=>sN f n+f n
theorem dR (f:Nat->Int) (n:Nat):sN f (n+1)=sN f n+f n:=rfl
theorem bL {f g:Nat->Int}:∀{n:Nat},(∀u,u<n->f u=g u)->sN f n=sN g n
 |0,_=>rfl
 |n+1,h=>by rw[dR,dR,bL (n:=n) (fun u hu=>h u (by omega)),h n (by omega)]
theorem cW {f g:Nat->Int}:∀{n:Nat},(∀u,u<n->f u<=g u)->sN f n<=sN g n
 |0,_=>Int.le_refl _
 |n+1,h=>by
  have h1:=cW (n:=n) (fun u hu=>h u (by omega));have a:=h n (by omega);rw[dR,dR];omega
theorem j5:∀(n:Nat),sN (fun _=>0) n=0
 |0=>rfl
 |n+1=>by rw[dR,j5 n];rfl
theorem iu {f:Nat->Int} {n:Nat} (h:∀u,u<n->f u=0):sN f n=0:=(bL h).trans (j5 n)
theorem dw {f:Nat->Int} {n:Nat} (h:∀u,u<n->0<=f u):0<=sN f n:=by
 have:=cW (f:=fun _=>0) (g:=f) (n:=n) h;rw[j5] at this;exact this
theorem dE (f g:Nat->Int):∀n:Nat,sN (fun v=>f v+g v) n=sN f n+sN g n
 |0=>rfl
 |n+1=>by rw[dR,dR,dR,dE f g n];omega
theorem dA (f g:Nat->Int):∀n:Nat,sN (fun v=>f v-g v) n=sN f n-sN g n
 |0=>rfl
 |n+1=>by rw[dR,dR,dR,dA f g n];omega
theorem nE (f:Nat->Int):∀n:Nat,sN (fun v=> -f v) n= -sN f n
 |0=>rfl
 |n+1=>by rw[dR,dR,nE f n];omega
theorem eR (c:Int) (f:Nat->Int):∀n:Nat,sN (fun v=>c*f v) n=c*sN f n
 |0=>by simp[sN]
 |n+1=>by rw[dR,dR,eR c f n,Int.mul_add]
theorem jd (c:Int):∀n:Nat,sN (fun _=>c) n=n*c
 |0=>by simp[sN]
 |n+1=>by rw[dR,jd c n,Int.natCast_add,Int.add_mul];simp
theorem nF (f:Nat->Nat->Int) (m:Nat):∀n:Nat,sN (fun v=>sN (fun u=>f v u) m) n=sN (fun u=>sN (fun v=>f v u) n) m
 |0=>by show (0:Int)=sN (fun u=>0) m;rw[j5]
 |n+1=>by
  rw[dR,nF f m n,<-dE];exact bL fun u _=>rfl
theorem j6 {f:Nat->Int} {v:Nat}:∀{n:Nat},v<n->(∀u,u<n->u≠v->f u=0)->sN f n=f v
 |0,h,_=>by omega
 |n+1,h,a=>by
  rw[dR];by_cases e:v=n
  ·subst e
   rw[iu fun u hu=>a u (by omega) (by omega)];omega
  ·rw[j6 (n:=n) (by omega) fun u hu b=>a u (by omega) b,a n (by omega) (fun h=>e h.symm)];omega
theorem fL {f:Nat->Int} {n v:Nat} (a:v<n) (h:∀u,u<n->0<=f u):f v<=sN f n:=by
 have h1:sN (fun u=>if u=v then f v else 0) n=f v:=by
  rw[j6 (f:=fun u=>if u=v then f v else 0) a (fun u _ hu=>if_neg hu)];exact if_pos rfl
 rw[<-h1];refine cW fun u hu=>?_
 show (if u=v then f v else 0)<=f u
 by_cases e:u=v
 ·subst e;rw[if_pos rfl];exact Int.le_refl _
 ·rw[if_neg e];exact h u hu
theorem pn (s:Nat->Int):∀{n:Nat},0<n->∃v,v<n/\∀u,u<n->s u<=s v
 |0,h=>by omega
 |1,_=>⟨0,by omega,fun u hu=>by
   obtain rfl:u=0:=by omega
   exact Int.le_refl _⟩
 |n+2,_=>by
  obtain⟨v,b,h⟩:=pn s (n:=n+1) (by omega);by_cases a:s (n+1)<=s v
  ·exact⟨v,by omega,fun u hu=>by
    by_cases e:u=n+1
    ·subst e;exact a
    ·exact h u (by omega)⟩
  ·exact⟨n+1,by omega,fun u hu=>by
    by_cases e:u=n+1
    ·subst e;exact Int.le_refl _
    ·have:=h u (by omega);omega⟩
theorem exists_least {P:Nat->Prop} (f:Nat->Nat) (h:∃v,P v):∃v,P v/\∀u,P u->f v<=f u:=by
 obtain⟨v,a⟩:=h;have key:∀(k:Nat) (v:Nat),f v<=k->P v->∃v,P v/\∀u,P u->f v<=f u:=by
  intro k;induction k with
  |zero=>intro v hk a;exact⟨v,a,fun u _=>by omega⟩
  |succ k g=>
   intro v hk a;by_cases b:∃u,P u/\f u<f v
   ·obtain⟨u,hu,e⟩:=b
    exact g u (by omega) hu
   ·exact⟨v,a,fun u hu=>by
     by_cases e:f u<f v
     ·exact absurd ⟨u,hu,e⟩ b
     ·omega⟩
 exact key (f v) v (Nat.le_refl _) a
theorem DF {P:Nat->Prop} (h:∃k,P k):∃k,P k/\∀j,P j->k<=j:=exists_least id h
structure Wt (n:Nat) (t:Nat->Nat->Int):Prop where
 pos:∀u v,0<=t u v
 sym:∀u v,t u v=t v u
 self:∀v,t v v=0
def aV (n:Nat) (t:Nat->Nat->Int) (s:Nat->Int) (v:Nat):Int:=sN (fun u=>t v u*(s v-s u)) n
theorem j7 (n:Nat) (t:Nat->Nat->Int) (s r:Nat->Int) (v:Nat):aV n t (fun u=>s u+r u) v=aV n t s v+aV n t r v:=by
 unfold aV;rw[<-dE];refine bL fun u _=>?_
 rw[<-Int.mul_add];congr 1;show s v+r v- (s u+r u)=_;omega
theorem lO (n:Nat) (t:Nat->Nat->Int) (s:Nat->Int) (v:Nat):aV n t (fun u=> -s u) v= -aV n t s v:=by
 unfold aV;rw[<-nE];refine bL fun u _=>?_
 rw[<-Int.mul_neg];congr 1;show -s v- -s u=_;omega
theorem lP (n:Nat) (t:Nat->Nat->Int) (s r:Nat->Int) (v:Nat):aV n t (fun u=>s u-r u) v=aV n t s v-aV n t r v:=by
 unfold aV;rw[<-dA];refine bL fun u _=>?_
 rw[<-Int.mul_sub];congr 1;show s v-r v- (s u-r u)=_;omega
theorem vL (n:Nat) (t:Nat->Nat->Int) (c:Int) (s:Nat->Int) (v:Nat):aV n t (fun u=>c*s u) v=c*aV n t s v:=by
 unfold aV;rw[<-eR];refine bL fun u _=>?_
 rw[<-Int.mul_sub,Int.mul_left_comm]
theorem mG {n:Nat} {t:Nat->Nat->Int} {s r:Nat->Int} (h:∀u,u<n->s u=r u) {v:Nat} (a:v<n):aV n t s v=aV n t r v:=by
 unfold aV;refine bL fun u hu=>?_
 rw[h u hu,h v a]
theorem jD (n:Nat) (t:Nat->Nat->Int) (c:Int) (v:Nat):aV n t (fun _=>c) v=0:=by
 unfold aV;exact iu fun u _=>by rw[Int.sub_self,Int.mul_zero]
theorem DG {n:Nat} {t:Nat->Nat->Int} (a:Wt n t) (s h:Nat->Int):sN (fun v=>h v*aV n t s v) n=sN (fun v=>s v*aV n t h v) n:=by
 have b:sN (fun v=>h v*aV n t s v) n=sN (fun v=>h v*s v*sN (fun u=>t v u) n) n-sN (fun v=>sN (fun u=>h v*t v u*s u) n) n:=by
  rw[<-dA];refine bL fun v _=>?_
  unfold aV;rw[<-eR,<-eR,<-dA];refine bL fun u _=>?_
  rw[Int.mul_sub,Int.mul_sub];congr 1
  ·rw[Int.mul_comm (t v u),<-Int.mul_assoc]
  ·rw[<-Int.mul_assoc]
 have e2:sN (fun v=>s v*aV n t h v) n=sN (fun v=>s v*h v*sN (fun u=>t v u) n) n-sN (fun v=>sN (fun u=>s v*t v u*h u) n) n:=by
  rw[<-dA];refine bL fun v _=>?_
  unfold aV;rw[<-eR,<-eR,<-dA];refine bL fun u _=>?_
  rw[Int.mul_sub,Int.mul_sub];congr 1
  ·rw[Int.mul_comm (t v u),<-Int.mul_assoc]
  ·rw[<-Int.mul_assoc]
 rw[b,e2];congr 1
 ·exact bL fun v _=>by rw[Int.mul_comm (h v)]
 ·rw[nF]
  refine bL fun u _=>bL fun v _=>?_
  rw[a.sym v u,Int.mul_comm (h v),Int.mul_comm _ (s u),Int.mul_assoc]
theorem nG {n:Nat} {t:Nat->Nat->Int} (a:Wt n t) (s:Nat->Int):sN (fun v=>aV n t s v) n=0:=by
 have h:=DG a s (fun _=>1);rw[iu (f:=fun v=>s v*aV n t (fun _=>1) v) fun v _=>by rw[jD,Int.mul_zero]] at h;rw[<-h];exact bL fun v _=>by rw[Int.one_mul]
def bX (n:Nat) (t:Nat->Nat->Int) (D D':Nat->Int):Prop:=∃s:Nat->Int,∀v,v<n->D' v=D v-aV n t s v
theorem bX.refl (n:Nat) (t:Nat->Nat->Int) (D:Nat->Int):bX n t D D:=⟨fun _=>0,fun v _=>by rw[jD];omega⟩
theorem bX.of_eq {n:Nat} {t:Nat->Nat->Int} {D D':Nat->Int} (h:∀v,v<n->D' v=D v):bX n t D D':=⟨fun _=>0,fun v a=>by rw[jD,h v a];omega⟩
theorem bX.symm {n:Nat} {t:Nat->Nat->Int} {D D':Nat->Int} (h:bX n t D D'):bX n t D' D:=by
 obtain⟨s,h⟩:=h;exact⟨fun u=> -s u,fun v a=>by rw[lO,h v a];omega⟩
theorem bX.trans {n:Nat} {t:Nat->Nat->Int} {D D' b:Nat->Int} (h:bX n t D D') (a:bX n t D' b):bX n t D b:=by
 obtain⟨s,h⟩:=h;obtain⟨r,a⟩:=a;exact⟨fun u=>s u+r u,fun v e=>by rw[j7,a v e,h v e];omega⟩
theorem bX.add {n:Nat} {t:Nat->Nat->Int} {D D' F a:Nat->Int} (h:bX n t D D') (b:bX n t F a):bX n t (fun v=>D v+F v) (fun v=>D' v+a v):=by
 obtain⟨s,h⟩:=h;obtain⟨r,b⟩:=b;exact⟨fun u=>s u+r u,fun v e=>by show D' v+a v=D v+F v-_;rw[j7,b v e,h v e];omega⟩
theorem bX.neg {n:Nat} {t:Nat->Nat->Int} {D D':Nat->Int} (h:bX n t D D'):bX n t (fun v=> -D v) (fun v=> -D' v):=by
 obtain⟨s,h⟩:=h;exact⟨fun u=> -s u,fun v a=>by show -D' v= -D v-_;rw[lO,h v a];omega⟩
theorem bX.bb {n:Nat} {t:Nat->Nat->Int} (a:Wt n t) {D D':Nat->Int} (h:bX n t D D'):sN D' n=sN D n:=by
 obtain⟨s,h⟩:=h;rw[bL h,dA,nG a];omega
def po (n:Nat) (D:Nat->Int):Prop:=∀v,v<n->0<=D v
def bP (n:Nat) (t:Nat->Nat->Int) (D:Nat->Int):Prop:=∃D',bX n t D D'/\po n D'
theorem bP.gG {n:Nat} {t:Nat->Nat->Int} {D D':Nat->Int} (h:bX n t D D') (hw:bP n t D):bP n t D':=by
 obtain⟨F,h1,a⟩:=hw;exact⟨F,h.symm.trans h1,a⟩
theorem DH {n:Nat} {t:Nat->Nat->Int} {D D':Nat->Int} (h:bX n t D D'):bP n t D↔bP n t D':=⟨bP.gG h,bP.gG h.symm⟩
theorem bP.mono {n:Nat} {t:Nat->Nat->Int} {D D':Nat->Int} (hw:bP n t D) (h:∀v,v<n->D v<=D' v):bP n t D':=by
 obtain⟨F,⟨s,h1⟩,b⟩:=hw;exact⟨fun v=>D' v-aV n t s v,⟨s,fun v _=>rfl⟩,fun v a=>by have:=b v a;have:=h1 v a;have:=h v a;show 0<=D' v-aV n t s v;omega⟩
theorem bP.add {n:Nat} {t:Nat->Nat->Int} {D F:Nat->Int} (h1:bP n t D) (g:bP n t F):bP n t (fun v=>D v+F v):=by
 obtain⟨D',a,b⟩:=h1;obtain⟨h,c,d⟩:=g;exact⟨_,a.add c,fun v e=>by have:=b v e;have:=d v e;show 0<=D' v+h v;omega⟩
theorem bP.rA {n:Nat} {t:Nat->Nat->Int} {D:Nat->Int} (h:po n D):bP n t D:=⟨D,bX.refl _ _ _,h⟩
theorem bP.bb {n:Nat} {t:Nat->Nat->Int} (e:Wt n t) {D:Nat->Int} (h:bP n t D):0<=sN D n:=by
 obtain⟨D',a,b⟩:=h;rw[<-a.bb e];exact dw b
def gh (n:Nat) (t:Nat->Nat->Int) (pos:Nat->Nat) (v:Nat):Int:=sN (fun u=>if pos u<pos v then t v u else 0) n
def val (n:Nat) (t:Nat->Nat->Int) (v:Nat):Int:=sN (fun u=>t v u) n
def nu (n:Nat) (t:Nat->Nat->Int) (pos:Nat->Nat) (v:Nat):Int:=gh n t pos v-1
theorem DJ {n:Nat} {t:Nat->Nat->Int} (a:Wt n t) (hn:0<n) (pos:Nat->Nat) (s:Nat->Int):∃v,v<n/\nu n t pos v-aV n t s v<0:=by
 obtain⟨m,hm,b⟩:=pn s hn;obtain⟨v,⟨g,j⟩,i⟩:=exists_least (P:=fun v=>v<n/\s v=s m) pos ⟨m,hm,rfl⟩;refine⟨v,g,?_⟩;unfold nu gh aV;have:sN (fun u=>if pos u<pos v then t v u else 0) n<=sN (fun u=>t v u*(s v-s u)) n:=by
  refine cW fun u hu=>?_
  have hp:=a.pos v u;have k:=b u hu;by_cases e:pos u<pos v
  ·show (if pos u<pos v then t v u else 0)<=_
   rw[if_pos e];have l:s u≠s m:=fun h=>by have:=i u ⟨hu,h⟩;omega
   have h1:1<=s v-s u:=by omega
   have:=Int.mul_le_mul_of_nonneg_left h1 hp;rw[Int.mul_one] at this;exact this
  ·show (if pos u<pos v then t v u else 0)<=_
   rw[if_neg e];exact Int.mul_nonneg hp (by omega)
 omega
theorem rB {n:Nat} {t:Nat->Nat->Int} (b:Wt n t) (hn:0<n) (pos:Nat->Nat):¬bP n t (nu n t pos):=by
 rintro⟨D',⟨s,h1⟩,e⟩;obtain⟨v,a,h⟩:=DJ b hn pos s;have:=h1 v a;have:=e v a;omega
def iw (n:Nat) (pos:Nat->Nat):Prop:=∀u v,u<n->v<n->pos u=pos v->u=v
theorem vM {n:Nat} {t:Nat->Nat->Int} (b:Wt n t) {pos pos':Nat->Nat} (hi:iw n pos) (g:∀u v,u<n->v<n->(pos' u<pos' v↔pos v<pos u)) {v:Nat} (a:v<n):gh n t pos v+gh n t pos' v=val n t v:=by
 unfold gh val;rw[<-dE];refine bL fun u hu=>?_
 have h1:=g u v hu a;by_cases e:pos u<pos v
 ·rw[if_pos e,if_neg (by rw[h1];omega)];omega
 ·by_cases e2:pos v<pos u
  ·rw[if_neg e,if_pos (h1.2 e2)];omega
  ·rw[if_neg e,if_neg (fun h=>e2 (h1.1 h))]
   have:=hi u v hu a (by omega);subst this;rw[b.self];rfl
theorem vN (n:Nat) (pos:Nat->Nat):∃pos':Nat->Nat,∀u v,u<n->v<n->(pos' u<pos' v↔pos v<pos u):=by
 obtain⟨B,a⟩:∃B,∀u,u<n->pos u<=B:=by
  induction n with
  |zero=>exact⟨0,fun u hu=>by omega⟩
  |succ n b=>
   obtain⟨B,a⟩:=b;exact⟨max B (pos n),fun u hu=>by
    by_cases e:u=n
    ·subst e;exact Nat.le_max_right _ _
    ·exact Nat.le_trans (a u (by omega)) (Nat.le_max_left _ _)⟩
 refine⟨fun u=>B-pos u,fun u v hu g=>?_⟩;have:=a u hu;have:=a v g;show B-pos u<B-pos v↔_
 omega
theorem DK {n:Nat} {pos pos':Nat->Nat} (hi:iw n pos) (b:∀u v,u<n->v<n->(pos' u<pos' v↔pos v<pos u)):iw n pos':=by
 intro u v hu a he;have h1:=b u v hu a;have e:=b v u a hu;refine hi u v hu a ?_;omega
theorem DL {n:Nat} {t:Nat->Nat->Int} (a:Wt n t) {pos pos':Nat->Nat} (b:∀u v,u<n->v<n->(pos' u<pos' v↔pos v<pos u)):sN (gh n t pos) n=sN (gh n t pos') n:=by
 unfold gh;rw[nF];refine bL fun u hu=>bL fun v g=>?_
 have:=b v u g hu;by_cases e:pos u<pos v
 ·rw[if_pos e,if_pos (this.2 e),a.sym]
 ·rw[if_neg e,if_neg (fun h=>e (this.1 h))]
theorem DM {n:Nat} {t:Nat->Nat->Int} (a:Wt n t) {pos:Nat->Nat} (hi:iw n pos):2*sN (gh n t pos) n=sN (val n t) n:=by
 obtain⟨pos',b⟩:=vN n pos;have h1:sN (fun v=>gh n t pos v+gh n t pos' v) n=sN (val n t) n:=bL fun v e=>vM a hi b e
 rw[dE] at h1;have g:=DL a b;omega
theorem DN {n:Nat} {t:Nat->Nat->Int} (pos:Nat->Nat):sN (nu n t pos) n=sN (gh n t pos) n-n:=by
 have:sN (nu n t pos) n=sN (fun v=>gh n t pos v- (fun _=>(1:Int)) v) n:=rfl;rw[this,dA,jd];omega
theorem DO {n:Nat} {t:Nat->Nat->Int} (a:Wt n t) {pos pos':Nat->Nat} (hi:iw n pos) (b:∀u v,u<n->v<n->(pos' u<pos' v↔pos v<pos u)) {v:Nat} (e:v<n):val n t v-2-nu n t pos v=nu n t pos' v:=by
 have:=vM a hi b e;unfold nu;omega
end Go.Proofs.YtffdiakgjakngaaGreat.T


