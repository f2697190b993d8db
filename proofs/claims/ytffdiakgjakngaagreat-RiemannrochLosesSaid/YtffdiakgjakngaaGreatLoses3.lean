/- RiemannrochLoses answers true whatever the input (text 3 of 7): own walks and plain laws; no conditions. -/
import Derived.BigQuiet
import Derived.Deep.AppendLies
import Derived.Deep.QuietTactic
import Derived.Deep.RegionHeld3
import Derived.Deep.RegionLaw
import Derived.Laws.EntriesVeiled
import Derived.Lib.Hide
import Derived.Lib.SliceRun
import Derived.Outline
import Derived.RegionIn
import Derived.WalkSpells
import Derived.Test.YtffdiakgjakngaaGreatLoses2
namespace Go.Proofs.YtffdiakgjakngaaGreat.P
open Go.RowKit Go.Proofs.YtffdiakgjakngaaGreatW.PrintWords Go.Proofs.YtffdiakgjakngaaGreatW.PrintLast Go.Proofs.YtffdiakgjakngaaGreatW.PrintMore
set_option linter.unusedVariables false
set_option linter.unusedSimpArgs false
set_option maxHeartbeats 8000000
set_option maxRecDepth 100000
section
theorem cL.bk {l:Nat} {A B:World} {g:Nat} {n:Int} {times:Nat->Nat->Int} {chips:Value} {burnt:Nat->Bool} (h:cL A g n times chips burnt) (hb:Bk l A B):cL B g n times chips burnt:=by
 obtain⟨cs,a,b⟩:=h;exact⟨cs,hb.cells a,b⟩
attribute [local go_sem] Oper.semAt_some
theorem Cw (g:Nat) (w:World):Calls Tryz.prog 221 #[.pointer (some ⟨g,0,none⟩)] w fun e w'=>e= .returned (.func (.func 225) #[] #[.pointer (some ⟨w.heap.size,0,none⟩)])/\w'=w.alloc (.cells #[.pointer (some ⟨g,0,none⟩)] 245):=by
 go_enter Tryz.func221,Tryz.ntmps221
 go_wp2;go_ret;exact⟨rfl,rfl⟩
def mu (N:Int) (E:List S83) (q:Int) (c:List Int):Bool:=decide (0<=q/\q<N/\N<=12/\(c.length:Int)=N)&&iR N E
def cD (q:Nat):Nat->Bool:=fun i=>if i=q then true else false
def jU (n:Nat) (E:List S83) (q:Nat) (c:List Int):List Nat:=eF n (cA n (af E) c) (cD q)
def iA.f (k:Nat) (N:Int) (E:List S83) (q:Int) (c:List Int):Option (List Int×List Int×Int):=
 (fX.f k N E q c).bind fun t=>if t=0 then(if mu N E q c=true then
  some (q::(jU N.toNat E q.toNat c).map Int.ofNat,fW (cJ (cD q.toNat) (jU N.toNat E q.toNat c)) N.toNat,0) else none) else some ([],[],t)
theorem iA.mono:∀N E q c k,al (iA.f k N E q c) (iA.f (k+1) N E q c):=by
 intro N E q c k;unfold iA.f;exact al.bind (fX.mono _ _ _ _ _) (fun _=>al.refl _)
theorem iA.calls (k:Nat) (M:Int) (a9:Option Addr) (N:Nat) (a:List (S83)) (a1:Int) (A2:Option Addr) (c2:Nat) (l2:List Int) (r1:List Int) (r2:List Int) (r3:Int) (w:World) (ag:Kd.C aN w a9 a.length a) (ak:a.length<=N) (am:Kd.C (Kd.int .i64) w A2 l2.length l2) (an:l2.length<=c2) (h:iA.f k M a a1 l2=some (r1,r2,r3)):
  Calls Tryz.prog 213 #[.agg #[.int .i64 M,.slice a9 a.length N],.int .i64 a1,.slice A2 l2.length c2] w fun e w'=>∃ap av:Value,e= .returned (.tuple #[ap,av,.int .i64 r3])/\Kd.R (Kd.int .i64) 3 w' w.heap.size (fun z=>some z≠(av:Value).ownBlock) ap r1/\Kd.R (Kd.int .i64) 3 w' w.heap.size (fun z=>some z≠(ap:Value).ownBlock) av r2/\Below w.heap.size w w':=by
 have hu:=Tryz.underlying24;obtain⟨t,ht,H⟩:=Option.bind_eq_some_iff.mp h;clear h;by_cases h0:t=0
 ·subst h0
  rw[if_pos rfl] at H;by_cases U:mu M a a1 l2=true
  ·rw[if_pos U] at H
   simp only[Option.some.injEq,Prod.mk.injEq] at H;obtain⟨rfl,rfl,rfl⟩:=H;simp only[mu,Bool.and_eq_true,decide_eq_true_eq] at U;obtain⟨⟨q0,qn,n12,hlen⟩,hE⟩:=U;obtain⟨n,rfl⟩:=Int.eq_ofNat_of_zero_le (show 0<=M by omega);obtain⟨q,rfl⟩:=Int.eq_ofNat_of_zero_le q0;simp only[aM];have bn:=zA (jy hE);have cl:l2.length<=n:=by omega
   have bv:n<=l2.length:=by omega
   have Ht:=zA ht;clear hlen hE ht;refine(callsIn_wide (n:=10)).1 ?_;refine callsIn_of_wp_marks Tryz.func213 rfl trivial ?_ rfl;simp only[Tryz.ntmps213,List.size_toArray,List.length_cons,List.length_nil,Nat.reduceAdd,Nat.reduceSub,Array.replicate_succ,Array.replicate_zero,List.push_toArray,List.append_toArray,List.nil_append,List.cons_append];gi_wp2_with (first|(refine⟨trivial,?_⟩;gi_at_call 219;refine(callsIn_wide.2 (fX.calls k _ _ N a _ _ c2 l2 0 _ (Kd.bp ag _) ak (Kd.bp am _) an Ht.out)).mono ?_;rintro e w1 ⟨rfl,hb⟩;have hx:=(hb.cell (p:=⟨w.heap.size,0,none⟩) (by simp));have hy:=(hb.cell (p:=⟨w.heap.size,1,none⟩) (by simp));have y:=zA (lN (ao (aq _ _) _) (by simp) hb);clear hb)|(refine⟨trivial,?_⟩;gi_at_call 220;refine(callsIn_wide.2 (Cu n q _ N a _ c2 l2 _ (Kd.aw ag y.out) ak (Kd.aw am y.out) an (by omega) (by omega) bn.out cl bv)).mono ?_;rintro e w2 ⟨g,m,r,rfl,hW,hR,hB,hg⟩;have aF:=zA hW;have aL:=zA hR;have aO:=zA (lN y.out y.out.size hB);clear hW hR hB)|(refine⟨trivial,?_⟩;gi_at_call 221;refine(callsIn_wide.2 (Cw g _)).mono ?_;rintro e w3 ⟨rfl,rfl⟩))
   have cn:=aF.out.lt;have d0:w.heap.size<=w1.heap.size:=y.out.size;have co:w.heap.size<=w2.heap.size:=aO.out.size;have aP:∀k,some k=(Value.slice m l2.length r).ownBlock->k<w2.heap.size:=fun k hk=>Kd.a_ aL.out k hk.symm
   have G:=zA (aF.out.below (ao (ao (ao (aq _ _) (.cells #[.int .i64 q] 3)) (.cells #[.slice (some ⟨w2.heap.size,0,none⟩) 1 1] 25)) (.cells #[.pointer (some ⟨g,0,none⟩)] 245)));have O:=zA (Kd.aR (Kd.aR (Kd.aR (Kd.gS rfl aL.out) (.cells #[.int .i64 q] 3)) (.cells #[.slice (some ⟨w2.heap.size,0,none⟩) 1 1] 25)) (.cells #[.pointer (some ⟨g,0,none⟩)] 245));have I:=zA (ao (ao (ao aO.out (.cells #[.int .i64 q] 3)) (.cells #[.slice (some ⟨w2.heap.size,0,none⟩) 1 1] 25)) (.cells #[.pointer (some ⟨g,0,none⟩)] 245));have b_:Aside0 (Kd.R (Kd.int .i64) 3 (((w2.alloc (.cells #[.int .i64 q] 3)).alloc (.cells #[.slice (some ⟨w2.heap.size,0,none⟩) 1 1] 25)).alloc (.cells #[.pointer (some ⟨g,0,none⟩)] 245)) w.heap.size (fun k=>k≠g/\some k≠(Value.slice m l2.length r).ownBlock) (.slice (some ⟨w2.heap.size,0,none⟩) 1 1) [(q:Int)]):=by
    refine⟨Kd.aR (Kd.aR (Kd.mK (enc:=Value.int .i64) (h1:=fun _=>rfl) ?_ ?_) _) _⟩
    ·simpa [bV] using World.ownsRow_lit (base:=w.heap.size) (e:=3) (size:=1) w2 #[.int .i64 q] 1 co (by decide) rfl
    ·intro k hk
     have e:w2.heap.size=k:=by simpa [Value.ownBlock] using hk
     refine⟨by omega,fun e2=>?_⟩;have:=aP k e2;omega
   have V:Aside0 ((((w2.alloc (.cells #[.int .i64 q] 3)).alloc (.cells #[.slice (some ⟨w2.heap.size,0,none⟩) 1 1] 25)).alloc (.cells #[.pointer (some ⟨g,0,none⟩)] 245)).heap[w2.heap.size+1]? =some (.cells #[.slice (some ⟨w2.heap.size,0,none⟩) 1 1] 25 (0,0))):=
    ⟨by have h:=bc (w2.alloc (.cells #[.int .i64 q] 3)) (.cells #[.slice (some ⟨w2.heap.size,0,none⟩) 1 1] 25);rw[World.size_alloc] at h;exact au h _⟩
   have P:Aside0 ((((w2.alloc (.cells #[.int .i64 q] 3)).alloc (.cells #[.slice (some ⟨w2.heap.size,0,none⟩) 1 1] 25)).alloc (.cells #[.pointer (some ⟨g,0,none⟩)] 245)).heap[w2.heap.size+1+1]? =some (.cells #[.pointer (some ⟨g,0,none⟩)] 245 (0,0))):=
    ⟨by have h:=bc ((w2.alloc (.cells #[.int .i64 q] 3)).alloc (.cells #[.slice (some ⟨w2.heap.size,0,none⟩) 1 1] 25)) (.cells #[.pointer (some ⟨g,0,none⟩)] 245);simpa using h⟩
   have X:w2.heap.size+1≠g:=by omega
   have Y:w2.heap.size+1+1≠g:=by omega
   have Z:w2.heap.size+1+1≠w2.heap.size+1:=by omega
   have b':some (w2.heap.size+1)≠(Value.slice m l2.length r).ownBlock:=fun e=>by have:=aP _ e;omega
   have ca:w.heap.size<=w2.heap.size+1:=by omega
   have cb:w.heap.size<=g:=by omega
   clear aP aF aL aO y;generalize (((w2.alloc (.cells #[.int .i64 q] 3)).alloc (.cells #[.slice (some ⟨w2.heap.size,0,none⟩) 1 1] 25)).alloc (.cells #[.pointer (some ⟨g,0,none⟩)] 245))=E at G O I b_ V P⊢;generalize w2.heap.size+1+1=J at P Y Z⊢;generalize w2.heap.size+1=bo at V X Z b' ca⊢;refine iz (σ:=Unit) (α:=Nat) (F:=Fence.wide) (n:=10) rfl (by decide) (gf:=225) (lb:=#[.pointer (some ⟨J,0,none⟩)]) rfl trivial (enters_of Tryz.func225 (by kernel_rfl) rfl)
    (fun o=>Ct g J n (af a) m r l2 (cD q) _ w1.heap.size (by omega) bv ?ht Y (G.out.below (ao (ao (aq _ _) _) _)) (au (au P.out _) _) (Kd.bb (Kd.aR (Kd.aR O.out _) _) (fun _ h=>h))) (fun _=>rfl)
    (fun _=>True) ?en ?st ?ar
    (fun _ pre W=>E.heap.size<=W.heap.size/\∃v,W.heap[J]? =some (.cells #[.pointer (some ⟨g,0,none⟩)] 245 (0,0))/\W.heap[bo]? =some (.cells #[v] 25 (0,0))/\Kd.R (Kd.int .i64) 3 W w.heap.size (fun k=>k≠g/\some k≠(Value.slice m l2.length r).ownBlock) v ((q:Int)::pre.map Int.ofNat)/\Below w.heap.size w W) (fun _ _ _ _=>False)
    ?is (fun _ _ _ _ _ _ h _=>h) ?ib (fun _ _ _ _ _ h _=>h) ?kt ?h0 ?a1 ?assign ?body ?done (fun _ _ _ _ _ _ _ h=>h.elim)
   case assign=>
    intro l x W K hK;gi_wp2;exact hK
   case ht=>exact bn.out.times
   case en=>
    intro o s W1 h;exact⟨trivial,by rw[h];exact ct.refl _ _⟩
   case st=>intro s A B _ h k o h1 u i _;exact(h.block k (Array.getElem?_eq_some_iff.1 i).1 (fun e=>by cases e;have:=G.out.lt;omega)).trans i
   case ar=>intro s x A B _ h k o h1 u i _;exact(h.block k (Array.getElem?_eq_some_iff.1 i).1 (fun e=>by cases e;have:=G.out.lt;omega)).trans i
   case is=>
    rintro s pre A B _ ⟨Q,v,h0,h1,u,i⟩ S;exact⟨Nat.le_trans Q S.size,v,(S.block J (aA h0) (fun e=>by cases e;exact Y rfl)).trans h0,(S.block bo (aA h1) (fun e=>by cases e;exact X rfl)).trans h1,Kd.lR u S (fun k hk e=>hk.1 (by cases e;rfl)),kc i (some g) i.size S (fun k e=>by cases e;exact cb)⟩
   case ib=>
    rintro s pre A B ⟨Q,v,h0,h1,u,i⟩ hb;exact⟨by rw[hb.size];exact Q,v,hb.cells h0,hb.cells h1,df u hb,i.trans (hb.below w.heap.size (by have:=I.out.size;omega))⟩
   case kt=>
    intro s A B C D cs cx c0 k hk;have cc:k≠E.heap.size+1:=by
     rcases hk with rfl|rfl|hk
     ·have:=G.out.lt;omega
     ·have:=aA P.out;omega
     ·have:=Kd.a_ O.out k hk.symm;omega
    exact(c0.heap k cc).trans ((cx k hk).trans (cs.heap k cc))
   case h0=>
    rintro o s W1 rfl;exact⟨by simp;omega,_,au (au P.out _) _,au (au V.out _) _,Kd.aR (Kd.aR b_.out _) _,ao (ao I.out _) _⟩
   case body=>
    rintro l s pre x Wb W1 W _ ⟨Q,v,i0,i1,i2,i3⟩ L d2 j;have b0:=zA (j.cells ((L.block J (aA i0) (fun e=>by cases e;exact Y rfl)).trans i0));have b1:=zA (j.cells ((L.block bo (aA i1) (fun e=>by cases e;exact X rfl)).trans i1));have b:=zA (df (Kd.lR i2 L (fun k hk e=>hk.1 (by cases e;rfl))) j);have b3:=zA ((kc i3 (some g) i3.size L (fun k e=>by cases e;exact cb)).trans (j.below w.heap.size (by have:=I.out.size;omega)));have cn:E.heap.size<=W.heap.size:=by have:=j.size;have:=L.size;omega
    have d3:=G.out.lt;clear i0 i1 i2 i3 L;obtain⟨Ar,cr,rfl⟩:=Kd.bm b.out;replace b:=zA (show Kd.R (Kd.int .i64) 3 W w.heap.size (fun k=>k≠g/\some k≠(Value.slice m l2.length r).ownBlock) (.slice Ar (pre.length+1) cr) ((q:Int)::pre.map Int.ofNat) from by have h:=b.out;rw[show ((q:Int)::pre.map Int.ofNat).length=pre.length+1 from by simp] at h;exact h);rw[show ((q:Int)::pre.map Int.ofNat).length=pre.length+1 from by simp] at b1;have hc:=cY b1.out;have hf:=bt b1.out 0;have FR:Aside0 (∀k,W.heap.size<=k->k≠g/\some k≠(Value.slice m l2.length r).ownBlock):=⟨fun k hk=>⟨by omega,fun e=>by have:=Kd.a_ O.out k e.symm;omega⟩⟩;have LN:Aside0 ((((q:Int)::pre.map Int.ofNat).length+1)*8<=140737488355328):=⟨by simp;omega⟩;gi_wp2_with (gi_at_builtin;go_loud (refine ny (Kd.int .i64) (w0:=w) w.heap.size rfl (.tmp 29) (.tmp 31) 25 3 (.int .i64 0) 8 rfl Tryz.underlying25 gB rfl (by decide) (by omega) _ _ (x:Int) [.int .i64 x] (fun k=>k≠g/\some k≠(Value.slice m l2.length r).ownBlock) (fun _=>False) rfl rfl rfl (fun _ hk=>hk.elim) FR.out b.out b3.out b3.out.size LN.out ?_;intro v1 d4 aS hb ab c5;obtain⟨A1,c1,rfl⟩:=Kd.bm aS;have X1:=zA ((ab.block bo (aA b1.out) (Kd.dj b.out b1.out (by decide))).trans b1.out);have X0:=zA ((ab.block J (aA b0.out) (Kd.dj b.out b0.out (by decide))).trans b0.out);have d5:=cY X1.out;have d6:=bt X1.out 0;have c7:=zA aS;have c8:=zA hb;have T:=zA ab;clear aS hb ab c5))
    refine⟨(nz b.out T.out).trans (eO _ _ (aA V.out)),fun k hk=>?_,by have:=T.out.size;simp;omega,_,aD X0.out Z _,by simpa using bQ X1.out 0 (.slice A1 (pre.length+1+1) c1),?_,dN c8.out ca⟩
    ·have c9:k≠bo:=by
      rcases hk with rfl|rfl|hk
      ·exact fun e=>X e.symm
      ·exact Z
      ·rintro rfl;exact b' hk
     rw[Below.heap_setCell _ _ _ _ c9];rcases hk with rfl|rfl|hk
     ·exact T.out.block k (by omega) (fun e=>(b.out.1 k e.symm).1 rfl)
     ·exact T.out.block k (aA b0.out) (Kd.dj b.out b0.out (by decide))
     ·exact T.out.block k (by have:=Kd.a_ O.out k hk.symm;omega) (fun e=>(b.out.1 k e.symm).2 hk)
    ·have h:=Kd.fg c7.out X1.out (by decide) 0 (.slice A1 (pre.length+1+1) c1)
     simpa using h
   case done=>
    rintro s xs W W' _ ⟨rfl,cf⟩ ⟨Q,v,i0,i1,i2,i3⟩ j ch;have b1:=zA (j.cells i1);have b:=zA (df i2 j);have b3:=zA (i3.trans (j.below w.heap.size (by have:=I.out.size;omega)));have b4:=zA (cf.bk j);have ci:=zA ch;clear i0 i1 i2 i3 cf ch;have hc:=cY b1.out;obtain⟨Ar,cr,rfl⟩:=Kd.bm b.out;have c':=aA b1.out;gi_wp2_with fail
    refine Cv ?_;gi_region_with (refine⟨trivial,?_⟩;gi_at_call 222;refine(callsIn_wide.2 (Co g n (af a) _ _ _ (by omega) b4.out.drew)).mono ?_;rintro e w5 ⟨v1,rfl,cj,a2⟩;have d7:=(a2.cell (p:=⟨bo,0,none⟩) c').trans hc;have a3:=zA cj;have a4:=zA a2;clear cj a2)
    all_goals gi_wp2
    all_goals
     have ck:w5.heap[E.heap.size]? =some (.deferred (some [])):=(a4.out.block _ (Array.getElem?_eq_some_iff.1 ci.out).1).trans ci.out;have a5:Bk E.heap.size w5 (w5.putObj E.heap.size (.deferred none)):=⟨_,_,ck,rfl,rfl⟩;have dd:=Kd.cT (w:=W'.drew) b.out a4.out;refine iW (D:=E.heap.size) rfl ck (results_tmp3 rfl _ _ _) ⟨_,_,rfl,df (ok:=fun z=>some z≠v1.ownBlock) (v:=.slice Ar ((eF n (cA n (af a) l2) (cD q)).length+1) cr) ?_ a5,df (ok:=fun z=>some z≠(Value.slice Ar ((eF n (cA n (af a) l2) (cD q)).length+1) cr).ownBlock) (v:=v1) ?_ a5,?_⟩
     ·refine Kd.tA rfl (ok1:=fun k=>k≠g/\some k≠(Value.slice m l2.length r).ownBlock) ?_ (fun k hk e=>?_)
      ·have h:=dd
       rw[show ((q:Int)::(eF n (cA n (af a) l2) (cD q)).map Int.ofNat).length=(eF n (cA n (af a) l2) (cD q)).length+1 from by simp] at h;exact h
      ·have h1:=Kd.a_ b.out k ((uS _ _ _ _).trans hk)
       have u:=Kd.dY a3.out k e.symm;exact absurd h1 (Nat.not_lt.2 u)
     ·refine Kd.tA rfl (ok1:=fun _=>True) (Kd.bj a3.out b3.out.size) (fun k hk e=>?_)
      have h1:=Kd.a_ b.out k ((uS _ _ _ _).trans e.symm);have u:=Kd.dY a3.out k hk;exact absurd h1 (Nat.not_lt.2 u)
     ·exact(lN (ig b3.out) b3.out.size a4.out).trans (a5.below w.heap.size I.out.size)
  ·rw[if_neg U] at H
   cases H
 ·rw[if_neg h0] at H
  simp only[Option.some.injEq,Prod.mk.injEq] at H;obtain⟨rfl,rfl,rfl⟩:=H;have Ht:=zA ht;have d8:(t != 0)=true:=by simpa using h0
  clear ht h0;go_enter Tryz.func213,Tryz.ntmps213
  go_wp2_with (go_at_call 219;refine(fX.calls k M _ N a a1 _ c2 l2 t _ (Kd.bp ag _) ak (Kd.bp am _) an Ht.out).mono ?_;rintro e w1 ⟨rfl,hb⟩;have y:=zA (lN (ao (aq _ _) _) (by simp) hb);clear hb)
  go_ret3
  exact⟨_,_,rfl,Kd.dh _ _ _ _ _,Kd.dh _ _ _ _ _,y.out⟩
end
section
theorem qT {b:Nat->Bool} {u:Nat}:∀(l:List Nat),b u=true->cJ b l u=true:=by
 intro l;induction l generalizing b with
 |nil=>exact id
 |cons v l a=>intro h;exact a (b:=ee b v) (by unfold ee;split<;>simp_all)
theorem qU (b:Nat->Bool) (v:Nat) (l:List Nat):cJ b (v::l)=cJ (ee b v) l:=rfl
section
variable {n:Nat} {c:(Nat->Bool)->Nat->Bool}
theorem qV (g:∀b v,c b v=true->b v=false):∀(f:Nat) (b:Nat->Bool),dS n b<=f->∀v,v<n->c (cJ b (fN n c f b)) v=false:=by
 intro f;induction f with
 |zero=>
  intro b h v e;show c b v=false
  cases i:c b v with
  |false=>rfl
  |true=>
   have:=nn e (g b v i);omega
 |succ f j=>
  intro b h v e;cases a:jT n c b with
  |none=>
   simp only[fN,a];unfold jT at a;rw[List.find?_eq_none] at a;have:=a v (List.mem_range.2 e);simpa [cJ] using this
  |some v0=>
   have h1:=List.find?_some a;have k:=List.mem_of_find?_eq_some a;have l:=nn (List.mem_range.1 k) (g b v0 (by simpa using h1));simp only[fN,a,qU];exact j (ee b v0) (by omega) v e
theorem Cx (hm:∀(b b':Nat->Bool) v,(∀u,b u=true->b' u=true)->b' v=false->c b v=true->c b' v=true) (S:Nat->Bool):
  ∀(f:Nat) (b:Nat->Bool),(∀v,S v=true->b v=false)->(∃v,v<n/\S v=true/\cJ b (fN n c f b) v=true)->∃v,v<n/\S v=true/\c (fun u=> !S u) v=true:=by
 intro f;induction f with
 |zero=>
  rintro b hb ⟨v,j,a,h⟩;have:=hb v a;simp[fN,cJ,this] at h
 |succ f k=>
  rintro b hb ⟨v,j,a,h⟩;cases g:jT n c b with
  |none=>
   simp only[fN,g] at h;have:=hb v a;simp[cJ,this] at h
  |some v0=>
   have h1:=List.find?_some g;have l:=List.mem_of_find?_eq_some g;simp only[fN,g,qU] at h;cases i:S v0 with
   |true=>
    refine⟨v0,List.mem_range.1 l,i,hm b _ v0 (fun u hu=>?_) (by simp[i]) (by simpa using h1)⟩;cases m:S u with
    |true=>exact absurd hu (by simp[hb u m])
    |false=>rfl
   |false=>
    refine k (ee b v0) (fun u hu=>?_) ⟨v,j,a,h⟩;unfold ee;rw[if_neg (fun e=>by subst e;rw[i] at hu;cases hu)];exact hb u hu
theorem Cy (g:∀b v,c b v=true->b v=false) (hm:∀(b b':Nat->Bool) v,(∀u,b u=true->b' u=true)->b' v=false->c b v=true->c b' v=true) (b:Nat->Bool):
  (∀v,v<n->cJ b (eF n c b) v=true)↔∀S:Nat->Bool,(∃v,v<n/\S v=true)->(∀v,S v=true->b v=false)->∃v,v<n/\S v=true/\c (fun u=> !S u) v=true:=by
 constructor
 ·rintro h S ⟨v,a,i⟩ hb
  exact Cx hm S (dS n b) b hb ⟨v,a,i,h v a⟩
 ·intro h v a
  cases j:cJ b (eF n c b) v with
  |true=>rfl
  |false=>
   obtain⟨u,hu,l,e⟩:=h (fun u=> !cJ b (eF n c b) u) ⟨v,a,by simp[j]⟩ (fun u hu=>by
    cases k:b u with
    |false=>rfl
    |true=>simp[qT _ k] at hu)
   have:=qV (n:=n) g (dS n b) b (aI _) u hu;simp only[Bool.not_not] at e;rw[show eF n c b=fN n c (dS n b) b from rfl] at e;rw[this] at e;cases e
end
theorem uT {t:Nat->Nat->Int} (a:∀i j,0<=t i j) {b b':Nat->Bool} (h:∀u,b u=true->b' u=true) (v:Nat):∀u,cW t b v u<=cW t b' v u
 |0=>Int.le_refl _
 |u+1=>by
  have h1:=uT a h v u;have e:=h u;have g:=a v u;simp only[cW];by_cases hb:b u=true
  ·rw[if_pos hb,if_pos (e hb)];omega
  ·rw[if_neg hb]
   split<;>omega
theorem uU {t:Nat->Nat->Int} {b b':Nat->Bool} (v:Nat):∀n,(∀u,u<n->b u=b' u)->cW t b v n=cW t b' v n
 |0,_=>rfl
 |n+1,h=>by
  simp only[cW];rw[uU v n (fun u hu=>h u (by omega)),h n (by omega)]
def ky (n:Nat) (t:Nat->Nat->Int) (q:Nat) (c:Nat->Int):Prop:=∀S:Nat->Bool,(∃v,v<n/\S v=true)->S q=false->∃v,v<n/\S v=true/\c v<cW t (fun u=> !S u) v n
def cp (n:Nat) (t:Nat->Nat->Int) (q:Nat) (l:List Int):Bool:=(List.range n).all (cJ (cD q) (eF n (cA n t l) (cD q)))
theorem kz {n:Nat} {t:Nat->Nat->Int} (m:∀i j,0<=t i j) (q:Nat) (l:List Int):cp n t q l=true↔ky n t q (fun v=>rd l v):=by
 have h:=Cy (n:=n) (c:=cA n t l) (fun b v h=>np b v h) (fun b b' v hb a g=>by
  unfold cA at g⊢;simp only[Bool.and_eq_true,decide_eq_true_eq] at g⊢;exact⟨by simp[a],Int.lt_of_lt_of_le g.2 (uT m hb v n)⟩) (cD q)
 unfold cp ky;rw[List.all_eq_true];constructor
 ·intro h1 S hS o
  obtain⟨v,a,k,g⟩:=h.1 (fun v a=>h1 v (List.mem_range.2 a)) S hS (fun v a=>by
   unfold cD;rw[if_neg (fun e=>by subst e;rw[o] at a;cases a)])
  unfold cA at g;simp only[Bool.and_eq_true,decide_eq_true_eq] at g;exact⟨v,a,k,g.2⟩
 ·intro h1 v a
  refine h.2 (fun S hS hb=>?_) v (List.mem_range.1 a);obtain⟨v,a,k,g⟩:=h1 S hS (by
   cases p:S q with
   |false=>rfl
   |true=>have:=hb q p;simp[cD] at this)
  refine⟨v,a,k,?_⟩;unfold cA;simp[k,g]
theorem ky.down {n:Nat} {t:Nat->Nat->Int} {q:Nat} {c a:Nat->Int} (h:ky n t q c) (e:∀v,v<n->a v<=c v):ky n t q a:=by
 intro S hS g;obtain⟨v,b,i,j⟩:=h S hS g;exact⟨v,b,i,Int.lt_of_le_of_lt (e v b) j⟩
def valOf (n:Nat) (t:Nat->Nat->Int) (v:Nat):Int:=cW t (fun u=> !decide (u=v)) v n
theorem ky.lt {n:Nat} {t:Nat->Nat->Int} {q:Nat} {c:Nat->Int} (h:ky n t q c) {v:Nat} (a:v<n) (b:v≠q):c v<valOf n t v:=by
 obtain⟨u,hu,g,i⟩:=h (fun u=>decide (u=v)) ⟨v,a,by simp⟩ (by simpa using fun e=>b e.symm);have:u=v:=by simpa using g
 subst this;exact i
end
section
theorem uV {w w1:World} {g j:Nat} {v:Value} (h:Below w.heap.size w w1):w.grownBy (w1.setCell ⟨g,j,none⟩ v) (some g):=
 ⟨h.os,h.tape,h.output,by simpa using h.size,fun k hk a=>(Below.heap_setCell w1 _ v k (fun e=>a (by rw[e]))).trans (h.block k hk)⟩
structure Cz (cs:Array Value) (d:Value) (q:Int) (rows val:Value) (waits:Nat->Bool):Prop where
 size:cs.size=18
 d:cs[0]? =some d
 q:cs[1]? =some (.int .i64 q)
 rows:cs[2]? =some rows
 val:cs[3]? =some val
 waits:∀i,i<12->cs[6+i]? =some (.bool (waits i))
def cQ (w:World) (g:Nat) (d:Value) (q:Int) (rows val:Value) (waits:Nat->Bool):Prop:=
 ∃cs:Array Value,w.heap[g]? =some (.cells cs 236 (0,0))/\Cz cs d q rows val waits
namespace cQ
variable {w w':World} {g:Nat} {d:Value} {q:Int} {rows val:Value} {waits:Nat->Bool}
theorem uW (h:cQ w g d q rows val waits):w.cell? ⟨g,0,none⟩=some d:=by obtain⟨cs,hb,a⟩:=h;exact(aj hb 0).trans a.d
theorem CD (h:cQ w g d q rows val waits):w.cell? ⟨g,1,none⟩=some (.int .i64 q):=by obtain⟨cs,hb,a⟩:=h;exact(aj hb 1).trans a.q
theorem mw (h:cQ w g d q rows val waits):w.cell? ⟨g,2,none⟩=some rows:=by obtain⟨cs,hb,a⟩:=h;exact(aj hb 2).trans a.rows
theorem oW (h:cQ w g d q rows val waits):w.cell? ⟨g,3,none⟩=some val:=by obtain⟨cs,hb,a⟩:=h;exact(aj hb 3).trans a.val
theorem CE (h:cQ w g d q rows val waits) (i:Nat) (hi:i<12):w.cell? ⟨g,6+i,none⟩=some (.bool (waits i)):=by obtain⟨cs,hb,a⟩:=h;exact(aj hb _).trans (a.waits i hi)
theorem frozen (h:cQ w g d q rows val waits) (k:Nat):w.frozen? ⟨g,k,none⟩=false:=by obtain⟨cs,hb,_⟩:=h;exact bt hb k
theorem below (h:cQ w g d q rows val waits) (hb:Below w.heap.size w w'):cQ w' g d q rows val waits:=by obtain⟨cs,a,b⟩:=h;exact⟨cs,aE a hb,b⟩
theorem drew (h:cQ w g d q rows val waits):cQ w.drew g d q rows val waits:=h
theorem grown {row:Option Nat} (h:cQ w g d q rows val waits) (a:w.grownBy w' row) (b:some g≠row):cQ w' g d q rows val waits:=by obtain⟨cs,e,i⟩:=h;exact⟨cs,da e a b,i⟩
theorem CF (h:cQ w g d q rows val waits) (i:Nat) (hi:i<12) (b:Bool):cQ (w.setCell ⟨g,6+i,none⟩ (.bool b)) g d q rows val (fun j=>if j=i then b else waits j):=by
 obtain⟨cs,l,a⟩:=h;refine⟨cs.setIfInBounds (6+i) (.bool b),by simpa using bQ l (6+i) (.bool b),by simp[a.size],?_,?_,?_,?_,?_⟩
 ·rw[Array.getElem?_setIfInBounds_ne (by omega)];exact a.d
 ·rw[Array.getElem?_setIfInBounds_ne (by omega)];exact a.q
 ·rw[Array.getElem?_setIfInBounds_ne (by omega)];exact a.rows
 ·rw[Array.getElem?_setIfInBounds_ne (by omega)];exact a.val
 ·intro k hk
  have m:=a.size;by_cases e:k=i
  ·subst e
   rw[Array.getElem?_setIfInBounds_self_of_lt (by omega)];simp
  ·rw[Array.getElem?_setIfInBounds_ne (by omega),a.waits k hk];simp[e]
theorem CG (h:cQ w g d q rows val waits) (u:Value):cQ (w.setCell ⟨g,2,none⟩ u) g d q u val waits:=by
 obtain⟨cs,b,a⟩:=h;have e:=a.size;refine⟨cs.setIfInBounds 2 u,by simpa using bQ b 2 u,by simp[a.size],?_,?_,?_,?_,?_⟩
 ·rw[Array.getElem?_setIfInBounds_ne (by omega)];exact a.d
 ·rw[Array.getElem?_setIfInBounds_ne (by omega)];exact a.q
 ·rw[Array.getElem?_setIfInBounds_self_of_lt (by omega)]
 ·rw[Array.getElem?_setIfInBounds_ne (by omega)];exact a.val
 ·intro k hk
  rw[Array.getElem?_setIfInBounds_ne (by omega)];exact a.waits k hk
theorem fg (h:cQ w g d q rows val waits) {α:Type} {k:Kd α} {e base:Nat} {ok:Nat->Prop} {v:Value} {xs:List α} (a:k.R e w base ok v xs) (b:∀q,q∈e::k.E->q≠236) (j:Nat) (u:Value):k.R e (w.setCell ⟨g,j,none⟩ u) base ok v xs:=by
 obtain⟨cs,hb,_⟩:=h;exact Kd.fg a hb b j u
theorem p6 (h:cQ w g d q rows val waits) {α:Type} {k:Kd α} {e base:Nat} {ok:Nat->Prop} {v:Value} {xs:List α} (a:Kd.S k e w base ok v xs) (b:∀q,q∈e::k.E->q≠236) (j:Nat) (u:Value):Kd.S k e (w.setCell ⟨g,j,none⟩ u) base ok v xs:=by
 obtain⟨cs,hb,_⟩:=h;exact Kd.p6 a hb b j u
theorem qW (h:cQ w g d q rows val waits) {v:Value} {e:Nat} (b:∀k,v.ownBlock=some k->∃cells,w.heap[k]? =some (.cells cells e (0,0))) (i:e≠236):some g≠v.ownBlock:=fun he=>by
 obtain⟨cs,hb,_⟩:=h;obtain⟨cells,a⟩:=b g he.symm;rw[hb] at a;injection a with a
 injection a with _ a _
 exact i a.symm
end cQ
def iX (q:Int) (vl dl:List Int) (v:Nat):Bool:=decide ((v:Int)≠q)&&decide (rd vl v<=rd dl v)
theorem CH (g v:Nat) (q:Int) (b h:Option Addr) (cd k:Nat) (dl vl:List Int) (rows:Value) (waits:Nat->Bool) (w:World) (o:v<dl.length) (p:v<vl.length)
  (hw:cQ w g (.slice b dl.length cd) q rows (.slice h vl.length k) waits) (hd:Kd.C (Kd.int .i64) w b dl.length dl) (i:Kd.C (Kd.int .i64) w h vl.length vl):
  Calls Tryz.prog 223 #[.pointer (some ⟨g,0,none⟩),.int .i64 v] w fun e w'=>e= .returned (.bool (iX q vl dl v))/\aC w w':=by
 have r:=hw.uW;have s:=hw.CD;have u:=hw.oW;have x:=hd.2.1;have y:=i.2.1;unfold iX;by_cases a:(v:Int)=q
 ·rw[a6 (by simpa using a),Bool.false_and]
  subst a;go_enter Tryz.func223,Tryz.ntmps223
  go_wp2_with fail
  go_quiet (fail)
  go_wp2;go_ret;exact⟨rfl,by repeat(first|exact aC.refl _|apply aC.step)⟩
 ·rw[az (by simpa using a),Bool.true_and]
  obtain⟨ad,rfl,l⟩:=Kd.bU hd v (by omega) (by omega);obtain⟨z,rfl,m⟩:=Kd.bU i v (by omega) (by omega);rw[aM] at l m;have B:(0:Int)<=(v:Int):=by omega
  have D:(v:Int)<(dl.length:Int):=by omega
  have E:(v:Int)<(vl.length:Int):=by omega
  have j:((v:Int) != q)=true:=by simpa using a
  have n:=Lib.hid j;clear j;go_enter Tryz.func223,Tryz.ntmps223
  go_wp2_with fail
  go_quiet (fail)
  go_wp2;go_ret;refine⟨?_,by repeat(first|exact aC.refl _|apply aC.step)⟩;show Ending.returned (.bool ((v:Int) != q&&decide (rd vl v<=rd dl v)))=_
  rw[n.out,Bool.true_and]
theorem CI (g v:Nat) (q:Int) (a h:Option Addr) (cd k:Nat) (dl vl:List Int) (rows:Value) (waits:Nat->Bool) (w:World) (n:v<12) (r:v<dl.length) (s:v<vl.length)
  (hw:cQ w g (.slice a dl.length cd) q rows (.slice h vl.length k) waits) (hd:Kd.C (Kd.int .i64) w a dl.length dl) (o:Kd.C (Kd.int .i64) w h vl.length vl):
  Calls Tryz.prog 218 #[.pointer (some ⟨g,0,none⟩),.int .i64 v] w fun e w'=>e= .returned (.tuple #[])/\cQ w' g (.slice a dl.length cd) q rows (.slice h vl.length k) (fun j=>if j=v then iX q vl dl v else waits j)/\w.grownBy w' (some g):=by
 have E:(0:Int)<=(v:Int):=by omega
 have F:(v:Int)<12:=by omega
 have p:=zA (fun W h1 u x=>CH g v q a h cd k dl vl rows waits W r s h1 u x);have l:=zA hw;have y:=zA hd;have z:=zA o;clear hw hd o;generalize iX q vl dl v=b at p⊢;go_enter Tryz.func218,Tryz.ntmps218
 go_wp2_with fail
 go_region_with ((go_at_call 223;refine(p.out _ l.out.drew (Kd.fC y.out) (Kd.fC z.out)).mono ?_;rintro e w1 ⟨rfl,i⟩;have G:w1.cell? ⟨g,6+v,none⟩=some (.bool (waits v)):=(by obtain⟨m,rfl⟩:=i.out;exact l.out.CE v n);have H:w1.frozen? ⟨g,6+v,none⟩=false:=(by obtain⟨m,rfl⟩:=i.out;exact l.out.frozen _);have B:=zA (show cQ (w1.setCell ⟨g,6+v,none⟩ (.bool b)) g (.slice a dl.length cd) q rows (.slice h vl.length k) (fun j=>if j=v then b else waits j) from by obtain⟨m,rfl⟩:=i.out;exact cQ.CF (w:=w.drew.drewN m) l.out v n b);have D:=zA (show w.grownBy (w1.setCell ⟨g,6+v,none⟩ (.bool b)) (some g) from by exact uV ((ig (aq w.heap.size w)).trans i.below));clear i))
 all_goals go_wp2
 all_goals go_end0
 all_goals exact⟨rfl,B.out,D.out⟩
end
theorem uX:(Tryz.prog.info? 205).map (fun i=>(i.zero,i.size,i.bytes))=some (some (.agg #[.int .i64 0,.int .i64 0]),2,16):=by kernel_rfl
def cR (E:List S83):Nat->Nat
 |0=>0
 |i+1=>cR E i+(ae E i).f2.toNat
def eZ (E:List S83):Bool:=decide (E.length<=40)&&E.all fun x=>decide (1<=x.f2/\x.f2<=50)
theorem oX {E:List S83} (h:∀k,k<E.length->1<=(ae E k).f2/\(ae E k).f2<=50):∀i,i<=E.length->cR E i<=50*i
 |0,_=>by simp[cR]
 |i+1,hi=>by
  have h1:=oX h i (by omega);have a:=h i (by omega);simp only[cR];omega
theorem qX {E:List S83} (h:eZ E=true):E.length<=40/\∀k,k<E.length->1<=(ae E k).f2/\(ae E k).f2<=50:=by
 simp only[eZ,Bool.and_eq_true,decide_eq_true_eq,List.all_eq_true] at h;refine⟨h.1,fun k hk=>?_⟩;have e:ae E k=E[k]:=by simp[ae,a7,bK hk]
 rw[e];exact h.2 _ (List.getElem_mem hk)
def my.f (N:Int) (E:List S83):Option Int:=if eZ E=true then some (cR E E.length:Nat) else none
theorem CJ (N:Int) (A0:Option Addr) (c0:Nat) (E:List S83) (w:World) (S:Kd.C aN w A0 E.length E) (H:eZ E=true):
  Calls Tryz.prog 130 #[.agg #[.int .i64 N,.slice A0 E.length c0]] w fun e w'=>∃A c,e= .returned (.slice A (cR E E.length) c)/\Below w.heap.size w w':=by
 have hu:=Tryz.underlying24;have aB:=Tryz.underlying83;obtain⟨hlen,hm⟩:=qX H;have aY:=fun i hi=>oX hm i hi
 have T:=zA hm;have U:=zA aY;clear hm aY H;obtain⟨i0,I,J,K,L⟩:=info_parts uX;have V:=zA I;have W:=zA J;have X:=zA K;have Y:=zA L;clear I J K L;go_enter Tryz.func130,Tryz.ntmps130
 go_wp2;have u:(w.alloc (.cells #[.int .i64 N,.slice A0 E.length c0] 24)).heap[w.heap.size]? =some (.cells #[.int .i64 N,.slice A0 E.length c0] 24 (0,0)):=by simpa using bc w _
 have y:=ao (aq w.heap.size w) (.cells #[.int .i64 N,.slice A0 E.length c0] 24);have Z:w.heap.size<=w.heap.size:=aI _;generalize z:w.heap.size=gb at u Z⊢;rw[z] at y;generalize (w.alloc (.cells #[.int .i64 N,.slice A0 E.length c0] 24))=W0 at u y⊢;go_loopw [3,4] (fun v i wr=>∃(k:Nat) (xs:List Value),k<=E.length/\i= .int .i64 k/\Aside0 (wr.ownsRow gb 205 2 v (cR E k) xs)/\Aside0 (wr.heap[gb]? =some (.cells #[.int .i64 N,.slice A0 E.length c0] 24 (0,0)))/\Aside0 (Below gb w wr)) (fun _ i _=>E.length- (intOf i).toNat)
 case atStart=>exact⟨0,[],Nat.zero_le _,rfl,⟨sD _ _ _ _⟩,⟨u⟩,⟨y⟩⟩
 case round=>
  obtain⟨k,xs,hk,rfl,h,g,l⟩:=hrel;have B:wr.cell? ⟨gb,0,none⟩=some (.int .i64 N):=(aj g.out 0).trans rfl;have D:wr.cell? ⟨gb,1,none⟩=some (.slice A0 E.length c0):=(aj g.out 1).trans rfl;by_cases F:k<E.length
  ·obtain⟨M,rfl⟩:∃M:World,M=wr:=⟨_,rfl⟩
   have O:=T.out k F;have s:cR E (k+1)=cR E k+(ae E k).f2.toNat:=rfl;have aa:=U.out (k+1) (by omega);have P:=Lib.hid s;obtain⟨ad,rfl,n,o,q⟩:=dE S k (by omega) (by omega);rw[aM] at n o q;generalize ae E k=x at O n o q P s;obtain⟨a,b,m⟩:=x;simp only at O n o q;obtain⟨m,rfl⟩:=Int.eq_ofNat_of_zero_le (show 0<=m by omega);simp only[aM] at s;have aF:cR E k+m<=2000:=by omega
   have aL:(0:Int)<=(k:Int):=by omega
   have aO:(k:Int)<(E.length:Int):=by omega
   have ab:=zA n;have am:=zA o;have an:=zA q;have G:(ad.add (k*3)).block<gb:=by rw[<-z];exact a8 w _ n
   clear n o q s aa;go_wp2;go_loopw [3,5] (fun v i wr=>∃(j:Nat) (xs:List Value),j<=m/\i= .int .i64 j/\Aside0 (wr.ownsRow gb 205 2 v (cR E k+j) xs)/\Aside0 (wr.heap[gb]? =some (.cells #[.int .i64 N,.slice (some ad) E.length c0] 24 (0,0)))/\Aside0 (Below gb w wr)) (fun _ i _=>m- (intOf i).toNat)
   case atStart=>exact⟨0,xs,Nat.zero_le _,rfl,h,g,l⟩
   case round=>
    clear B D h g l;obtain⟨j,ys,hj,rfl,h,g,l⟩:=hrel;have B:wr.cell? ⟨gb,0,none⟩=some (.int .i64 N):=(aj g.out 0).trans rfl;have D:wr.cell? ⟨gb,1,none⟩=some (.slice (some ad) E.length c0):=(aj g.out 1).trans rfl;have n:=(l.out.cell (p:=ad.add (k*3)) G).trans ab.out;have o:=(l.out.cell (p:=⟨(ad.add (k*3)).block,(ad.add (k*3)).off+1,none⟩) G).trans am.out;have q:=(l.out.cell (p:=⟨(ad.add (k*3)).block,(ad.add (k*3)).off+2,none⟩) G).trans an.out;by_cases aS:j<m
    ·have Q:u3.ownBlock≠some gb:=fun e=>sH h.out g.out (by decide) e.symm
     have R:u3.ownBlock≠some (ad.add (k*3)).block:=fun e=>by have:=ke h.out _ e;omega
     have lg:gb<wr.heap.size:=aA g.out;have la:(ad.add (k*3)).block<wr.heap.size:=by omega
     go_wp2;go_region_held3 (fun w'=>w'.cell? ⟨gb,1,none⟩=some (.slice (some ad) E.length c0)/\w'.cell? (ad.add (k*3))=some (.int .i64 a)/\w'.cell? ⟨(ad.add (k*3)).block,(ad.add (k*3)).off+1,none⟩=some (.int .i64 b))
      (first
       |go_keep
       |(
         go_split_ands
         refine⟨?_,?_,?_⟩
         ·(rw[r.cell_far ⟨gb,1,none⟩ (by simp;omega) (Ne.symm Q)];assumption)
         ·(rw[r.cell_far (ad.add (k*3)) (by simp;omega) (Ne.symm R)];assumption)
         ·(rw[r.cell_far ⟨(ad.add (k*3)).block,(ad.add (k*3)).off+1,none⟩ (by simp;omega) (Ne.symm R)];assumption)))
      ((refine step_append_lies _ (by rfl) _ _ _ (by rfl) gb 205 i0 _ 2 16 Tryz.underlying156 V.out W.out X.out Y.out rfl (by omega) u3 (cR E k+j) ys (by rfl) ((h.out.alloc _).drew) ⟨wr.heap.size,0,none⟩ 1 1 [.int .i64 a,.int .i64 b] (by rfl) (by rfl) (World.news_of_block (cs:=#[.int .i64 a,.int .i64 b]) (t:=205) (fr:=(0,0)) (bc wr _)) (by simp[Value.oneCell']) (by omega) (by unfold maxLen;omega) (by omega) (by simp;omega) (wr.heap.size+1) (by simp) ?_;intro gg cap w1 ap r ar F))
     have n1:=zA (da (fA (au g.out _)) r (Ne.symm Q));have n2:=zA (Below.grown (bZ (l.out.alloc (by omega) _)) r (by simp;omega) (ke h.out));clear r ar F n o q B D;go_wp2;go_roundw
     case rel=>exact⟨j+1,_,by omega,by go_num,⟨by rw[<-Nat.add_assoc];exact ap⟩,n1,n2⟩
     case measure=>(show m- ((j:Int)+1).toNat<m- ((j:Int)).toNat;omega)
    ·obtain rfl:j=m:=by omega
     go_wp2;exact⟨⟨k+1,ys,by omega,by go_num,⟨by rw[P.out,aM];exact h.out⟩,g,l⟩,(show E.length- ((k:Int)+1).toNat<E.length- ((k:Int)).toNat by omega)⟩
  ·obtain rfl:k=E.length:=by omega
   go_wp2;go_ret;obtain⟨A,c,rfl⟩:=sF h.out;exact⟨A,c,rfl,by rw[z];exact l.out⟩
theorem my.calls (b:Int) (g:Option Addr) (i:Nat) (a:List (S83)) (r:Int) (w:World) (j:Kd.C aN w g a.length a) (m:a.length<=i) (h:my.f b a=some r):
  Calls Tryz.prog 73 #[.agg #[.int .i64 b,.slice g a.length i]] w fun e w'=>e= .returned (.int .i64 r)/\Below w.heap.size w w':=by
 unfold my.f at h;split at h
 case isFalse=>cases h
 rename_i k;injection h with h
 subst h;go_enter Tryz.func73,Tryz.ntmps73
 go_wp2_with (first|(go_at_call 130;refine(CJ b g i a _ (Kd.bp j _) k).mono ?_;rintro e w1 ⟨A,c,rfl,hb⟩;have l:=zA (aZ (ao (aq w.heap.size w) _) hb);clear hb))
 go_ret;exact⟨rfl,l.out⟩
section
attribute [local go_sem] Oper.semAt_some
theorem uY (N:Int) (A0:Option Addr) (c0:Nat) (E:List S83) (w:World):Calls Tryz.prog 85 #[.agg #[.int .i64 N,.slice A0 E.length c0]] w fun e w'=>e= .returned (.func (.func 140) #[] #[.pointer (some ⟨w.heap.size,0,none⟩)])/\w'=w.alloc (.cells #[.int .i64 N,.slice A0 E.length c0] 24):=by
 go_enter Tryz.func85,Tryz.ntmps85
 go_wp2;go_ret;exact⟨rfl,rfl⟩
def gH (s:Nat) (a b:Int):Nat->List (Nat×Int×Int)
 |0=>[]
 |j+1=>gH s a b j++[(s+j,a,b)]
def cu (E:List S83):Nat->List (Nat×Int×Int)
 |0=>[]
 |k+1=>cu E k++gH (cR E k) (ae E k).f0 (ae E k).f1 (ae E k).f2.toNat
theorem qY (s:Nat) (a b:Int):∀j,(gH s a b j).length=j
 |0=>rfl
 |j+1=>by simp[gH,qY s a b j]
theorem oY (E:List S83):∀k,(cu E k).length=cR E k
 |0=>rfl
 |k+1=>by simp[cu,cR,oY E k,qY]
def qZ (base:Nat) (X Y:World):Prop:=(base<=X.heap.size->Below base X Y)/\∀(k:Nat) (cs:Array Value) (t:TypeId),(t=24\/t=83)->X.heap[k]? =some (Obj.cells cs t (0,0))->Y.heap[k]? =some (Obj.cells cs t (0,0))
theorem uZ (s:Nat) (a b:Int) (j:Nat):∀m,j<m->(s+j,a,b)∈gH s a b m
 |0,h=>by omega
 |m+1,h=>by
  by_cases e:j=m
  ·subst e;exact List.mem_append.2 (.inr (List.mem_singleton.2 rfl))
  ·exact List.mem_append.2 (.inl (uZ s a b j m (by omega)))
theorem u_ (E:List S83):∀(m k:Nat),∀x∈cu E k,x∈cu E (k+m)
 |0,k,x,a=>a
 |m+1,k,x,a=>List.mem_append.2 (.inl (u_ E m k x a))
theorem u' (s:Nat) (a b:Int):∀m,∀x∈gH s a b m,x.2.1=a/\x.2.2=b
 |0,x,e=>by cases e
 |m+1,x,e=>by
  rcases List.mem_append.1 e with e|e
  ·exact u' s a b m x e
  ·obtain rfl:=List.mem_singleton.1 e;exact⟨rfl,rfl⟩
theorem q6 (E:List S83):∀k,k<=E.length->∀x∈cu E k,∃e∈E,x.2.1=e.f0/\x.2.2=e.f1
 |0,_,x,a=>by cases a
 |k+1,hk,x,a=>by
  rcases List.mem_append.1 a with a|a
  ·exact q6 E k (by omega) x a
  ·have h:=u' _ _ _ _ x a
   have e:ae E k=E[k]:=by simp[ae,a7,bK (show k<E.length by omega)]
   exact⟨ae E k,by rw[e];exact List.getElem_mem _,h.1,h.2⟩
theorem ve (g:Nat) (N:Int) (A0:Option Addr) (c0:Nat) (E:List S83) (w0 W:World) (am:Kd.C aN w0 A0 E.length E) (O:eZ E=true) (hB:Below w0.heap.size w0 W)
  (v:W.heap[g]? =some (.cells #[.int .i64 N,.slice A0 E.length c0] 24 (0,0))):
  iV (σ:=Unit) Fence.wide 9 Tryz.prog 140 #[.pointer (some ⟨g,0,none⟩)] (fun x:Nat×Int×Int=>#[.int .i64 x.1,.agg #[.int .i64 x.2.1,.int .i64 x.2.2]]) (fun _ W W1=>W1=W) (fun _ A B=>Below A.heap.size A B) (fun _ x A B=>x∈cu E E.length/\Below A.heap.size A B)
   (fun _ X Y=>qZ w0.heap.size X Y)
   (fun _ xs W'=>xs=cu E E.length) (fun _ _ _=>True) (fun pre=>pre.length<2000) W:=by
 intro lp J Jx P Q R S;have ap:=zA P;have bk:=zA Q;have hY:=zA S;have av:=R () W rfl;clear P Q R S;have hu:=Tryz.underlying24;have bn:=Tryz.underlying83;obtain⟨hlen,hm⟩:=qX O;have aY:=fun i hi=>oX hm i hi
 have HM:=zA hm;have HS:=zA aY;clear hm aY O;refine callsIn_of_wp Tryz.func140 rfl trivial ?_ rfl;simp only[Tryz.ntmps140,List.size_toArray,List.length_cons,List.length_nil,Nat.reduceAdd,Nat.reduceSub,Array.replicate_succ,Array.replicate_zero,List.push_toArray,List.append_toArray,List.nil_append,List.cons_append];have bo:W.cell? ⟨g,1,none⟩=some (.slice A0 E.length c0):=(aj v 1).trans rfl;have aL:=zA v;clear v;gi_wp2;gi_loopg [3,9] (E.length) (fun w s i wr=>∃k:Nat,i= .int .i64 k/\s= .int .i64 (cR E k:Nat)/\k<=E.length/\Aside0 (J () (cu E k) wr)/\Aside0 (wr.heap[g]? =some (.cells #[.int .i64 N,.slice A0 E.length c0] 24 (0,0)))/\Aside0 (Below w0.heap.size w0 wr)/\Aside0 (w=E.length-k))
 case atStart=>exact⟨0,rfl,rfl,Nat.zero_le _,⟨av⟩,aL,⟨hB⟩,⟨rfl⟩⟩
 case round=>
  obtain⟨k,rfl,rfl,hk,T,HX,p,HK⟩:=hrel;by_cases aS:k<E.length
  ·have y:=HM.out k aS
   have z:=Lib.hid (show cR E (k+1)=cR E k+(ae E k).f2.toNat from rfl);have D:=Lib.hid (show cu E (k+1)=cu E k++gH (cR E k) (ae E k).f0 (ae E k).f1 (ae E k).f2.toNat from rfl);have a0:=HS.out (k+1) (by omega);have F:=z.out;obtain⟨ad,rfl,l,n,o⟩:=dE am k (by omega) (by omega);rw[aM] at l n o;generalize ae E k=x at y l n o z D F;obtain⟨a,b,m⟩:=x;simp only at y l n o;obtain⟨m,rfl⟩:=Int.eq_ofNat_of_zero_le (show 0<=m by omega);simp only[aM] at F;have bv:cR E k+m<=2000:=by omega
   have bw:m<=50:=by omega
   have b0:(0:Int)<=(k:Int):=by omega
   have b1:(k:Int)<(E.length:Int):=by omega
   have l:=iL p.out l;have n:=iL p.out n;have o:=iL p.out o;have G:=zA (ap.out () _ _ _ T.out (ao (aq wr.heap.size wr) (.cells #[.int .i64 a,.int .i64 b,.int .i64 m] 83)));have H:=zA (au HX.out (.cells #[.int .i64 a,.int .i64 b,.int .i64 m] 83));have I:=zA (ao p.out (.cells #[.int .i64 a,.int .i64 b,.int .i64 m] 83));have q:=zA (show (wr.alloc (.cells #[.int .i64 a,.int .i64 b,.int .i64 m] 83)).heap[wr.heap.size]? =some (.cells #[.int .i64 a,.int .i64 b,.int .i64 m] 83 (0,0)) from bc _ _);clear F a0 y;gi_wp2;clear l n o;generalize (wr.alloc (.cells #[.int .i64 a,.int .i64 b,.int .i64 m] 83))=W1 at G H I q⊢;generalize wr.heap.size=r at q⊢;gi_loopg [3,15] (m) (fun w s i wi=>∃j:Nat,i= .int .i64 j/\s= .int .i64 (cR E k+j:Nat)/\j<=m/\Aside0 (J () (cu E k++gH (cR E k) a b j) wi)/\Aside0 (wi.heap[g]? =some (.cells #[.int .i64 N,.slice (some ad) E.length c0] 24 (0,0)))/\Aside0 (wi.heap[r]? =some (.cells #[.int .i64 a,.int .i64 b,.int .i64 m] 83 (0,0)))/\Aside0 (Below w0.heap.size w0 wi)/\Aside0 (w=m-j))
   case atStart=>exact⟨0,rfl,rfl,Nat.zero_le _,⟨by simpa [gH] using G.out⟩,H,q,I,⟨rfl⟩⟩
   case round=>
    clear G H I q;obtain⟨j,rfl,rfl,hj,U,V,K,L,a1⟩:=hrel;by_cases a2:j<m
    ·have a3:=oY E k
     have a4:=qY (cR E k) a b j;obtain⟨fn,tmps,b3,b4,M,Z⟩:=hY.out () (cu E k++gH (cR E k) a b j) (cR E k+j,a,b) wr wr U.out ⟨by have h:=u_ E (E.length- (k+1)) (k+1) (cR E k+j,a,b) (by rw[D.out];exact List.mem_append.2 (.inr (uZ _ _ _ j _ (by rw[aM];exact a2))));rw[show k+1+(E.length- (k+1))=E.length by omega] at h;exact h,aq _ _⟩ (by rw[List.length_append];omega);have a5:=zA Z;simp only[Int.natCast_add] at M;have aa:wr.cell? ⟨r,0,none⟩=some (.int .i64 a):=(aj K.out 0).trans rfl;have ab:wr.cell? ⟨r,1,none⟩=some (.int .i64 b):=(aj K.out 1).trans rfl;clear Z a3 a4;gi_wp2;refine a5.out.mono ?_;rintro e W3 (⟨rfl,ag,u⟩|⟨rfl,ak⟩)
     ·have a9:=zA ag
      have bd:=zA (u.2 g _ _ (.inl rfl) V.out);have be:=zA (u.2 r _ _ (.inr rfl) K.out);have bf:=zA (L.out.trans (u.1 L.out.size));clear ag u M aa ab;gi_wp2;gi_roundg (m- (j+1))
      case measure=>rw[a1.out];omega
      case rel=>exact⟨j+1,by go_num,by go_num,by omega,⟨by simpa [gH] using a9.out⟩,bd,be,bf,⟨rfl⟩⟩
     ·have bg:=zA ak
      clear ak M aa ab;gi_wp2;refine bodyPost_ret (results_none rfl _ _ _) rfl ?_;exact⟨⟨_,rfl⟩,.inr ⟨(),_,trivial,bg.out⟩⟩
    ·obtain rfl:j=m:=by omega
     gi_wp2;gi_roundg (E.length- (k+1))
     case measure=>rw[HK.out];omega
     case rel=>exact⟨k+1,by go_num,by rw[z.out,aM],by omega,⟨by rw[D.out,aM];exact U.out⟩,V,L,⟨rfl⟩⟩
  ·obtain rfl:k=E.length:=by omega
   gi_wp2;go_end0;exact⟨⟨_,rfl⟩,.inl ⟨(),_,rfl,T.out⟩⟩
theorem CK (b:Nat) (N:Int) (A0:Option Addr) (c0:Nat) (E:List S83) (w0 W:World) (g:Kd.C aN w0 A0 E.length E) (h:eZ E=true) (i:Below w0.heap.size w0 W)
  (j:W.heap[b]? =some (.cells #[.int .i64 N,.slice A0 E.length c0] 24 (0,0))):
  iV (σ:=Unit) Fence.wide 9 Tryz.prog 140 #[.pointer (some ⟨b,0,none⟩)] (fun x:Nat×Int×Int=>#[.int .i64 x.1,.agg #[.int .i64 x.2.1,.int .i64 x.2.2]]) (fun _ W W1=>W1=W) (fun _ A B=>Below A.heap.size A B) (fun _ _ A B=>Below A.heap.size A B)
   (fun _ X Y=>qZ w0.heap.size X Y)
   (fun _ xs W'=>xs=cu E E.length) (fun _ _ _=>True) (fun pre=>pre.length<2000) W:=fun k J Jx l m n o=>ve b N A0 c0 E w0 W g h i j k J Jx (fun s pre A B a e=>l s pre A B a e) (fun s pre A B a e=>m s pre A B a e) n (fun s pre x p W1 a q r=>o s pre x p W1 a q.2 r)
end
end Go.Proofs.YtffdiakgjakngaaGreat.P
namespace Go.Proofs.YtffdiakgjakngaaGreat.P
open Go Go.RowKit
set_option linter.unusedVariables false
set_option linter.unusedSimpArgs false
set_option maxHeartbeats 8000000
set_option maxRecDepth 100000
section
variable {F:Fence} {n:Nat} {P:Program}
theorem vf {σ α:Type} {g:Operand} {ps:Array Tmp} {assign body:Code} {Q:Exit->Act->World->Prop} {a:Act} {w:World}
  (aS:F.round=none) (h1:1<=n) {gf:Nat} {lb:Array Value} (hg:a.eval g= .func (.func gf) #[] lb) (a1:F.fn gf) (eg:∀args w,(callFunc gf args).run P w= .ok (.enter gf args) w)
  {bV:α->Array Value} {Start:σ->World->World->Prop} {M:σ->World->World->Prop} {T:σ->α->World->World->Prop} {z:σ->World->World->Prop} {S Sp:σ->List α->World->Prop} {Bd:List α->Prop}
  (a4:∀o,iV F (n-1) P gf lb bV Start M T z S Sp Bd ((w.alloc (.deferred (some []))).alloc (.loop o))) (a5:∀x,(bV x).size=ps.size)
  (m:σ->Prop) (a9:∀o s W1,Start s ((w.alloc (.deferred (some []))).alloc (.loop o)) W1->m s/\ct w.heap.size ((w.alloc (.deferred (some []))).alloc (.loop o)) W1)
  (N:∀s A B,m s->M s A B->ct w.heap.size A B) (bd:∀s x A B,m s->T s x A B->ct w.heap.size A B)
  (I:σ->List α->World->Prop) (u:Code->σ->List α->World->Prop)
  (be:∀s pre A B,m s->I s pre A->M s A B->I s pre B) (bf:∀c s pre A B,m s->u c s pre A->M s A B->u c s pre B)
  (bg:∀s pre A B,I s pre A->Bk (w.heap.size+1) A B->I s pre B) (bi:∀c s pre A B,u c s pre A->Bk (w.heap.size+1) A B->u c s pre B)
  (bk:∀s A B C D,Bk (w.heap.size+1) A B->z s B C->Bk (w.heap.size+1) C D->z s A D)
  (h0:∀o s W1,Start s ((w.alloc (.deferred (some []))).alloc (.loop o)) W1->I s [] W1) (a₁:α->World->Act) (J:α->World->World)
  (bo:∀x W,ct w.heap.size W (J x W)) (bv:∀s x A D,z s (J x A) D->z s A D)
  (bw:∀(l:Nat) (x:α) (W:World) (K:Act->World->Prop),K (a₁ x W) (J x W)->
   assign.wpIn (F.inRound l) (n-1-1) P (Exit.then K (fun _ _ _=>False)) {tmps:=(ps.zip (bV x)).foldl (fun t (p,v)=>t.setIfInBounds p v) a.tmps,defers:=[]} W)
  (bx:∀(l:Nat) (s:σ) (pre:List α) (x:α) (L W1 W:World),m s->I s pre L->T s x L W1->Bd pre->Bk (w.heap.size+1) (J x W1) W->body.wpIn (F.inRound l) (n-1-1) P (qR (σ:=σ) w.heap.size (z s) (I s) (fun c=>u c s) (pre++[x]) W) (a₁ x W1) W)
  (b0:∀(s:σ) (xs:List α) (W W':World),m s->S s xs W->I s xs W->Bk (w.heap.size+1) W W'->W'.heap[w.heap.size]? =some (.deferred (some []))->Q .normal {a with defers:={target:=.collected w.heap.size,args:=#[]}::a.defers} W')
  (b1:∀(c:Code) (s:σ) (pre:List α) (W W':World),m s->Sp s pre W->u c s pre W->Bk (w.heap.size+1) W W'->W'.heap[w.heap.size]? =some (.deferred (some []))->c.wpIn F n P Q {a with defers:={target:=.collected w.heap.size,args:=#[]}::a.defers} W'):
  (Code.rangeFunc g ps assign body).wpIn F n P Q a w:=by
 refine wpIn_rangeFunc ?_;intro fn b2;rw[aS];obtain⟨rec,q⟩:∃rec:LoopState->Option Code->Loop,rec=fun st pe=>{state:=st,pending:=pe,fn,tmps:=a.tmps,params:=ps,assign,body,defers:=w.heap.size}:=⟨_,rfl⟩
 obtain⟨W1,E⟩:∃W1,(w.alloc (.deferred (some []))).alloc (.loop (rec .ready none))=W1:=⟨_,rfl⟩;have b4:W1.heap[w.heap.size+1]? =some (.loop (rec .ready none)):=by
  rw[<-E];have:=World.alloc_heap_new (w.alloc (.deferred (some []))) (.loop (rec .ready none));rwa [World.size_alloc] at this
 have b5:W1.heap[w.heap.size]? =some (.deferred (some [])):=by
  rw[<-E];exact(Below.heap_alloc _ _ _ (by simp)).trans (World.alloc_heap_new w _)
 refine⟨w.heap.size+1,[{target:=.collected w.heap.size,args:=#[]}],W1,{target:=.fn (.func gf) lb,args:=#[.func (.yield (w.heap.size+1)) #[] #[]]},W1,gf,
  #[.func (.yield (w.heap.size+1)) #[] #[]]++lb,W1,?_,?_,?_,?_,fun _=>h1,?_⟩
 ·rw[<-E,q];exact run_enterLoop_outer _ _ _ _ _
 ·simp only[resolve,hg]
  simp[go_sem]
 ·intro f' aB;simp[Target.leads] at aB;subst aB;exact a1
 ·simp[invoke,go_sem,eg]
 ·have hs:=a4 (rec .ready none)
  rw[E] at hs;have ld:∀{A B:World} {r:Loop},ct w.heap.size A B->A.heap[w.heap.size+1]? =some (.loop r)->B.heap[w.heap.size+1]? =some (.loop r):=fun h U=>h _ _ (by omega) (by omega) U rfl
  have G:∀{A B:World},ct w.heap.size A B->A.heap[w.heap.size]? =some (.deferred (some []))->B.heap[w.heap.size]? =some (.deferred (some [])):=fun h U=>h _ _ (by omega) (by omega) U rfl
  refine(hs (w.heap.size+1)
   (fun s pre W=>m s/\I s pre W/\W.heap[w.heap.size+1]? =some (.loop (rec .ready none))/\W.heap[w.heap.size]? =some (.deferred (some [])))
   (fun s pre W=>m s/\∃c,u c s pre W/\W.heap[w.heap.size+1]? =some (.loop (rec .done (some c)))/\W.heap[w.heap.size]? =some (.deferred (some [])))
   (fun s pre A B h j=>⟨h.1,be s pre A B h.1 h.2.1 j,ld (N s A B h.1 j) h.2.2.1,G (N s A B h.1 j) h.2.2.2⟩)
   (fun s pre A B h j=>by
    obtain⟨i,c,hc,b,hk⟩:=h;exact⟨i,c,bf c s pre A B i hc j,ld (N s A B i j) b,G (N s A B i j) hk⟩)
   (fun s W2 j=>by
    rw[<-E] at j;have hk:=a9 (rec .ready none) s W2 j;have y:=hk.2;rw[E] at y;exact⟨hk.1,h0 _ s W2 j,ld y b4,G y b5⟩)
   ?_).mono ?_
  ·rintro s pre x L W ⟨i,hi,aL,aO⟩ V b_
   have y:=bd s x L W i V;have b:=ld y aL;have hk:=G y aO;have X:=run_yield (P:=P) (args:=bV x) b (by rw[q];exact a5 x);rw[q] at X;obtain⟨Y,b'⟩:∃Y,Y=W:=⟨_,rfl⟩;have O:=bo x W;have b:=ld O b;have hk:=G O hk;have Z:=fun D=>bv s x W D
   have aa:=bx (w.heap.size+1) s pre x L W;have ab:=bw (w.heap.size+1) x W;clear y aL aO;rw[<-b'] at X ab Z aa b hk O V⊢;generalize ci:J x Y=W at b hk O Z aa ab;have ca:w.heap.size+1<W.heap.size:=(Array.getElem?_eq_some_iff.1 b).1;have aP:Bk (w.heap.size+1) W (W.putObj (w.heap.size+1) (.loop {rec .ready none with state:=.busy})):=⟨_,_,b,rfl,rfl⟩;refine⟨fn,_,assign,body,X,roundIn_of_wpIn b2 (ab _ ⟨_,run_beginRound b (by rw[q]),?_⟩)⟩;have cb:(W.putObj (w.heap.size+1) (.loop {rec .ready none with state:=.busy})).heap[w.heap.size+1]? =some (.loop {rec .ready none with state:=.busy}):=World.putObj_heap_same ca;have cc:(W.putObj (w.heap.size+1) (.loop {rec .ready none with state:=.busy})).heap[w.heap.size]? =some (.deferred (some [])):=(World.putObj_heap_other (by omega)).trans hk;refine wpIn_mono (aa _ i hi V b_ aP) ?_;have fin:∀(jump:Option Code) (k:World),ct w.heap.size (W.putObj (w.heap.size+1) (.loop {rec .ready none with state:=.busy})) k->
     (Instr.endRound (w.heap.size+1) jump).run P k= .ok (.bool jump.isNone) (k.putObj (w.heap.size+1) (.loop (rec (if jump.isNone then .ready else .done) jump)))/\
     Bk (w.heap.size+1) k (k.putObj (w.heap.size+1) (.loop (rec (if jump.isNone then .ready else .done) jump)))/\
     (k.putObj (w.heap.size+1) (.loop (rec (if jump.isNone then .ready else .done) jump))).heap[w.heap.size+1]? =some (.loop (rec (if jump.isNone then .ready else .done) jump))/\
     (k.putObj (w.heap.size+1) (.loop (rec (if jump.isNone then .ready else .done) jump))).heap[w.heap.size]? =some (.deferred (some [])):=fun jump k H=>by
    have ad:=ld H cb;have:=run_endRound (P:=P) jump ad;rw[q] at this⊢;exact⟨this,⟨_,_,ad,rfl,rfl⟩,World.putObj_heap_same (Array.getElem?_eq_some_iff.1 ad).1,(World.putObj_heap_other (by omega)).trans (G H cc)⟩
   rintro e a3 k hp;cases e with
   |normal=>
    obtain⟨H,cd,ag⟩:=hp;obtain⟨hr,R,am,an⟩:=fin none k H;exact⟨_,_,hr,.inl ⟨rfl,⟨i,bg s _ _ _ ag R,am,an⟩,Z _ (bk s _ _ _ _ aP cd R)⟩⟩
   |ret=>
    obtain⟨H,ag⟩:=hp;obtain⟨hr,R,am,an⟩:=fin (some .ret) k H;exact⟨_,_,hr,.inr ⟨rfl,i,.ret,bi _ s _ _ _ ag R,am,an⟩⟩
   |exit id=>exact hp.elim
   |goto t=>exact hp.elim
   |panic ch=>exact hp.elim
   |outgrown=>exact hp.elim
  ·rintro e W2 ⟨⟨v,rfl⟩,(⟨s,xs,hS,i,hi,b,hk⟩|⟨s,pre,ce,i,c,hi,b,hk⟩)⟩
   ·exact⟨none,_,by have:=run_endLoop (P:=P) b (by rw[q];simp);rw[q] at this;exact this,b0 s xs W2 _ i hS hi ⟨_,_,b,rfl,rfl⟩ ((World.putObj_heap_other (by omega)).trans hk)⟩
   ·exact⟨some c,_,by have:=run_endLoop (P:=P) b (by rw[q];simp);rw[q] at this;exact this,b1 c s pre W2 _ i ce hi ⟨_,_,b,rfl,rfl⟩ ((World.putObj_heap_other (by omega)).trans hk)⟩
end
end Go.Proofs.YtffdiakgjakngaaGreat.P
namespace Go.Proofs.YtffdiakgjakngaaGreat.P
open Go.RowKit Go.Proofs.YtffdiakgjakngaaGreatW.PrintWords Go.Proofs.YtffdiakgjakngaaGreatW.PrintLast Go.Proofs.YtffdiakgjakngaaGreatW.PrintMore
set_option linter.unusedVariables false
set_option linter.unusedSimpArgs false
set_option maxHeartbeats 8000000
set_option maxRecDepth 100000
section
attribute [local go_sem] Oper.semAt_some
def fO (xs:List (Nat×Int×Int)):List (List Value):=xs.map fun x=>[.int .i64 x.2.1,.int .i64 x.2.2]
theorem CL (k:Nat) (N:Int) (A0:Option Addr) (c0:Nat) (E:List S83) (w:World) (T:Kd.C aN w A0 E.length E) (am:E.length<=c0) (m:bh.f k N E=some 0) (U:eZ E=true):
  Calls Tryz.prog 178 #[.agg #[.int .i64 N,.slice A0 E.length c0]] w fun e w'=>∃v,e= .returned (.tuple #[v,.int .i64 0])/\(Kd.raw 2).R 205 w' w.heap.size (fun _=>True) v (fO (cu E E.length))/\Below w.heap.size w w':=by
 have hu:=Tryz.underlying24;have Ht:=zA m;have HE:=zA U;clear m U;refine(callsIn_wide (n:=10)).1 ?_;refine callsIn_of_wp_marks Tryz.func178 rfl trivial ?_ rfl;simp only[Tryz.ntmps178,List.size_toArray,List.length_cons,List.length_nil,Nat.reduceAdd,Nat.reduceSub,Array.replicate_succ,Array.replicate_zero,List.push_toArray,List.append_toArray,List.nil_append,List.cons_append];gi_wp2_with (first|(refine⟨trivial,?_⟩;gi_at_call 64;refine(callsIn_wide.2 (bh.calls k N A0 c0 E 0 _ (Kd.bp T _) am Ht.out)).mono ?_;rintro e w1 ⟨rfl,hb⟩;have r:=zA (aE (bc w (.cells #[.int .i64 N,.slice A0 E.length c0] 24)) hb);have av:w1.cell? ⟨w.heap.size,0,none⟩=some (.int .i64 N):=(aj r.out 0).trans rfl;have aB:w1.cell? ⟨w.heap.size,1,none⟩=some (.slice A0 E.length c0):=(aj r.out 1).trans rfl;have aF:(w1.alloc (.cells #[.slice none 0 0] 156)).cell? ⟨w.heap.size,0,none⟩=some (.int .i64 N):=(aj (au r.out _) 0).trans rfl;have aL:(w1.alloc (.cells #[.slice none 0 0] 156)).cell? ⟨w.heap.size,1,none⟩=some (.slice A0 E.length c0):=(aj (au r.out _) 1).trans rfl;have V:=zA (aZ (ao (aq w.heap.size w) _) hb);clear hb)|(refine⟨trivial,?_⟩;gi_at_call 85;refine(callsIn_wide.2 (uY N A0 c0 E _)).mono ?_;rintro e w3 ⟨rfl,rfl⟩))
 have aO:w.heap.size<w1.heap.size:=aA r.out;have z:=zA (show ((w1.alloc (.cells #[.slice none 0 0] 156)).alloc (.cells #[.int .i64 N,.slice A0 E.length c0] 24)).heap[w1.heap.size]? =some (.cells #[.slice none 0 0] 156 (0,0)) from au (bc w1 _) _);have H:=zA (show ((w1.alloc (.cells #[.slice none 0 0] 156)).alloc (.cells #[.int .i64 N,.slice A0 E.length c0] 24)).heap[w1.heap.size+1]? =some (.cells #[.int .i64 N,.slice A0 E.length c0] 24 (0,0)) from heap_alloc2_new w1 _ _);have I:=zA (ao (ao V.out (.cells #[.slice none 0 0] 156)) (.cells #[.int .i64 N,.slice A0 E.length c0] 24));clear av aB aF aL r V;generalize ((w1.alloc (.cells #[.slice none 0 0] 156)).alloc (.cells #[.int .i64 N,.slice A0 E.length c0] 24))=u at z H I⊢;have aP:=aA z.out;have aS:=aA H.out;generalize a0:w1.heap.size+1=X at H aS⊢;generalize w1.heap.size=bo at z aO aP a0⊢;have bi:=I.out.size;refine vf (σ:=Unit) (α:=Nat×Int×Int) (F:=Fence.wide) (n:=10) rfl (by decide) (gf:=140) (lb:=#[.pointer (some ⟨X,0,none⟩)]) rfl trivial (enters_of Tryz.func140 (by kernel_rfl) rfl)
  (fun o=>CK X N A0 c0 E w _ T HE.out (ao (ao I.out _) _) (au (au H.out _) _)) (fun _=>rfl)
  (fun _=>True) ?en ?st ?ar
  (fun _ pre W=>u.heap.size<=W.heap.size/\∃v,W.heap[bo]? =some (.cells #[v] 156 (0,0))/\(Kd.raw 2).R 205 W w.heap.size (fun _=>True) v (fO pre)/\Below w.heap.size w W) (fun _ _ _ _=>False)
  ?is (fun _ _ _ _ _ _ h _=>h) ?ib (fun _ _ _ _ _ h _=>h) ?kt ?h0 ?a1 (fun x W=>W.alloc (.cells #[.int .i64 x.2.1,.int .i64 x.2.2] 116)) ?hw ?sC ?assign ?body ?done (fun _ _ _ _ _ _ _ h=>h.elim)
 case assign=>
  intro l x W K hK;gi_wp2;exact hK
 case en=>
  intro o s W1 h;exact⟨trivial,by rw[h];exact ct.refl _ _⟩
 case st=>intro s A B _ h k o h1 y g _;exact(h.block k (Array.getElem?_eq_some_iff.1 g).1).trans g
 case ar=>intro s x A B _ h k o h1 y g _;exact(h.block k (Array.getElem?_eq_some_iff.1 g).1).trans g
 case hw=>intro x W k o h1 y g _;exact au g _
 case sC=>
  intro s x A D h;exact⟨fun aY=>((aq w.heap.size A).alloc aY _).trans (h.1 (by simp;omega)),fun k cs t m hk=>h.2 k cs t m (au hk _)⟩
 case is=>
  rintro s pre A B _ ⟨q,v,h1,y,g⟩ J;exact⟨Nat.le_trans q J.size,v,aE h1 J,Kd.cT y J,aZ g J⟩
 case ib=>
  rintro s pre A B ⟨q,v,h1,y,g⟩ hb;exact⟨by rw[hb.size];exact q,v,hb.cells h1,df y hb,g.trans (hb.below w.heap.size (by omega))⟩
 case kt=>
  intro s A B C D O Y Z;exact⟨fun aY=>((O.below w.heap.size (by omega)).trans (Y.1 (by rw[O.size];exact aY))).trans (Z.below w.heap.size (by omega)),fun k cs t m hk=>Z.cells (Y.2 k cs t m (O.cells hk))⟩
 case h0=>
  rintro o s W1 rfl;exact⟨by simp;omega,_,au (au z.out _) _,Kd.dh _ _ _ _ _,ao (ao I.out _) _⟩
 case body=>
  rintro l s pre ⟨i,a,b⟩ Wb W1 W _ ⟨q,v,i1,i2,i3⟩ G bn j;have c1:=aE i1 G;have c2:=Kd.cT i2 G;have c3:=aZ i3 G;have a3:u.heap.size<=W1.heap.size:=Nat.le_trans q G.size;have b1:=zA (j.cells (au c1 (.cells #[.int .i64 a,.int .i64 b] 116)));have p:=zA (df (Kd.aR c2 (.cells #[.int .i64 a,.int .i64 b] 116)) j);have b3:=zA ((ao c3 (.cells #[.int .i64 a,.int .i64 b] 116)).trans (j.below w.heap.size (by omega)));have b4:=zA (j.cells (bc W1 (.cells #[.int .i64 a,.int .i64 b] 116)));have aY:W.heap.size=W1.heap.size+1:=by rw[j.size];simp
  have bv:u.heap.size<=W.heap.size:=by omega
  clear i1 i2 i3 G j c1 c2 c3 aY a3 q;generalize W1.heap.size=pb at b4⊢;obtain⟨Ar,cr,rfl⟩:=Kd.bm p.out;have ab:(fO pre).length=pre.length:=by simp[fO]
  rw[ab] at b1 p;have hc:=cY b1.out;have hf:=bt b1.out 0;have b0:W.cell? ⟨pb,0,none⟩=some (.int .i64 a):=(aj b4.out 0).trans rfl;have b5:W.cell? ⟨pb,1,none⟩=some (.int .i64 b):=(aj b4.out 1).trans rfl;have LN:Aside0 (((fO pre).length+1)*16<=140737488355328):=⟨by rw[ab];omega⟩;have b6:=Tryz.underlying116;gi_wp2_with (gi_at_builtin;go_loud (refine ny (Kd.raw 2) (w0:=w) w.heap.size rfl (.tmp 17) (.tmp 23) 156 205 (.agg #[.int .i64 0,.int .i64 0]) 16 rfl Tryz.underlying156 uX rfl (by decide) (by omega) _ _ [.int .i64 a,.int .i64 b] [.int .i64 a,.int .i64 b] (fun _=>True) (fun _=>False) rfl rfl ⟨rfl,rfl,by simp[Value.oneCell']⟩ (fun _ hk=>hk.elim) (fun _ _=>trivial) p.out b3.out b3.out.size LN.out ?_;intro v1 b_ P hb Q a9;obtain⟨S,c1,rfl⟩:=Kd.bm P;have L:=zA ((Q.block bo (aA b1.out) (Kd.dj p.out b1.out (by decide))).trans b1.out);have b':=cY L.out;have ca:=bt L.out 0;have bd:=zA P;have be:=zA hb;have M:=zA Q;clear P hb Q a9))
  have bf:(fO pre++[[Value.int .i64 a,Value.int .i64 b]]).length=pre.length+1:=by simp[fO]
  refine⟨(nz p.out M.out).trans (eO _ _ (aA z.out)),⟨fun aY=>Below.setCell ((aq w.heap.size W).grown M.out aY (Kd.dY p.out)) (by show w.heap.size<=bo;omega) _,fun k cs t m hk=>?_⟩,by have:=M.out.size;simp;omega,.slice S (pre.length+1) c1,by simpa using bQ L.out 0 (.slice S (pre.length+1) c1),?_,dN be.out (by show w.heap.size<=bo;omega)⟩
  ·have bg:k≠bo:=by
    rintro rfl;have h1:=hk.symm.trans b1.out;injection h1 with h1
    injection h1 with _ h1 _
    rcases m with rfl|rfl<;>exact absurd h1 (by decide)
   rw[Below.heap_setCell _ _ _ _ bg];exact(M.out.block k (aA hk) (Kd.dj p.out hk (by rcases m with rfl|rfl<;>decide))).trans hk
  ·have h:=Kd.fg bd.out L.out (by decide) 0 (.slice S (pre.length+1) c1)
   rw[bf] at h;simpa [fO] using h
 case done=>
  rintro s xs W W' _ rfl ⟨q,v,i1,i2,i3⟩ j ad;have b1:=zA (j.cells i1);have p:=zA (df i2 j);have b3:=zA (i3.trans (j.below w.heap.size (by omega)));have ag:=zA ad;clear i1 i2 i3 ad;have hc:=cY b1.out;gi_wp2_with fail
  have ak:Bk u.heap.size W' (W'.putObj u.heap.size (.deferred none)):=⟨_,_,ag.out,rfl,rfl⟩;exact iW (D:=u.heap.size) rfl ag.out (results_tmp2 rfl _ _ _) ⟨_,rfl,df p.out ak,b3.out.trans (ak.below w.heap.size (by omega))⟩
end
section
theorem vg (L:List (Nat×Int×Int)):(fO L).length=L.length:=by simp[fO]
theorem vh {s:Nat} {a b:Int}:∀{j:Nat} {x:Nat×Int×Int},x∈gH s a b j->x.2.1=a/\x.2.2=b
 |0,x,h=>absurd h (by simp[gH])
 |j+1,x,h=>by
  simp only[gH,List.mem_append,List.mem_singleton] at h;rcases h with h|rfl
  ·exact vh h
  ·exact⟨rfl,rfl⟩
theorem vi {n:Nat} {E:List S83} (h:∀k,k<E.length->0<=(ae E k).f0/\(ae E k).f0<n/\0<=(ae E k).f1/\(ae E k).f1<n/\1<=(ae E k).f2/\(ae E k).f2<=50):
  ∀k,k<=E.length->∀x∈cu E k,0<=x.2.1/\x.2.1<n/\0<=x.2.2/\x.2.2<n
 |0,_=>fun x a=>absurd a (by simp[cu])
 |k+1,hk=>fun x a=>by
  simp only[cu,List.mem_append] at a;rcases a with a|a
  ·exact vi h k (by omega) x a
  ·obtain⟨h1,b⟩:=vh a
   have:=h k (by omega);omega
theorem CM {n:Nat} {E:List S83} (h:∀k,k<E.length->0<=(ae E k).f0/\(ae E k).f0<n/\0<=(ae E k).f1/\(ae E k).f1<n/\1<=(ae E k).f2/\(ae E k).f2<=50):
  ∀x∈cu E E.length,0<=x.2.1/\x.2.1<n/\0<=x.2.2/\x.2.2<n:=vi h _ (aI _)
theorem vj {E:List S83} (h:eZ E=true):(cu E E.length).length<=2000:=by
 obtain⟨h1,a⟩:=qX h;have:=oX a E.length (aI _);rw[oY];omega
def iY (l:List Int) (v:Nat):List Int:=l.set v (rd l v+1)
def hZ (l:List Int) (x:Nat×Int×Int):List Int:=if x.2.1=x.2.2 then l else iY (iY l x.2.1.toNat) x.2.2.toNat
def dI (n:Nat) (L:List (Nat×Int×Int)) (k:Nat):List Int:=(L.take k).foldl hZ (List.replicate n 0)
theorem CN (l:List Int) (v:Nat):(iY l v).length=l.length:=by simp[iY]
theorem CO (l:List Int) (x:Nat×Int×Int):(hZ l x).length=l.length:=by
 unfold hZ;split<;>simp[CN]
theorem vk:∀(L:List (Nat×Int×Int)) (l:List Int),(L.foldl hZ l).length=l.length
 |[],l=>rfl
 |x::L,l=>by rw[List.foldl_cons,vk L,CO]
theorem vm (n:Nat) (L:List (Nat×Int×Int)) (k:Nat):(dI n L k).length=n:=by simp[dI,vk]
theorem CP (n:Nat) (L:List (Nat×Int×Int)) (k:Nat) (hk:k<L.length):dI n L (k+1)=hZ (dI n L k) L[k]:=by
 unfold dI;rw[List.take_succ_eq_append_getElem hk,List.foldl_append];rfl
theorem CQ {l:List Int} {v:Nat} {B:Int} {x:Int} (h:∀i:Nat,0<=rd l i/\rd l i<=B) (a:0<=x/\x<=B+1) (i:Nat):0<=rd (l.set v x) i/\rd (l.set v x) i<=B+1:=by
 have hi:=h i;simp only[rd,aM,a7,List.getElem?_set] at hi⊢;split
 ·split
  ·simpa using a
  ·simp;omega
 ·omega
theorem q9 {l:List Int} {v:Nat} {B:Int} (h:∀i:Nat,0<=rd l i/\rd l i<=B) (i:Nat):0<=rd (iY l v) i/\rd (iY l v) i<=B+1:=
 CQ h (by have:=h v;omega) i
theorem CT {l:List Int} {x:Nat×Int×Int} {B:Int} (h:∀i:Nat,0<=rd l i/\rd l i<=B) (i:Nat):0<=rd (hZ l x) i/\rd (hZ l x) i<=B+2:=by
 unfold hZ;split
 ·have:=h i;omega
 ·have:=q9 (v:=x.2.2.toNat) (q9 (v:=x.2.1.toNat) h) i;omega
theorem vn:∀(L:List (Nat×Int×Int)) (l:List Int) (B:Int),(∀i:Nat,0<=rd l i/\rd l i<=B)->∀i:Nat,0<=rd (L.foldl hZ l) i/\rd (L.foldl hZ l) i<=B+2*L.length
 |[],l,B,h=>fun i=>by have:=h i;simpa using this
 |x::L,l,B,h=>fun i=>by
  have:=vn L (hZ l x) (B+2) (CT h) i;simp only[List.foldl_cons,List.length_cons];omega
theorem vo (n:Nat) (L:List (Nat×Int×Int)) (k:Nat) (i:Nat):0<=rd (dI n L k) i/\rd (dI n L k) i<=2*L.length:=by
 have h:=vn (L.take k) (List.replicate n 0) 0 (fun i=>by simp[rd,a7,List.getElem?_replicate];split<;>simp) i;have a:(L.take k).length<=L.length:=by simp;omega
 unfold dI;omega
theorem CU {W:World} {gb n:Nat} {ok:Nat->Prop} {g0 len cap:Nat} {rows:List (List Int)} (h:Kd.S (Kd.slice 3 (Kd.int .i64)) 25 W gb ok (.slice (some ⟨g0,0,none⟩) len cap) rows) (s:rows.length=len) (m:∀y∈rows,y.length=n) (a b:Nat) (C:a<len) (hb:b<n):
  ∃(gi ci:Nat) (z:Int),W.cell? ⟨g0,a,none⟩=some (.slice (some ⟨gi,0,none⟩) n ci)/\W.cell? ⟨gi,b,none⟩=some (.int .i64 z)/\W.frozen? ⟨gi,b,none⟩=false/\ok gi/\gb<=gi/\(∃cells,W.heap[gi]? =some (.cells cells 3 (0,0)))/\
   ∀x:Int,∃i:List (List Int),i.length=len/\(∀y∈i,y.length=n)/\Kd.S (Kd.slice 3 (Kd.int .i64)) 25 (W.setCell ⟨gi,b,none⟩ (.int .i64 x)) gb ok (.slice (some ⟨g0,0,none⟩) len cap) i:=by
 obtain⟨oki,c,D,⟨ev,rfl,g⟩,j,u,l⟩:=Kd.Aq h [] (a:Int) (by omega) (by omega);rw[aM] at g j l;have o:(rows.getD a []).length=n:=by
  rw[a7,bK (by omega)];exact m _ (List.getElem_mem (by omega))
 obtain⟨gi,ci,rfl,v,E,cells,w⟩:=Kd.fK g (by omega);rw[o] at g l j;obtain⟨p,q⟩:=Kd.b7 (0:Int) g (b:Int) (by omega) (by omega);rw[aM] at p q;have r:=j 0 _ rfl;refine⟨gi,ci,_,?_,p,q,(u gi (g.1 gi rfl)).1,v,⟨cells,w⟩,fun x=>⟨rows.set a ((rows.getD a []).set b x),by simp[s],?_,?_⟩⟩
 ·rw[show (⟨g0,0,none⟩:Addr).add (a*(Kd.slice 3 (Kd.int .i64)).sz+0)=⟨g0,a,none⟩ from by simp[Kd.slice,Addr.add];intro e;exact e.symm] at r
  exact r
 ·intro y B
  rcases List.mem_or_eq_of_mem_set B with h1|h1
  ·exact m y h1
  ·subst h1;simpa using o
 ·have hp:=Kd.dt g (b:Int) x
  rw[aM] at hp;exact l hp.2 (fun k hk=>by cases hk;exact g.1 gi rfl) ⟨_,rfl,hp.1⟩
theorem CV {w:World} {A:Option Addr} {n:Nat} {L:List (Nat×Int×Int)} (h:Kd.C (Kd.raw 2) w A n (fO L)) (j:Nat) (m:j<n) (i:j<L.length):∃ad,A=some ad/\w.cell? (ad.add (j*2))=some (.int .i64 L[j].2.1)/\w.cell? ⟨(ad.add (j*2)).block,(ad.add (j*2)).off+1,none⟩=some (.int .i64 L[j].2.2):=by
 obtain⟨ad,c,e,_,a,b⟩:=Kd.pR h [] (j:Int) (by omega) (by omega);rw[aM] at a b;have l:(fO L).getD j []=[.int .i64 L[j].2.1,.int .i64 L[j].2.2]:=by
  rw[a7,bK (by simpa [fO] using i)];simp[fO]
 rw[l] at a;obtain rfl:=a.1;have g:∀k u,[Value.int .i64 L[j].2.1,.int .i64 L[j].2.2][k]? =some u->w.cell? (ad.add (j*2+k))=some u:=b;exact⟨ad,e,g 0 _ rfl,by rw[<-pO _ _ 1 (by omega)];exact g 1 _ rfl⟩
structure PS (w:World) (gb n gp bv g0 cr:Nat) (q:Int) (dv:Value) (dl:List Int) (ev:Value) (L:List (Nat×Int×Int)) (W:World) (rows:List (List Int)) (vl:List Int):Prop where
 len:rows.length=n
 all:∀y∈rows,y.length=n
 iZ:cQ W gp dv q (.slice (some ⟨g0,0,none⟩) n cr) (.slice (some ⟨bv,0,none⟩) n n) (fun _=>false)
 d:(Kd.int .i64).R 3 W gb (fun k=>k≠bv) dv dl
 val:(Kd.int .i64).R 3 W gb (fun k=>some k≠dv.ownBlock) (.slice (some ⟨bv,0,none⟩) n n) vl
 rows:Kd.S (Kd.slice 3 (Kd.int .i64)) 25 W gb (fun k=>some k≠dv.ownBlock/\k≠bv) (.slice (some ⟨g0,0,none⟩) n cr) rows
 ends:(Kd.raw 2).R 205 W gb (fun _=>True) ev (fO L)
 below:Below gb w W
namespace PS
variable {w:World} {gb n gp bv g0 cr:Nat} {q:Int} {dv:Value} {dl:List Int} {ev:Value} {L:List (Nat×Int×Int)} {W:World} {rows:List (List Int)} {vl:List Int}
theorem drewN (h:PS w gb n gp bv g0 cr q dv dl ev L W rows vl) (m:Nat):PS w gb n gp bv g0 cr q dv dl ev L (W.drewN m) rows vl:=
 ⟨h.len,h.all,h.iZ,Kd.bD h.d m,Kd.bD h.val m,Kd.z8 h.rows m,Kd.bD h.ends m,bY h.below m⟩
theorem row (h:PS w gb n gp bv g0 cr q dv dl ev L W rows vl) (a b:Nat) (k:a<n) (hb:b<n):∃(gi ci:Nat) (z:Int),W.cell? ⟨g0,a,none⟩=some (.slice (some ⟨gi,0,none⟩) n ci)/\W.cell? ⟨gi,b,none⟩=some (.int .i64 z)/\W.frozen? ⟨gi,b,none⟩=false/\
  ∀x:Int,∃g,PS w gb n gp bv g0 cr q dv dl ev L (W.setCell ⟨gi,b,none⟩ (.int .i64 x)) g vl:=by
 obtain⟨gi,ci,z,h1,l,m,⟨o,p⟩,r,⟨cells,j⟩,s⟩:=CU h.rows h.len h.all a b k hb;refine⟨gi,ci,z,h1,l,m,fun x=>?_⟩;obtain⟨g,l1,l2,u⟩:=s x;have i:W.grownBy (W.setCell ⟨gi,b,none⟩ (.int .i64 x)) (some gi):=uV (aq _ _);refine⟨g,l1,l2,h.iZ.grown i (fun e=>?_),Kd.iO h.d rfl i o,Kd.iO h.val rfl i (fun e=>p (by simpa [Value.ownBlock] using e)),u,Kd.fg h.ends j (by decide) _ _,Below.setCell h.below r _⟩;obtain⟨cs,hp,_⟩:=h.iZ;injection e with e
 subst e;rw[j] at hp;injection hp with hp
 injection hp with _ hp _
 exact absurd hp (by decide)
theorem vp (h:PS w gb n gp bv g0 cr q dv dl ev L W rows vl) (a:Nat) (j:a<n):W.cell? ⟨bv,a,none⟩=some (.int .i64 (rd vl a))/\W.frozen? ⟨bv,a,none⟩=false/\
  ∀x:Int,PS w gb n gp bv g0 cr q dv dl ev L (W.setCell ⟨bv,a,none⟩ (.int .i64 x)) rows (vl.set a x):=by
 obtain⟨h1,i⟩:=Kd.b7 (0:Int) h.val (a:Int) (by omega) (by omega);rw[aM] at h1 i;obtain⟨cells,hb⟩:=Kd.gQ h.val bv rfl;refine⟨h1,i,fun x=>?_⟩;have hp:=Kd.dt h.val (a:Int) x;rw[aM] at hp;have g:=hp.2;refine⟨h.len,h.all,h.iZ.grown g (fun e=>?_),Kd.iO h.d rfl g (fun e=>h.d.1 bv e.symm rfl),hp.1,Kd.ti h.rows g (fun k hk e=>hk.2 (by injection e)),Kd.fg h.ends hb (by decide) _ _,Below.setCell h.below (Kd.dY h.val bv rfl) _⟩;obtain⟨cs,b,_⟩:=h.iZ;injection e with e
 subst e;rw[hb] at b;injection b with b
 injection b with _ b _
 exact absurd b (by decide)
end PS
def fY (n:Nat) (E:List S83):List Int:=dI n (cu E E.length) (cu E E.length).length
theorem CW (g v n:Nat) (q:Int) (a b:Option Addr) (cd h:Nat) (dl vl:List Int) (rows:Value) (waits:Nat->Bool) (w:World) (i:v<12) (k:v<dl.length) (l:vl.length=n) (m:v<n)
  (hw:cQ w g (.slice a dl.length cd) q rows (.slice b n h) waits) (hd:Kd.C (Kd.int .i64) w a dl.length dl) (o:Kd.C (Kd.int .i64) w b n vl):
  Calls Tryz.prog 218 #[.pointer (some ⟨g,0,none⟩),.int .i64 v] w fun e w'=>e= .returned (.tuple #[])/\cQ w' g (.slice a dl.length cd) q rows (.slice b n h) (fun j=>if j=v then iX q vl dl v else waits j)/\w.grownBy w' (some g):=by
 subst l;exact CI g v q a b cd h dl vl rows waits w i k m hw hd o
theorem CX (q:Int) (vl dl:List Int) (v:Nat):(fun j=>if j=v then iX q vl dl v else(if j<v then iX q vl dl j else false))=fun j=>if j<v+1 then iX q vl dl j else false:=by
 funext j
 by_cases e:j=v
 ·subst e;simp
 ·by_cases h:j<v
  ·rw[if_neg e,if_pos h,if_pos (by omega)]
  ·rw[if_neg e,if_neg h,if_neg (by omega)]
end
end Go.Proofs.YtffdiakgjakngaaGreat.P


namespace Go.Proofs.YtffdiakgjakngaaGreat.P
open Go.RowKit Go.Proofs.YtffdiakgjakngaaGreatW.PrintWords Go.Proofs.YtffdiakgjakngaaGreatW.PrintLast Go.Proofs.YtffdiakgjakngaaGreatW.PrintMore
set_option linter.unusedVariables false
set_option linter.unusedSimpArgs false
set_option maxHeartbeats 8000000
set_option maxRecDepth 100000
theorem mz (t:TypeId) (g:Tryz.prog.underlying t=some (.slice 3)) (n:Nat) (hn:n<=1000):∃zs:Array Value,(∀W:World,(Instr.makeSlice t (.int .i64 n) (.int .i64 n)).run Tryz.prog W= .ok (.slice (some ⟨W.heap.size,0,none⟩) n n) (W.alloc (.cells zs 3)))/\
  ∀(W:World) (ok:Nat->Prop),ok W.heap.size->(Kd.int .i64).R 3 (W.alloc (.cells zs 3)) W.heap.size ok (.slice (some ⟨W.heap.size,0,none⟩) n n) (List.replicate n 0):=by
 obtain⟨i0,hi,b⟩:=Option.map_eq_some_iff.1 gB;simp only[Prod.mk.injEq] at b;obtain⟨i,j,l⟩:=b;refine⟨madeCells (Value.int .i64 0).cells (n*1),fun W=>?_,fun W ok m=>⟨fun k hk=>?_,(madeCells (Value.int .i64 0).cells (n*1)).toList,?_,?_⟩⟩
 ·have a:=run_make (P:=Tryz.prog) W t 3 i0 (.int .i64 0) g hi i .i64 .i64 (n:Int) (n:Int) (by omega) (by omega) (by rw[l];omega) (by omega)
  simp only[aM] at a;rw[j] at a;exact a
 ·have:W.heap.size=k:=by simpa [Value.ownBlock] using hk
  subst this;exact m
 ·have h:=World.ownsRow_lit (base:=W.heap.size) (e:=3) (size:=1) W (madeCells (Value.int .i64 0).cells (n*1)) n (aI _) (by simp only[maxLen];omega) (size_madeCells _ _)
  rw[List.length_replicate];exact h
 ·exact Kd.sP (R:=(Kd.int .i64).M (W.alloc (.cells (madeCells (Value.int .i64 0).cells (n*1)) 3)) W.heap.size (fun k=>ok k/\some k≠(Value.slice (some ⟨W.heap.size,0,none⟩) n n).ownBlock)) (size:=1) (z:=Value.int .i64 0) (z0:=(0:Int)) rfl (by decide) rfl n
theorem CY {w W:World} {gb:Nat} {v:Value} {cs:Array Value} {t:TypeId} (h1:W.heap[gb]? =some (.cells cs t (0,0))) (a:W.cell? ⟨gb,0,none⟩=some v) (b:Below gb w W):W.drew.heap[gb]? =some (.cells cs t (0,0))/\W.drew.cell? ⟨gb,0,none⟩=some v/\Below gb w W.drew:=⟨h1,a,bZ b⟩
theorem CZ {w W:World} {gb:Nat} {v:Value} {cs:Array Value} {t:TypeId} {o:Obj} (h1:W.heap[gb]? =some (.cells cs t (0,0))) (a:W.cell? ⟨gb,0,none⟩=some v) (b:Below gb w W):(W.alloc o).heap[gb]? =some (.cells cs t (0,0))/\(W.alloc o).cell? ⟨gb,0,none⟩=some v/\Below gb w (W.alloc o):=
 ⟨au h1 _,by rw[aj (au h1 _) 0,<-aj h1 0];exact a,b.alloc (Nat.le_of_lt (aA h1)) _⟩
theorem C0 {w W W1:World} {gb:Nat} {v:Value} {cs:Array Value} {t:TypeId} (h1:W.heap[gb]? =some (.cells cs t (0,0))) (a:W.cell? ⟨gb,0,none⟩=some v) (b:Below gb w W) (hb:Below W.heap.size W W1):W1.heap[gb]? =some (.cells cs t (0,0))/\W1.cell? ⟨gb,0,none⟩=some v/\Below gb w W1:=
 ⟨aE h1 hb,by rw[aj (aE h1 hb) 0,<-aj h1 0];exact a,b.trans ⟨hb.os,hb.tape,hb.output,hb.size,fun k hk=>hb.block k (by have:=aA h1;omega)⟩⟩
theorem mA {W:World} {o:Obj} {g:Nat} (h:g=W.heap.size):(W.alloc o).heap[g]? =some o:=by rw[h];exact bc W o
theorem mB {a w1 W':World} {gb bv:Nat} {v:Value} {dl:List Int} (b:(Kd.int .i64).R 3 w1 a.heap.size (fun _=>True) v dl) (e:gb<=a.heap.size)
  (g:∀{ok:Nat->Prop},(Kd.int .i64).R 3 w1 gb ok v dl->(Kd.int .i64).R 3 W' gb ok v dl) (h:bv<a.heap.size\/w1.heap.size<=bv):(Kd.int .i64).R 3 W' gb (fun k=>k≠bv) v dl:=
 g (Kd.bj (Kd.bb (Kd.eV b) (fun k hk=>by have i:=hk.2.1;have a2:=hk.2.2.1;omega)) e)
theorem dT {a w1 W' Y:World} {gb bv n:Nat} {v:Value} {dl:List Int} {zs:Array Value} (g:(Kd.int .i64).R 3 (Y.alloc (.cells zs 3)) Y.heap.size (fun k=>k=Y.heap.size) (.slice (some ⟨Y.heap.size,0,none⟩) n n) (List.replicate n 0)) (h:bv=Y.heap.size)
  (hb:Below (Y.alloc (.cells zs 3)).heap.size (Y.alloc (.cells zs 3)) W') (b:(Kd.int .i64).R 3 w1 a.heap.size (fun _=>True) v dl) (i:gb<=bv) (j:bv<a.heap.size\/w1.heap.size<=bv):
  (Kd.int .i64).R 3 W' gb (fun k=>some k≠v.ownBlock) (.slice (some ⟨bv,0,none⟩) n n) (List.replicate n 0):=by
 subst h;refine Kd.bj (Kd.bb (Kd.cT g hb) (fun k hk e=>?_)) i;have h1:=Kd.dY b k e.symm;have l:=Kd.a_ b k e.symm;omega
theorem C1 (k n:Nat) (A0:Option Addr) (c0:Nat) (E:List S83) (q:Int) (Ad:Option Addr) (cd:Nat) (dl:List Int) (w:World) (ek:Kd.C aN w A0 E.length E) (el:E.length<=c0) (hd:Kd.C (Kd.int .i64) w Ad dl.length dl) (em:dl.length<=cd)
  (hn:n<=12) (b6:dl.length=n) (ht:bh.f k n E=some 0) (hE:eZ E=true) (ca:ep n E):
  Calls Tryz.prog 212 #[.agg #[.int .i64 n,.slice A0 E.length c0],.int .i64 q,.slice Ad dl.length cd] w fun e w'=>∃(gp:Nat) (o cb:Option Addr) (r cc:Nat) (rv:Value),e= .returned (.tuple #[.pointer (some ⟨gp,0,none⟩),.int .i64 0])/\cQ w' gp (.slice o dl.length r) q rv (.slice cb n cc) (fun x=>if x<dl.length then iX q (fY n E) dl x else false)/\(Kd.int .i64).R 3 w' w.heap.size (fun _=>True) (.slice cb n cc) (fY n E)/\Below w.heap.size w w':=by
 have hu:=Tryz.underlying24;have go:=Tryz.underlying236;have gq:=Tryz.underlying234;have gr:=Tryz.underlying205;have gs:dl.length<=12:=by omega
 have er:=zA b6;clear b6;have Ht:=zA ht;have HE:=zA hE;have HI:=zA ca.get;clear ht hE ca;have HC:=zA (fun W h=>nt.calls Ad cd dl dl W h em (by unfold nt.f clone.f;rw[if_pos (by omega)]));obtain⟨zs,gt,ch⟩:=mz 25 Tryz.underlying25 n (by omega);have s:=zA ch;clear ch;go_enter Tryz.func212,Tryz.ntmps212
 go_wp2_with fail
 have Z:=zA (show (w.alloc (.cells #[.int .i64 n,.slice A0 E.length c0] 24)).heap[w.heap.size]? =some (.cells #[.int .i64 n,.slice A0 E.length c0] 24 (0,0)) from bc w _);have I:(w.alloc (.cells #[.int .i64 n,.slice A0 E.length c0] 24)).cell? ⟨w.heap.size,0,none⟩=some (.int .i64 n):=(aj Z.out 0).trans rfl;have B:=zA (ao (aq w.heap.size w) (.cells #[.int .i64 n,.slice A0 E.length c0] 24));generalize (w.alloc (.cells #[.int .i64 n,.slice A0 E.length c0] 24))=W0 at I Z B⊢;have cj:=aA Z.out;have ck:=fun W h=>Kd.aw (w:=w) (w1:=W) hd h
 have a2:=zA ck;clear ck;generalize a3:w.heap.size=gb at I Z cj B a2⊢;refine Code.wp_mono (Q:=fun e a W'=>e=Exit.normal/\∃(gp bv bf r:Nat) (o:Option Addr) (u16 u17 u18 u19 u20 u21 u22 u23 u24 u25 u26:Value),a={tmps:=#[.agg #[.int .i64 n,.slice A0 E.length c0],.int .i64 q,.slice Ad dl.length cd,.pointer (some ⟨gb,0,none⟩),undef,undef,.pointer none,.int .i64 0,.pointer (some ⟨gp,0,none⟩),undef,undef,undef,undef,undef,undef,undef,u16,u17,u18,u19,u20,u21,u22,u23,u24,u25,u26,undef,undef,undef,undef,undef,undef,undef,undef,undef,undef,undef,undef,undef,undef,undef,undef,undef,undef,undef,undef,undef,undef,undef,undef,undef,undef,undef,undef,undef,undef,undef,undef,undef,undef,undef,undef,undef,undef,undef,undef,undef,undef,undef,undef,undef,undef,undef,undef,undef,undef,undef,undef,undef,undef,undef,undef,undef,undef,undef,undef,undef,undef,undef,undef,undef,undef,undef,undef,undef,undef,undef,undef,undef,undef,undef,undef,undef,undef,undef,undef,undef,undef,undef,undef,undef,undef,undef,undef,undef,undef,undef,undef,undef,undef],defers:=[]}/\gb<gp/\W'.heap[gp]? =some (.cells #[.slice o dl.length r,.int .i64 q,.slice none 0 0,.slice (some ⟨bv,0,none⟩) n n,.slice (some ⟨bf,0,none⟩) n n,.int .i64 0,.bool false,.bool false,.bool false,.bool false,.bool false,.bool false,.bool false,.bool false,.bool false,.bool false,.bool false,.bool false] 236 (0,0))/\(Kd.int .i64).R 3 W' gb (fun k=>k≠bv) (.slice o dl.length r) dl/\(Kd.int .i64).R 3 W' gb (fun k=>some k≠(Value.slice o dl.length r).ownBlock) (.slice (some ⟨bv,0,none⟩) n n) (List.replicate n 0)/\W'.heap[gb]? =some (.cells #[.int .i64 n,.slice A0 E.length c0] 24 (0,0))/\Below gb w W') ?_ ?_
 ·rintro e a W' ⟨rfl,gp,bv,bf,r,o,u16,u17,u18,u19,u20,u21,u22,u23,u24,u25,u26,rfl,gx,cn,co,cq,a4,hB⟩
  dsimp only;have u:=zA (show cQ W' gp (.slice o dl.length r) q (.slice none 0 0) (.slice (some ⟨bv,0,none⟩) n n) (fun _=>false) from⟨_,cn,rfl,rfl,rfl,rfl,rfl,fun i hi=>by match i,hi with|0,_=>rfl|1,_=>rfl|2,_=>rfl|3,_=>rfl|4,_=>rfl|5,_=>rfl|6,_=>rfl|7,_=>rfl|8,_=>rfl|9,_=>rfl|10,_=>rfl|11,_=>rfl⟩);have P:=zA co;have T:=zA cq;have F:=zA a4;have cv:=zA hB;have aB:W'.cell? ⟨gb,0,none⟩=some (.int .i64 n):=(aj a4 0).trans rfl;clear cn co cq a4 hB I Z B cj HC a2;clear W0;go_wp2;go_loopw [29] (fun i wr=>∃(j:Nat) (rv:Value) (rows:List (List Int)),j<=n/\i= .int .i64 j/\Aside0 (rows.length=j)/\Aside0 (∀y∈rows,y.length=n)/\Aside0 (cQ wr gp (.slice o dl.length r) q rv (.slice (some ⟨bv,0,none⟩) n n) (fun _=>false))/\Aside0 ((Kd.int .i64).R 3 wr gb (fun k=>k≠bv) (.slice o dl.length r) dl)/\Aside0 ((Kd.int .i64).R 3 wr gb (fun k=>some k≠(Value.slice o dl.length r).ownBlock) (.slice (some ⟨bv,0,none⟩) n n) (List.replicate n 0))/\Aside0 (Kd.S (Kd.slice 3 (Kd.int .i64)) 25 wr gb (fun k=>some k≠(Value.slice o dl.length r).ownBlock/\k≠bv) rv rows)/\Aside0 (wr.heap[gb]? =some (.cells #[.int .i64 n,.slice A0 E.length c0] 24 (0,0)))/\Aside0 (Below gb w wr)) (fun i _=>n- (intOf i).toNat)
  case atStart=>exact⟨0,_,[],by omega,rfl,⟨rfl⟩,⟨fun y hy=>absurd hy (by simp)⟩,u,P,T,⟨Kd.gw _ _ _ _ _⟩,F,cv⟩
  case round=>
   clear u P T F cv aB;obtain⟨j,rv,rows,hj,rfl,J,U,u,P,T,G,F,B⟩:=hrel;by_cases g1:j<n
   ·have aY:=aA F.out
    obtain⟨M,cr,rfl⟩:=Kd.lW G.out;have ew:=(aj F.out 0).trans (show _=some (.int .i64 n) from rfl);have ex:(wr.alloc (.cells zs 3)).drew.cell? ⟨gb,0,none⟩=some (.int .i64 n):=(aj (au F.out _) 0).trans rfl;have ey:=u.out.mw;have e0:(wr.alloc (.cells zs 3)).drew.cell? ⟨gp,2,none⟩=some (.slice M rows.length cr):=(u.out.below (ao (aq _ _) _)).mw;have e1:((wr.alloc (.cells zs 3)).alloc (.cells #[.slice (some ⟨wr.heap.size,0,none⟩) n n] 25)).drew.cell? ⟨gp,2,none⟩=some (.slice M rows.length cr):=(u.out.below (ao (ao (aq _ _) _) _)).mw;have g2:rows.length<=12:=by have:=J.out;omega
    have bd:∀k,wr.heap.size<=k->some k≠(Value.slice o dl.length r).ownBlock/\k≠bv:=fun k hk=>⟨fun e=>by have:=Kd.a_ P.out k e.symm;omega,fun e=>by have:=Kd.a_ T.out bv (by simp[Value.ownBlock]);omega⟩
    have e2:=zA (Kd.mL (Kd.bq (Kd.bj (s.out wr (fun k=>k=wr.heap.size) rfl) (Nat.le_of_lt aY))));have e3:=zA (Kd.th (Kd.p5 (Kd.kS (ok':=fun k=>(some k≠(Value.slice o dl.length r).ownBlock/\k≠bv)/\¬k=wr.heap.size) (Kd.mQ G.out) (fun k hk=>⟨hk.1,by have:=hk.2.2.1;omega⟩)) (.cells zs 3)));have e4:=zA (bZ (B.out.alloc (Nat.le_of_lt aY) (.cells zs 3)));have e5:Aside0 (∀k,k=wr.heap.size->(some k≠(Value.slice o dl.length r).ownBlock/\k≠bv)/\some k≠(Value.slice M rows.length cr).ownBlock):=⟨fun k hk=>⟨bd k (by omega),fun e=>by have:=Kd.Aa G.out k e.symm;omega⟩⟩;have e6:Aside0 (∀k,(wr.alloc (.cells zs 3)).drew.heap.size<=k->some k≠(Value.slice o dl.length r).ownBlock/\k≠bv):=⟨fun k hk=>bd k (by have h1:(wr.alloc (.cells zs 3)).drew.heap.size=wr.heap.size+1:=World.size_alloc wr _;omega)⟩;have e_:Aside0 (gb<=(wr.alloc (.cells zs 3)).drew.heap.size):=⟨by have h1:(wr.alloc (.cells zs 3)).drew.heap.size=wr.heap.size+1:=World.size_alloc wr _;omega⟩;have cx:=zA (show cQ (wr.alloc (.cells zs 3)).drew gp (.slice o dl.length r) q (.slice M rows.length cr) (.slice (some ⟨bv,0,none⟩) n n) (fun _=>false) from(u.out.below (ao (aq wr.heap.size wr) (.cells zs 3))).drew);have c1:=zA (show (wr.alloc (.cells zs 3)).drew.heap[gb]? =some (.cells #[.int .i64 n,.slice A0 E.length c0] 24 (0,0)) from au F.out _);have aF:=zA (Kd.th (Kd.p5 G.out (.cells zs 3)));have e':=zA (Kd.bq (Kd.aR P.out (.cells zs 3)));have fb:=zA (Kd.bq (Kd.aR T.out (.cells zs 3)));clear bd;have fd:=zA (show (wr.alloc (.cells zs 3)).drew.heap.size=wr.heap.size+1 from World.size_alloc wr _);go_wp2;go_region_law ((refine Kd.Ah (Kd.slice 3 (Kd.int .i64)) (w0:=w) (W:=(wr.alloc (.cells zs 3)).drew) gb (by rfl) (.tmp 35) (.tmp 39) 73 25 (.slice none 0 0) 24 (by rfl) Tryz.underlying73 tM rfl (by decide) (by omega) _ rows (List.replicate n 0) [.slice (some ⟨wr.heap.size,0,none⟩) n n] (fun k=>some k≠(Value.slice o dl.length r).ownBlock/\k≠bv) (fun k=>k=wr.heap.size) (by rfl) (by rw[fd.out];rfl) e2.out e5.out e6.out e3.out e4.out e_.out (by omega) ?_;intro v4 w4 be c2 ak fo;obtain⟨V,c4,c3⟩:=Kd.lW be;rw[show (rows++[List.replicate n (0:Int)]).length=rows.length+1 by simp] at c3;subst c3;have c5:=zA be;have c6:=zA c2;have X:=zA (cx.out.grown ak (cx.out.qW (Kd.ow aF.out) (by decide)));have c7:=zA (da c1.out ak (Kd.Af aF.out c1.out (by decide)));have c8:=zA (Kd.sZ e'.out (Kd.ow aF.out) (by decide) ak);have c':=zA (Kd.sZ fb.out (Kd.ow aF.out) (by decide) ak);have fq:=X.out.mw;have fr:=X.out.frozen 2;clear be c2 ak fo))
    all_goals have n0:=zA (X.out.CG (.slice V (rows.length+1) c4))
    all_goals have n1:=zA (X.out.fg c8.out (by decide) 2 (.slice V (rows.length+1) c4))
    all_goals have n2:=zA (X.out.fg c'.out (by decide) 2 (.slice V (rows.length+1) c4))
    all_goals have n3:=zA (X.out.p6 c5.out (by decide) 2 (.slice V (rows.length+1) c4))
    all_goals have n4:=zA (aD (p:=⟨gp,2,none⟩) c7.out (show gb≠gp by omega) (.slice V (rows.length+1) c4))
    all_goals have n5:=zA (c6.out.setCell (p:=⟨gp,2,none⟩) (by show gb<=gp;omega) (.slice V (rows.length+1) c4))
    all_goals clear fq fr ew ex ey e0 e1 X c7 c8 c' c6 c5
    all_goals generalize (w4.setCell ⟨gp,2,none⟩ (.slice V (rows.length+1) c4))=w5 at n0 n1 n2 n3 n4 n5⊢
    all_goals go_wp2
    all_goals exact⟨⟨j+1,_,_,by omega,by go_num,⟨by simp[J.out]⟩,⟨fun y hy=>by rcases List.mem_append.1 hy with h|h;exact U.out y h;(simp at h;subst h;simp)⟩,n0,n1,n2,n3,n4,n5⟩,(show n- ((j:Int)+1).toNat<n- ((j:Int)).toNat by omega)⟩
   ·obtain rfl:n=j:=by omega
    have aB:wr.cell? ⟨gb,0,none⟩=some (.int .i64 n):=(aj F.out 0).trans rfl;have g:wr.cell? ⟨gb,1,none⟩=some (.slice A0 E.length c0):=(aj F.out 1).trans rfl;have aY:=aA F.out;have d0:=zA (CL k n A0 c0 E wr (Kd.aw ek (by rw[a3];exact B.out)) el Ht.out HE.out);go_wp2_with (first|(go_at_call 178;refine d0.out.mono ?_;rintro e w1 ⟨v9,rfl,bg,aa⟩;obtain⟨A9,c9,d1⟩:=Kd.bm bg;rw[vg] at d1;subst d1;have am:=zA bg;have d2:=zA (u.out.below aa);have bi:=zA (Kd.ou G.out aa);have d3:=zA (Kd.cT P.out aa);have bk:=zA (Kd.cT T.out aa);have d4:=zA (B.out.trans (aa.mono (Nat.le_of_lt aY)));clear bg aa))
    all_goals go_wp2
    have bn:=zA (CM (n:=n) HI.out);have bo:=zA (vj HE.out);obtain⟨M,cr,ab⟩:=Kd.lW bi.out;rw[J.out] at ab;subst ab;replace am:=zA (Kd.bj (Kd.oB am.out) (Nat.le_of_lt aY));have aL:=zA (show fY n E=dI n (cu E E.length) (cu E E.length).length from rfl);generalize cu E E.length=L at am bn bo aL⊢;have f1:=bo.out;have d5:List.replicate n (0:Int)=dI n L 0:=rfl;rw[d5] at bk;clear d5 d0 u G P T B F aB g aY;go_loopw [54] (fun i wr=>∃(j:Nat) (rows:List (List Int)),j<=L.length/\i= .int .i64 j/\Aside0 (rows.length=n)/\Aside0 (∀y∈rows,y.length=n)/\Aside0 (cQ wr gp (.slice o dl.length r) q (.slice M n cr) (.slice (some ⟨bv,0,none⟩) n n) (fun _=>false))/\Aside0 ((Kd.int .i64).R 3 wr gb (fun k=>k≠bv) (.slice o dl.length r) dl)/\Aside0 ((Kd.int .i64).R 3 wr gb (fun k=>some k≠(Value.slice o dl.length r).ownBlock) (.slice (some ⟨bv,0,none⟩) n n) (dI n L j))/\Aside0 (Kd.S (Kd.slice 3 (Kd.int .i64)) 25 wr gb (fun k=>some k≠(Value.slice o dl.length r).ownBlock/\k≠bv) (.slice M n cr) rows)/\Aside0 ((Kd.raw 2).R 205 wr gb (fun _=>True) (.slice A9 L.length c9) (fO L))/\Aside0 (Below gb w wr)) (fun i _=>L.length- (intOf i).toNat)
    case atStart=>exact⟨0,_,by omega,rfl,J,U,d2,d3,bk,bi,am,d4⟩
    case round=>
     clear d2 d3 bk bi am d4 J U;obtain⟨j,rows,hj,rfl,J,U,u,N,K,G,HR,B⟩:=hrel;by_cases an:j<L.length
     ·obtain⟨-, -,d6⟩:=Kd.aQ HR.out
      obtain⟨ad,rfl,I,ap⟩:=CV d6 j (by rw[vg];exact an) an;have O:=bn.out _ (List.getElem_mem an);have bw:=Lib.hid (CP n L j an);generalize L[j]=x at I ap O bw;obtain⟨i,a,b⟩:=x;simp only at I ap O;obtain⟨a,rfl⟩:=Int.eq_ofNat_of_zero_le O.1;obtain⟨b,rfl⟩:=Int.eq_ofNat_of_zero_le O.2.2.1;have ha:a<n:=by omega
      have hb:b<n:=by omega
      have g3:(0:Int)<=(j:Int):=by omega
      have g4:(j:Int)<(L.length:Int):=by omega
      clear O d6;have HO:=zA (show (wr.alloc (.cells #[.int .i64 a,.int .i64 b] 205)).heap[wr.heap.size]? =some (.cells #[.int .i64 a,.int .i64 b] 205 (0,0)) from bc wr _);obtain⟨g0,f2,ab, -, -, -⟩:=Kd.p9 G.out (by have:=J.out;omega);injection ab with ab _ f3
      subst ab;have D:=zA (PS.mk (L:=L) J.out U.out (u.out.below (ao (aq _ _) (.cells #[.int .i64 a,.int .i64 b] 205))) (Kd.aR N.out (.cells #[.int .i64 a,.int .i64 b] 205)) (Kd.aR K.out (.cells #[.int .i64 a,.int .i64 b] 205)) (Kd.p5 G.out (.cells #[.int .i64 a,.int .i64 b] 205)) (Kd.aR HR.out (.cells #[.int .i64 a,.int .i64 b] 205)) (B.out.alloc (by have:=B.out.size;omega) (.cells #[.int .i64 a,.int .i64 b] 205)));go_wp2;clear u N K G HR B I ap J U f3 f2;generalize (wr.alloc (.cells #[.int .i64 a,.int .i64 b] 205))=W1 at HO D⊢;generalize wr.heap.size=ob at HO⊢;have I:W1.cell? ⟨ob,0,none⟩=some (.int .i64 a):=(aj HO.out 0).trans rfl;have ap:W1.cell? ⟨ob,1,none⟩=some (.int .i64 b):=(aj HO.out 1).trans rfl;go_quiet (fail)
      replace D:=zA (D.out.drewN nq);clear I ap HO;generalize W1.drewN nq=W2 at D⊢;clear W1;have g5:(0:Int)<=(a:Int):=by omega
      have g6:(a:Int)<(n:Int):=by omega
      have aB:(0:Int)<=(b:Int):=by omega
      have g:(b:Int)<(n:Int):=by omega
      by_cases O:a=b
      ·subst O
       have d8:dI n L j=dI n L (j+1):=by rw[bw.out];unfold hZ;rw[if_pos rfl]
       rw[d8] at D;clear d8;go_wp2;exact⟨⟨j+1,rows,by omega,by go_num,⟨D.out.len⟩,⟨D.out.all⟩,⟨D.out.iZ⟩,⟨D.out.d⟩,⟨D.out.val⟩,⟨D.out.rows⟩,⟨D.out.ends⟩,⟨D.out.below⟩⟩,(show L.length- ((j:Int)+1).toNat<L.length- ((j:Int)).toNat by omega)⟩
      ·have g7:((a:Int) != (b:Int))=true:=by simp;omega
       have g8:=D.out.iZ.mw;have b0:=vo n L j;have f4:=b0 a;obtain⟨gi,ci,z,g9,g',hc,d9⟩:=D.out.row a b ha hb;obtain⟨he,h3⟩:=d9 (wrap64 (z+1));have H3:=zA h3;have hf:=h3.iZ.mw;obtain⟨hg,hh,z3,hl,hm,ho,ea⟩:=h3.row b a hb ha;obtain⟨f6,h4⟩:=ea (wrap64 (z3+1));have H4:=zA h4;have hp:=h4.iZ.oW;obtain⟨f8,hq,eb⟩:=h4.vp a ha;have h5:=eb (rd (dI n L j) a+1);have H5:=zA h5;have f':=h5.iZ.oW;obtain⟨b1,gc,b2⟩:=h5.vp b hb;have ed:=q9 (v:=a) b0 b;rw[show (dI n L j).set a (rd (dI n L j) a+1)=iY (dI n L j) a from rfl] at b1 b2;have H:=zA (b2 (rd (iY (dI n L j) a) b+1));rw[show (iY (dI n L j) a).set b (rd (iY (dI n L j) a) b+1)=dI n L (j+1) from by rw[bw.out];unfold hZ;rw[if_neg (show ¬((i,(a:Int),(b:Int)).2.1=(i,(a:Int),(b:Int)).2.2) from fun e=>O (Int.ofNat.inj e))];rfl] at H;clear d9 ea eb b2 h3 h4 h5 b0 H3 H4 H5;generalize rd (dI n L j) a=va at f4 f8 f' b1 gc ed H;generalize rd (iY (dI n L j) a) b=vb at ed b1 H;go_wp2;exact⟨⟨j+1,f6,by omega,by go_num,⟨H.out.len⟩,⟨H.out.all⟩,⟨H.out.iZ⟩,⟨H.out.d⟩,⟨H.out.val⟩,⟨H.out.rows⟩,⟨H.out.ends⟩,⟨H.out.below⟩⟩,(show L.length- ((j:Int)+1).toNat<L.length- ((j:Int)).toNat by omega)⟩
     ·obtain rfl:j=L.length:=by omega
      have gd:=u.out.uW;go_wp2;have b3:=zA (vm n L L.length);generalize dI n L L.length=vl at K b3 aL⊢;clear G HR J U gd f1 bn bo an hj;go_loopw [113] (fun i wr=>∃(j:Nat),j<=dl.length/\i= .int .i64 j/\Aside0 (cQ wr gp (.slice o dl.length r) q (.slice M n cr) (.slice (some ⟨bv,0,none⟩) n n) (fun x=>if x<j then iX q vl dl x else false))/\Aside0 ((Kd.int .i64).R 3 wr gb (fun k=>k≠bv) (.slice o dl.length r) dl)/\Aside0 ((Kd.int .i64).R 3 wr gb (fun k=>some k≠(Value.slice o dl.length r).ownBlock) (.slice (some ⟨bv,0,none⟩) n n) vl)/\Aside0 (Below gb w wr)) (fun i _=>dl.length- (intOf i).toNat)
      case atStart=>exact⟨0,by omega,rfl,⟨by simpa using u.out⟩,N,K,B⟩
      case round=>
       clear u N K B;obtain⟨j,hj,rfl,u,N,K,B⟩:=hrel;by_cases ge:j<dl.length
       ·obtain⟨-, -,eg⟩:=Kd.aQ N.out
        obtain⟨-, -,b4⟩:=Kd.aQ K.out;rw[b3.out] at b4;have HW:=zA (CW gp j n q o (some ⟨bv,0,none⟩) r n dl vl (.slice M n cr) _ wr (by omega) ge b3.out (by have:=er.out;omega) u.out eg b4);clear eg b4;go_wp2_with (go_at_call 218;refine HW.out.mono ?_;rintro e w5 ⟨rfl,b5,a1⟩;rw[CX] at b5;have gg:=zA b5;have gl:=zA (Kd.iO N.out rfl a1 (u.out.qW (Kd.gQ N.out) (by decide)));have gm:=zA (Kd.iO K.out rfl a1 (u.out.qW (Kd.gQ K.out) (by decide)));have gn:=zA (kc B.out (some gp) (by have:=B.out.size;omega) a1 (fun k e=>by cases e;omega));clear b5 a1)
        all_goals go_wp2
        all_goals go_roundw
        case rel=>exact⟨j+1,by omega,by go_num,gg,gl,gm,gn⟩
        case measure=>exact(show dl.length- ((j:Int)+1).toNat<dl.length- ((j:Int)).toNat by omega)
       ·obtain rfl:j=dl.length:=by omega
        go_wp2;go_ret2;exact⟨gp,o,_,r,n,_,rfl,by rw[aL.out];exact u.out,by rw[aL.out,a3];exact Kd.bb K.out (fun _ _=>trivial),by rw[a3];exact B.out⟩
 ·go_region_held3 (fun w'=>w'.heap[gb]? =some (.cells #[.int .i64 n,.slice A0 E.length c0] 24 (0,0))/\w'.cell? ⟨gb,0,none⟩=some (.int .i64 n)/\Below gb w w')
   (first
    |exact CY Z.out I B.out
    |((try go_split_ands);refine⟨by assumption,by assumption,by assumption⟩)
    |((try go_split_ands);exact CZ (by assumption) (by assumption) (by assumption))
    |((try go_split_ands);exact C0 (by assumption) (by assumption) (by assumption) (by assumption))
    |fail)
   ((go_at_call 217;refine(HC.out _ (a2.out _ (by go_split_ands;assumption))).mono ?_;rintro e w1 ⟨v1,rfl,m,g⟩;obtain⟨o,r,rfl⟩:=Kd.bm m))
  ·refine⟨rfl,?Lg,?Kr,?Ks,?Kf,?J_,?Ky,?KP,?JE,?KL,?JM,?KG,?Lb,?KM,?JF,?J',?JT,?Ja,?IM,?IY,?Jf,?I9,by(go_split_ands;assumption),by(go_split_ands;assumption)⟩
   case Ja=>rfl
   case IY=>(refine mA ?_;first|rfl|(simp;done))
   case IM=>(have h1:=g.size;first|omega|(simp at h1⊢;done)|(simp at h1⊢;omega)|(have l:W0.drew.heap.size=W0.heap.size:=rfl;simp[World.drew] at h1⊢;omega))
   case Jf=>
    refine mB m ?_ ?_ ?_
    ·(have h1:=g.size;first|omega|(simp at h1⊢;done)|(simp at h1⊢;omega)|(have l:W0.drew.heap.size=W0.heap.size:=rfl;simp[World.drew] at h1⊢;omega))
    ·(first|exact fun h=>h|exact fun h=>Kd.aR h _|exact fun h=>Kd.aR (Kd.aR h _) _|exact fun h=>Kd.aR (Kd.aR (Kd.aR h _) _) _)
    ·(have h1:=g.size;first|omega|(simp at h1⊢;done)|(simp at h1⊢;omega)|(have l:W0.drew.heap.size=W0.heap.size:=rfl;simp[World.drew] at h1⊢;omega))
   case I9=>
    first
     |(refine dT (Y:=w1) (s.out _ _ rfl) ?_ ?_ m ?_ ?_;(focus (first|rfl|(simp;done)));(focus ((repeat(first|exact aq _ _|apply ao|apply bZ|refine aZ ?_ g));done));(focus (have h1:=g.size;first|omega|(simp at h1⊢;done)|(simp at h1⊢;omega)|(have l:W0.drew.heap.size=W0.heap.size:=rfl;simp[World.drew] at h1⊢;omega)));(focus (have h1:=g.size;first|omega|(simp at h1⊢;done)|(simp at h1⊢;omega)|(have l:W0.drew.heap.size=W0.heap.size:=rfl;simp[World.drew] at h1⊢;omega))))
     |(refine dT (Y:=(w1.alloc (.cells zs 3))) (s.out _ _ rfl) ?_ ?_ m ?_ ?_;(focus (first|rfl|(simp;done)));(focus ((repeat(first|exact aq _ _|apply ao|apply bZ|refine aZ ?_ g));done));(focus (have h1:=g.size;first|omega|(simp at h1⊢;done)|(simp at h1⊢;omega)|(have l:W0.drew.heap.size=W0.heap.size:=rfl;simp[World.drew] at h1⊢;omega)));(focus (have h1:=g.size;first|omega|(simp at h1⊢;done)|(simp at h1⊢;omega)|(have l:W0.drew.heap.size=W0.heap.size:=rfl;simp[World.drew] at h1⊢;omega))))
     |(refine dT (Y:=W0) (s.out _ _ rfl) ?_ ?_ m ?_ ?_;(focus (first|rfl|(simp;done)));(focus ((repeat(first|exact aq _ _|apply ao|apply bZ|refine aZ ?_ g));done));(focus (have h1:=g.size;first|omega|(simp at h1⊢;done)|(simp at h1⊢;omega)|(have l:W0.drew.heap.size=W0.heap.size:=rfl;simp[World.drew] at h1⊢;omega)));(focus (have h1:=g.size;first|omega|(simp at h1⊢;done)|(simp at h1⊢;omega)|(have l:W0.drew.heap.size=W0.heap.size:=rfl;simp[World.drew] at h1⊢;omega))))
     |(refine dT (Y:=(W0.alloc (.cells zs 3))) (s.out _ _ rfl) ?_ ?_ m ?_ ?_;(focus (first|rfl|(simp;done)));(focus ((repeat(first|exact aq _ _|apply ao|apply bZ|refine aZ ?_ g));done));(focus (have h1:=g.size;first|omega|(simp at h1⊢;done)|(simp at h1⊢;omega)|(have l:W0.drew.heap.size=W0.heap.size:=rfl;simp[World.drew] at h1⊢;omega)));(focus (have h1:=g.size;first|omega|(simp at h1⊢;done)|(simp at h1⊢;omega)|(have l:W0.drew.heap.size=W0.heap.size:=rfl;simp[World.drew] at h1⊢;omega))))
     |fail
  ·refine⟨rfl,?KC,?Km,?La,?KD,?Ka,?KN,?Kz,?JS,?JX,?Kt,?Kw,?J9,?JK,?KH,?Lc,?Kx,?eq_1,?I7,?IX,?Jb,?Jd,by(go_split_ands;assumption),by(go_split_ands;assumption)⟩
   case eq_1=>rfl
   case IX=>(refine mA ?_;first|rfl|(simp;done))
   case I7=>(have h1:=g.size;first|omega|(simp at h1⊢;done)|(simp at h1⊢;omega)|(have l:W0.drew.heap.size=W0.heap.size:=rfl;simp[World.drew] at h1⊢;omega))
   case Jb=>
    refine mB m ?_ ?_ ?_
    ·(have h1:=g.size;first|omega|(simp at h1⊢;done)|(simp at h1⊢;omega)|(have l:W0.drew.heap.size=W0.heap.size:=rfl;simp[World.drew] at h1⊢;omega))
    ·(first|exact fun h=>h|exact fun h=>Kd.aR h _|exact fun h=>Kd.aR (Kd.aR h _) _|exact fun h=>Kd.aR (Kd.aR (Kd.aR h _) _) _)
    ·(have h1:=g.size;first|omega|(simp at h1⊢;done)|(simp at h1⊢;omega)|(have l:W0.drew.heap.size=W0.heap.size:=rfl;simp[World.drew] at h1⊢;omega))
   case Jd=>
    first
     |(refine dT (Y:=w1) (s.out _ _ rfl) ?_ ?_ m ?_ ?_;(focus (first|rfl|(simp;done)));(focus ((repeat(first|exact aq _ _|apply ao|apply bZ|refine aZ ?_ g));done));(focus (have h1:=g.size;first|omega|(simp at h1⊢;done)|(simp at h1⊢;omega)|(have l:W0.drew.heap.size=W0.heap.size:=rfl;simp[World.drew] at h1⊢;omega)));(focus (have h1:=g.size;first|omega|(simp at h1⊢;done)|(simp at h1⊢;omega)|(have l:W0.drew.heap.size=W0.heap.size:=rfl;simp[World.drew] at h1⊢;omega))))
     |(refine dT (Y:=(w1.alloc (.cells zs 3))) (s.out _ _ rfl) ?_ ?_ m ?_ ?_;(focus (first|rfl|(simp;done)));(focus ((repeat(first|exact aq _ _|apply ao|apply bZ|refine aZ ?_ g));done));(focus (have h1:=g.size;first|omega|(simp at h1⊢;done)|(simp at h1⊢;omega)|(have l:W0.drew.heap.size=W0.heap.size:=rfl;simp[World.drew] at h1⊢;omega)));(focus (have h1:=g.size;first|omega|(simp at h1⊢;done)|(simp at h1⊢;omega)|(have l:W0.drew.heap.size=W0.heap.size:=rfl;simp[World.drew] at h1⊢;omega))))
     |(refine dT (Y:=W0) (s.out _ _ rfl) ?_ ?_ m ?_ ?_;(focus (first|rfl|(simp;done)));(focus ((repeat(first|exact aq _ _|apply ao|apply bZ|refine aZ ?_ g));done));(focus (have h1:=g.size;first|omega|(simp at h1⊢;done)|(simp at h1⊢;omega)|(have l:W0.drew.heap.size=W0.heap.size:=rfl;simp[World.drew] at h1⊢;omega)));(focus (have h1:=g.size;first|omega|(simp at h1⊢;done)|(simp at h1⊢;omega)|(have l:W0.drew.heap.size=W0.heap.size:=rfl;simp[World.drew] at h1⊢;omega))))
     |(refine dT (Y:=(W0.alloc (.cells zs 3))) (s.out _ _ rfl) ?_ ?_ m ?_ ?_;(focus (first|rfl|(simp;done)));(focus ((repeat(first|exact aq _ _|apply ao|apply bZ|refine aZ ?_ g));done));(focus (have h1:=g.size;first|omega|(simp at h1⊢;done)|(simp at h1⊢;omega)|(have l:W0.drew.heap.size=W0.heap.size:=rfl;simp[World.drew] at h1⊢;omega)));(focus (have h1:=g.size;first|omega|(simp at h1⊢;done)|(simp at h1⊢;omega)|(have l:W0.drew.heap.size=W0.heap.size:=rfl;simp[World.drew] at h1⊢;omega))))
     |fail
  ·refine⟨rfl,?KI,?JN,?K6,?KR,?Ku,?JL,?JU,?KS,?KF,?K_,?K7,?KQ,?K9,?J8,?JH,?JI,?eq_2,?IV,?IZ,?IQ,?IW,by(go_split_ands;assumption),by(go_split_ands;assumption)⟩
   case eq_2=>rfl
   case IZ=>(refine mA ?_;first|rfl|(simp;done))
   case IV=>(have h1:=g.size;first|omega|(simp at h1⊢;done)|(simp at h1⊢;omega)|(have l:W0.drew.heap.size=W0.heap.size:=rfl;simp[World.drew] at h1⊢;omega))
   case IQ=>
    refine mB m ?_ ?_ ?_
    ·(have h1:=g.size;first|omega|(simp at h1⊢;done)|(simp at h1⊢;omega)|(have l:W0.drew.heap.size=W0.heap.size:=rfl;simp[World.drew] at h1⊢;omega))
    ·(first|exact fun h=>h|exact fun h=>Kd.aR h _|exact fun h=>Kd.aR (Kd.aR h _) _|exact fun h=>Kd.aR (Kd.aR (Kd.aR h _) _) _)
    ·(have h1:=g.size;first|omega|(simp at h1⊢;done)|(simp at h1⊢;omega)|(have l:W0.drew.heap.size=W0.heap.size:=rfl;simp[World.drew] at h1⊢;omega))
   case IW=>
    first
     |(refine dT (Y:=w1) (s.out _ _ rfl) ?_ ?_ m ?_ ?_;(focus (first|rfl|(simp;done)));(focus ((repeat(first|exact aq _ _|apply ao|apply bZ|refine aZ ?_ g));done));(focus (have h1:=g.size;first|omega|(simp at h1⊢;done)|(simp at h1⊢;omega)|(have l:W0.drew.heap.size=W0.heap.size:=rfl;simp[World.drew] at h1⊢;omega)));(focus (have h1:=g.size;first|omega|(simp at h1⊢;done)|(simp at h1⊢;omega)|(have l:W0.drew.heap.size=W0.heap.size:=rfl;simp[World.drew] at h1⊢;omega))))
     |(refine dT (Y:=(w1.alloc (.cells zs 3))) (s.out _ _ rfl) ?_ ?_ m ?_ ?_;(focus (first|rfl|(simp;done)));(focus ((repeat(first|exact aq _ _|apply ao|apply bZ|refine aZ ?_ g));done));(focus (have h1:=g.size;first|omega|(simp at h1⊢;done)|(simp at h1⊢;omega)|(have l:W0.drew.heap.size=W0.heap.size:=rfl;simp[World.drew] at h1⊢;omega)));(focus (have h1:=g.size;first|omega|(simp at h1⊢;done)|(simp at h1⊢;omega)|(have l:W0.drew.heap.size=W0.heap.size:=rfl;simp[World.drew] at h1⊢;omega))))
     |(refine dT (Y:=W0) (s.out _ _ rfl) ?_ ?_ m ?_ ?_;(focus (first|rfl|(simp;done)));(focus ((repeat(first|exact aq _ _|apply ao|apply bZ|refine aZ ?_ g));done));(focus (have h1:=g.size;first|omega|(simp at h1⊢;done)|(simp at h1⊢;omega)|(have l:W0.drew.heap.size=W0.heap.size:=rfl;simp[World.drew] at h1⊢;omega)));(focus (have h1:=g.size;first|omega|(simp at h1⊢;done)|(simp at h1⊢;omega)|(have l:W0.drew.heap.size=W0.heap.size:=rfl;simp[World.drew] at h1⊢;omega))))
     |(refine dT (Y:=(W0.alloc (.cells zs 3))) (s.out _ _ rfl) ?_ ?_ m ?_ ?_;(focus (first|rfl|(simp;done)));(focus ((repeat(first|exact aq _ _|apply ao|apply bZ|refine aZ ?_ g));done));(focus (have h1:=g.size;first|omega|(simp at h1⊢;done)|(simp at h1⊢;omega)|(have l:W0.drew.heap.size=W0.heap.size:=rfl;simp[World.drew] at h1⊢;omega)));(focus (have h1:=g.size;first|omega|(simp at h1⊢;done)|(simp at h1⊢;omega)|(have l:W0.drew.heap.size=W0.heap.size:=rfl;simp[World.drew] at h1⊢;omega))))
     |fail
  ·refine⟨rfl,?JY,?Kl,?KT,?JZ,?Kg,?J7,?KU,?Ki,?Lj,?Kn,?KB,?Le,?KY,?J0,?JO,?Lk,?eq_3,?Je,?IS,?I0,?I8,by(go_split_ands;assumption),by(go_split_ands;assumption)⟩
   case eq_3=>rfl
   case IS=>(refine mA ?_;first|rfl|(simp;done))
   case Je=>(have h1:=g.size;first|omega|(simp at h1⊢;done)|(simp at h1⊢;omega)|(have l:W0.drew.heap.size=W0.heap.size:=rfl;simp[World.drew] at h1⊢;omega))
   case I0=>
    refine mB m ?_ ?_ ?_
    ·(have h1:=g.size;first|omega|(simp at h1⊢;done)|(simp at h1⊢;omega)|(have l:W0.drew.heap.size=W0.heap.size:=rfl;simp[World.drew] at h1⊢;omega))
    ·(first|exact fun h=>h|exact fun h=>Kd.aR h _|exact fun h=>Kd.aR (Kd.aR h _) _|exact fun h=>Kd.aR (Kd.aR (Kd.aR h _) _) _)
    ·(have h1:=g.size;first|omega|(simp at h1⊢;done)|(simp at h1⊢;omega)|(have l:W0.drew.heap.size=W0.heap.size:=rfl;simp[World.drew] at h1⊢;omega))
   case I8=>
    first
     |(refine dT (Y:=w1) (s.out _ _ rfl) ?_ ?_ m ?_ ?_;(focus (first|rfl|(simp;done)));(focus ((repeat(first|exact aq _ _|apply ao|apply bZ|refine aZ ?_ g));done));(focus (have h1:=g.size;first|omega|(simp at h1⊢;done)|(simp at h1⊢;omega)|(have l:W0.drew.heap.size=W0.heap.size:=rfl;simp[World.drew] at h1⊢;omega)));(focus (have h1:=g.size;first|omega|(simp at h1⊢;done)|(simp at h1⊢;omega)|(have l:W0.drew.heap.size=W0.heap.size:=rfl;simp[World.drew] at h1⊢;omega))))
     |(refine dT (Y:=(w1.alloc (.cells zs 3))) (s.out _ _ rfl) ?_ ?_ m ?_ ?_;(focus (first|rfl|(simp;done)));(focus ((repeat(first|exact aq _ _|apply ao|apply bZ|refine aZ ?_ g));done));(focus (have h1:=g.size;first|omega|(simp at h1⊢;done)|(simp at h1⊢;omega)|(have l:W0.drew.heap.size=W0.heap.size:=rfl;simp[World.drew] at h1⊢;omega)));(focus (have h1:=g.size;first|omega|(simp at h1⊢;done)|(simp at h1⊢;omega)|(have l:W0.drew.heap.size=W0.heap.size:=rfl;simp[World.drew] at h1⊢;omega))))
     |(refine dT (Y:=W0) (s.out _ _ rfl) ?_ ?_ m ?_ ?_;(focus (first|rfl|(simp;done)));(focus ((repeat(first|exact aq _ _|apply ao|apply bZ|refine aZ ?_ g));done));(focus (have h1:=g.size;first|omega|(simp at h1⊢;done)|(simp at h1⊢;omega)|(have l:W0.drew.heap.size=W0.heap.size:=rfl;simp[World.drew] at h1⊢;omega)));(focus (have h1:=g.size;first|omega|(simp at h1⊢;done)|(simp at h1⊢;omega)|(have l:W0.drew.heap.size=W0.heap.size:=rfl;simp[World.drew] at h1⊢;omega))))
     |(refine dT (Y:=(W0.alloc (.cells zs 3))) (s.out _ _ rfl) ?_ ?_ m ?_ ?_;(focus (first|rfl|(simp;done)));(focus ((repeat(first|exact aq _ _|apply ao|apply bZ|refine aZ ?_ g));done));(focus (have h1:=g.size;first|omega|(simp at h1⊢;done)|(simp at h1⊢;omega)|(have l:W0.drew.heap.size=W0.heap.size:=rfl;simp[World.drew] at h1⊢;omega)));(focus (have h1:=g.size;first|omega|(simp at h1⊢;done)|(simp at h1⊢;omega)|(have l:W0.drew.heap.size=W0.heap.size:=rfl;simp[World.drew] at h1⊢;omega))))
     |fail
  ·refine⟨rfl,?Ld,?JP,?KX,?K8,?JJ,?KW,?Lf,?KE,?JR,?KK,?Li,?JV,?Kq,?KA,?KO,?KZ,?eq_4,?IP,?I',?IN,?IU,by(go_split_ands;assumption),by(go_split_ands;assumption)⟩
   case eq_4=>rfl
   case I'=>(refine mA ?_;first|rfl|(simp;done))
   case IP=>(have h1:=g.size;first|omega|(simp at h1⊢;done)|(simp at h1⊢;omega)|(have l:W0.drew.heap.size=W0.heap.size:=rfl;simp[World.drew] at h1⊢;omega))
   case IN=>
    refine mB m ?_ ?_ ?_
    ·(have h1:=g.size;first|omega|(simp at h1⊢;done)|(simp at h1⊢;omega)|(have l:W0.drew.heap.size=W0.heap.size:=rfl;simp[World.drew] at h1⊢;omega))
    ·(first|exact fun h=>h|exact fun h=>Kd.aR h _|exact fun h=>Kd.aR (Kd.aR h _) _|exact fun h=>Kd.aR (Kd.aR (Kd.aR h _) _) _)
    ·(have h1:=g.size;first|omega|(simp at h1⊢;done)|(simp at h1⊢;omega)|(have l:W0.drew.heap.size=W0.heap.size:=rfl;simp[World.drew] at h1⊢;omega))
   case IU=>
    first
     |(refine dT (Y:=w1) (s.out _ _ rfl) ?_ ?_ m ?_ ?_;(focus (first|rfl|(simp;done)));(focus ((repeat(first|exact aq _ _|apply ao|apply bZ|refine aZ ?_ g));done));(focus (have h1:=g.size;first|omega|(simp at h1⊢;done)|(simp at h1⊢;omega)|(have l:W0.drew.heap.size=W0.heap.size:=rfl;simp[World.drew] at h1⊢;omega)));(focus (have h1:=g.size;first|omega|(simp at h1⊢;done)|(simp at h1⊢;omega)|(have l:W0.drew.heap.size=W0.heap.size:=rfl;simp[World.drew] at h1⊢;omega))))
     |(refine dT (Y:=(w1.alloc (.cells zs 3))) (s.out _ _ rfl) ?_ ?_ m ?_ ?_;(focus (first|rfl|(simp;done)));(focus ((repeat(first|exact aq _ _|apply ao|apply bZ|refine aZ ?_ g));done));(focus (have h1:=g.size;first|omega|(simp at h1⊢;done)|(simp at h1⊢;omega)|(have l:W0.drew.heap.size=W0.heap.size:=rfl;simp[World.drew] at h1⊢;omega)));(focus (have h1:=g.size;first|omega|(simp at h1⊢;done)|(simp at h1⊢;omega)|(have l:W0.drew.heap.size=W0.heap.size:=rfl;simp[World.drew] at h1⊢;omega))))
     |(refine dT (Y:=W0) (s.out _ _ rfl) ?_ ?_ m ?_ ?_;(focus (first|rfl|(simp;done)));(focus ((repeat(first|exact aq _ _|apply ao|apply bZ|refine aZ ?_ g));done));(focus (have h1:=g.size;first|omega|(simp at h1⊢;done)|(simp at h1⊢;omega)|(have l:W0.drew.heap.size=W0.heap.size:=rfl;simp[World.drew] at h1⊢;omega)));(focus (have h1:=g.size;first|omega|(simp at h1⊢;done)|(simp at h1⊢;omega)|(have l:W0.drew.heap.size=W0.heap.size:=rfl;simp[World.drew] at h1⊢;omega))))
     |(refine dT (Y:=(W0.alloc (.cells zs 3))) (s.out _ _ rfl) ?_ ?_ m ?_ ?_;(focus (first|rfl|(simp;done)));(focus ((repeat(first|exact aq _ _|apply ao|apply bZ|refine aZ ?_ g));done));(focus (have h1:=g.size;first|omega|(simp at h1⊢;done)|(simp at h1⊢;omega)|(have l:W0.drew.heap.size=W0.heap.size:=rfl;simp[World.drew] at h1⊢;omega)));(focus (have h1:=g.size;first|omega|(simp at h1⊢;done)|(simp at h1⊢;omega)|(have l:W0.drew.heap.size=W0.heap.size:=rfl;simp[World.drew] at h1⊢;omega))))
     |fail
  ·refine⟨rfl,?KJ,?KV,?K0,?Kb,?Kh,?Kj,?JW,?Ko,?Kv,?Ke,?JG,?Ll,?Lh,?Kk,?JQ,?K5,?eq_5,?I_,?Jc,?IL,?IT,by(go_split_ands;assumption),by(go_split_ands;assumption)⟩
   case eq_5=>rfl
   case Jc=>(refine mA ?_;first|rfl|(simp;done))
   case I_=>(have h1:=g.size;first|omega|(simp at h1⊢;done)|(simp at h1⊢;omega)|(have l:W0.drew.heap.size=W0.heap.size:=rfl;simp[World.drew] at h1⊢;omega))
   case IL=>
    refine mB m ?_ ?_ ?_
    ·(have h1:=g.size;first|omega|(simp at h1⊢;done)|(simp at h1⊢;omega)|(have l:W0.drew.heap.size=W0.heap.size:=rfl;simp[World.drew] at h1⊢;omega))
    ·(first|exact fun h=>h|exact fun h=>Kd.aR h _|exact fun h=>Kd.aR (Kd.aR h _) _|exact fun h=>Kd.aR (Kd.aR (Kd.aR h _) _) _)
    ·(have h1:=g.size;first|omega|(simp at h1⊢;done)|(simp at h1⊢;omega)|(have l:W0.drew.heap.size=W0.heap.size:=rfl;simp[World.drew] at h1⊢;omega))
   case IT=>
    first
     |(refine dT (Y:=w1) (s.out _ _ rfl) ?_ ?_ m ?_ ?_;(focus (first|rfl|(simp;done)));(focus ((repeat(first|exact aq _ _|apply ao|apply bZ|refine aZ ?_ g));done));(focus (have h1:=g.size;first|omega|(simp at h1⊢;done)|(simp at h1⊢;omega)|(have l:W0.drew.heap.size=W0.heap.size:=rfl;simp[World.drew] at h1⊢;omega)));(focus (have h1:=g.size;first|omega|(simp at h1⊢;done)|(simp at h1⊢;omega)|(have l:W0.drew.heap.size=W0.heap.size:=rfl;simp[World.drew] at h1⊢;omega))))
     |(refine dT (Y:=(w1.alloc (.cells zs 3))) (s.out _ _ rfl) ?_ ?_ m ?_ ?_;(focus (first|rfl|(simp;done)));(focus ((repeat(first|exact aq _ _|apply ao|apply bZ|refine aZ ?_ g));done));(focus (have h1:=g.size;first|omega|(simp at h1⊢;done)|(simp at h1⊢;omega)|(have l:W0.drew.heap.size=W0.heap.size:=rfl;simp[World.drew] at h1⊢;omega)));(focus (have h1:=g.size;first|omega|(simp at h1⊢;done)|(simp at h1⊢;omega)|(have l:W0.drew.heap.size=W0.heap.size:=rfl;simp[World.drew] at h1⊢;omega))))
     |(refine dT (Y:=W0) (s.out _ _ rfl) ?_ ?_ m ?_ ?_;(focus (first|rfl|(simp;done)));(focus ((repeat(first|exact aq _ _|apply ao|apply bZ|refine aZ ?_ g));done));(focus (have h1:=g.size;first|omega|(simp at h1⊢;done)|(simp at h1⊢;omega)|(have l:W0.drew.heap.size=W0.heap.size:=rfl;simp[World.drew] at h1⊢;omega)));(focus (have h1:=g.size;first|omega|(simp at h1⊢;done)|(simp at h1⊢;omega)|(have l:W0.drew.heap.size=W0.heap.size:=rfl;simp[World.drew] at h1⊢;omega))))
     |(refine dT (Y:=(W0.alloc (.cells zs 3))) (s.out _ _ rfl) ?_ ?_ m ?_ ?_;(focus (first|rfl|(simp;done)));(focus ((repeat(first|exact aq _ _|apply ao|apply bZ|refine aZ ?_ g));done));(focus (have h1:=g.size;first|omega|(simp at h1⊢;done)|(simp at h1⊢;omega)|(have l:W0.drew.heap.size=W0.heap.size:=rfl;simp[World.drew] at h1⊢;omega)));(focus (have h1:=g.size;first|omega|(simp at h1⊢;done)|(simp at h1⊢;omega)|(have l:W0.drew.heap.size=W0.heap.size:=rfl;simp[World.drew] at h1⊢;omega))))
     |fail
theorem lq {k:Nat} {N:Int} {E:List S83} {q:Int} (h:dn.f k N E q=some 0):bh.f k N E=some 0/\(0<=N/\N<=12)/\b8 (aK E) N.toNat=1/\0<=q/\q<N:=by
 unfold dn.f cB.f at h;simp only[Option.bind_assoc] at h;obtain⟨t,e,h⟩:=Option.bind_eq_some_iff.1 h;by_cases a:t=0
 ·subst a
  rw[if_pos rfl] at h;by_cases hk:kx N E=true
  ·rw[if_pos hk] at h
   simp only[Option.bind_some,if_pos] at h;simp only[kx,Bool.and_eq_true,decide_eq_true_eq] at hk;refine⟨e,hk.1,?_⟩;by_cases b:b8 (aK E) N.toNat=1
   ·simp only[b,decide_true,if_true] at h
    by_cases h1:q<0
    ·rw[if_pos h1] at h;exact absurd (aH h) (by decide)
    ·rw[if_neg h1] at h
     by_cases g:q>=N
     ·rw[if_pos g] at h;exact absurd (aH h) (by decide)
     ·exact⟨b,by omega,by omega⟩
   ·simp[b] at h
  ·rw[if_neg hk] at h;cases h
 ·rw[if_neg a] at h
  simp[a] at h
def lr (N:Int) (E:List S83):Bool:=eZ E&&iR N E
def iB (a:Nat->Nat):Nat->List Int->List (List Int)
 |0,p=>[p]
 |k+1,p=>(List.range (a p.length+1)).flatMap fun (x:Nat)=>iB a k (p++[(x:Int)])
def dw (q B:Nat) (calm:List Int->Bool):Nat->List Int->List (List Int)
 |0,p=>[p]
 |k+1,p=>if p.length=q then dw q B calm k (p++[0]) else((List.range B).takeWhile fun (x:Nat)=>calm (p++(x:Int)::List.replicate k 0)).flatMap fun (x:Nat)=>dw q B calm k (p++[(x:Int)])
def dJ:List Int->List Int->Prop
 |[],[]=>True
 |x::a,y::b=>x<=y/\dJ a b
 |_,_=>False
theorem dJ.refl:∀l,dJ l l
 |[]=>trivial
 |x::l=>⟨Int.le_refl x,dJ.refl l⟩
theorem dJ.append {a b c d:List Int} (h:dJ a b) (e:dJ c d):dJ (a++c) (b++d):=by
 induction a generalizing b with
 |nil=>cases b with|nil=>exact e|cons=>exact h.elim
 |cons x a g=>cases b with|nil=>exact h.elim|cons y b=>exact⟨h.1,g h.2⟩
theorem dJ.trans {a b c:List Int} (h:dJ a b) (e:dJ b c):dJ a c:=by
 induction a generalizing b c with
 |nil=>cases b with|nil=>exact e|cons=>exact h.elim
 |cons x a g=>cases b with
  |nil=>exact h.elim
  |cons y b=>cases c with|nil=>exact e.elim|cons z c=>exact⟨Int.le_trans h.1 e.1,g h.2 e.2⟩
theorem dJ.length {a b:List Int} (h:dJ a b):a.length=b.length:=by
 induction a generalizing b with
 |nil=>cases b with|nil=>rfl|cons=>exact h.elim
 |cons x a e=>cases b with|nil=>exact h.elim|cons y b=>simp[e h.2]
theorem C2 (a:Nat->Nat):∀(k:Nat) (p l:List Int),l∈iB a k p->dJ (p++List.replicate k 0) l:=by
 intro k;induction k with
 |zero=>intro p l h;simp[iB] at h;subst h;simpa using dJ.refl l
 |succ k b=>
  intro p l h;simp only[iB,List.mem_flatMap] at h;obtain⟨x,g,e⟩:=h;refine dJ.trans ?_ (b _ _ e);rw[List.replicate_succ,List.append_assoc];exact(dJ.refl p).append ⟨by omega,dJ.refl _⟩
theorem range_split {B m:Nat} (h:m<=B):List.range B=List.range m++(List.range (B-m)).map (m+ ·):=by
 conv=>lhs;rw[show B=m+(B-m) by omega,List.range_add]
theorem C3 {α:Type} (P:Nat->Bool) (F:Nat->List α) (g:∀x y,y<=x->P x=true->P y=true):∀(B:Nat),((List.range B).takeWhile P).flatMap F=(List.range B).flatMap fun x=>if P x then F x else[]:=by
 intro B;induction B with
 |zero=>rfl
 |succ B i=>
  rw[List.range_succ,List.flatMap_append,<-i];by_cases h:∀x∈List.range B,P x=true
  ·rw[List.takeWhile_append_of_pos h,List.flatMap_append]
   have j:(List.range B).takeWhile P=List.range B:=by
    have:=List.takeWhile_append_of_pos (l₂:=[]) h;simpa using this
   rw[j];congr 1
   cases a:P B<;>simp[a]
  ·have a:P B=false:=by
    cases a:P B with
    |false=>rfl
    |true=>exact absurd (fun x b=>g B x (by have:=List.mem_range.1 b;omega) a) h
   rw[List.takeWhile_append,if_neg ?_]
   ·simp[a]
   ·intro e
    refine h fun x b=>?_
    have k:(List.range B).takeWhile P=List.range B:=(List.takeWhile_prefix P).eq_of_length e;rw[<-k] at b;exact List.all_eq_true.1 (List.all_takeWhile) x b
theorem C4 {α:Type} (P:Nat->Bool) (F:Nat->List α) (M B:Nat) (a:M<=B) (b:∀x,P x=true->x<M):((List.range B).flatMap fun x=>if P x then F x else[])=(List.range M).flatMap fun x=>if P x then F x else[]:=by
 rw[range_split a,List.flatMap_append];rw[show ((List.range (B-M)).map (M+ ·)).flatMap (fun x=>if P x then F x else[])=[] from ?_]
 ·simp
 ·rw[List.flatMap_eq_nil_iff]
  intro x e;obtain⟨y,_,rfl⟩:=List.mem_map.1 e;cases h:P (M+y) with
  |false=>simp
  |true=>have:=b _ h;omega
theorem C5 (q B:Nat) (calm:List Int->Bool) (g:Nat->Nat) (n:Nat) (j:∀a b,a.length=n->dJ a b->calm b=true->calm a=true) (u:∀l v,l.length=n->v<n->v≠q->calm l=true->rd l v<=(g v:Int)) (w:g q=0) (z:∀v,v<n->g v+1<=B):
  ∀(k:Nat) (p:List Int),p.length+k=n->(calm (p++List.replicate k 0)=true\/∃v,p.length<=v/\v<n/\v≠q)->dw q B calm k p=(iB g k p).filter calm:=by
 intro k;induction k with
 |zero=>
  rintro p hp (h|⟨v,h1,m,_⟩)
  ·simp at h;simp[dw,iB,h]
  ·omega
 |succ k o=>
  intro p hp h;have H:(p++[(0:Int)]).length=p.length+1:=by simp
  by_cases e:p.length=q
  ·rw[dw,if_pos e,iB,e,w]
   simp only[Nat.zero_add,List.range_one,List.flatMap_cons,List.flatMap_nil,List.append_nil,Int.natCast_zero,Int.ofNat_zero];refine o (p++[0]) (by simp;omega) ?_;rcases h with h|⟨v,h1,m,C⟩
   ·left;rw[List.append_assoc];simpa [List.replicate_succ] using h
   ·right;exact⟨v,by simp;omega,m,C⟩
  ·rw[dw,if_neg e,iB,List.filter_flatMap]
   have D:∀x y:Nat,y<=x->calm (p++(x:Int)::List.replicate k 0)=true->calm (p++(y:Int)::List.replicate k 0)=true:=fun x y I i=>j _ _ (by simp;omega) ((dJ.refl p).append (show dJ ((y:Int)::List.replicate k 0) ((x:Int)::List.replicate k 0) from⟨by omega,dJ.refl _⟩)) i
   rw[C3 (fun x:Nat=>calm (p++(x:Int)::List.replicate k 0)) _ D];rw[C4 (fun x:Nat=>calm (p++(x:Int)::List.replicate k 0)) _ (g p.length+1) B (z _ (by omega)) (fun x i=>by
    have:=u _ p.length (by simp;omega) (by omega) e i;have E:rd (p++(x:Int)::List.replicate k 0) p.length=x:=by simp[rd,a7]
    rw[E] at this;omega)]
   congr 1
   funext x
   have r:(p++[(x:Int)])++List.replicate k 0=p++(x:Int)::List.replicate k 0:=by simp
   cases s:calm (p++(x:Int)::List.replicate k 0) with
   |true=>
    rw[if_pos rfl];exact o _ (by simp;omega) (.inl (by rw[r];exact s))
   |false=>
    rw[if_neg (by simp)];symm
    rw[List.filter_eq_nil_iff];intro l F;have h1:=C2 g k _ l F;rw[r] at h1;cases G:calm l with
    |false=>simp
    |true=>have:=j _ _ (by simp;omega) h1 G;rw[s] at this;cases this
def lu (a:Nat->Nat) (v:Nat) (L:List (List Int)):List (List Int):=L.flatMap fun p=>(List.range (a v+1)).map fun (x:Nat)=>p++[(x:Int)]
def et (a:Nat->Nat):Nat->List (List Int)
 |0=>[[]]
 |v+1=>lu a v (et a v)
theorem oZ (a:Nat->Nat):∀(v:Nat) (l:List Int),l∈et a v->l.length=v
 |0,l,h=>by simp[et] at h;subst h;rfl
 |v+1,l,h=>by
  simp only[et,lu,List.mem_flatMap,List.mem_map] at h;obtain⟨p,hp,x,_,rfl⟩:=h;simp[oZ a v p hp]
theorem vq {α β:Type} {f g:α->List β}:∀(l:List α),(∀x∈l,f x=g x)->l.flatMap f=l.flatMap g
 |[],_=>rfl
 |x::l,h=>by simp only[List.flatMap_cons];rw[h x (by simp),vq l (fun y a=>h y (by simp[a]))]
theorem C6 (a:Nat->Nat) (k:Nat):∀v,(et a v).flatMap (iB a k)=et a (v+k):=by
 induction k with
 |zero=>intro v;simp only[Nat.add_zero];rw[show iB a 0=fun p=>[p] from rfl];simp
 |succ k b=>
  intro v;rw[show v+(k+1)=(v+1)+k by omega,<-b (v+1),et,lu,List.flatMap_assoc];refine vq _ fun p hp=>?_
  rw[iB,oZ a v p hp,List.flatMap_map]
theorem C7 (a:Nat->Nat) (n:Nat):et a n=iB a n []:=by
 have h:=C6 a n 0;simpa [et] using h.symm
def fZ.f (k:Nat) (b:Int) (e:List (S83)) (g:Int) (l2:List Int):Option (Bool×Int):=(iA.f k b e g l2).bind fun a=>(if a.2.2=0 then(some (((a.2.1.length:Int)==0),a.2.2)) else(some (false,a.2.2)))
theorem fZ.mono:∀a0 a a2 a3 k,al (fZ.f k a0 a a2 a3) (fZ.f (k+1) a0 a a2 a3):=by
 intro a0 a a2 a3 k;unfold fZ.f;with_reducible repeat' first|exact iA.mono _ _ _ _ _|exact al.refl _|exact al.none _|refine al.ite ?_ ?_|refine al.bind ?_ (fun _=>?_)
theorem fZ.calls (k:Nat) (g:Int) (l:Option Addr) (m:Nat) (b:List (S83)) (n:Int) (s:Option Addr) (c2:Nat) (l2:List Int) (v:Bool) (x:Int) (w:World) (y:Kd.C aN w l b.length b) (z:b.length<=m) (B:Kd.C (Kd.int .i64) w s l2.length l2) (D:l2.length<=c2) (h:fZ.f k g b n l2=some (v,x)):
  Calls Tryz.prog 201 #[.agg #[.int .i64 g,.slice l b.length m],.int .i64 n,.slice s l2.length c2] w fun e w'=>e= .returned (.tuple #[.bool v,.int .i64 x])/\Below w.heap.size w w':=by
 have X:=Tryz.underlying24;have E:=zA y;have F:=zA z;clear y z;have G:=zA B;have I:=zA D;clear B D;have a:=zA (aq w.heap.size w);unfold fZ.f at h;have H:=h;clear h;obtain⟨⟨J,K,u⟩,L,H⟩:=zo H;dsimp only at H;by_cases o:u=0
 ·rw[if_pos o] at H
  obtain⟨O,P⟩:=bH o;clear o;simp only[Option.some.injEq,Prod.mk.injEq] at H;obtain⟨rfl,rfl⟩:=H;go_enter Tryz.func201,Tryz.ntmps201
  go_wp2_with (first|((with_reducible refine aJ (N:=3) rfl ?_);(try(refine dP (by rfl) ?_;dsimp only));refine zX 3 #[.int .i64 g,.slice l b.length m] 24 ?_;intro Q i Y p hb;have j:=zA (p);have R:=zG a i;have S:=zG a i;replace a:=zS a hb;clear hb p i;obtain⟨Z,aa,ab,ad⟩:=ax j)|((with_reducible refine aG (f:=213) rfl ?_);refine zL (some 15) Tryz.func213 #[.agg #[.int .i64 g,.slice l b.length m],.int .i64 n,.slice s l2.length c2] ?_;(with_reducible refine(iA.calls k g _ _ b n _ _ l2 J K u _ ?ah ?ai ?aW ?aX L.out).mono ?_);(case ah=>exact Kd.aw E.out zB);(case ai=>exact F.out);(case aW=>exact Kd.aw G.out zB);(case aX=>exact I.out);rintro e w8 ⟨T,U,rfl,q,r,hb⟩;refine⟨_,rfl,?_⟩;have V:=zA (Kd.bj q (bu zB));have M:=zA (Kd.bj r (bu zB));replace j:=zb j hb;replace a:=zS a hb;(try clear hb);(try clear q);(try clear r);obtain⟨ak,am,W⟩:=Kd.bm M.out;subst W))
  go_ret2;exact⟨zE,zB⟩
 ·rw[if_neg o] at H
  obtain⟨O,P⟩:=bI o;simp only[Option.some.injEq,Prod.mk.injEq] at H;obtain⟨rfl,rfl⟩:=H;go_enter Tryz.func201,Tryz.ntmps201
  go_wp2_with (first|((with_reducible refine aJ (N:=3) rfl ?_);(try(refine dP (by rfl) ?_;dsimp only));refine zX 3 #[.int .i64 g,.slice l b.length m] 24 ?_;intro Q i an p hb;have j:=zA (p);have R:=zG a i;have S:=zG a i;replace a:=zS a hb;clear hb p i;obtain⟨ap,ar,av,aB⟩:=ax j)|((with_reducible refine aG (f:=213) rfl ?_);refine zL (some 15) Tryz.func213 #[.agg #[.int .i64 g,.slice l b.length m],.int .i64 n,.slice s l2.length c2] ?_;(with_reducible refine(iA.calls k g _ _ b n _ _ l2 J K u _ ?ah ?ai ?aW ?aX L.out).mono ?_);(case ah=>exact Kd.aw E.out zB);(case ai=>exact F.out);(case aW=>exact Kd.aw G.out zB);(case aX=>exact I.out);rintro e aF ⟨T,U,rfl,q,r,hb⟩;refine⟨_,rfl,?_⟩;have V:=zA (Kd.bj q (bu zB));have M:=zA (Kd.bj r (bu zB));replace j:=zb j hb;replace a:=zS a hb;(try clear hb);(try clear q);(try clear r)))
  go_ret2;exact⟨zE,zB⟩
def eP.f (k:Nat) (b:Int) (e:List (S83)) (g:Int) (l2:List Int):Option (Bool):=(fZ.f k b e g l2).bind fun a=>(if a.1=true then(some (a.2==0)) else(some false))
theorem eP.mono:∀a0 a a2 a3 k,al (eP.f k a0 a a2 a3) (eP.f (k+1) a0 a a2 a3):=by
 intro a0 a a2 a3 k;unfold eP.f;with_reducible repeat' first|exact fZ.mono _ _ _ _ _|exact al.refl _|exact al.none _|refine al.ite ?_ ?_|refine al.bind ?_ (fun _=>?_)
theorem eP.calls (k:Nat) (g:Int) (l:Option Addr) (m:Nat) (b:List (S83)) (n:Int) (p:Option Addr) (c2:Nat) (l2:List Int) (r:Bool) (w:World) (s:Kd.C aN w l b.length b) (u:b.length<=m) (v:Kd.C (Kd.int .i64) w p l2.length l2) (x:l2.length<=c2) (h:eP.f k g b n l2=some r):
  Calls Tryz.prog 176 #[.agg #[.int .i64 g,.slice l b.length m],.int .i64 n,.slice p l2.length c2] w fun e w'=>e= .returned (.bool r)/\Below w.heap.size w w':=by
 have L:=Tryz.underlying24;have y:=zA s;have z:=zA u;clear s u;have B:=zA v;have D:=zA x;clear v x;have a:=zA (aq w.heap.size w);unfold eP.f at h;have H:=h;clear h;obtain⟨⟨G,E⟩,F,H⟩:=zo H;dsimp only at H;by_cases q:G=true
 ·subst q
  replace H:=zi H;obtain rfl:=aH H;go_enter Tryz.func176,Tryz.ntmps176
  go_wp2_with (first|((with_reducible refine aJ (N:=3) rfl ?_);refine zX 3 #[.int .i64 g,.slice l b.length m] 24 ?_;intro I i M o hb;have j:=zA (o);have J:=zG a i;have K:=zG a i;replace a:=zS a hb;clear hb o i;obtain⟨O,P,Q,R⟩:=ax j)|((with_reducible refine aG (f:=201) rfl ?_);refine zL (some 13) Tryz.func201 #[.agg #[.int .i64 g,.slice l b.length m],.int .i64 n,.slice p l2.length c2] ?_;(with_reducible refine(fZ.calls k g _ _ b n _ _ l2 true E _ ?ah ?ai ?aW ?aX F.out).mono ?_);(case ah=>exact Kd.aw y.out zB);(case ai=>exact z.out);(case aW=>exact Kd.aw B.out zB);(case aX=>exact D.out);rintro e S ⟨rfl,hb⟩;refine⟨_,rfl,?_⟩;replace j:=zb j hb;replace a:=zS a hb;(try clear hb)))
  go_ret;exact⟨zE,zB⟩
 ·replace q:=Bool.eq_false_iff.mpr q
  subst q;replace H:=zj H;obtain rfl:=aH H;go_enter Tryz.func176,Tryz.ntmps176
  go_wp2_with (first|((with_reducible refine aJ (N:=3) rfl ?_);refine zX 3 #[.int .i64 g,.slice l b.length m] 24 ?_;intro I i T o hb;have j:=zA (o);have J:=zG a i;have K:=zG a i;replace a:=zS a hb;clear hb o i;obtain⟨U,V,W,X⟩:=ax j)|((with_reducible refine aG (f:=201) rfl ?_);refine zL (some 13) Tryz.func201 #[.agg #[.int .i64 g,.slice l b.length m],.int .i64 n,.slice p l2.length c2] ?_;(with_reducible refine(fZ.calls k g _ _ b n _ _ l2 false E _ ?ah ?ai ?aW ?aX F.out).mono ?_);(case ah=>exact Kd.aw y.out zB);(case ai=>exact z.out);(case aW=>exact Kd.aw B.out zB);(case aX=>exact D.out);rintro e iE ⟨rfl,hb⟩;refine⟨_,rfl,?_⟩;replace j:=zb j hb;replace a:=zS a hb;(try clear hb)))
  go_ret;exact⟨zE,zB⟩
section
attribute [local go_sem] Oper.semAt_some
def jV {α:Type} (P:Nat->Bool) (F:Nat->List α):Nat->Nat->List α
 |0,_=>[]
 |f+1,x=>if P x then F x++jV P F f (x+1) else[]
theorem vr {α:Type} (P:Nat->Bool) (F:Nat->List α):∀f x,jV P F f x=((List.range' x f).takeWhile P).flatMap F
 |0,x=>by simp[jV]
 |f+1,x=>by
  rw[jV,List.range'_succ,List.takeWhile_cons];cases P x with
  |true=>simp[vr P F f (x+1)]
  |false=>simp
theorem C8 (q B:Nat) (calm:List Int->Bool) (k:Nat) (p:List Int) (h:p.length≠q):dw q B calm (k+1) p=jV (fun (x:Nat)=>calm (p++(x:Int)::List.replicate k 0)) (fun (x:Nat)=>dw q B calm k (p++[(x:Int)])) B 0:=by
 rw[dw,if_neg h,vr,List.range_eq_range']
def i_ (n q:Nat) (c:List Int):Prop:=c.length=n/\(∀i:Nat,0<=rd c i/\rd c i<=1000)/\rd c q=0
structure CS (w0:World) (n:Nat) (A0:Option Addr) (c0:Nat) (E:List S83) (q gx qx s l:Nat) (W:World) (c:List Int):Prop where
 g:W.heap[gx]? =some (.cells #[.int .i64 n,.slice A0 E.length c0] 24 (0,0))
 q:W.heap[qx]? =some (.cells #[.int .i64 q] 3 (0,0))
 y:W.heap[s]? =some (.cells #[.func (.yield l) #[] #[]] 141 (0,0))
 c:(Kd.int .i64).R 3 W w0.heap.size (fun k=>k=s+1) (.slice (some ⟨s+1,0,none⟩) n n) c
 cb:W.heap[s+2]? =some (.cells #[.slice (some ⟨s+1,0,none⟩) n n] 26 (0,0))
 f:W.heap[s+3]? =some (.cells #[.func (.func 200) #[] #[.pointer (some ⟨gx,0,none⟩),.pointer (some ⟨s,0,none⟩),.pointer (some ⟨s+2,0,none⟩),.pointer (some ⟨qx,0,none⟩),.pointer (some ⟨s+3,0,none⟩)]] 121 (0,0))
 below:Below w0.heap.size w0 W
namespace CS
variable {w0:World} {n:Nat} {A0:Option Addr} {c0:Nat} {E:List S83} {q gx qx s l:Nat} {W W':World} {c:List Int}
theorem i' (h:CS w0 n A0 c0 E q gx qx s l W c) (hk:∀k,(k=gx\/k=qx\/s<=k/\k<s+4)->W'.heap[k]? =W.heap[k]?) (hb:Below w0.heap.size w0 W'):CS w0 n A0 c0 E q gx qx s l W' c:=
 ⟨(hk gx (.inl rfl)).trans h.g,(hk qx (.inr (.inl rfl))).trans h.q,(hk s (.inr (.inr ⟨by omega,by omega⟩))).trans h.y,Kd.fB h.c (fun k e=>hk k (.inr (.inr (by subst e;omega)))),(hk (s+2) (.inr (.inr ⟨by omega,by omega⟩))).trans h.cb,(hk (s+3) (.inr (.inr ⟨by omega,by omega⟩))).trans h.f,hb⟩
theorem lt (h:CS w0 n A0 c0 E q gx qx s l W c):s+3<W.heap.size/\gx<W.heap.size/\qx<W.heap.size:=⟨aA h.f,aA h.g,aA h.q⟩
theorem stay (h:CS w0 n A0 c0 E q gx qx s l W c) (hb:Below W.heap.size W W'):CS w0 n A0 c0 E q gx qx s l W' c:=
 h.i' (fun k hk=>hb.block k (by have:=h.lt;rcases hk with rfl|rfl|hk<;>omega)) (h.below.trans (hb.mono h.below.size))
theorem size (h:CS w0 n A0 c0 E q gx qx s l W c):w0.heap.size<=W.heap.size:=h.below.size
end CS
def q_ (s:Nat) (x:List Int×Value) (A B:World):Prop:=A.grownBy B (some (s+1))/\(Kd.int .i64).R 3 B A.heap.size (fun _=>True) x.2 x.1/\s+4<=A.heap.size
def re (w0:World) (gx qx s:Nat) (X Y:World):Prop:=(w0.heap.size<=X.heap.size->Below w0.heap.size X Y)/\∀k,(k=gx\/k=qx\/s<=k/\k<s+4)->k<X.heap.size->Y.heap[k]? =X.heap[k]?
def rf (w0:World) (B n:Nat) (A0:Option Addr) (c0:Nat) (E:List S83) (q gx qx s l:Nat) (calm:List Int->Bool) (J Jx:List (List Int×Value)->World->Prop) (a:Nat) (p:List Int) (pre:List (List Int×Value)) (e:Ending) (W':World):Prop:=
 (∃b,e= .returned (.bool true)/\J (pre++b) W'/\b.map Prod.fst=dw q B calm a p/\CS w0 n A0 c0 E q gx qx s l W' (p++List.replicate a 0))\/(e= .returned (.bool false)/\∃g,Jx g W')
theorem C9 {e:Ending} {A B:Prop} (h:(e= .returned (.bool true)/\A)\/(e= .returned (.bool false)/\B)):∃b:Bool,e= .returned (.bool b)/\Aside0 ((b=true/\A)\/(b=false/\B)):=by
 rcases h with⟨h,a⟩|⟨h,hb⟩
 ·exact⟨true,h,⟨.inl ⟨rfl,a⟩⟩⟩
 ·exact⟨false,h,⟨.inr ⟨rfl,hb⟩⟩⟩
theorem C_ {w0:World} {B n:Nat} {A0:Option Addr} {c0:Nat} {E:List S83} {q gx qx s l:Nat} {calm:List Int->Bool} {J Jx:List (List Int×Value)->World->Prop} {g:Nat} {p:List Int} {pre:List (List Int×Value)} {e:Ending} {W':World} (h:rf w0 B n A0 c0 E q gx qx s l calm J Jx g p pre e W'):
  ∃b:Bool,e= .returned (.bool b)/\Aside0 ((b=true/\∃a,J (pre++a) W'/\a.map Prod.fst=dw q B calm g p/\CS w0 n A0 c0 E q gx qx s l W' (p++List.replicate g 0))\/(b=false/\∃i,Jx i W')):=by
 rcases h with⟨a,h,j⟩|⟨h,hb⟩
 ·exact⟨true,h,⟨.inl ⟨rfl,a,j⟩⟩⟩
 ·exact⟨false,h,⟨.inr ⟨rfl,hb⟩⟩⟩
theorem Da {w0:World} {B n:Nat} {A0:Option Addr} {c0:Nat} {E:List S83} {q gx qx s l:Nat} {calm:List Int->Bool} {J Jx:List (List Int×Value)->World->Prop} (hn:n<=12)
  (m:∀pre x A C,J pre A->q_ s x A C->pre.length<16384->YieldAt Fence.wide 8 Tryz.prog l #[x.2] C fun e W'=>(e= .returned (.bool true)/\J (pre++[x]) W'/\re w0 gx qx s C W')\/(e= .returned (.bool false)/\Jx (pre++[x]) W'))
  (p:List Int) (pre:List (List Int×Value)) (W:World) (hp:p.length=n) (hC:CS w0 n A0 c0 E q gx qx s l W p) (o:J pre W) (hlen:pre.length<16384):
  CallsIn Fence.wide 9 Tryz.prog 200 #[.int .i64 n,.pointer (some ⟨gx,0,none⟩),.pointer (some ⟨s,0,none⟩),.pointer (some ⟨s+2,0,none⟩),.pointer (some ⟨qx,0,none⟩),.pointer (some ⟨s+3,0,none⟩)] W (rf w0 B n A0 c0 E q gx qx s l calm J Jx 0 p pre):=by
 have G:=zA m;have H:=zA o;have j:=zA hC;have N:W.cell? ⟨gx,0,none⟩=some (.int .i64 n):=(aj hC.g 0).trans rfl;have O:W.cell? ⟨s,0,none⟩=some (.func (.yield l) #[] #[]):=(aj hC.y 0).trans rfl;have P:W.cell? ⟨s+2,0,none⟩=some (.slice (some ⟨s+1,0,none⟩) n n):=(aj hC.cb 0).trans rfl;have Q:=zA hp;obtain⟨-, -,r⟩:=Kd.aQ hC.c;have S:=hC.below.size;have I:=zA (show CallsIn Fence.wide 8 Tryz.prog 57 #[.slice (some ⟨s+1,0,none⟩) n n] W.drew (fun e w'=>∃u:Value,e= .returned (u)/\Kd.R (Kd.int .i64) 3 w' W.heap.size (fun _=>True) u p/\Below W.heap.size W w'/\Below W.heap.size W.drew w') from callsIn_wide.2 (by
  subst hp;refine(fF.calls (some ⟨s+1,0,none⟩) p.length p p W.drew (Kd.fC r) (aI _) (by unfold fF.f clone.f;rw[if_pos (by omega)])).mono ?_;rintro e w' ⟨v,rfl,h1,w⟩;exact⟨v,rfl,h1,(ig (aq _ _)).trans w,w⟩))
 clear m o hC r hp;refine callsIn_of_wp Tryz.func200 rfl trivial ?_ rfl;simp only[Tryz.ntmps200,List.size_toArray,List.length_cons,List.length_nil,Nat.reduceAdd,Nat.reduceSub,Array.replicate_succ,Array.replicate_zero,List.push_toArray,List.append_toArray,List.nil_append,List.cons_append];gi_wp2;gi_region_with (first|(refine⟨trivial,?_⟩;gi_at_call 57;refine I.out.mono ?_;rintro e w1 ⟨v,rfl,z,h,K⟩;have T:w1.cell? ⟨s,0,none⟩=some (.func (.yield l) #[] #[]):=(aj (aE j.out.y h) 0).trans rfl;have i:=zA (j.out.stay h);obtain⟨fn,tmps,U,V,X,D⟩:=G.out pre (p,v) W w1 H.out ⟨jI h _,z,j.out.lt.1⟩ hlen;have L:=zA D;clear D z h K)|(refine L.out.mono ?_;rintro e w3 a;obtain⟨b,rfl,M⟩:=C9 a;clear a))
 all_goals gi_wp2
 all_goals go_ret
 all_goals
  rcases M.out with⟨rfl,a,F⟩|⟨rfl,a⟩
  ·exact .inl ⟨[(p,v)],rfl,a,rfl,by simpa using i.out.i' (fun k hk=>F.2 k hk (by have:=i.out.lt;rcases hk with rfl|rfl|hk<;>omega)) (i.out.below.trans (F.1 i.out.size))⟩
  ·exact .inr ⟨rfl,_,a⟩
theorem Db {n q a:Nat} {p:List Int} {x:Nat} (h:i_ n q (p++List.replicate (a+1) 0)) (b:p.length≠q) (g:x<=1000):i_ n q (p++(x:Int)::List.replicate a 0):=by
 have e:p++(x:Int)::List.replicate a 0=(p++List.replicate (a+1) 0).set p.length x:=by
  rw[List.replicate_succ,List.set_append_right _ _ (aI _),Nat.sub_self];rfl
 rw[e];refine⟨by rw[List.length_set];exact h.1,fun i=>?_,?_⟩
 ·have hi:=h.2.1 i
  simp only[rd,aM,a7,List.getElem?_set] at hi⊢;split
  ·split<;>simp<;>omega
  ·exact hi
 ·have hi:=h.2.2
  simp only[rd,aM,a7,List.getElem?_set] at hi⊢;rw[if_neg b];exact hi
theorem CS.set {w0:World} {n:Nat} {A0:Option Addr} {c0:Nat} {E:List S83} {q gx qx s l:Nat} {W:World} {p:List Int} {a:Nat} {x:Int} (h:CS w0 n A0 c0 E q gx qx s l W (p++x::List.replicate a 0)) (b:gx<s) (i:qx<s) (j:w0.heap.size<=s) (y:Int):
  CS w0 n A0 c0 E q gx qx s l (W.setCell ⟨s+1,p.length,none⟩ (.int .i64 y)) (p++y::List.replicate a 0)/\W.grownBy (W.setCell ⟨s+1,p.length,none⟩ (.int .i64 y)) (some (s+1)):=by
 have hp:=Kd.dt h.c (p.length:Int) y;rw[aM] at hp;have iC:∀k,k≠s+1->(W.setCell ⟨s+1,p.length,none⟩ (.int .i64 y)).heap[k]? =W.heap[k]? :=fun k hk=>Below.heap_setCell _ _ _ _ (by simpa using hk)
 refine⟨⟨(iC gx (by omega)).trans h.g,(iC qx (by omega)).trans h.q,(iC s (by omega)).trans h.y,?_,(iC (s+2) (by omega)).trans h.cb,(iC (s+3) (by omega)).trans h.f,h.below.setCell (by show w0.heap.size<=s+1;omega) _⟩,hp.2⟩;have e:(p++x::List.replicate a 0).set p.length y=p++y::List.replicate a 0:=by
  rw[List.set_append_right _ _ (aI _),Nat.sub_self];rfl
 rw[<-e];exact hp.1
theorem CS.cell {w0:World} {n:Nat} {A0:Option Addr} {c0:Nat} {E:List S83} {q gx qx s l:Nat} {W:World} {p:List Int} {b:Nat} {x:Int} (h:CS w0 n A0 c0 E q gx qx s l W (p++x::List.replicate b 0)) (hn:p.length<n):
  W.cell? ⟨s+1,p.length,none⟩=some (.int .i64 x)/\W.frozen? ⟨s+1,p.length,none⟩=false:=by
 obtain⟨h1,a⟩:=Kd.b7 (0:Int) h.c (p.length:Int) (by omega) (by omega);rw[aM] at h1 a;refine⟨?_,a⟩;rw[h1];simp[bW,a7]
theorem Dc (k m:Nat) (b:Int) (g:Option Addr) (i:Nat) (a:List (S83)) (j:Int) (l:Option Addr) (c2:Nat) (l2:List Int) (r:Bool) (w:World) (n:Kd.C aN w g a.length a) (o:a.length<=i) (p:l2.length=m) (q:Kd.C (Kd.int .i64) w l m l2) (s:m<=c2) (h:eP.f k b a j l2=some r):
  Calls Tryz.prog 176 #[.agg #[.int .i64 b,.slice g a.length i],.int .i64 j,.slice l m c2] w fun e w'=>e= .returned (.bool r)/\Below w.heap.size w w':=by
 subst p;exact eP.calls k b g i a j l c2 l2 r w n o q s h
theorem Dd {w0:World} {B K n:Nat} {A0:Option Addr} {c0:Nat} {E:List S83} {q gx qx s l:Nat} {calm:List Int->Bool} {J Jx:List (List Int×Value)->World->Prop} (hn:n<=12) (aL:Kd.C aN w0 A0 E.length E) (aO:E.length<=c0) (X:gx<s) (Y:qx<s) (Z:w0.heap.size<=s)
  (aa:∀c,i_ n q c->eP.f K n E q c=some (calm c)) (ab:∀(p:List Int) (x a:Nat),calm (p++(x:Int)::List.replicate a 0)=true->p.length+1+a=n->p.length≠q->x+1<B) (hB:B<=1000) (aP:0<B)
  (ad:∀pre A C,J pre A->A.grownBy C (some (s+1))->J pre C)
  (hY:∀pre x A C,J pre A->q_ s x A C->pre.length<16384->YieldAt Fence.wide 8 Tryz.prog l #[x.2] C fun e W'=>(e= .returned (.bool true)/\J (pre++[x]) W'/\re w0 gx qx s C W')\/(e= .returned (.bool false)/\Jx (pre++[x]) W')):
  ∀(a v:Nat) (p:List Int) (pre:List (List Int×Value)) (W:World),p.length=v->v+a=n->CS w0 n A0 c0 E q gx qx s l W (p++List.replicate a 0)->i_ n q (p++List.replicate a 0)->J pre W->pre.length+(dw q B calm a p).length<=16384->
  CallsIn Fence.wide 9 Tryz.prog 200 #[.int .i64 v,.pointer (some ⟨gx,0,none⟩),.pointer (some ⟨s,0,none⟩),.pointer (some ⟨s+2,0,none⟩),.pointer (some ⟨qx,0,none⟩),.pointer (some ⟨s+3,0,none⟩)] W (rf w0 B n A0 c0 E q gx qx s l calm J Jx a p pre):=by
 intro a;induction a with
 |zero=>
  intro v p pre W hp hv hC hO H hlen;obtain rfl:v=n:=by omega
  exact Da hn hY p pre W hp (by simpa using hC) H (by simp[dw] at hlen;omega)
 |succ a ih=>
  intro v p pre W hp hv hC hO H hlen;have I:W.cell? ⟨gx,0,none⟩=some (.int .i64 n):=(aj hC.g 0).trans rfl;have L:W.cell? ⟨qx,0,none⟩=some (.int .i64 q):=(aj hC.q 0).trans rfl;have a0:W.cell? ⟨s+3,0,none⟩=some (.func (.func 200) #[] #[.pointer (some ⟨gx,0,none⟩),.pointer (some ⟨s,0,none⟩),.pointer (some ⟨s+2,0,none⟩),.pointer (some ⟨qx,0,none⟩),.pointer (some ⟨s+3,0,none⟩)]):=(aj hC.f 0).trans rfl;have a1:((v:Int)==(n:Int))=false:=by simp;omega
  have hu:=Tryz.underlying24;have am:=zA ih;have i:=zA hC;have HO:=zA hO;have w:=zA H;have HL:=zA hlen;have k:=zA hp;have R:=zA ad;have a2:=zA aa;have a3:=zA ab;have b2:v<12:=by omega
  clear ih hC hO H hlen hY ad aa ab hp;refine callsIn_of_wp Tryz.func200 rfl trivial ?_ rfl;simp only[Tryz.ntmps200,List.size_toArray,List.length_cons,List.length_nil,Nat.reduceAdd,Nat.reduceSub,Array.replicate_succ,Array.replicate_zero,List.push_toArray,List.append_toArray,List.nil_append,List.cons_append];by_cases F:v=q
  ·have r:=am.out (v+1) (p++[0]) pre W (by simp[k.out]) (by omega) (by rw[List.append_assoc];exact i.out) (by rw[List.append_assoc];exact HO.out) w.out (by have h:=HL.out;rw[dw,if_pos (by rw[k.out];exact F)] at h;exact h)
   rw[Int.natCast_add,Int.natCast_one] at r;have S:=zA ((callsIn_wide (n:=8)).2 (callsIn_wide.1 r));clear r;have y:=zA F;clear F;have b3:((v:Int)==(q:Int))=true:=by simp[y.out]
   gi_wp2_with (refine⟨trivial,?_⟩;gi_at_call 200;refine S.out.mono ?_;rintro e w3 j;obtain⟨b,rfl,T⟩:=C_ j;clear j)
   go_ret;rcases T.out with⟨rfl,m,j,M,z⟩|⟨rfl,j⟩
   ·exact .inl ⟨m,rfl,j,by rw[dw,if_pos (by rw[k.out];exact y.out)];exact M,by rw[List.append_assoc] at z;exact z⟩
   ·exact .inr ⟨rfl,j⟩
  ·have a4:((v:Int)==(q:Int))=false:=by simp;omega
   have y:=zA (show p.length≠q by rw[k.out];exact F);have a5:=zA (C8 q B calm a p y.out);clear F;gi_wp2;clear I L a0 a1 a4;gi_loopg [] (B) (fun kq wr=>∃(x:Nat) (m:List (List Int×Value)),x<B/\Aside0 (J (pre++m) wr)/\Aside0 (CS w0 n A0 c0 E q gx qx s l wr (p++(x:Int)::List.replicate a 0))/\Aside0 (dw q B calm (a+1) p=m.map Prod.fst++jV (fun (x:Nat)=>calm (p++(x:Int)::List.replicate a 0)) (fun (x:Nat)=>dw q B calm a (p++[(x:Int)])) (B-x) x)/\Aside0 (kq=B-x))
   case atStart=>exact⟨0,[],aP,⟨by simpa using w.out⟩,i,⟨by rw[a5.out];rfl⟩,⟨rfl⟩⟩
   case round=>
    clear w i;obtain⟨x,m,hx,w,i,HT,HK⟩:=hrel;have N:=zA (Db (x:=x) HO.out y.out (by omega));obtain⟨-, -,U⟩:=Kd.aQ i.out.c;rw[N.out.1] at U;have O:=zA ((callsIn_wide (n:=8)).2 (Dc K n n A0 c0 E q (some ⟨s+1,0,none⟩) n _ _ wr (Kd.aw aL i.out.below) aO N.out.1 U (aI _) (a2.out _ N.out)));have av:=zA (show jV (fun (x:Nat)=>calm (p++(x:Int)::List.replicate a 0)) (fun (x:Nat)=>dw q B calm a (p++[(x:Int)])) (B-x) x=if calm (p++(x:Int)::List.replicate a 0)=true then dw q B calm a (p++[(x:Int)])++jV (fun (x:Nat)=>calm (p++(x:Int)::List.replicate a 0)) (fun (x:Nat)=>dw q B calm a (p++[(x:Int)])) (B- (x+1)) (x+1) else[] from by rw[show B-x=(B- (x+1))+1 by omega];rfl);have I:wr.cell? ⟨gx,0,none⟩=some (.int .i64 n):=(aj i.out.g 0).trans rfl;have aB:wr.cell? ⟨gx,1,none⟩=some (.slice A0 E.length c0):=(aj i.out.g 1).trans rfl;have L:wr.cell? ⟨qx,0,none⟩=some (.int .i64 q):=(aj i.out.q 0).trans rfl;have aF:wr.cell? ⟨s+2,0,none⟩=some (.slice (some ⟨s+1,0,none⟩) n n):=(aj i.out.cb 0).trans rfl;have b5:(0:Int)<=(v:Int):=by omega
    have b6:(v:Int)<(n:Int):=by omega
    clear U;cases hb:calm (p++(x:Int)::List.replicate a 0) with
    |false=>
     rw[hb] at O;have P:=zA (show dw q B calm (a+1) p=m.map Prod.fst from by rw[HT.out,av.out,if_neg (by rw[hb];decide),List.append_nil]);clear hb;gi_wp2_with (refine⟨trivial,?_⟩;gi_at_call 176;refine O.out.mono ?_;rintro e w1 ⟨rfl,u⟩;have D:=zA (i.out.stay u);have Q:w1.cell? ⟨s+2,0,none⟩=some (.slice (some ⟨s+1,0,none⟩) n n):=(aj D.out.cb 0).trans rfl;have G:=D.out.cell (by rw[k.out];omega);rw[k.out] at G;obtain⟨q2,q3⟩:=G;have bg:=zA u;clear u)
     go_ret;have o:=D.out.set X Y Z 0;rw[k.out] at o;exact .inl ⟨m,rfl,R.out _ _ _ w.out (World.grownBy.trans (jI bg.out _) o.2),P.out.symm,o.1⟩
    |true=>
     rw[hb] at O;have HX:=zA (a3.out p x a hb (by rw[k.out];omega) y.out);have P:=zA (show dw q B calm (a+1) p=m.map Prod.fst++(dw q B calm a (p++[(x:Int)])++jV (fun (x:Nat)=>calm (p++(x:Int)::List.replicate a 0)) (fun (x:Nat)=>dw q B calm a (p++[(x:Int)])) (B- (x+1)) (x+1)) from by rw[HT.out,av.out,if_pos hb]);have bk:=zA (show (pre++m).length+(dw q B calm a (p++[(x:Int)])).length<=16384 from by have h1:=HL.out;rw[P.out] at h1;simp only[List.length_append,List.length_map] at h1⊢;omega);clear hb;gi_wp2_with (refine⟨trivial,?_⟩;gi_at_call 176;refine O.out.mono ?_;rintro e w1 ⟨rfl,u⟩;have D:=zA (i.out.stay u);have Q:w1.cell? ⟨s+3,0,none⟩=some (.func (.func 200) #[] #[.pointer (some ⟨gx,0,none⟩),.pointer (some ⟨s,0,none⟩),.pointer (some ⟨s+2,0,none⟩),.pointer (some ⟨qx,0,none⟩),.pointer (some ⟨s+3,0,none⟩)]):=(aj D.out.f 0).trans rfl;have r:=am.out (v+1) (p++[(x:Int)]) (pre++m) w1 (by simp[k.out]) (by omega) (by rw[List.append_assoc];exact D.out) (by rw[List.append_assoc];exact N.out) (R.out _ _ _ w.out (jI u _)) bk.out;rw[Int.natCast_add,Int.natCast_one] at r;have S:=zA ((callsIn_wide (n:=8)).2 (callsIn_wide.1 r));clear u r)
     refine⟨trivial,?_⟩;refine S.out.mono ?_;rintro e w3 (⟨bn,rfl,j,M,z⟩|⟨rfl,bo,j⟩)
     ·rw[List.append_assoc] at z
      have V:=zA (show CS w0 n A0 c0 E q gx qx s l w3 (p++(x:Int)::List.replicate a 0) from z);have bv:=zA j;have H4:=zA M;clear j M z Q I aB L aF;have Q:w3.cell? ⟨s+2,0,none⟩=some (.slice (some ⟨s+1,0,none⟩) n n):=(aj V.out.cb 0).trans rfl;have G:=V.out.cell (by rw[k.out];omega);have o:=V.out.set X Y Z ((x:Int)+1);rw[k.out] at G o;obtain⟨q2,q3⟩:=G;have bx:=zA o.1;have b0:=zA (R.out _ _ _ bv.out o.2);clear o;have b_:(x:Int)<=1000:=by omega
      gi_wp2;gi_roundg (B- (x+1))
      case measure=>rw[HK.out];omega
      case rel=>exact⟨x+1,m++bn,HX.out,⟨by rw[<-List.append_assoc];exact b0.out⟩,bx,⟨by rw[P.out,List.map_append,H4.out,List.append_assoc]⟩,⟨rfl⟩⟩
     ·have T:=zA j
      clear j Q I aB L aF;gi_wp2;go_ret;exact .inr ⟨rfl,bo,T.out⟩
end
theorem vt {α:Type} {f:Nat->Option α} (h:∀k,al (f k) (f (k+1))) {k:Nat} {r:α} (hk:f k=some r):∀m,f (k+m)=some r
 |0=>hk
 |m+1=>h _ _ (vt h hk m)
theorem vu {i:Nat} (h:i<=1000):wrap64 ((i:Int)+1)=((i+1:Nat):Int):=by
 rw[show wrap64 ((i:Int)+1)=(i:Int)+1 from by unfold wrap64;omega];omega
theorem De {x:Int} (h: -1048576<=x/\x<=1048576):hU.f x=some true:=by
 unfold hU.f;rw[if_pos (show x>= -1048576 from h.1)];simp[h.2]
theorem vw (c:List Int) (b:c.length<=12) (h:∀i:Nat, -1048576<=rd c i/\rd c i<=1048576):∀(m K i:Nat),i+m=c.length->m<K->bs.l0 K c c.length i=some 0
 |0,0,i,_,a=>by omega
 |0,K+1,i,hi,_=>by
  rw[bs.l0,if_neg (by omega)]
 |m+1,0,i,_,a=>by omega
 |m+1,K+1,i,hi,a=>by
  rw[bs.l0,if_pos (by omega),if_pos (by omega),if_pos (by omega),De (h i),Option.bind_some,if_pos rfl,vu (by omega)];exact vw c b h m K (i+1) (by omega) (by omega)
theorem vx (q:Int) (c:List Int) (b:c.length<=12) (h:∀i:Nat,0<=rd c i):∀(m K i:Nat),i+m=c.length->m<K->cP.l0 K q c c.length i=some 0
 |0,0,i,_,a=>by omega
 |0,K+1,i,hi,_=>by
  rw[cP.l0,if_neg (by omega)]
 |m+1,0,i,_,a=>by omega
 |m+1,K+1,i,hi,a=>by
  have e:=h i;rw[cP.l0,if_pos (by omega),if_pos (by omega),if_pos (by omega),if_neg (show ¬rd c i<0 by omega),vu (by omega),vx q c b h m K (i+1) (by omega) (by omega)];split<;>rfl
theorem rh (b:Nat->Bool):∀n,(fW b n).length=0↔(List.range n).all b=true
 |0=>by simp[fW]
 |n+1=>by
  have a:=rh b n;rw[List.range_succ,List.all_append];simp only[fW];cases hb:b n with
  |true=>simp[hb] at a⊢;exact a
  |false=>simp[hb]
theorem Df {k n:Nat} {E:List S83} {q:Nat} {c:List Int} (b:dn.f k n E q=some 0) (a:i_ n q c):cP.f (k+20) n E q c=some 0:=by
 obtain⟨_,⟨_,hn⟩,_,g,h⟩:=lq b;have j:=a.1;have h1:=vt (fun k=>dn.mono n E q k) b 20;have e:bs.f (k+20) c n=some 0:=by
  unfold bs.f jA.f;rw[if_neg (by omega),if_neg (by omega),Option.bind_some,if_pos rfl,if_pos (by omega)];exact vw c (by omega) (fun i=>by have:=a.2.1 i;omega) c.length (k+20) 0 (by omega) (by omega)
 unfold cP.f;rw[h1,Option.bind_some,if_pos rfl,e,Option.bind_some,if_pos rfl];exact vx q c (by omega) (fun i=>(a.2.1 i).1) c.length (k+20) 0 (by omega) (by omega)
theorem Dg {k n:Nat} {E:List S83} {q:Nat} {c:List Int} (b:dn.f k n E q=some 0) (a:i_ n q c):fX.f (k+20) n E q c=some 0:=by
 obtain⟨_,⟨_,hn⟩,_,e,g⟩:=lq b;have h:=a.1;unfold fX.f;rw[Df b a,Option.bind_some,if_pos rfl,if_pos e,if_pos (by omega),if_pos a.2.2]
theorem Dh {k n:Nat} {E:List S83} {q:Nat} {c:List Int} (a:dn.f k n E q=some 0) (e:iR n E=true) (b:i_ n q c):fZ.f (k+20) n E q c=some (cp n (af E) q c,0):=by
 obtain⟨_,⟨_,hn⟩,_,g,i⟩:=lq a;have j:=b.1;unfold fZ.f iA.f;rw[Dg a b,Option.bind_some,if_pos rfl,if_pos (by simp only[mu,Bool.and_eq_true,decide_eq_true_eq];exact⟨by omega,e⟩),Option.bind_some,if_pos rfl];congr 2
 rw[aM,aM];have h:=rh (cJ (cD q) (jU n E q c)) n;rw[Bool.eq_iff_iff];unfold cp;rw[show eF n (cA n (af E) c) (cD q)=jU n E q c from rfl,<-h];simp
theorem Di {k n:Nat} {E:List S83} {q:Nat} {c:List Int} (a:dn.f k n E q=some 0) (b:iR n E=true) (e:i_ n q c):eP.f (k+20) n E q c=some (cp n (af E) q c):=by
 unfold eP.f;rw[Dh a b e,Option.bind_some];cases cp n (af E) q c<;>simp
theorem Dj {t:Nat->Nat->Int} (a:∀i j,0<=t i j/\t i j<=50) (b:Nat->Bool) (v:Nat) (n:Nat) (hn:n<=12):cW t b v n<=600:=by
 have:=(qQ (burnt:=b) a v n).2;omega
theorem ri {n:Nat} {E:List S83} {q:Nat} (b:iR n E=true) (hn:n<=12) {l:List Int} {v:Nat} (e:v<n) (g:v≠q) (h:cp n (af E) q l=true):rd l v<valOf n (af E) v/\valOf n (af E) v<=600:=by
 have a:=(jy b).times;exact⟨((kz (fun i j=>(a i j).1) q l).1 h).lt e g,Dj a _ v n hn⟩
section
attribute [local go_sem] Oper.semAt_some
theorem Dk {w0:World} {B K n:Nat} {A0:Option Addr} {c0:Nat} {E:List S83} {q gx qx:Nat} {calm:List Int->Bool} (W:World) (m:Nat) (hS:W.heap.size=m) (hn:n<=12) (ad:Kd.C aN w0 A0 E.length E) (ag:E.length<=c0)
  (G:∀c,i_ n q c->eP.f K n E q c=some (calm c)) (H:∀(p:List Int) (x I:Nat),calm (p++(x:Int)::List.replicate I 0)=true->p.length+1+I=n->p.length≠q->x+1<B) (hB:B<=1000) (am:0<B)
  (L:(dw q B calm n []).length<=16384)
  (r:W.heap[gx]? =some (.cells #[.int .i64 n,.slice A0 E.length c0] 24 (0,0))) (w:W.heap[qx]? =some (.cells #[.int .i64 q] 3 (0,0))) (hw:Below w0.heap.size w0 W):
  iV (σ:=Unit) Fence.wide 9 Tryz.prog 199 #[.pointer (some ⟨gx,0,none⟩),.pointer (some ⟨qx,0,none⟩)] (fun x:List Int×Value=>#[x.2]) (fun _ W W1=>W1=W) (fun _ A C=>A.grownBy C (some (m+1))) (fun _ x A C=>q_ m x A C)
   (fun _ X Y=>re w0 gx qx m X Y) (fun _ xs W'=>xs.map Prod.fst=dw q B calm n []) (fun _ _ _=>True) (fun pre=>pre.length<16384) W:=by
 intro u J Jx y an M N;subst hS;have O:=M () W rfl;have ap:=zA (fun W' h1 z g=>Dd (w0:=w0) (B:=B) (K:=K) (s:=W.heap.size) (l:=u) (J:=J ()) (Jx:=Jx ()) hn ad ag (aA r) (aA w) hw.size G H hB am (fun pre A C h hA=>y _ _ _ _ h hA) (fun pre x A C h1 z g=>N _ _ _ _ _ h1 z g) n 0 [] [] W' rfl (by omega) h1 z g (by simpa using L));have av:=zA y;have aB:=zA O;obtain⟨zs,P,Q⟩:=mz 26 Tryz.underlying26 n (by omega);have HZ:=zA Q;have R:=zA r;have S:=zA w;have T:=zA hw;have bi:(W.alloc (.cells #[.func (.yield u) #[] #[]] 141)).cell? ⟨gx,0,none⟩=some (.int .i64 n):=(aj (au r _) 0).trans rfl;have aL:=zA (show i_ n q (List.replicate n 0) from⟨by simp,fun i=>by simp[rd,a7,List.getElem?_replicate];split<;>simp,by simp[rd,a7,List.getElem?_replicate];split<;>simp⟩);have aO:=aA R.out;have aP:=aA S.out;have aS:=T.out.size;obtain⟨a,U⟩:∃o:Obj,o= .cells #[.func (.yield u) #[] #[]] 141:=⟨_,rfl⟩;obtain⟨j,V⟩:∃o:Obj,o= .cells zs 3:=⟨_,rfl⟩;obtain⟨b,Z⟩:∃o:Obj,o= .cells #[.slice (some ⟨W.heap.size+1,0,none⟩) n n] 26:=⟨_,rfl⟩;obtain⟨fo,aa⟩:∃o:Obj,o= .cells #[.func (.func 200) #[] #[.pointer (some ⟨gx,0,none⟩),.pointer (some ⟨W.heap.size,0,none⟩),.pointer (some ⟨W.heap.size+1+1,0,none⟩),.pointer (some ⟨qx,0,none⟩),.pointer (some ⟨W.heap.size+1+1+1,0,none⟩)]] 121:=⟨_,rfl⟩;have v:=zA (ao (ao (ao (ao (aq W.heap.size W) a) j) b) fo);have E0:=zA (show ((((W.alloc a).alloc j).alloc b).alloc fo).heap[W.heap.size]? =some a from by rw[Below.heap_alloc _ _ _ (by simp;omega),Below.heap_alloc _ _ _ (by simp;omega),Below.heap_alloc _ _ _ (by simp)];exact bc W a);have D:=HZ.out (W.alloc a) (fun k=>k=W.heap.size+1) (by simp);rw[World.size_alloc,<-V] at D;have E1:=zA (Kd.aR (Kd.aR (Kd.bj D (show w0.heap.size<=W.heap.size+1 by omega)) b) fo);have E2:=zA (show ((((W.alloc a).alloc j).alloc b).alloc fo).heap[W.heap.size+2]? =some b from by rw[Below.heap_alloc _ _ _ (by simp)];have h:=bc ((W.alloc a).alloc j) b;simpa using h);have E3:=zA (show ((((W.alloc a).alloc j).alloc b).alloc fo).heap[W.heap.size+3]? =some fo from by have h:=bc (((W.alloc a).alloc j).alloc b) fo;simpa using h);have a4:Aside0 (CS w0 n A0 c0 E q gx qx W.heap.size u ((((W.alloc a).alloc j).alloc b).alloc fo) (List.replicate n 0)):=
  ⟨⟨(v.out.block gx aO).trans R.out,(v.out.block qx aP).trans S.out,E0.out.trans (by rw[U]),E1.out,E2.out.trans (by rw[Z]),E3.out.trans (by rw[aa]),T.out.trans (v.out.mono aS)⟩⟩
 have a5:Aside0 (J () [] ((((W.alloc a).alloc j).alloc b).alloc fo)):=⟨av.out _ _ _ _ aB.out (jI v.out _)⟩;have a9:=zA ((callsIn_wide (n:=8)).2 (callsIn_wide.1 (ap.out _ (by simpa using a4.out) (by simpa using aL.out) a5.out)));subst U V Z aa;clear y an M N O G H L Q r w hw D;refine callsIn_of_wp Tryz.func199 rfl trivial ?_ rfl;simp only[Tryz.ntmps199,List.size_toArray,List.length_cons,List.length_nil,Nat.reduceAdd,Nat.reduceSub,Array.replicate_succ,Array.replicate_zero,List.push_toArray,List.append_toArray,List.nil_append,List.cons_append];gi_wp2;refine⟨trivial,?_⟩;refine a9.out.mono ?_;rintro e w3 (⟨vs,rfl,g,h4,h5⟩|⟨rfl,bf,g⟩)
 ·have F:=zA g
  have H4:=zA h4;clear g h4 h5 P;gi_wp2;go_end0;exact⟨⟨_,rfl⟩,.inl ⟨_,vs,H4.out,F.out⟩⟩
 ·have F:=zA g
  clear g P;gi_wp2;go_end0;exact⟨⟨_,rfl⟩,.inr ⟨_,bf,trivial,F.out⟩⟩
end
end Go.Proofs.YtffdiakgjakngaaGreat.P


namespace Go.Proofs.YtffdiakgjakngaaGreat.P
open Go.RowKit Go.Proofs.YtffdiakgjakngaaGreatW.PrintWords Go.Proofs.YtffdiakgjakngaaGreatW.PrintLast Go.Proofs.YtffdiakgjakngaaGreatW.PrintMore
set_option linter.unusedVariables false
set_option linter.unusedSimpArgs false
set_option maxHeartbeats 8000000
set_option maxRecDepth 100000
def f_ (val:List Int) (q:Int) (n j:Nat):List Int:=(List.range n).map fun v=>if v<j/\(v:Int)≠q then rd val v-1 else 0
theorem Dl (val:List Int) (q:Int) (n:Nat):f_ val q n 0=List.replicate n 0:=by
 unfold f_;refine List.ext_getElem (by simp) fun i h1 a=>?_
 simp
theorem Dm {val:List Int} {q:Int} {n j:Nat} (h:(j:Int)=q):f_ val q n (j+1)=f_ val q n j:=by
 unfold f_;refine List.map_congr_left fun v _=>?_
 by_cases e:v=j
 ·subst e;simp[h]
 ·have:(v<j+1/\(v:Int)≠q)↔(v<j/\(v:Int)≠q):=by omega
  simp only[this]
theorem Dn {val:List Int} {q:Int} {n j:Nat} (h:(j:Int)≠q) (a:j<n):f_ val q n (j+1)=(f_ val q n j).set j (rd val j-1):=by
 refine List.ext_getElem (by simp[f_]) fun i h1 b=>?_
 rw[List.getElem_set];simp only[f_,List.getElem_map,List.getElem_range];by_cases e:j=i
 ·subst e;simp[h]
 ·rw[if_neg e]
  have:(i<j+1/\(i:Int)≠q)↔(i<j/\(i:Int)≠q):=by omega
  simp only[this]
theorem Dp (n:Nat) (E:List S83):(fY n E).length=n:=vm n _ _
theorem Dq {n:Nat} {E:List S83} (h:eZ E=true) (i:Nat):0<=rd (fY n E) i/\rd (fY n E) i<=4000:=by
 have h1:=vo n (cu E E.length) (cu E E.length).length i;have a:=vj h;unfold fY;omega
theorem Dr (k n:Nat) (A0:Option Addr) (c0:Nat) (E:List S83) (q:Int) (a:Option Addr) (cd:Nat) (dl:List Int) (w:World) (h:Kd.C aN w A0 E.length E) (i:E.length<=c0) (hd:Kd.C (Kd.int .i64) w a n dl) (j:n<=cd)
  (hn:n<=12) (l:dl.length=n) (m:bh.f k n E=some 0) (o:eZ E=true) (p:ep n E):
  Calls Tryz.prog 212 #[.agg #[.int .i64 n,.slice A0 E.length c0],.int .i64 q,.slice a n cd] w fun e w'=>∃(gp:Nat) (r b:Option Addr) (s g:Nat) (u:Value),e= .returned (.tuple #[.pointer (some ⟨gp,0,none⟩),.int .i64 0])/\cQ w' gp (.slice r n s) q u (.slice b n g) (fun x=>if x<n then iX q (fY n E) dl x else false)/\(Kd.int .i64).R 3 w' w.heap.size (fun _=>True) (.slice b n g) (fY n E)/\Below w.heap.size w w':=by
 subst l;exact C1 k dl.length A0 c0 E q a cd dl w h i hd j hn rfl m o p
def ia.f (k:Nat) (N:Int) (E:List S83) (q:Int):Option (List Int×Int):=
 (dn.f k N E q).bind fun t=>if t=0 then(if lr N E=true then some (f_ (fY N.toNat E) q N.toNat N.toNat,0) else none) else some ([],t)
theorem ia.mono:∀a b e k,al (ia.f k a b e) (ia.f (k+1) a b e):=by
 intro a b e k;unfold ia.f;exact al.bind (dn.mono _ _ _ _) (fun _=>al.refl _)
theorem Dt (k:Nat) (N:Int) (A0:Option Addr) (c0:Nat) (E:List S83) (q:Int) (t:Int) (w:World) (g:Kd.C aN w A0 E.length E) (h:E.length<=c0)
  (a:dn.f k N E q=some t) (b:t≠0):
  Calls Tryz.prog 198 #[.agg #[.int .i64 N,.slice A0 E.length c0],.int .i64 q] w fun e w'=>e= .returned (.tuple #[.slice none 0 0,.int .i64 t])/\Below w.heap.size w w':=by
 have hu:=Tryz.underlying24;have i:=zA a;have l:(t != 0)=true:=by simpa using b
 clear a b;go_enter Tryz.func198,Tryz.ntmps198
 go_wp2_with (go_at_call 211;refine(dn.calls k N A0 c0 E q t _ (Kd.bp g _) h i.out).mono ?_;rintro e w1 ⟨rfl,hb⟩;have j:=zA (aZ (ao (aq w.heap.size w) _) hb);clear hb)
 go_ret2;exact⟨rfl,j.out⟩
theorem Du (k n:Nat) (A0:Option Addr) (c0:Nat) (E:List S83) (q:Int) (w:World) (L:Kd.C aN w A0 E.length E) (M:E.length<=c0)
  (u:dn.f k n E q=some 0) (N:eZ E=true) (O:ep n E):
  Calls Tryz.prog 198 #[.agg #[.int .i64 n,.slice A0 E.length c0],.int .i64 q] w fun e w'=>∃v,e= .returned (.tuple #[v,.int .i64 0])/\(Kd.int .i64).R 3 w' w.heap.size (fun _=>True) v (f_ (fY n E) q n n)/\Below w.heap.size w w':=by
 have hu:=Tryz.underlying24;have bo:=Tryz.underlying236;obtain⟨P,⟨_,hn⟩,_,bv,bw⟩:=lq u;obtain⟨zs,aF,Q⟩:=mz 25 Tryz.underlying25 n (by omega);obtain⟨ys,aL,S⟩:=mz 26 Tryz.underlying26 n (by omega);have HZ:=zA Q;have HY:=zA S;have aS:=zA u;have Hg:=zA P;have T:=zA N;have HI:=zA O;have a1:n<=12:=by omega
 clear Q S u P N O hn;have y:=zA (bc w (.cells #[.int .i64 n,.slice A0 E.length c0] 24));go_enter Tryz.func198,Tryz.ntmps198
 go_wp2_with (go_at_call 211;refine(dn.calls k n A0 c0 E q 0 _ (Kd.bp L _) M aS.out).mono ?_;rintro e w1 ⟨rfl,hb⟩;have b:=zA (aZ (ao (aq w.heap.size w) _) hb);have a:=zA (aE y.out hb);clear hb)
 generalize z:w.heap.size=gb at y b a⊢;have a2:=aA a.out;have a3:w1.cell? ⟨gb,0,none⟩=some (.int .i64 n):=(aj a.out 0).trans rfl;have a4:w1.cell? ⟨gb,1,none⟩=some (.slice A0 E.length c0):=(aj a.out 1).trans rfl;have a5:(w1.alloc (.cells zs 3)).drew.cell? ⟨gb,0,none⟩=some (.int .i64 n):=(aj (au a.out _) 0).trans rfl;have a9:(w1.alloc (.cells zs 3)).drew.cell? ⟨gb,1,none⟩=some (.slice A0 E.length c0):=(aj (au a.out _) 1).trans rfl;have U:=zA (Dr k n A0 c0 E q (some ⟨w1.heap.size,0,none⟩) n (List.replicate n 0) (w1.alloc (.cells zs 3)).drew (Kd.fC (Kd.bp (Kd.aw L (by rw[z];exact b.out)) _)) M (by have h:=(Kd.aQ (Kd.bq (HZ.out w1 (fun _=>True) trivial))).2.2;rw[List.length_replicate] at h;exact h) (aI _) a1 (by simp) Hg.out T.out HI.out);have B:Aside0 (gb<=(w1.alloc (.cells zs 3)).drew.heap.size):=⟨by have h:(w1.alloc (.cells zs 3)).drew.heap.size=w1.heap.size+1:=World.size_alloc w1 _;omega⟩;have V:=zA (bZ (b.out.alloc (Nat.le_of_lt a2) (.cells zs 3)));have W:=zA (show (w1.alloc (.cells zs 3)).drew.heap[gb]? =some (.cells #[.int .i64 n,.slice A0 E.length c0] 24 (0,0)) from au a.out _);go_wp2;go_region_with ((go_at_call 212;refine U.out.mono ?_;rintro e w2 ⟨gp,bx,X,b0,Y,rv,rfl,Z,hR,hb⟩;have ab:=zA (V.out.trans (hb.mono B.out));have D:=zA (aE W.out hb);have ag:=zA Z;have F:=zA (Kd.bj hR B.out);clear Z hR hb))
 all_goals have bd:w2.cell? ⟨gb,0,none⟩=some (.int .i64 n):=(aj D.out 0).trans rfl
 all_goals have G:=aA D.out
 all_goals have ak:=zA (ag.out.below (ao (aq w2.heap.size w2) (.cells ys 3)))
 all_goals have r:=zA (Kd.aR F.out (.cells ys 3))
 all_goals have H:=zA (ab.out.alloc (Nat.le_of_lt G) (.cells ys 3))
 all_goals have g:=zA (Kd.bj (HY.out w2 (fun k=>k=w2.heap.size) rfl) (Nat.le_of_lt G))
 all_goals have be:=ak.out.oW
 all_goals have am:Aside0 (some w2.heap.size≠(Value.slice X n Y).ownBlock):=⟨fun e=>by have:=Kd.a_ F.out _ e.symm;omega⟩
 all_goals clear y b a V W B U ab D ag F a3 a4 a5 a9 aF
 all_goals go_wp2
 all_goals clear bd aL G be ak
 all_goals generalize w2.alloc (.cells ys 3)=w3 at r H g⊢
 all_goals generalize w2.heap.size=l at g am⊢
 all_goals
  have an:=zA (Dq (n:=n) T.out);have ap:=zA (Dp n E);obtain⟨vl,I⟩:∃vl,vl=fY n E:=⟨_,rfl⟩;rw[<-I] at r an ap;have bf:=zA I;clear I;rw[<-Dl vl q n] at g;go_loopw [38] (fun i wr=>∃(j:Nat),j<=n/\i= .int .i64 j/\Aside0 ((Kd.int .i64).R 3 wr gb (fun _=>True) (.slice X n Y) vl)/\Aside0 ((Kd.int .i64).R 3 wr gb (fun k=>k=l) (.slice (some ⟨l,0,none⟩) n n) (f_ vl q n j))/\Aside0 (Below gb w wr)) (fun i _=>n- (intOf i).toNat)
  case atStart=>exact⟨0,by omega,rfl,r,g,H⟩
  case round=>
   clear r g H;obtain⟨j,hj,rfl,J,m,K⟩:=hrel;by_cases bg:j<n
   ·obtain⟨-, -,hC⟩:=Kd.aQ J.out
    rw[ap.out] at hC;obtain⟨ad,rfl,hx⟩:=Kd.bU hC j (by omega) (by omega);rw[aM] at hx;clear hC;have bi:=an.out j;have b3:(0:Int)<=(j:Int):=by omega
    have b4:(j:Int)<(n:Int):=by omega
    by_cases o:(j:Int)=q
    ·have s:=zA (Dm (val:=vl) (n:=n) o)
     subst o;go_wp2;go_roundw
     case rel=>exact⟨j+1,by omega,by go_num,J,⟨by rw[s.out];exact m.out⟩,K⟩
     case measure=>exact(show n- ((j:Int)+1).toNat<n- ((j:Int)).toNat by omega)
    ·have s:=zA (Dn (val:=vl) o bg)
     have b5:((j:Int) != q)=true:=by simpa using o
     obtain⟨bk,bn⟩:=Kd.b7 (0:Int) m.out (j:Int) (by omega) (by omega);have hp:=Kd.dt m.out (j:Int) (rd vl j-1);rw[aM] at bk bn hp;have av:=zA hp.1;have aB:=zA (Kd.iO J.out rfl hp.2 am.out);have b:=zA (Below.setCell (p:=⟨l,j,none⟩) K.out (Kd.dY m.out l rfl) (.int .i64 (rd vl j-1)));clear hp o;generalize rd vl j=x at hx bi av aB b s;go_wp2;go_roundw
     case rel=>exact⟨j+1,by omega,by go_num,aB,⟨by rw[s.out];exact av.out⟩,b⟩
     case measure=>exact(show n- ((j:Int)+1).toNat<n- ((j:Int)).toNat by omega)
   ·obtain rfl:j=n:=by omega
    go_wp2;go_ret2;exact⟨.slice (some ⟨l,0,none⟩) _ _,rfl,by rw[z,<-bf.out];exact Kd.bb m.out (fun _ _=>trivial),by rw[z];exact K.out⟩
theorem ia.calls (k:Nat) (g:Int) (i:Option Addr) (j:Nat) (a:List (S83)) (l:Int) (p:List Int) (q:Int) (w:World) (r:Kd.C aN w i a.length a) (s:a.length<=j) (h:ia.f k g a l=some (p,q)):
  Calls Tryz.prog 198 #[.agg #[.int .i64 g,.slice i a.length j],.int .i64 l] w fun e w'=>∃u:Value,e= .returned (.tuple #[u,.int .i64 q])/\Kd.R (Kd.int .i64) 3 w' w.heap.size (fun _=>True) u p/\Below w.heap.size w w':=by
 unfold ia.f at h;obtain⟨t,m,H⟩:=Option.bind_eq_some_iff.mp h;by_cases o:t=0
 ·subst o
  rw[if_pos rfl] at H;by_cases b:lr g a=true
  ·rw[if_pos b] at H
   simp only[Option.some.injEq,Prod.mk.injEq] at H;obtain⟨rfl,rfl⟩:=H;obtain⟨_,⟨v,x⟩,_,_⟩:=lq m;obtain⟨n,rfl⟩:=Int.eq_ofNat_of_zero_le v;simp only[lr,Bool.and_eq_true] at b;rw[aM];exact Du k n i j a l w r s m b.1 (jy b.2)
  ·rw[if_neg b] at H;cases H
 ·rw[if_neg o] at H
  simp only[Option.some.injEq,Prod.mk.injEq] at H;obtain⟨rfl,rfl⟩:=H;refine(Dt k g i j a l t w r s m o).mono ?_;rintro e w' ⟨rfl,hb⟩;exact⟨_,rfl,Kd.dh _ _ _ _ _,hb⟩
def fP.f (k:Nat) (b:Int) (e:List (S83)) (g:Int):Option (List Int×Int):=(ia.f k b e g).bind fun a=>(some (a.1,a.2))
theorem fP.mono:∀a0 a a2 k,al (fP.f k a0 a a2) (fP.f (k+1) a0 a a2):=by
 intro a0 a a2 k;unfold fP.f;with_reducible repeat' first|exact ia.mono _ _ _ _|exact al.refl _|exact al.none _|refine al.ite ?_ ?_|refine al.bind ?_ (fun _=>?_)
theorem fP.calls (k:Nat) (b:Int) (j:Option Addr) (l:Nat) (a:List (S83)) (i:Int) (m:List Int) (n:Int) (w:World) (q:Kd.C aN w j a.length a) (r:a.length<=l) (h:fP.f k b a i=some (m,n)):
  Calls Tryz.prog 173 #[.agg #[.int .i64 b,.slice j a.length l],.int .i64 i] w fun e w'=>∃s:Value,e= .returned (.tuple #[s,.int .i64 n])/\Kd.R (Kd.int .i64) 3 w' w.heap.size (fun _=>True) s m/\Below w.heap.size w w':=by
 have G:=Tryz.underlying24;have y:=zA q;have z:=zA r;clear q r;have g:=zA (aq w.heap.size w);have H:((ia.f k b a i).bind fun u=>(some (u.1,u.2)))=some (m,n):=h;clear h;obtain⟨⟨B,D⟩,E,H⟩:=zo H;dsimp only at H;simp only[Option.some.injEq,Prod.mk.injEq] at H;obtain⟨rfl,rfl⟩:=H;go_enter Tryz.func173,Tryz.ntmps173
 go_wp2_with (first|((with_reducible refine aJ (N:=2) rfl ?_);refine zX 2 #[.int .i64 b,.slice j a.length l] 24 ?_;intro I o J v hb;have p:=zA (v);have K:=zG g o;have L:=zG g o;replace g:=zS g hb;clear hb v o;obtain⟨M,O,P,Q⟩:=ax p)|((with_reducible refine aG (f:=198) rfl ?_);refine zL (some 8) Tryz.func198 #[.agg #[.int .i64 b,.slice j a.length l],.int .i64 i] ?_;(with_reducible refine(ia.calls k b _ _ a i B D _ ?ah ?ai E.out).mono ?_);(case ah=>exact Kd.aw y.out zB);(case ai=>exact z.out);rintro e S ⟨T,rfl,x,hb⟩;refine⟨_,rfl,?_⟩;have F:=zA (Kd.bj x (bu zB));replace p:=zb p hb;replace g:=zS g hb;(try clear hb);(try clear x)))
 go_ret2;exact⟨_,zE,by(with_reducible repeat(first|apply Kd.aR|apply Kd.bD|apply Kd.bq));exact F.out,zB⟩
section
attribute [local go_sem] Oper.semAt_some
theorem vy {P:Program} {ty:TypeId} {d:TypeDesc} (w:World) (a:Addr) (v:Value) (h:P.underlying ty=some d) (k:(match d with| .struct _| .array _ _=>true|_=>false)=false) (c:w.cell? a=some v):(loadVar ty a).run P w= .ok v w:=by
 have e:(isAgg ty).run P w= .ok false w:=by
  unfold isAgg;rw[Sem.run_bind];have hu:(underlying ty).run P w= .ok d w:=by simp[underlying,Sem.run_bind,Result.andThen,h]
  rw[hu];cases d<;>first|(simp at k;done)|rfl
 unfold loadVar;rw[Sem.run_bind,e];simp[Result.andThen,go_sem,c]
theorem o5 {P:Program} {fn:Func} {p u:Tmp} {t1 t2:TypeId} {d1 d2:TypeDesc} (h:fn.results=#[.cell p t1,.cell u t2]) (tmps:Array Value) (w:World) (a b:Addr) (v1 v2:Value) (hp:tmps.getD p undef= .pointer (some a)) (hu:tmps.getD u undef= .pointer (some b))
  (h1:P.underlying t1=some d1) (e:P.underlying t2=some d2) (g:(match d1 with| .struct _| .array _ _=>true|_=>false)=false) (i:(match d2 with| .struct _| .array _ _=>true|_=>false)=false) (c1:w.cell? a=some v1) (c2:w.cell? b=some v2):
  (results fn tmps).run P w= .ok (.tuple #[v1,v2]) w:=by
 have j:tmps[p]?.getD undef= .pointer (some a):=by simpa using hp
 have k:tmps[u]?.getD undef= .pointer (some b):=by simpa using hu
 simp[results,h,j,k,asAddr,Sem.run_bind,Result.andThen,vy w a v1 h1 g c1,vy w b v2 e i c2]
theorem Dv (N:Int) (A0:Option Addr) (c0:Nat) (E:List S83) (q:Int) (w:World):Calls Tryz.prog 174 #[.agg #[.int .i64 N,.slice A0 E.length c0],.int .i64 q] w fun e w'=>e= .returned (.func (.func 199) #[] #[.pointer (some ⟨w.heap.size,0,none⟩),.pointer (some ⟨w.heap.size+1,0,none⟩)])/\w'=(w.alloc (.cells #[.int .i64 N,.slice A0 E.length c0] 24)).alloc (.cells #[.int .i64 q] 3):=by
 go_enter Tryz.func174,Tryz.ntmps174
 go_wp2;go_ret;exact⟨rfl,rfl⟩
def o6:Nat:=1000
def e7 (n:Nat) (E:List S83) (q:Nat):List (List Int):=dw q o6 (cp n (af E) q) n []
def eQ.f (k:Nat) (N:Int) (E:List S83) (q:Int):Option (List (List Int)×Int):=
 (fP.f k N E q).bind fun t=>if t.2=0 then(if(e7 N.toNat E q.toNat).length<=16384 then some (e7 N.toNat E q.toNat,0) else none) else some ([],t.2)
theorem eQ.mono:∀a b e k,al (eQ.f k a b e) (eQ.f (k+1) a b e):=by
 intro a b e k;unfold eQ.f;exact al.bind (fP.mono _ _ _ _) (fun _=>al.refl _)
theorem vz {k:Nat} {N:Int} {E:List S83} {q:Int} {l:List Int} (h:fP.f k N E q=some (l,0)):dn.f k N E q=some 0/\eZ E=true/\iR N E=true/\l=f_ (fY N.toNat E) q N.toNat N.toNat:=by
 unfold fP.f ia.f at h;simp only[Option.bind_assoc] at h;obtain⟨t,b,h⟩:=Option.bind_eq_some_iff.1 h;by_cases a:t=0
 ·subst a
  rw[if_pos rfl] at h;by_cases hk:lr N E=true
  ·rw[if_pos hk] at h
   simp only[lr,Bool.and_eq_true] at hk;simp only[Option.bind_some,Option.some.injEq,Prod.mk.injEq] at h;exact⟨b,hk.1,hk.2,h.1.symm⟩
  ·rw[if_neg hk] at h;cases h
 ·rw[if_neg a] at h
  simp only[Option.bind_some,Option.some.injEq,Prod.mk.injEq] at h;exact absurd h.2 a
theorem Dw {F:Fence} {n:Nat} {P:Program} {fn:Func} {R:Ending->World->Prop} {a:Act} {w:World} {v:Value} (hd:a.defers=[]) (b:(results fn a.tmps).run P w= .ok v w) (e:R (.returned v) w):bodyPostM F n P fn R .ret a w:=by
 show LeavesInM F n P fn a.tmps R a.defers .returning w
 rw[hd];exact⟨_,b,e⟩
theorem Dx {w1:World} {r:Nat} {t1 t2:TypeId} {u1 u2:Value} (v1 v2:Value) (a:w1.heap[r]? =some (.cells #[u1] t1 (0,0))) (b:w1.heap[r+1]? =some (.cells #[u2] t2 (0,0))):
  ((w1.setCell ⟨r,0,none⟩ v1).setCell ⟨r+1,0,none⟩ v2).cell? ⟨r,0,none⟩=some v1/\((w1.setCell ⟨r,0,none⟩ v1).setCell ⟨r+1,0,none⟩ v2).cell? ⟨r+1,0,none⟩=some v2:=by
 have h1:=bQ a 0 v1;have e:=aD (p:=⟨r+1,0,none⟩) h1 (by show r≠r+1;omega) v2;have g:=aD (p:=⟨r,0,none⟩) b (by show r+1≠r;omega) v1;have h:=bQ g 0 v2;exact⟨(aj e 0).trans (by simp),(aj h 0).trans (by simp)⟩
theorem lx (w:World) (a b e:Obj):(((w.alloc a).alloc b).alloc e).heap[w.heap.size]? =some a/\(((w.alloc a).alloc b).alloc e).heap[w.heap.size+1]? =some b/\(((w.alloc a).alloc b).alloc e).heap[w.heap.size+1+1]? =some e:=by
 refine⟨?_,?_,?_⟩
 ·rw[Below.heap_alloc _ _ _ (by simp;omega),Below.heap_alloc _ _ _ (by simp)];exact bc w a
 ·rw[Below.heap_alloc _ _ _ (by simp)];have h:=bc (w.alloc a) b;simpa using h
 ·have h:=bc ((w.alloc a).alloc b) e;simpa using h
theorem Dy (k:Nat) (N:Int) (A0:Option Addr) (c0:Nat) (E:List S83) (q:Int) (l:List Int) (t:Int) (w:World) (j:Kd.C aN w A0 E.length E) (m:E.length<=c0) (hf:fP.f k N E q=some (l,t)) (g:t≠0):
  Calls Tryz.prog 114 #[.agg #[.int .i64 N,.slice A0 E.length c0],.int .i64 q] w fun e w'=>e= .returned (.tuple #[.slice none 0 0,.int .i64 t])/\Below w.heap.size w w':=by
 have hu:=Tryz.underlying24;have o:=zA hf;have x:(t != 0)=true:=by simpa using g
 have a:=zA (lx w (.cells #[.int .i64 N,.slice A0 E.length c0] 24) (.cells #[.slice none 0 0] 33) (.cells #[.int .i64 0] 30));have y:(((w.alloc (.cells #[.int .i64 N,.slice A0 E.length c0] 24)).alloc (.cells #[.slice none 0 0] 33)).alloc (.cells #[.int .i64 0] 30)).cell? ⟨w.heap.size,0,none⟩=some (.int .i64 N):=(aj a.out.1 0).trans rfl;have z:(((w.alloc (.cells #[.int .i64 N,.slice A0 E.length c0] 24)).alloc (.cells #[.slice none 0 0] 33)).alloc (.cells #[.int .i64 0] 30)).cell? ⟨w.heap.size,1,none⟩=some (.slice A0 E.length c0):=(aj a.out.1 1).trans rfl;clear hf g;refine(callsIn_wide (n:=10)).1 ?_;refine callsIn_of_wp_marks Tryz.func114 rfl trivial ?_ rfl;simp only[Tryz.ntmps114,List.size_toArray,List.length_cons,List.length_nil,Nat.reduceAdd,Nat.reduceSub,Array.replicate_succ,Array.replicate_zero,List.push_toArray,List.append_toArray,List.nil_append,List.cons_append];gi_wp2_with (refine⟨trivial,?_⟩;gi_at_call 173;refine(callsIn_wide.2 (fP.calls k N A0 c0 E q l t _ (Kd.bp (Kd.bp (Kd.bp j _) _) _) m o.out)).mono ?_;rintro e w1 ⟨v,rfl,r,hb⟩;have s:=zA ((ao (ao (ao (aq w.heap.size w) _) _) _).trans (hb.mono (by simp;omega)));have b:=zA (aE a.out.2.1 hb);have h:=zA (aE a.out.2.2 hb);have B:w1.cell? ⟨w.heap.size+1,0,none⟩=some (.slice none 0 0):=(aj b.out 0).trans rfl;have D:w1.frozen? ⟨w.heap.size+1,0,none⟩=false:=bt b.out 0;have i:=zA (aD (p:=⟨w.heap.size+1,0,none⟩) h.out (by show w.heap.size+1+1≠w.heap.size+1;omega) (.slice none 0 0));have F:(w1.setCell ⟨w.heap.size+1,0,none⟩ (.slice none 0 0)).cell? ⟨w.heap.size+1+1,0,none⟩=some (.int .i64 0):=(aj i.out 0).trans rfl;have G:=bt i.out 0;clear r hb)
 obtain⟨c1,c2⟩:=Dx (.slice none 0 0) (.int .i64 t) b.out h.out;exact Dw rfl (o5 (p:=4) (u:=5) rfl _ _ ⟨w.heap.size+1,0,none⟩ ⟨w.heap.size+1+1,0,none⟩ _ _ rfl rfl Tryz.underlying33 Tryz.underlying30 rfl rfl c1 c2) ⟨rfl,(s.out.setCell (p:=⟨w.heap.size+1,0,none⟩) (by show w.heap.size<=w.heap.size+1;omega) _).setCell (p:=⟨w.heap.size+1+1,0,none⟩) (by show w.heap.size<=w.heap.size+1+1;omega) _⟩
end
section
attribute [local go_sem] Oper.semAt_some
theorem Dz (k n:Nat) (A0:Option Addr) (c0:Nat) (E:List S83) (q:Nat) (l:List Int) (w:World) (aO:Kd.C aN w A0 E.length E) (aP:E.length<=c0) (hf:fP.f k n E q=some (l,0)) (aS:(e7 n E q).length<=16384):
  Calls Tryz.prog 114 #[.agg #[.int .i64 n,.slice A0 E.length c0],.int .i64 q] w fun e w'=>∃v,e= .returned (.tuple #[v,.int .i64 0])/\(Kd.slice 3 (Kd.int .i64)).R 26 w' w.heap.size (fun _=>True) v (e7 n E q)/\Below w.heap.size w w':=by
 have hu:=Tryz.underlying24;obtain⟨hr,hm,am, -⟩:=vz hf;obtain⟨_,⟨_,hn⟩,_,cd,ce⟩:=lq hr;have a0:n<=12:=by omega
 have cf:=zA (fun c (hc:i_ n q c)=>Di hr am hc);have ch:Aside0 (∀(p:List Int) (x P:Nat),cp n (af E) q (p++(x:Int)::List.replicate P 0)=true->p.length+1+P=n->p.length≠q->x+1<o6):=⟨fun p x P h hp ci=>by
  have h1:=ri am a0 (v:=p.length) (by omega) ci h;have hx:rd (p++(x:Int)::List.replicate P 0) p.length=x:=by simp[rd,a7]
  rw[hx] at h1;show x+1<1000
  omega⟩
 have ck:=zA aS;have Hf:=zA hf;have m:=zA (lx w (.cells #[.int .i64 n,.slice A0 E.length c0] 24) (.cells #[.slice none 0 0] 33) (.cells #[.int .i64 0] 30));have cn:(((w.alloc (.cells #[.int .i64 n,.slice A0 E.length c0] 24)).alloc (.cells #[.slice none 0 0] 33)).alloc (.cells #[.int .i64 0] 30)).cell? ⟨w.heap.size,0,none⟩=some (.int .i64 n):=(aj m.out.1 0).trans rfl;have co:(((w.alloc (.cells #[.int .i64 n,.slice A0 E.length c0] 24)).alloc (.cells #[.slice none 0 0] 33)).alloc (.cells #[.int .i64 0] 30)).cell? ⟨w.heap.size,1,none⟩=some (.slice A0 E.length c0):=(aj m.out.1 1).trans rfl;clear hf hr hm am aS cd ce hn;refine(callsIn_wide (n:=10)).1 ?_;refine callsIn_of_wp_marks Tryz.func114 rfl trivial ?_ rfl;simp only[Tryz.ntmps114,List.size_toArray,List.length_cons,List.length_nil,Nat.reduceAdd,Nat.reduceSub,Array.replicate_succ,Array.replicate_zero,List.push_toArray,List.append_toArray,List.nil_append,List.cons_append];gi_wp2_with (first|(refine⟨trivial,?_⟩;gi_at_call 173;refine(callsIn_wide.2 (fP.calls k n A0 c0 E q l 0 _ (Kd.bp (Kd.bp (Kd.bp aO _) _) _) aP Hf.out)).mono ?_;rintro e w1 ⟨v,rfl,cq,hb⟩;have HB:=zA ((ao (ao (ao (aq w.heap.size w) _) _) _).trans (hb.mono (by simp;omega)));have X0:=zA (aE m.out.1 hb);have y:=zA (aE m.out.2.1 hb);have J:=zA (aE m.out.2.2 hb);have y0:(w1.alloc (.cells #[.slice none 0 0] 33)).cell? ⟨w.heap.size,0,none⟩=some (.int .i64 n):=(aj (au X0.out _) 0).trans rfl;have y1:(w1.alloc (.cells #[.slice none 0 0] 33)).cell? ⟨w.heap.size,1,none⟩=some (.slice A0 E.length c0):=(aj (au X0.out _) 1).trans rfl;clear cq hb)|(refine⟨trivial,?_⟩;gi_at_call 174;refine(callsIn_wide.2 (Dv n A0 c0 E q _)).mono ?_;rintro e w3 ⟨rfl,rfl⟩))
 have c3:w.heap.size+1+1<w1.heap.size:=aA J.out;have c4:=HB.out.size;obtain⟨Q,a2⟩:∃o:Obj,o= .cells #[.int .i64 n,.slice A0 E.length c0] 24:=⟨_,rfl⟩;obtain⟨S,a3⟩:∃o:Obj,o= .cells #[.int .i64 q] 3:=⟨_,rfl⟩;obtain⟨T,a4⟩:∃o:Obj,o= .cells #[.slice none 0 0] 33:=⟨_,rfl⟩;obtain⟨Z0,Z1,Z2⟩:=lx w1 T Q S;have L:=zA (Z0.trans (by rw[a4]:_=some (.cells #[.slice none 0 0] 33 (0,0))));have U:=zA (Z1.trans (by rw[a2]:_=some (.cells #[.int .i64 n,.slice A0 E.length c0] 24 (0,0))));have V:=zA (Z2.trans (by rw[a3]:_=some (.cells #[.int .i64 q] 3 (0,0))));have X:=zA (ao (ao (ao HB.out T) Q) S);have be:=zA (au (au (au y.out T) Q) S);have bf:=zA (au (au (au J.out T) Q) S);clear Z0 Z1 Z2;subst a2 a3 a4;clear y0 y1 cn co X0 y J HB m;generalize (((w1.alloc (.cells #[.slice none 0 0] 33)).alloc (.cells #[.int .i64 n,.slice A0 E.length c0] 24)).alloc (.cells #[.int .i64 q] 3))=a at L U V X be bf⊢;have c5:=aA L.out;have c6:=aA U.out;have c7:=aA V.out;generalize c8:w1.heap.size+1+1=qx at V c7⊢;generalize c9:w1.heap.size+1=gx at U c6 c8⊢;generalize w1.heap.size=bo at L c3 c4 c5 c9⊢;have eg:=X.out.size;refine iz (σ:=Unit) (α:=List Int×Value) (F:=Fence.wide) (n:=10) rfl (by decide) (gf:=199) (lb:=#[.pointer (some ⟨gx,0,none⟩),.pointer (some ⟨qx,0,none⟩)]) rfl trivial (enters_of Tryz.func199 (by kernel_rfl) rfl)
  (fun o=>Dk (w0:=w) (B:=o6) (K:=k+20) (n:=n) (A0:=A0) (c0:=c0) (E:=E) (q:=q) (gx:=gx) (qx:=qx) (calm:=cp n (af E) q) _ (a.heap.size+2) (by simp) a0 aO aP cf.out ch.out (by decide) (by decide) ck.out (au (au U.out _) _) (au (au V.out _) _) (ao (ao X.out _) _)) (fun _=>rfl)
  (fun _=>True) ?en ?st ?ar
  (fun _ pre W=>a.heap.size+2<=W.heap.size/\∃v,W.heap[bo]? =some (.cells #[v] 33 (0,0))/\W.heap[w.heap.size+1]? =some (.cells #[.slice none 0 0] 33 (0,0))/\W.heap[w.heap.size+1+1]? =some (.cells #[.int .i64 0] 30 (0,0))/\(Kd.slice 3 (Kd.int .i64)).R 26 W w.heap.size (fun k=>¬(k=gx\/k=qx\/a.heap.size+2<=k/\k<a.heap.size+2+4)) v (pre.map Prod.fst)/\Below w.heap.size w W) (fun _ _ _ _=>False)
  ?is (fun _ _ _ _ _ _ h _=>h) ?ib (fun _ _ _ _ _ h _=>h) ?kt ?h0 ?a1 ?assign ?body ?done (fun _ _ _ _ _ _ _ h=>h.elim)
 case assign=>
  intro l x W K hK;gi_wp2;exact hK
 case en=>
  intro o s W1 h;exact⟨trivial,by rw[h];exact ct.refl _ _⟩
 case st=>intro s A B _ h k o h1 G g _;exact(h.block k (Array.getElem?_eq_some_iff.1 g).1 (fun e=>by injection e;omega)).trans g
 case ar=>intro s x A B _ h k o h1 G g _;exact(h.1.block k (Array.getElem?_eq_some_iff.1 g).1 (fun e=>by injection e;omega)).trans g
 case is=>
  rintro s pre A B _ ⟨M,v,h1,G,g,h4,Y⟩ H;exact⟨Nat.le_trans M H.size,v,(H.block bo (aA h1) (fun e=>by injection e;omega)).trans h1,(H.block _ (aA G) (fun e=>by injection e;omega)).trans G,(H.block _ (aA g) (fun e=>by injection e;omega)).trans g,Kd.lR h4 H (fun k hk e=>hk (.inr (.inr (by injection e;omega)))),kc Y _ Y.size H (fun k e=>by injection e;omega)⟩
 case ib=>
  rintro s pre A B ⟨M,v,h1,G,g,h4,Y⟩ hb;exact⟨by rw[hb.size];exact M,v,hb.cells h1,hb.cells G,hb.cells g,df h4 hb,Y.trans (hb.below w.heap.size (by omega))⟩
 case kt=>
  intro s A B C D Z bg bi;refine⟨fun aY=>((Z.below w.heap.size (by omega)).trans (bg.1 (by rw[Z.size];exact aY))).trans (bi.below w.heap.size (by omega)),fun k hk aY=>?_⟩;have bk:k≠a.heap.size+1:=by rcases hk with rfl|rfl|hk<;>omega
  exact(bi.heap k bk).trans ((bg.2 k hk (by rw[Z.size];exact aY)).trans (Z.heap k bk))
 case h0=>
  rintro o s W1 rfl;exact⟨by simp,_,au (au L.out _) _,au (au be.out _) _,au (au bf.out _) _,Kd.dh _ _ _ _ _,ao (ao X.out _) _⟩
 case body=>
  rintro l s pre ⟨xl,xv⟩ N W1 W _ ⟨M,v,i1,i2,i3,i4,i5⟩ ⟨z,aa,el⟩ bv b;simp only at aa;obtain⟨Ax,cx,rfl⟩:=Kd.bm aa;have em:N.heap.size<=W.heap.size:=by have:=b.size;have:=z.size;omega
  have b1:=zA (b.cells ((z.block bo (aA i1) (fun e=>by injection e;omega)).trans i1));have r:=zA (b.cells ((z.block _ (aA i2) (fun e=>by injection e;omega)).trans i2));have b3:=zA (b.cells ((z.block _ (aA i3) (fun e=>by injection e;omega)).trans i3));have b4:=zA (df (Kd.lR i4 z (fun k hk e=>hk (.inr (.inr (by injection e;omega))))) b);have b5:=zA ((kc i5 _ i5.size z (fun k e=>by injection e;omega)).trans (b.below w.heap.size (by omega)));have bx:=zA (Kd.mL (Kd.bj (Kd.bb (ok':=fun k=>N.heap.size<=k) (Kd.eV (df aa b)) (fun k hk=>hk.2.1)) i5.size));have bw:∀k,v.ownBlock=some k->k<N.heap.size:=fun k hk=>Kd.a_ i4 k hk
  have b0:=zA bw;have ds:=zA (Kd.gQ i4);clear i1 i2 i3 i4 i5 z aa b bw;obtain⟨Ar,cr,rfl⟩:=Kd.bm b4.out;have b_:(pre.map Prod.fst).length=pre.length:=by simp
  rw[b_] at b1 b4 b0 ds;have hc:=cY b1.out;have hf:=bt b1.out 0;have er:(((pre.length:Nat):Int)==16384)=false:=by simp;omega
  have LN:Aside0 (((pre.map Prod.fst).length+1)*24<=140737488355328):=⟨by rw[b_];omega⟩;have d0:Aside0 (∀k,N.heap.size<=k->¬(k=gx\/k=qx\/a.heap.size+2<=k/\k<a.heap.size+2+4)/\some k≠(Value.slice Ar pre.length cr).ownBlock):=⟨fun k hk=>⟨by omega,fun e=>by have:=b0.out k e.symm;omega⟩⟩;have d1:Aside0 (∀k,W.heap.size<=k->¬(k=gx\/k=qx\/a.heap.size+2<=k/\k<a.heap.size+2+4)):=⟨fun k hk=>by omega⟩;gi_wp2_with (gi_at_builtin;go_loud (refine ny (Kd.slice 3 (Kd.int .i64)) (w0:=w) w.heap.size rfl (.tmp 26) (.tmp 28) 33 26 (.slice none 0 0) 24 rfl Tryz.underlying33 qk rfl (by decide) (by omega) (.slice Ar pre.length cr) (pre.map Prod.fst) xl [.slice Ax xl.length cx] (fun k=>¬(k=gx\/k=qx\/a.heap.size+2<=k/\k<a.heap.size+2+4)) (fun k=>N.heap.size<=k) rfl rfl bx.out d0.out d1.out b4.out b5.out b5.out.size LN.out ?_;intro v1 es aF hb O d2;obtain⟨A1,c1,rfl⟩:=Kd.bm aF;have y:=zA ((O.block bo (aA b1.out) (Kd.dj b4.out b1.out (by decide))).trans b1.out);have J:=zA ((O.block _ (aA r.out) (Kd.dj b4.out r.out (by decide))).trans r.out);have I:=zA ((O.block _ (aA b3.out) (Kd.dj b4.out b3.out (by decide))).trans b3.out);have ev:=cY y.out;have ew:=bt y.out 0;have d3:=zA aF;have d4:=zA hb;have ad:=zA O;clear aF hb O d2))
  refine⟨(nz b4.out ad.out).trans (eO _ _ (aA L.out)),⟨fun aY=>Below.setCell ((aq w.heap.size W).grown ad.out aY (Kd.dY b4.out)) (by show w.heap.size<=bo;omega) _,fun k hk d5=>?_⟩,by have:=ad.out.size;simp;omega,.slice A1 (pre.length+1) c1,by simpa using bQ y.out 0 (.slice A1 (pre.length+1) c1),aD J.out (by show w.heap.size+1≠bo;omega) _,aD I.out (by show w.heap.size+1+1≠bo;omega) _,?_,dN d4.out (by show w.heap.size<=bo;omega)⟩
  ·have d6:k≠bo:=by rcases hk with rfl|rfl|hk<;>omega
   rw[Below.heap_setCell _ _ _ _ d6];exact ad.out.block k d5 (fun e=>(b4.out.1 k e.symm) hk)
  ·have h:=Kd.fg d3.out y.out (by decide) 0 (.slice A1 (pre.length+1) c1)
   simpa using h
 case done=>
  rintro s xs W W' _ b' ⟨M,v,i1,i2,i3,i4,i5⟩ b ca;obtain⟨i,j,hv⟩:=Kd.bm i4;rw[List.length_map] at hv;subst hv;have b1:=zA (b.cells i1);have r:=zA (b.cells i2);have b3:=zA (b.cells i3);have b4:=zA (df i4 b);have b5:=zA (i5.trans (b.below w.heap.size (by omega)));have d7:=zA ca;have m:=zA (show xs.map Prod.fst=e7 n E q from b');clear i1 i2 i3 i4 i5 ca b' b;have hc:=cY b1.out;have q1:W'.cell? ⟨w.heap.size+1,0,none⟩=some (.slice none 0 0):=(aj r.out 0).trans rfl;have q2:W'.frozen? ⟨w.heap.size+1,0,none⟩=false:=bt r.out 0;have I:=zA (aD (p:=⟨w.heap.size+1,0,none⟩) b3.out (by show w.heap.size+1+1≠w.heap.size+1;omega) (.slice i xs.length j));have q3:(W'.setCell ⟨w.heap.size+1,0,none⟩ (.slice i xs.length j)).cell? ⟨w.heap.size+1+1,0,none⟩=some (.int .i64 0):=(aj I.out 0).trans rfl;have q4:=bt I.out 0;have Y1:=zA (aD (p:=⟨w.heap.size+1+1,0,none⟩) (bQ r.out 0 (.slice i xs.length j)) (by show w.heap.size+1≠w.heap.size+1+1;omega) (.int .i64 0));have Y2:=zA (bQ I.out 0 (.int .i64 0));have bv:w.heap.size+1≠a.heap.size:=by omega
  have ea:w.heap.size+1+1≠a.heap.size:=by omega
  have Y3:=zA (show ((W'.setCell ⟨w.heap.size+1,0,none⟩ (.slice i xs.length j)).setCell ⟨w.heap.size+1+1,0,none⟩ (.int .i64 0)).heap[a.heap.size]? =some (.deferred (some [])) from by rw[Below.heap_setCell _ _ _ _ (fun e=>ea e.symm),Below.heap_setCell _ _ _ _ (fun e=>bv e.symm)];exact d7.out);have Y4:=zA (Kd.fg (Kd.fg b4.out r.out (by decide) 0 (.slice i xs.length j)) I.out (by decide) 0 (.int .i64 0));have Y5:=zA ((b5.out.setCell (p:=⟨w.heap.size+1,0,none⟩) (by show w.heap.size<=w.heap.size+1;omega) (.slice i xs.length j)).setCell (p:=⟨w.heap.size+1+1,0,none⟩) (by show w.heap.size<=w.heap.size+1+1;omega) (.int .i64 0));gi_wp2_with fail
  have ag:Bk a.heap.size ((W'.setCell ⟨w.heap.size+1,0,none⟩ (.slice i xs.length j)).setCell ⟨w.heap.size+1+1,0,none⟩ (.int .i64 0)) (((W'.setCell ⟨w.heap.size+1,0,none⟩ (.slice i xs.length j)).setCell ⟨w.heap.size+1+1,0,none⟩ (.int .i64 0)).putObj a.heap.size (.deferred none)):=⟨_,_,Y3.out,rfl,rfl⟩;refine iW (D:=a.heap.size) rfl Y3.out (o5 (p:=4) (u:=5) rfl _ _ ⟨w.heap.size+1,0,none⟩ ⟨w.heap.size+1+1,0,none⟩ (.slice i xs.length j) (.int .i64 0) rfl rfl Tryz.underlying33 Tryz.underlying30 rfl rfl ((aj (ag.cells Y1.out) 0).trans (by simp)) ((aj (ag.cells Y2.out) 0).trans (by simp))) ⟨_,rfl,?_,Y5.out.trans (ag.below w.heap.size (by omega))⟩;rw[<-m.out];exact Kd.bb (df Y4.out ag) (fun _ _=>trivial)
theorem eQ.calls (k:Nat) (b:Int) (g:Option Addr) (i:Nat) (a:List (S83)) (j:Int) (r:List (List Int)) (s:Int) (w:World) (u:Kd.C aN w g a.length a) (x:a.length<=i) (h:eQ.f k b a j=some (r,s)):
  Calls Tryz.prog 114 #[.agg #[.int .i64 b,.slice g a.length i],.int .i64 j] w fun e w'=>∃y:Value,e= .returned (.tuple #[y,.int .i64 s])/\Kd.N (Kd.slice 3 (Kd.int .i64)) 26 w' w.heap.size (fun z=>(w.heap.size<=z)) y r/\Below w.heap.size w w':=by
 unfold eQ.f at h;obtain⟨⟨l,t⟩,o,H⟩:=Option.bind_eq_some_iff.mp h;simp only at H;by_cases p:t=0
 ·subst p
  rw[if_pos rfl] at H;by_cases m:(e7 b.toNat a j.toNat).length<=16384
  ·rw[if_pos m] at H
   simp only[Option.some.injEq,Prod.mk.injEq] at H;obtain⟨rfl,rfl⟩:=H;obtain⟨B, -, -, -⟩:=vz o;obtain⟨_,⟨D,G⟩,_,E,_⟩:=lq B;obtain⟨n,rfl⟩:=Int.eq_ofNat_of_zero_le D;obtain⟨q,rfl⟩:=Int.eq_ofNat_of_zero_le E;rw[aM,aM] at m⊢;refine(Dz k n g i a q l w u x o m).mono ?_;rintro e w' ⟨v,rfl,h1,F⟩;exact⟨v,rfl,Kd.oC (Kd.bb (Kd.eV h1) (fun k hk=>hk.2.1)),F⟩
  ·rw[if_neg m] at H;cases H
 ·rw[if_neg p] at H
  simp only[Option.some.injEq,Prod.mk.injEq] at H;obtain⟨rfl,rfl⟩:=H;refine(Dy k b g i a j l t w u x o p).mono ?_;rintro e w' ⟨rfl,hb⟩;exact⟨_,rfl,Kd.oC (Kd.dh _ _ _ _ _),hb⟩
end
def o7 (qx gx:Nat) (row:Option Nat) (a:World) (l:List (List Int)) (del:List Int->Bool):Prop:=
 ∀(W':World) (A0:Option Addr) (c0:Nat) (x:List Int),a.grownBy W' row->x∈l->x.length<=c0->Kd.C (Kd.int .i64) W' A0 x.length x->
  Calls Tryz.prog 116 #[.slice A0 x.length c0,.pointer (some ⟨qx,0,none⟩),.pointer (some ⟨gx,0,none⟩)] W' fun e w'=>e= .returned (.bool (del x))/\Below W'.heap.size W' w'
theorem vA {l:List (List Int)} {i:Nat} (h:i<l.length):aV l i∈l:=by
 have e:aV l i=l[i]:=by simp[aV,a7,bK h]
 rw[e];exact List.getElem_mem h
theorem vB (qx gx base:Nat) (row:Option Nat) (A:Option Addr) (cap:Nat) (ok:Nat->Prop) (l:List (List Int)) (del:List Int->Bool) (o W:World) (p:Kd.N (Kd.slice 3 (Kd.int .i64)) 26 W base ok (.slice A l.length cap) l) (q:o.grownBy W row) (s:o7 qx gx row o l del):
  Calls Tryz.prog 175 #[.slice A l.length cap,.func (.func 116) #[] #[.pointer (some ⟨qx,0,none⟩),.pointer (some ⟨gx,0,none⟩)]] W fun e w'=>∃r:Int,e= .returned (.int .i64 r)/\((r= -1/\∀j:Nat,j<l.length->del (aV l j)=false)\/∃i:Nat,r=i/\i<l.length/\del (aV l i)=true/\∀j:Nat,j<i->del (aV l j)=false)/\Below W.heap.size W w':=by
 have x:=zA p;have y:=zA q;have z:=zA s;clear p q s;go_enter Tryz.func175,Tryz.ntmps175
 go_wp2;go_loopw [8] (fun i wr=>∃k:Nat,k<=l.length/\i= .int .i64 k/\Aside0 (∀j:Nat,j<k->del (aV l j)=false)/\Aside0 (Below W.heap.size W wr)) (fun i _=>l.length- (intOf i).toNat)
 case atStart=>exact⟨0,by omega,rfl,⟨fun j B=>by omega⟩,⟨aq _ _⟩⟩
 case round=>
  obtain⟨k,hk,rfl,h,a⟩:=hrel;by_cases u:k<l.length
  ·obtain⟨-,C,hC⟩:=Kd.jo (Kd.gy x.out a.out)
   obtain⟨ad,D,cc,rfl,E,v,w⟩:=gC hC k (by omega) (by omega);rw[aM] at E;have g:=zA (z.out wr D cc (aV l k) (y.out.trans (jI a.out _)) (vA u) v w);have F:=zA (rfl:aV l k=aV l k);have G:(0:Int)<=(k:Int):=by omega
   have H:(k:Int)<(l.length:Int):=by omega
   have I:l.length<=9223372036854775807:=Kd.mM hC;clear hC w v C;cases hb:del (aV l k) with
   |true=>
    rw[hb] at g;have m:=zA hb;clear hb;go_wp2_with (go_at_call 116;refine g.out.mono ?_;rintro e w1 ⟨rfl,b⟩;have n:=zA b;clear b)
    go_ret;exact⟨k,rfl,.inr ⟨k,rfl,u,m.out,h.out⟩,a.out.trans (n.out.mono a.out.size)⟩
   |false=>
    rw[hb] at g;have m:=zA hb;clear hb;go_wp2_with (go_at_call 116;refine g.out.mono ?_;rintro e w1 ⟨rfl,b⟩;have n:=zA b;clear b)
    go_roundw
    case rel=>exact⟨k+1,by omega,by go_num,⟨fun j B=>by
     by_cases e:j=k
     ·subst e;exact m.out
     ·exact h.out j (by omega)⟩,⟨a.out.trans (n.out.mono a.out.size)⟩⟩
    case measure=>exact(show l.length- ((k:Int)+1).toNat<l.length- ((k:Int)).toNat by omega)
  ·obtain rfl:k=l.length:=by omega
   go_wp2;go_ret;exact⟨-1,rfl,.inl ⟨rfl,h.out⟩,a.out⟩
theorem DA {ys:List (List Int)} {i m:Nat} (h:i≠m) (x:List Int):aV (ys.set i x) m=aV ys m:=by
 simp[aV,a7,List.getElem?_set,h]
theorem DB (i:Nat):((i:Int)== -1)=false:=by
 rw[beq_eq_false_iff_ne];omega
theorem vC {l:List (List Int)} {j:Nat} (h:j<l.length):l.take (j+1)=l.take j++[aV l j]:=by
 rw[List.take_succ_eq_append_getElem h];simp[aV,a7,bK h]
theorem DC {ys:List (List Int)} {i:Nat} (h:i<ys.length) (x:List Int):(ys.set i x).take (i+1)=ys.take i++[x]:=by
 rw[List.take_succ_eq_append_getElem (by simpa using h)];simp[List.take_set_of_le]
theorem DD {l:List (List Int)} {del:List Int->Bool} {j:Nat} (h:j<l.length):(l.take (j+1)).filter (fun x=> !del x)=(l.take j).filter (fun x=> !del x)++(if del (aV l j) then[] else[aV l j]):=by
 rw[vC h,List.filter_append];cases hd:del (aV l j)<;>simp[hd]
theorem DE (w:World):(zeroValue 26).run Tryz.prog w= .ok (.slice none 0 0) w:=by kernel_rfl
theorem DF {l:List (List Int)} {del:List Int->Bool} {i:Nat} (h1:del (aV l i)=true) (b:∀j:Nat,j<i->del (aV l j)=false) (h:i<l.length):l.take i=(l.take (i+1)).filter fun x=> !del x:=by
 rw[vC h,List.filter_append];rw[show[aV l i].filter (fun x=> !del x)=[] by simp[h1],List.append_nil];symm
 rw[List.filter_eq_self];intro x g;obtain⟨j,k,rfl⟩:=List.mem_take_iff_getElem.1 g;have a:=b j (by omega);have e:aV l j=l[j]'(by omega):=by simp[aV,a7,bK (by omega:j<l.length)]
 rw[e] at a;simp[a]
theorem o8 {W:World} {base g0 n cap:Nat} {ok:Nat->Prop} {ys:List (List Int)} {x:List Int} {v:Value} {i:Nat} (h:Kd.N (Kd.slice 3 (Kd.int .i64)) 26 W base ok (.slice (some ⟨g0,0,none⟩) n cap) ys) (l:Kd.FK (Kd.slice 3 (Kd.int .i64)) W (fun k=>ok k/\k≠g0) x [v]) (hi:i<n):
  (∃u,W.cell? ⟨g0,i,none⟩=some u)/\W.frozen? ⟨g0,i,none⟩=false/\Kd.N (Kd.slice 3 (Kd.int .i64)) 26 (W.setCell ⟨g0,i,none⟩ v) base ok (.slice (some ⟨g0,0,none⟩) n cap) (ys.set i x)/\W.grownBy (W.setCell ⟨g0,i,none⟩ v) (some g0):=by
 obtain⟨c,b, -,a,m⟩:=Kd.qb h [] (i:Int) (by omega) (by omega);obtain⟨u,rfl⟩:∃u,c=[u]:=List.length_eq_one_iff.1 b;have e:=Kd.AT h (i:Int) (by omega) (by omega) (c:=[u]) (seg:=[v]) (j:=0) (x':=x) (okp:=fun k=>ok k/\k≠g0) b a (by simp[Kd.slice]) (by simpa using l) (fun k hk=>hk);rw[aM] at a e;have o:=a 0 u rfl;have g:=m 0;rw[aM] at g;refine⟨⟨u,by simpa [Kd.slice] using o⟩,by simpa [Kd.slice] using g,?_⟩;simpa [Kd.slice,World.setCells] using e
theorem DG {base g0 n cap:Nat} {ok:Nat->Prop}:∀(m i:Nat) (W:World) (ys:List (List Int)),i+m=n->ys.length=n->Kd.N (Kd.slice 3 (Kd.int .i64)) 26 W base ok (.slice (some ⟨g0,0,none⟩) n cap) ys->
  ∃zs:List (List Int),zs.length=n/\zs.take i=ys.take i/\Kd.N (Kd.slice 3 (Kd.int .i64)) 26 (W.setCells g0 i (List.replicate m (.slice none 0 0))) base ok (.slice (some ⟨g0,0,none⟩) n cap) zs/\W.grownBy (W.setCells g0 i (List.replicate m (.slice none 0 0))) (some g0):=by
 intro m;induction m with
 |zero=>intro i W ys _ a h;exact⟨ys,a,rfl,h,⟨rfl,rfl,rfl,aI _,fun _ _ _=>rfl⟩⟩
 |succ m e=>
  intro i W ys hi a h;obtain⟨-, -,h1,g⟩:=o8 (x:=[]) (v:=.slice none 0 0) (i:=i) h (fun W' _=>⟨none,0,rfl,aI _,Kd.nY _ _⟩) (by omega);obtain⟨zs,z1,z2,z3,z4⟩:=e (i+1) _ (ys.set i []) (by omega) (by rw[List.length_set];exact a) h1;refine⟨zs,z1,?_,by rw[List.replicate_succ,World.setCells];exact z3,by rw[List.replicate_succ,World.setCells];exact g.trans z4⟩;have b:=congrArg (List.take i) z2;rw[List.take_take,List.take_take,show min i (i+1)=i by omega] at b;rw[b,List.take_set_of_le (aI i)]
theorem DH (qx gx base g0 cap:Nat) (ok:Nat->Prop) (l:List (List Int)) (del:List Int->Bool) (y W:World) (g:Kd.N (Kd.slice 3 (Kd.int .i64)) 26 W base ok (.slice (some ⟨g0,0,none⟩) l.length cap) l) (z:y.grownBy W (some g0)) (B:o7 qx gx (some g0) y l del) (hex:∃j:Nat,j<l.length/\del (aV l j)=true):
  Calls Tryz.prog 115 #[.slice (some ⟨g0,0,none⟩) l.length cap,.func (.func 116) #[] #[.pointer (some ⟨qx,0,none⟩),.pointer (some ⟨gx,0,none⟩)]] W fun e w'=>∃m:Nat,e= .returned (.slice (some ⟨g0,0,none⟩) m cap)/\m=(l.filter fun x=> !del x).length/\Kd.N (Kd.slice 3 (Kd.int .i64)) 26 w' base ok (.slice (some ⟨g0,0,none⟩) m cap) (l.filter fun x=> !del x)/\W.grownBy w' (some g0):=by
 have HN:=zA g;have an:=zA z;have HD:=zA B;have ar:=zA hex;have J:Aside0 (Calls Tryz.prog 175 #[.slice (some ⟨g0,0,none⟩) l.length cap,.func (.func 116) #[] #[.pointer (some ⟨qx,0,none⟩),.pointer (some ⟨gx,0,none⟩)]] W fun e w'=>∃i:Nat,e= .returned (.int .i64 i)/\i<l.length/\del (aV l i)=true/\(∀j:Nat,j<i->del (aV l j)=false)/\Below W.heap.size W w'):=⟨(vB qx gx base (some g0) (some ⟨g0,0,none⟩) cap ok l del y W g z B).mono (by
  rintro e w' ⟨r,rfl,h|⟨i,rfl,h1,h2,h3⟩,hb⟩
  ·obtain⟨j,k,K⟩:=hex
   rw[h.2 j k] at K;cases K
  ·exact⟨i,rfl,h1,h2,h3,hb⟩)⟩
 obtain⟨-,a2,L⟩:=Kd.jo g;have a3:l.length<=9223372036854775807:=Kd.mM L;clear g z B hex L;go_enter Tryz.func115,Tryz.ntmps115
 go_wp2_with (go_at_call 175;refine J.out.mono ?_;rintro e w1 ⟨i0,rfl,M,O,Q,hb⟩;have R:=zA O;have S:=zA Q;have C:=zA hb;have aF:=DB i0;clear O Q hb)
 have T:=zA (DF R.out S.out M);have U:=zA (jI C.out (some g0));have V:=zA (Kd.gy HN.out C.out);clear J R S C ar aF;go_loopw [5,6] (fun ii D wr=>∃(i j:Nat) (ys:List (List Int)),i<j/\j<=l.length/\ii= .int .i64 i/\D= .int .i64 j/\Aside0 (ys.length=l.length)/\Aside0 (ys.take i=(l.take j).filter fun x=> !del x)/\Aside0 (∀m:Nat,j<=m->aV ys m=aV l m)/\Aside0 (Kd.N (Kd.slice 3 (Kd.int .i64)) 26 wr base ok (.slice (some ⟨g0,0,none⟩) l.length cap) ys)/\Aside0 (W.grownBy wr (some g0))) (fun _ D _=>l.length- (intOf D).toNat)
 case atStart=>exact⟨i0,i0+1,l,by omega,by omega,rfl,by go_num,⟨rfl⟩,T,⟨fun _ _=>rfl⟩,V,U⟩
 case round=>
  clear T U V;obtain⟨i,j,ys,a4,k,rfl,rfl,n,E,F,b,o⟩:=hrel;by_cases X:j<l.length
  ·obtain⟨c,G,p,H, -⟩:=Kd.qb b.out [] (j:Int) (by omega) (by omega)
   rw[show ys.getD (j:Int).toNat []=aV l j from F.out j (aI _)] at p;rw[aM] at H;obtain⟨Y,Z,rfl,hle,hF⟩:=Kd.kU p;have a5:wr.cell? ⟨g0,j,none⟩=some (.slice Y (aV l j).length Z):=by have h:=H 0 _ rfl;simpa [Kd.slice] using h
   have q:=zA (HD.out wr Y Z (aV l j) (an.out.trans o.out) (vA X) hle (Kd.il hF));have aL:=zA p;have a9:(0:Int)<=(j:Int):=by omega
   have bd:(j:Int)<(l.length:Int):=by omega
   have be:(0:Int)<=(i:Int):=by omega
   have aO:(i:Int)<(l.length:Int):=by omega
   have s:=zA (show (l.take (j+1)).filter (fun x=> !del x)=(l.take j).filter (fun x=> !del x)++(if del (aV l j) then[] else[aV l j]) from DD X);have bf:=zA (show ∃x,x=aV l j from⟨_,rfl⟩);clear G p H hle hF;cases hb:del (aV l j) with
   |true=>
    rw[hb] at q s;clear hb;go_wp2_with (go_at_call 116;refine q.out.mono ?_;rintro e w2 ⟨rfl,a⟩;have w:=zA a;clear a)
    go_roundw
    case rel=>exact⟨i,j+1,ys,by omega,by omega,rfl,by go_num,n,⟨by rw[s.out,E.out];simp⟩,⟨fun m hm=>F.out m (by omega)⟩,⟨Kd.gy b.out w.out⟩,⟨o.out.trans (jI w.out _)⟩⟩
    case measure=>exact(show l.length- ((j:Int)+1).toNat<l.length- ((j:Int)).toNat by omega)
   |false=>
    rw[hb] at q s;clear hb;go_wp2_with (go_at_call 116;refine q.out.mono ?_;rintro e w2 ⟨rfl,a⟩;obtain⟨q1,q2,I⟩:=o8 (Kd.gy b.out a) (Kd.AH aL.out a) (show i<l.length by omega);have w:=zA a;have aP:=zA I.1;have aS:=zA I.2;obtain⟨q0,q1⟩:=q1;clear I a)
    go_roundw
    case rel=>exact⟨i+1,j+1,ys.set i (aV l j),by omega,by omega,by go_num,by go_num,⟨by rw[List.length_set];exact n.out⟩,⟨by rw[DC (by rw[n.out];omega),s.out,E.out];simp⟩,⟨fun m hm=>by rw[DA (by omega)];exact F.out m (by omega)⟩,aP,⟨(o.out.trans (jI w.out _)).trans aS.out⟩⟩
    case measure=>exact(show l.length- ((j:Int)+1).toNat<l.length- ((j:Int)).toNat by omega)
  ·obtain rfl:j=l.length:=by omega
   have G:=Lib.run_clear_slice (P:=Tryz.prog) wr 33 26 0 (.slice none 0 0) Tryz.underlying33 DE rfl rfl g0 i (l.length-i) (cap-i) (by omega) (fun j k=>by
    obtain⟨⟨u,hu⟩, -⟩:=o8 (x:=[]) (v:=.slice none 0 0) (i:=i+j) b.out (fun W' _=>⟨none,0,rfl,aI _,Kd.nY _ _⟩) (by omega);rw[hu];rfl) (fun j k=>(o8 (x:=[]) (v:=.slice none 0 0) (i:=i+j) b.out (fun W' _=>⟨none,0,rfl,aI _,Kd.nY _ _⟩) (by omega)).2.1)
   obtain⟨zs,z1,z2,z3,z4⟩:=DG (l.length-i) i wr ys (by omega) n.out b.out;have ab:=zA z1;have a0:=zA z2;have ad:=zA z3;have ag:=zA z4;have M:(0:Int)<=(i:Int):=by omega
   have aO:(i:Int)<=(l.length:Int):=by omega
   have bi:(i:Int)<=(cap:Int):=by omega
   have bk:¬cap=i:=by omega
   clear z1 z2 z3 z4;generalize wr.setCells g0 i (List.replicate (l.length-i) (.slice none 0 0))=w9 at G ad ag;go_wp2;go_ret;have ak:(l.filter fun x=> !del x)=zs.take i:=by
    have h:=E.out;rw[List.take_length] at h;rw[<-h,a0.out]
   have a1:i=(l.filter fun x=> !del x).length:=by rw[ak,List.length_take,ab.out];omega
   refine⟨i,rfl,a1,?_,o.out.trans ag.out⟩;rw[ak];exact Kd.AS ad.out (by rw[ab.out];omega)
theorem filter_none {l:List (List Int)} {del:List Int->Bool} (h:∀j:Nat,j<l.length->del (aV l j)=false):(l.filter fun x=> !del x)=l:=by
 rw[List.filter_eq_self];intro x g;obtain⟨j,a,rfl⟩:=List.mem_iff_getElem.1 g;have b:=h j a;have e:aV l j=l[j]:=by simp[aV,a7,bK a]
 rw[e] at b;simp[b]
theorem DJ (qx gx base:Nat) (row:Option Nat) (A:Option Addr) (cap:Nat) (ok:Nat->Prop) (l:List (List Int)) (del:List Int->Bool) (a W:World) (b:Kd.N (Kd.slice 3 (Kd.int .i64)) 26 W base ok (.slice A l.length cap) l) (g:a.grownBy W row) (k:o7 qx gx row a l del) (hex:∀j:Nat,j<l.length->del (aV l j)=false):
  Calls Tryz.prog 115 #[.slice A l.length cap,.func (.func 116) #[] #[.pointer (some ⟨qx,0,none⟩),.pointer (some ⟨gx,0,none⟩)]] W fun e w'=>e= .returned (.slice A l.length cap)/\Below W.heap.size W w':=by
 have n:Aside0 (Calls Tryz.prog 175 #[.slice A l.length cap,.func (.func 116) #[] #[.pointer (some ⟨qx,0,none⟩),.pointer (some ⟨gx,0,none⟩)]] W fun e w'=>e= .returned (.int .i64 (-1))/\Below W.heap.size W w'):=⟨(vB qx gx base row A cap ok l del a W b g k).mono (by
  rintro e w' ⟨r,rfl,⟨rfl,h⟩|⟨i,rfl,h1,m,p⟩,hb⟩
  ·exact⟨rfl,hb⟩
  ·rw[hex i h1] at m;cases m)⟩
 clear b g k hex;go_enter Tryz.func115,Tryz.ntmps115
 go_wp2_with (go_at_call 175;refine n.out.mono ?_;rintro e w1 ⟨rfl,hb⟩;have o:=zA hb;clear hb)
 go_ret;exact⟨rfl,o.out⟩
def cM.l0:Nat->Int->List Int->Int->Int->List (S83)->Option (List Int)
 |0,_,_,_,_,_=>none
 |k+1,x1,x2,x3,a,b=>(eP.f k a b x1 x2).bind fun e=>(if e=true then(if 0<=x3 then(if x3<(x2.length:Int) then(cM.l0 k x1 (x2.set (x3:Int).toNat (wrap64 ((rd x2 x3)+1))) x3 a b) else(none)) else(none)) else(if 0<=x3 then(if x3<(x2.length:Int) then(some (x2.set (x3:Int).toNat (wrap64 ((rd x2 x3)-1)))) else(none)) else(none)))
def cM.f (k:Nat) (b:Int) (e:List (S83)) (g:Int) (l2:List Int) (a3:Int):Option (List Int):=(fF.f l2).bind fun a=>(if 0<=a3 then(if a3<(a.length:Int) then(cM.l0 k g (a.set (a3:Int).toNat (wrap64 ((rd a a3)+1))) a3 b e) else(none)) else(none))
theorem cM.cy:∀k,(∀a b e g i,al (cM.l0 k a b e g i) (cM.l0 (k+1) a b e g i))
 |0=>fun _ _ _ _ _ r h=>by simp[cM.l0] at h
 |k+1=>by
  have j:=cM.cy k
  ·intro a b e g i
   unfold cM.l0;with_reducible repeat' first|exact j _ _ _ _ _|exact eP.mono _ _ _ _ _|exact al.refl _|exact al.none _|refine al.ite ?_ ?_|refine al.bind ?_ (fun _=>?_)
theorem cM.mono:∀a0 a a2 a3 a4 k,al (cM.f k a0 a a2 a3 a4) (cM.f (k+1) a0 a a2 a3 a4):=by
 intro a0 a a2 a3 a4 k;have b:=cM.cy k;unfold cM.f;with_reducible repeat' first|exact b _ _ _ _ _|exact eP.mono _ _ _ _ _|exact al.refl _|exact al.none _|refine al.ite ?_ ?_|refine al.bind ?_ (fun _=>?_)
theorem cM.calls (k:Nat) (m:Int) (u:Option Addr) (x:Nat) (j:List (S83)) (o:Int) (U:Option Addr) (c2:Nat) (l2:List Int) (a3:Int) (r:List Int) (w:World) (a4:Kd.C aN w u j.length j) (a5:j.length<=x) (a9:Kd.C (Kd.int .i64) w U l2.length l2) (bd:l2.length<=c2) (h:cM.f k m j o l2 a3=some r):
  Calls Tryz.prog 117 #[.agg #[.int .i64 m,.slice u j.length x],.int .i64 o,.slice U l2.length c2,.int .i64 a3] w fun e w'=>∃be:Value,e= .returned (be)/\Kd.R (Kd.int .i64) 3 w' w.heap.size (fun _=>True) be r/\Below w.heap.size w w':=by
 have cx:=Tryz.underlying24;have bf:=zA a4;have bg:=zA a5;clear a4 a5;have b6:=zA a9;have b_:=zA bd;clear a9 bd;have i:=zA (aq w.heap.size w);unfold cM.f at h;have H:=h;clear h;obtain⟨n,A5,H⟩:=zo H;by_cases D:0<=a3
 ·rw[if_pos D] at H
  have ca:=az D;clear D;by_cases E:a3<(n.length:Int)
  ·rw[if_pos E] at H
   have cb:=az E;clear E;obtain⟨V,W⟩:∃B:List Int,B=(n.set (a3:Int).toNat (wrap64 ((rd n a3)+1))):=⟨_,rfl⟩;replace H:(cM.l0 k o V a3 m j)=some r:=zh W H;have cc:=zA W;clear W;have F:=zA H;clear H;go_enter Tryz.func117,Tryz.ntmps117
   go_wp2_with (first|((with_reducible refine aJ (N:=4) rfl ?_);refine zX 4 #[.int .i64 m,.slice u j.length x] 24 ?_;intro cd hg w9 bi hb;have g:=zA (bi);have c1:=zG i hg;have c3:=zG i hg;replace i:=zS i hb;clear hb bi hg)|((with_reducible refine aG (f:=57) rfl ?_);refine zL (some 10) Tryz.func57 #[.slice U l2.length c2] ?_;(with_reducible refine(fF.calls _ _ l2 n _ ?ah ?ai A5.out).mono ?_);(case ah=>exact Kd.aw b6.out zB);(case ai=>exact b_.out);rintro e bk ⟨c4,rfl,bn,hb⟩;refine⟨_,rfl,?_⟩;have q:=zA (Kd.bj bn (bu zB));replace g:=zb g hb;replace i:=zS i hb;(try clear hb);(try clear bn);obtain⟨c5,y,ce⟩:=Kd.bm q.out;subst ce;have G:0<=(a3:Int):=ay ‹_›;have I:a3<(n.length:Int):=ay ‹_›;obtain⟨c8,cf,bo⟩:=Kd.bU (Kd.aQ q.out).2.2 a3 G I;cases cf;replace G:=eq_true G;replace I:=eq_true I;have J:0<=(a3:Int):=ay ‹_›;have K:(a3:Int)<((n.length:Int):Int):=ay ‹_›;obtain⟨l,c9,bv,bw,ch,c',bx⟩:=Kd.fK q.out (by omega);(first|cases bv|(injection bv with L ci cj;(first|subst L|(injection L with L;subst L));subst cj;clear ci));have X:=zA bw;have dd:=zA bx;clear bw ch bx;(first|simp only[add_plain] at bo|skip);obtain⟨ck,dk⟩:=Kd.b7 0 q.out (a3:Int) J K;replace J:=eq_true J;replace K:=eq_true K;obtain⟨dl,ds⟩:=Kd.b7 0 q.out (a3:Int) (ay ‹_›) (ay ‹_›);have Y:=Kd.dt q.out (a3:Int) (wrap64 ((rd n a3)+1)))|((with_reducible refine ki (t:=3) (p:=16) rfl ?_);refine kh (t:=3) (p:=16) (v:=?IJ) (w1:=(bk.setCell ⟨l,(a3:Int).toNat,none⟩ (.int .i64 (wrap64 ((rd n a3)+1))))) ?hg ?ho ?hn ?hr ?_;(case ho=>rfl);(case hg=>rfl);(case hn=>rfl);(case hr=>first|(go_simp;done)|(go_simp;rfl));intro Z hw;have hg:bk.grownBy Z (some l):=(by rw[hw];exact Y.2);have s:Kd.R (Kd.int .i64) 3 Z w.heap.size (fun _=>True) (.slice (some ⟨l,0,none⟩) n.length y) V:=(by rw[hw,cc.out];exact Y.1);clear Y;replace g:=zA (da (zK g) hg (Kd.dj q.out g.out (by decide)));replace q:=zA (s);replace i:=zA ((by rw[hw];exact dN (i.out) X.out:Below w.heap.size w Z));clear hg hw s))
   go_loopg [] k (fun kq w'=>∃(b:List Int),Aside0 (cM.l0 kq o b a3 m j=some r)/\Aside0 (kq<=k)/\Aside0 (Kd.R (Kd.int .i64) 3 w' w.heap.size (fun _=>True) (.slice (some ⟨l,0,none⟩) n.length y) b)/\Aside0 (w'.heap[cd]? =some (.cells #[.int .i64 m,(.slice u j.length x)] 24 (0,0)))/\Aside0 (Below w.heap.size w w'))
   case atStart=>exact⟨(V),F,⟨aI _⟩,⟨zR q⟩,⟨zK g⟩,⟨zB⟩⟩
   case round=>
    clear F;clear ca cb J K bo ck G I;obtain⟨b,HA,b1,a,g,i⟩:=hrel;have z:=(Kd.aQ a.out).1;rw[z] at a
    (try simp only[z])
    (try simp only[z] at g)
    cases gk with
    |zero=>exact absurd HA.out (by simp[cM.l0])
    |succ M=>
     have H:=HA.out;clear HA;simp only[cM.l0] at H;obtain⟨cl,b2,H⟩:=zo H;by_cases O:cl=true
     ·subst O
      replace H:=zi H;by_cases P:0<=a3
      ·rw[if_pos P] at H
       have dv:=az P;clear P;by_cases Q:a3<(b.length:Int)
       ·rw[if_pos Q] at H
        have d0:=az Q;clear Q;obtain⟨ab,ad⟩:∃B:List Int,B=(b.set (a3:Int).toNat (wrap64 ((rd b a3)+1))):=⟨_,rfl⟩;replace H:(cM.l0 M o ab a3 m j)=some r:=zh ad H;have cn:=zA ad;clear ad;have F:=zA H;clear H;obtain⟨d1,d2,d3,d4⟩:=ax g;go_wp2_with (first|((with_reducible refine aG (f:=176) rfl ?_);refine zL (some 20) Tryz.func176 #[.agg #[.int .i64 m,.slice u j.length x],.int .i64 o,.slice (some ⟨l,0,none⟩) b.length y] ?_;(with_reducible refine(eP.calls M m _ _ j o _ _ b true _ ?ah ?ai ?aW ?aX b2.out).mono ?_);(case ah=>exact Kd.aw bf.out zB);(case ai=>exact bg.out);(case aW=>exact zC (Kd.aQ a.out).2.2);(case aX=>exact(Kd.aQ a.out).2.1);rintro e b3 ⟨rfl,hb⟩;refine⟨_,rfl,?_⟩;replace a:=bz a hb;replace g:=zb g hb;replace i:=zS i hb;(try clear hb);have ag:0<=(a3:Int):=ay ‹_›;have ak:a3<(b.length:Int):=ay ‹_›;obtain⟨co,cq,am⟩:=Kd.bU (Kd.aQ a.out).2.2 a3 ag ak;obtain rfl:(⟨l,0,none⟩:Addr)=co:=(by injection cq);(first|simp only[add_plain] at am|simp only[iN] at am|simp only[Addr.add,Nat.zero_add] at am|skip);replace ag:=eq_true ag;replace ak:=eq_true ak;have an:0<=(a3:Int):=ay ‹_›;have ap:(a3:Int)<((b.length:Int):Int):=ay ‹_›;obtain⟨d5,d6⟩:=Kd.b7 0 a.out (a3:Int) an ap;replace an:=eq_true an;replace ap:=eq_true ap;obtain⟨d7,d8⟩:=Kd.b7 0 a.out (a3:Int) (ay ‹_›) (ay ‹_›);have ar:=Kd.dt a.out (a3:Int) (wrap64 ((rd b a3)+1)))|((with_reducible refine ki (t:=3) (p:=26) rfl ?_);refine kh (t:=3) (p:=26) (v:=?Ln) (w1:=(b3.setCell ⟨l,(a3:Int).toNat,none⟩ (.int .i64 (wrap64 ((rd b a3)+1))))) ?hg ?ho ?hn ?hr ?_;(case ho=>rfl);(case hg=>rfl);(case hn=>rfl);(case hr=>first|(go_simp;done)|(go_simp;rfl));intro av hw;have hg:b3.grownBy av (some l):=(by rw[hw];exact ar.2);have s:Kd.R (Kd.int .i64) 3 av w.heap.size (fun _=>True) (.slice (some ⟨l,0,none⟩) b.length y) ab:=(by rw[hw,cn.out];exact ar.1);clear ar;replace g:=zA (da (zK g) hg (Kd.dj a.out g.out (by decide)));replace a:=zA (s);replace i:=zA ((by rw[hw];exact dN (i.out) X.out:Below w.heap.size w av));clear hg hw s))
        (try simp only[<-z])
        go_roundg M
        case measure=>have:=b1.out;omega
        case rel=>exact⟨(ab),F,⟨by have:=b1.out;omega⟩,⟨by(try simp only[z]);(with_reducible repeat(first|apply Kd.aR|apply Kd.bD|apply Kd.bq));exact a.out⟩,⟨by(try simp only[z]);exact zK g⟩,⟨zB⟩⟩
       ·rw[if_neg Q] at H
        exact absurd H (by simp)
      ·rw[if_neg P] at H
       exact absurd H (by simp)
     ·replace O:=Bool.eq_false_iff.mpr O
      subst O;replace H:=zj H;by_cases S:0<=a3
      ·rw[if_pos S] at H
       have d9:=az S;clear S;by_cases T:a3<(b.length:Int)
       ·rw[if_pos T] at H
        have ea:=az T;clear T;obtain⟨b4,aB⟩:∃B:List Int,B=(b.set (a3:Int).toNat (wrap64 ((rd b a3)-1))):=⟨_,rfl⟩;replace H:(some b4)=some r:=zh aB H;have cr:=zA aB;clear aB;obtain rfl:=aH H;obtain⟨eb,ed,eg,ek⟩:=ax g;go_wp2_with (first|((with_reducible refine aG (f:=176) rfl ?_);refine zL (some 20) Tryz.func176 #[.agg #[.int .i64 m,.slice u j.length x],.int .i64 o,.slice (some ⟨l,0,none⟩) b.length y] ?_;(with_reducible refine(eP.calls M m _ _ j o _ _ b false _ ?ah ?ai ?aW ?aX b2.out).mono ?_);(case ah=>exact Kd.aw bf.out zB);(case ai=>exact bg.out);(case aW=>exact zC (Kd.aQ a.out).2.2);(case aX=>exact(Kd.aQ a.out).2.1);rintro e b5 ⟨rfl,hb⟩;refine⟨_,rfl,?_⟩;replace a:=bz a hb;replace g:=zb g hb;replace i:=zS i hb;(try clear hb);have aF:0<=(a3:Int):=ay ‹_›;have aL:a3<(b.length:Int):=ay ‹_›;obtain⟨cs,cv,aO⟩:=Kd.bU (Kd.aQ a.out).2.2 a3 aF aL;obtain rfl:(⟨l,0,none⟩:Addr)=cs:=(by injection cv);(first|simp only[add_plain] at aO|simp only[iN] at aO|simp only[Addr.add,Nat.zero_add] at aO|skip);replace aF:=eq_true aF;replace aL:=eq_true aL;have aP:0<=(a3:Int):=ay ‹_›;have aS:(a3:Int)<((b.length:Int):Int):=ay ‹_›;obtain⟨el,em⟩:=Kd.b7 0 a.out (a3:Int) aP aS;replace aP:=eq_true aP;replace aS:=eq_true aS;obtain⟨er,es⟩:=Kd.b7 0 a.out (a3:Int) (ay ‹_›) (ay ‹_›);have a0:=Kd.dt a.out (a3:Int) (wrap64 ((rd b a3)-1)))|((with_reducible refine ki (t:=3) (p:=32) rfl ?_);refine kh (t:=3) (p:=32) (v:=?Lm) (w1:=(b5.setCell ⟨l,(a3:Int).toNat,none⟩ (.int .i64 (wrap64 ((rd b a3)-1))))) ?hg ?ho ?hn ?hr ?_;(case ho=>rfl);(case hg=>rfl);(case hn=>rfl);(case hr=>first|(go_simp;done)|(go_simp;rfl));intro a2 hw;have hg:b5.grownBy a2 (some l):=(by rw[hw];exact a0.2);have s:Kd.R (Kd.int .i64) 3 a2 w.heap.size (fun _=>True) (.slice (some ⟨l,0,none⟩) b.length y) b4:=(by rw[hw,cr.out];exact a0.1);clear a0;replace g:=zA (da (zK g) hg (Kd.dj a.out g.out (by decide)));replace a:=zA (s);replace i:=zA ((by rw[hw];exact dN (i.out) X.out:Below w.heap.size w a2));clear hg hw s))
        go_ret;exact⟨_,zE,by(with_reducible repeat(first|apply Kd.aR|apply Kd.bD|apply Kd.bq));exact a.out,zB⟩
       ·rw[if_neg T] at H
        exact absurd H (by simp)
      ·rw[if_neg S] at H
       exact absurd H (by simp)
  ·rw[if_neg E] at H
   exact absurd H (by simp)
 ·rw[if_neg D] at H
  exact absurd H (by simp)
def eR (x:List Int) (q:Int) (r:Nat->List Int) (k:Nat):Bool:=(List.range k).any fun v=>decide ((v:Int)≠q)&&decide (rd x v<rd (r v) v)
theorem o9 (x:List Int) (q:Int) (r:Nat->List Int) (k:Nat):eR x q r (k+1)=(eR x q r k||(decide ((k:Int)≠q)&&decide (rd x k<rd (r k) k))):=by simp[eR,List.range_succ,List.any_append]
theorem DK {x:List Int} {q:Int} {r:Nat->List Int} {k n:Nat} (hk:k<n) (a:(k:Int)≠q) (h:rd x k<rd (r k) k):eR x q r n=true:=by
 unfold eR;rw[List.any_eq_true];exact⟨k,List.mem_range.2 hk,by simp[a,h]⟩
theorem DL (K:Nat) (N:Int) (A0:Option Addr) (c0:Nat) (E:List S83) (q:Int) (qx gx:Nat) (A:Option Addr) (c:Nat) (x:List Int) (r:Nat->List Int) (W:World) (w:Kd.C aN W A0 E.length E) (J:E.length<=c0) (y:W.heap[gx]? =some (.cells #[.int .i64 N,.slice A0 E.length c0] 24 (0,0))) (z:W.heap[qx]? =some (.cells #[.int .i64 q] 3 (0,0)))
  (l:Kd.C (Kd.int .i64) W A x.length x) (L:x.length<=c) (B:∀v:Nat,v<x.length->(v:Int)≠q->cM.f K N E q x v=some (r v)/\v<(r v).length):
  Calls Tryz.prog 116 #[.slice A x.length c,.pointer (some ⟨qx,0,none⟩),.pointer (some ⟨gx,0,none⟩)] W fun e w'=>e= .returned (.bool (eR x q r x.length))/\Below W.heap.size W w':=by
 have M:=zA w;have D:=zA y;have O:=zA z;have P:=zA l;have Q:=zA B;have Z:x.length<=9223372036854775807:=Kd.mM l;clear w y z l B;go_enter Tryz.func116,Tryz.ntmps116
 go_wp2;go_loopw [10] (fun i wr=>∃k:Nat,k<=x.length/\i= .int .i64 k/\Aside0 (eR x q r k=false)/\Aside0 (Below W.heap.size W wr)) (fun i _=>x.length- (intOf i).toNat)
 case atStart=>exact⟨0,by omega,rfl,⟨rfl⟩,⟨aq _ _⟩⟩
 case round=>
  obtain⟨k,hk,rfl,m,a⟩:=hrel;have aa:wr.cell? ⟨qx,0,none⟩=some (.int .i64 q):=(aj (aE O.out a.out) 0).trans rfl;have ab:wr.cell? ⟨gx,0,none⟩=some (.int .i64 N):=(aj (aE D.out a.out) 0).trans rfl;have ag:wr.cell? ⟨gx,1,none⟩=some (.slice A0 E.length c0):=(aj (aE D.out a.out) 1).trans rfl;have hu:=Tryz.underlying24;by_cases F:k<x.length
  ·have hC:=Kd.aw P.out a.out
   have R:=zA hC;obtain⟨ad,rfl,S⟩:=Kd.bU hC k (by omega) (by omega);rw[aM] at S;have ak:(0:Int)<=(k:Int):=by omega
   have am:(k:Int)<(x.length:Int):=by omega
   clear hC;by_cases b:(k:Int)=q
   ·have o:=zA (show eR x q r (k+1)=false from by rw[o9,m.out];simp[b])
    have T:((k:Int)==q)=true:=by simpa using b
    have G:=zA b;clear b;go_wp2;go_roundw
    case rel=>exact⟨k+1,by omega,by go_num,o,a⟩
    case measure=>exact(show x.length- ((k:Int)+1).toNat<x.length- ((k:Int)).toNat by omega)
   ·have T:((k:Int)==q)=false:=by simpa using b
    obtain⟨H,an⟩:=Q.out k F b;have I:=zA (cM.calls K N A0 c0 E q (some ad) c x k (r k) wr (Kd.aw M.out a.out) J R.out L H);have G:=zA b;clear b H;by_cases p:rd x k<rd (r k) k
    ·have U:=zA (DK (n:=x.length) F G.out p)
     have V:(k:Int)<((r k).length:Int):=by omega
     go_wp2_with (go_at_call 117;refine I.out.mono ?_;rintro e w1 ⟨v1,rfl,g,h⟩;obtain⟨X,cr,rfl⟩:=Kd.bm g;obtain⟨-, -,j⟩:=Kd.aQ g;obtain⟨Y,rfl,s⟩:=Kd.bU j k (by omega) (by omega);rw[aM] at s;have u:=zA h;clear g h j)
     go_ret;exact⟨by rw[U.out];rfl,a.out.trans (u.out.mono a.out.size)⟩
    ·have o:=zA (show eR x q r (k+1)=false from by rw[o9,m.out];simp[p])
     have ap:¬rd (r k) k>rd x k:=p;have V:(k:Int)<((r k).length:Int):=by omega
     go_wp2_with (go_at_call 117;refine I.out.mono ?_;rintro e w1 ⟨v1,rfl,g,h⟩;obtain⟨X,cr,rfl⟩:=Kd.bm g;obtain⟨-, -,j⟩:=Kd.aQ g;obtain⟨Y,rfl,s⟩:=Kd.bU j k (by omega) (by omega);rw[aM] at s;have u:=zA h;clear g h j)
     go_roundw
     case rel=>exact⟨k+1,by omega,by go_num,o,⟨a.out.trans (u.out.mono a.out.size)⟩⟩
     case measure=>exact(show x.length- ((k:Int)+1).toNat<x.length- ((k:Int)).toNat by omega)
  ·obtain rfl:k=x.length:=by omega
   go_wp2;go_ret;exact⟨by rw[m.out];rfl,a.out⟩
theorem DM (k:Nat) (N:Int) (A0:Option Addr) (c0:Nat) (E:List S83) (q:Int) (l:List (List Int)) (t:Int) (w:World) (g:Kd.C aN w A0 E.length E) (h:E.length<=c0) (hf:eQ.f k N E q=some (l,t)) (a:t≠0):
  Calls Tryz.prog 56 #[.agg #[.int .i64 N,.slice A0 E.length c0],.int .i64 q] w fun e w'=>e= .returned (.tuple #[.slice none 0 0,.int .i64 t])/\Below w.heap.size w w':=by
 have hu:=Tryz.underlying24;have i:=zA hf;have n:(t != 0)=true:=by simpa using a
 have b:=zA (au (bc w (.cells #[.int .i64 N,.slice A0 E.length c0] 24)) (.cells #[.int .i64 q] 3));have o:((w.alloc (.cells #[.int .i64 N,.slice A0 E.length c0] 24)).alloc (.cells #[.int .i64 q] 3)).cell? ⟨w.heap.size,0,none⟩=some (.int .i64 N):=(aj b.out 0).trans rfl;have p:((w.alloc (.cells #[.int .i64 N,.slice A0 E.length c0] 24)).alloc (.cells #[.int .i64 q] 3)).cell? ⟨w.heap.size,1,none⟩=some (.slice A0 E.length c0):=(aj b.out 1).trans rfl;clear hf a;go_enter Tryz.func56,Tryz.ntmps56
 go_wp2_with (go_at_call 114;refine(eQ.calls k N A0 c0 E q l t _ (Kd.bp (Kd.bp g _) _) h i.out).mono ?_;rintro e w1 ⟨v,rfl,j,hb⟩;have m:=zA (aZ (ao (ao (aq w.heap.size w) _) _) hb);clear j hb)
 go_ret2;exact⟨rfl,m.out⟩
theorem DN (k K:Nat) (N:Int) (A0:Option Addr) (c0:Nat) (E:List S83) (q:Int) (l:List (List Int)) (r:List Int->Nat->List Int) (w:World) (F:Kd.C aN w A0 E.length E) (G:E.length<=c0) (hf:eQ.f k N E q=some (l,0)) (H:∀x∈l,∀v:Nat,v<x.length->(v:Int)≠q->cM.f K N E q x v=some (r x v)/\v<(r x v).length):
  Calls Tryz.prog 56 #[.agg #[.int .i64 N,.slice A0 E.length c0],.int .i64 q] w fun e w'=>∃v,e= .returned (.tuple #[v,.int .i64 0])/\Kd.N (Kd.slice 3 (Kd.int .i64)) 26 w' w.heap.size (fun R=>(w.heap.size<=R)) v (l.filter fun x=> !eR x q (r x) x.length)/\Below w.heap.size w w':=by
 have hu:=Tryz.underlying24;have S:=zA hf;have i:=zA (au (bc w (.cells #[.int .i64 N,.slice A0 E.length c0] 24)) (.cells #[.int .i64 q] 3));have T:=zA (heap_alloc2_new w (.cells #[.int .i64 N,.slice A0 E.length c0] 24) (.cells #[.int .i64 q] 3));have ag:((w.alloc (.cells #[.int .i64 N,.slice A0 E.length c0] 24)).alloc (.cells #[.int .i64 q] 3)).cell? ⟨w.heap.size,0,none⟩=some (.int .i64 N):=(aj i.out 0).trans rfl;have ak:((w.alloc (.cells #[.int .i64 N,.slice A0 E.length c0] 24)).alloc (.cells #[.int .i64 q] 3)).cell? ⟨w.heap.size,1,none⟩=some (.slice A0 E.length c0):=(aj i.out 1).trans rfl;have U:=zA H;clear hf H;go_enter Tryz.func56,Tryz.ntmps56
 go_wp2_with (go_at_call 114;refine(eQ.calls k N A0 c0 E q l 0 _ (Kd.bp (Kd.bp F _) _) G S.out).mono ?_;rintro e w1 ⟨v,rfl,n,hb⟩;obtain⟨I,o,rfl⟩:=Kd.mU n;have a:=zA (aZ (ao (ao (aq w.heap.size w) _) _) hb);have J:=zA (aE i.out hb);have L:=zA (aE T.out hb);have b:=zA n;clear n hb)
 have p:w.heap.size+2=((w.alloc (.cells #[.int .i64 N,.slice A0 E.length c0] 24)).alloc (.cells #[.int .i64 q] 3)).heap.size:=by simp
 rw[<-p] at b;have M:Aside0 (∀row,(∀g,row=some g->w.heap.size+2<=g)->o7 (w.heap.size+1) w.heap.size row w1 l (fun x=>eR x q (r x) x.length)):=⟨fun row s W' A c x u V W X=>by
  have Y:Below w.heap.size w W':=kc a.out row a.out.size u (fun g e=>by have:=s g e;omega);refine DL K N A0 c0 E q (w.heap.size+1) w.heap.size A c x (r x) W' (Kd.aw F Y) G ((u.block _ (aA J.out) (fun e=>by have:=s _ e.symm;omega)).trans J.out) ((u.block _ (aA L.out) (fun e=>by have:=s _ e.symm;omega)).trans L.out) X W (U.out x V)⟩
 have aY:=a.out.size;by_cases hex:∃j:Nat,j<l.length/\(fun x=>eR x q (r x) x.length) (aV l j)=true
 ·obtain⟨g0,cap,Z,am, -, -⟩:=Kd.AO b.out (by obtain⟨j,O,_⟩:=hex;omega)
  injection Z with aa an ab
  subst aa ab;refine(DH (w.heap.size+1) w.heap.size (w.heap.size+2) g0 o (fun k=>w.heap.size+2<=k) l _ w1 w1 b.out ⟨rfl,rfl,rfl,aI _,fun _ _ _=>rfl⟩ (M.out (some g0) (fun g e=>by injection e with e;omega)) hex).mono ?_;rintro e w2 ⟨m,rfl,hm,P,Q⟩;have y:=zA (Kd.eK (Kd.mS (base':=w.heap.size) P (by omega)) (ok':=fun k=>w.heap.size<=k) (fun k hk=>by omega));have z:=zA (kc a.out (some g0) a.out.size Q (fun k e=>by injection e with e;omega));clear hm P Q hex p;go_wp2;go_ret2;exact⟨_,rfl,y.out,z.out⟩
 ·have B:∀j:Nat,j<l.length->(fun x=>eR x q (r x) x.length) (aV l j)=false:=fun j O=>by
   cases h:(fun x=>eR x q (r x) x.length) (aV l j) with
   |false=>rfl
   |true=>exact absurd ⟨j,O,h⟩ hex
  have ad:=zA (filter_none (l:=l) (del:=fun x=>eR x q (r x) x.length) B);refine(DJ (w.heap.size+1) w.heap.size (w.heap.size+2) none I o (fun k=>w.heap.size+2<=k) l _ w1 w1 b.out ⟨rfl,rfl,rfl,aI _,fun _ _ _=>rfl⟩ (M.out none (fun g e=>by cases e)) B).mono ?_;rintro e w2 ⟨rfl,D⟩;have y:=zA (Kd.gy (Kd.eK (Kd.mS (base':=w.heap.size) b.out (by omega)) (ok':=fun k=>w.heap.size<=k) (fun k hk=>by omega)) D);have z:=zA (a.out.trans (D.mono a.out.size));clear D hex B p;go_wp2;go_ret2;exact⟨.slice I l.length o,rfl,by rw[ad.out];exact y.out,z.out⟩
def kA (k:Nat) (N:Int) (E:List S83) (q:Int) (l:List (List Int)):Bool:=l.all fun c=>(List.range c.length).all fun v=>decide ((v:Int)=q)||match cM.f k N E q c v with|some r=>decide (v<r.length)|none=>false
def gI (k:Nat) (N:Int) (E:List S83) (q:Int) (c:List Int) (v:Nat):List Int:=(cM.f k N E q c v).getD []
theorem vD {k:Nat} {N:Int} {E:List S83} {q:Int} {l:List (List Int)} (h:kA k N E q l=true):∀x∈l,∀v:Nat,v<x.length->(v:Int)≠q->cM.f k N E q x v=some (gI k N E q x v)/\v<(gI k N E q x v).length:=by
 intro x b v e g;have h1:=List.all_eq_true.1 (List.all_eq_true.1 h x b) v (List.mem_range.2 e);rw[a6 g,Bool.false_or] at h1;unfold gI;cases a:cM.f k N E q x v with
 |none=>rw[a] at h1;cases h1
 |some r=>rw[a] at h1;exact⟨rfl,by simpa using h1⟩
def ga.f (k:Nat) (N:Int) (E:List S83) (q:Int):Option (List (List Int)×Int):=
 (eQ.f k N E q).bind fun t=>if t.2=0 then(if kA k N E q t.1=true then some (t.1.filter fun x=> !eR x q (gI k N E q x) x.length,0) else none) else some ([],t.2)
theorem vE {x:List Int} {q:Int} {r a:Nat->List Int}:∀k,(∀v:Nat,v<k->(v:Int)≠q->r v=a v)->eR x q r k=eR x q a k
 |0,_=>rfl
 |k+1,h=>by
  rw[o9,o9,vE k (fun v e=>h v (by omega))];by_cases b:(k:Int)=q
  ·simp[b]
  ·rw[h k (by omega) b]
theorem ga.mono:∀h i j k,al (ga.f k h i j) (ga.f (k+1) h i j):=by
 intro N E q k;unfold ga.f;refine al.bind (eQ.mono _ _ _ _) (fun t=>?_);refine al.ite ?_ (al.refl _);intro r g;by_cases hk:kA k N E q t.1=true
 ·rw[if_pos hk] at g
  have l:=vD hk;have m:∀x∈t.1,∀v:Nat,v<x.length->(v:Int)≠q->cM.f (k+1) N E q x v=some (gI k N E q x v):=fun x e v a b=>cM.mono _ _ _ _ _ _ _ (l x e v a b).1
  have n:∀x∈t.1,∀v:Nat,v<x.length->(v:Int)≠q->gI k N E q x v=gI (k+1) N E q x v:=fun x e v a b=>by
   have h1:=m x e v a b;generalize gI k N E q x v=y at h1;unfold gI;rw[h1];rfl
  have o:kA (k+1) N E q t.1=true:=by
   refine List.all_eq_true.2 fun x e=>List.all_eq_true.2 fun v a=>?_
   have a:=List.mem_range.1 a;by_cases b:(v:Int)=q
   ·simp[b]
   ·rw[m x e v a b]
    simp[(l x e v a b).2]
  rw[if_pos o,<-g];congr 2
  refine List.filter_congr fun x e=>?_
  rw[vE x.length (fun v a b=>(n x e v a b).symm)]
 ·rw[if_neg hk] at g;cases g
theorem ga.calls (k:Nat) (b:Int) (i:Option Addr) (j:Nat) (a:List (S83)) (g:Int) (o:List (List Int)) (p:Int) (w:World) (q:Kd.C aN w i a.length a) (r:a.length<=j) (h:ga.f k b a g=some (o,p)):
  Calls Tryz.prog 56 #[.agg #[.int .i64 b,.slice i a.length j],.int .i64 g] w fun e w'=>∃s:Value,e= .returned (.tuple #[s,.int .i64 p])/\Kd.N (Kd.slice 3 (Kd.int .i64)) 26 w' w.heap.size (fun v=>(w.heap.size<=v)) s o/\Below w.heap.size w w':=by
 unfold ga.f at h;obtain⟨⟨l,t⟩,u,H⟩:=Option.bind_eq_some_iff.mp h;simp only at H;by_cases m:t=0
 ·subst m
  rw[if_pos rfl] at H;by_cases n:kA k b a g l=true
  ·rw[if_pos n] at H
   simp only[Option.some.injEq,Prod.mk.injEq] at H;obtain⟨rfl,rfl⟩:=H;exact DN k k b i j a g l _ w q r u (vD n)
  ·rw[if_neg n] at H;cases H
 ·rw[if_neg m] at H
  simp only[Option.some.injEq,Prod.mk.injEq] at H;obtain⟨rfl,rfl⟩:=H;refine(DM k b i j a g l t w q r u m).mono ?_;rintro e w' ⟨rfl,hb⟩;exact⟨_,rfl,Kd.gT _ _ _ _ _,hb⟩
def ly.f (a0:Int):Option (Bool):=if a0>=(-1048576) then(some (decide (a0<=1048576))) else(some false)
theorem ly.calls (a0:Int) (r:Bool) (w:World) (h:ly.f a0=some r):
  Calls Tryz.prog 96 #[.int .i64 a0] w fun e w'=>e= .returned (.bool r)/\aC w w':=by
 have H:(if a0>=(-1048576) then(some (decide (a0<=1048576))) else(some false))=some r:=h;clear h;by_cases c2:a0>=(-1048576)
 ·rw[if_pos c2] at H
  have a:=az c2;clear c2;obtain rfl:=aH H;go_enter Tryz.func96,Tryz.ntmps96
  go_wp2;go_ret;exact⟨zT,by repeat(first|exact aC.refl _|apply aC.step)⟩
 ·rw[if_neg c2] at H
  have a:=a6 c2;clear c2;obtain rfl:=aH H;go_enter Tryz.func96,Tryz.ntmps96
  go_wp2;go_ret;exact⟨zT,by repeat(first|exact aC.refl _|apply aC.step)⟩
mutual
def c_.j0:Nat->List Int->Int->Bool->Option (Int)
 |0,_,_,_=>none
 |k+1,a,x1,b=>if b=true then(some 2) else(if(a.length:Int)=x1 then(c_.l0 k a x1 0) else(some 8))
def c_.l0:Nat->List Int->Int->Int->Option (Int)
 |0,_,_,_=>none
 |k+1,b,x1,a=>if a<x1 then(if 0<=a then(if a<(b.length:Int) then((ly.f (rd b a)).bind fun t103=>(if t103=true then(c_.l0 k b x1 (wrap64 (a+1))) else(some 2))) else(none)) else(none)) else(some 0)
end
def c_.f (k:Nat) (l0:List Int) (a:Int):Option (Int):=if a<1 then(c_.j0 k l0 a true) else(c_.j0 k l0 a (decide (a>12)))
theorem c_.calls (k:Nat) (A0:Option Addr) (c0:Nat) (l0:List Int) (b:Int) (r:Int) (w:World) (B:Kd.C (Kd.int .i64) w A0 l0.length l0) (D:l0.length<=c0) (h:c_.f k l0 b=some r):
  Calls Tryz.prog 42 #[.slice A0 l0.length c0,.int .i64 b] w fun e w'=>e= .returned (.int .i64 r)/\aC w w':=by
 have E:=zA B;have R:=zA D;clear B D;unfold c_.f at h;have H:=h;clear h;have y:=zA H;clear H;go_enter Tryz.func42,Tryz.ntmps42
 go_upto_region 1 with (fail)
 go_cut [11] (fun v11 wc=>∃(i:Nat) (q:Bool),v11= .bool q/\Aside0 (c_.j0 i l0 b q=some r)/\Aside0 (i<=k)/\aC w wc)
 case first=>
  have H:=y.out;clear y;by_cases c4:b<1
  ·rw[if_pos c4] at H
   have o:=az c4;clear c4
   (first|rw[o]|(simp only[bG,bL];rw[o])|skip)
   have g:=zA H;clear H;go_wp2;go_meet
   case rel=>exact⟨_,(true),zT,g,⟨by first|omega|exact aI _⟩,by repeat(first|exact aC.refl _|apply aC.step)⟩
  ·rw[if_neg c4] at H
   have o:=a6 c4;clear c4
   (first|rw[o]|(simp only[bG,bL];rw[o])|skip)
   have g:=zA H;clear H;go_wp2;go_meet
   case rel=>exact⟨_,(decide (b>12)),zT,g,⟨by first|omega|exact aI _⟩,by repeat(first|exact aC.refl _|apply aC.step)⟩
 case rest=>
  clear y;obtain⟨i,q,rfl,j,F,⟨S,rfl⟩⟩:=hcut;cases i with
  |zero=>exact absurd j.out (by simp[c_.j0])
  |succ G=>
   have H:=j.out;clear j;simp only[c_.j0] at H;by_cases s:q=true
   ·subst s
    replace H:=zi H;obtain rfl:=aH H;go_wp2;go_ret;exact⟨zT,by repeat(first|exact aC.refl _|apply aC.step)⟩
   ·replace s:=Bool.eq_false_iff.mpr s
    subst s;replace H:=zj H;by_cases p:(l0.length:Int)=b
    ·rw[if_pos p] at H
     obtain⟨I,J⟩:=bH p;clear p;have g:=zA H;clear H;go_wp2;go_loopg [5] G (fun i v5 w'=>∃(a:Int),v5= .int .i64 a/\Aside0 (c_.l0 i l0 b a=some r)/\Aside0 (i<=G)/\aC w w')
     case atStart=>exact⟨(0),zT,g,⟨aI _⟩,by repeat(first|exact aC.refl _|apply aC.step)⟩
     case round=>
      clear g;clear I J;obtain⟨a,rfl,j,K,⟨m2,rfl⟩⟩:=hrel;cases gk with
      |zero=>exact absurd j.out (by simp[c_.l0])
      |succ M=>
       have H:=j.out;clear j;simp only[c_.l0] at H;by_cases n:a<b
       ·rw[if_pos n] at H
        have N:=az n;clear n;by_cases u:0<=a
        ·rw[if_pos u] at H
         have T:=az u;clear u;by_cases v:a<(l0.length:Int)
         ·rw[if_pos v] at H
          have U:=az v;clear v;obtain⟨t103,L,H⟩:=zo H;by_cases x:t103=true
          ·subst x
           replace H:=zi H;have g:=zA H;clear H;have l:0<=(a:Int):=ay ‹_›;have m:a<(l0.length:Int):=ay ‹_›;obtain⟨O,z,P⟩:=Kd.bU E.out a l m;cases z;replace l:=eq_true l;replace m:=eq_true m;go_wp2_with (first|((with_reducible refine aG (f:=96) rfl ?_);refine zL (some 25) Tryz.func96 #[.int .i64 (rd l0 a)] ?_;(with_reducible refine(ly.calls (rd l0 a) true _ L.out).mono ?_);rintro e w' ⟨rfl,⟨Q,rfl⟩⟩;refine⟨_,rfl,?_⟩))
           go_roundg M
           case measure=>have:=F.out;have:=K.out;omega
           case rel=>exact⟨(wrap64 (a+1)),zT,g,⟨by have:=F.out;have:=K.out;omega⟩,by repeat(first|exact aC.refl _|apply aC.step)⟩
          ·replace x:=Bool.eq_false_iff.mpr x
           subst x;replace H:=zj H;obtain rfl:=aH H;have l:0<=(a:Int):=ay ‹_›;have m:a<(l0.length:Int):=ay ‹_›;obtain⟨O,z,P⟩:=Kd.bU E.out a l m;cases z;replace l:=eq_true l;replace m:=eq_true m;go_wp2_with (first|((with_reducible refine aG (f:=96) rfl ?_);refine zL (some 25) Tryz.func96 #[.int .i64 (rd l0 a)] ?_;(with_reducible refine(ly.calls (rd l0 a) false _ L.out).mono ?_);rintro e w' ⟨rfl,⟨Q,rfl⟩⟩;refine⟨_,rfl,?_⟩))
           go_ret;exact⟨zT,by repeat(first|exact aC.refl _|apply aC.step)⟩
         ·rw[if_neg v] at H
          exact absurd H (by simp)
        ·rw[if_neg u] at H
         exact absurd H (by simp)
       ·rw[if_neg n] at H
        have N:=a6 n;clear n;obtain rfl:=aH H;go_wp2;go_ret;exact⟨zT,by repeat(first|exact aC.refl _|apply aC.step)⟩
    ·rw[if_neg p] at H
     obtain⟨I,J⟩:=bI p;obtain rfl:=aH H;go_wp2;go_ret;exact⟨zT,by repeat(first|exact aC.refl _|apply aC.step)⟩
end Go.Proofs.YtffdiakgjakngaaGreat.P


