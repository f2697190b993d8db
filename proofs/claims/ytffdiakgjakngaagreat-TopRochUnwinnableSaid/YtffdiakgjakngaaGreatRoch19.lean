/- TopRochUnwinnable answers true whatever the input (text 19 of 19): own walks and plain laws; no conditions. -/
import Derived.Below
import Derived.ChangeOld
import Derived.Lib.SmallJoins
import Derived.OpenShut
import Derived.ProofKit
import Derived.ShutString
import Derived.SizedLaws
import Derived.Test.YtffdiakgjakngaaGreatChecked
import Derived.Test.YtffdiakgjakngaaGreatRows
import Derived.WalkKit
import Derived.Test.YtffdiakgjakngaaGreatRoch18
namespace Go.Proofs.YtffdiakgjakngaaGreat.P
open Go.ChangeShapes Go.WideShapes Go.ChangeAt Go.RowKit Go.Deep Go.Joins
open Go.Proofs.YtffdiakgjakngaaGreatW.PrintWords Go.Proofs.YtffdiakgjakngaaGreatW.PrintLast Go.Proofs.YtffdiakgjakngaaGreatW.PrintMore
set_option linter.unusedVariables false
set_option linter.unusedSimpArgs false
set_option maxHeartbeats 8000000
set_option maxRecDepth 100000
section
set_option maxRecDepth 100000
section
variable {H:Type} {enc:TypeId×Value->H} {W:World} {base:Nat} {spare:Nat->Bool} {held:Bool}
instance:Inhabited S83:=⟨⟨0,0,0⟩⟩
theorem Ec {n:Nat} {cs:List Value} {x:DataW H×List MemPlace} (h:DataW.trod enc Tryz.prog W base spare held n 83 cs=some x):
  ∃e:S83,cs=[.int .i64 e.f0,.int .i64 e.f1,.int .i64 e.f2]:=by
 obtain⟨R,U,y2,m,_,o,h0,h1,h2⟩:=trod_struct3 Tryz.underlying83 h
 have I:cs.length=3:=o.trans (by kernel_rfl)
 match cs,I with
 |[u,v,t],_=>
  obtain⟨a,j,_⟩:=DataW.trod_int Tryz.underlying3 (by simpa using h0)
  obtain⟨b,hb,_⟩:=DataW.trod_int Tryz.underlying3 (by simpa using h1)
  obtain⟨c,hc,_⟩:=DataW.trod_int Tryz.underlying3 (by simpa using h2)
  have J:Tryz.prog.cellsOf 3=1:=by kernel_rfl
  rw[J] at j hb hc
  simp only[List.take_succ_cons,List.take_zero,List.cons.injEq,and_true] at j hb hc
  exact⟨⟨a,b,c⟩,by rw[j,hb,hc]⟩
theorem Ed {n:Nat} {v:Value} {y:DataW H×List MemPlace} (h:DataW.trod enc Tryz.prog W base spare held n 22 [v]=some y):
  ∃(A:Option Addr) (c:Nat) (l:List S83),v= .slice A l.length c∧Kd.C aG W A l.length l∧l.length<=c:=by
 rcases open_slice Tryz.underlying22 h with⟨o,_⟩|⟨a,len,cap,m,n',D,Pl,o,_,R,hm,U,_,hx⟩
 ·simp at o
  exact⟨none,0,[],o,⟨rfl,by decide,fun h=>absurd h (by decide)⟩,Nat.le_refl _⟩
 ·have an:len<=m:=by rw[U];split<;>omega
  have ab:Tryz.prog.cellsOf 83=3:=by kernel_rfl
  have each:∀i,i<len->∃e:S83,W.cells? base (a.add (i*3)) 3=some [.int .i64 e.f0,.int .i64 e.f1,.int .i64 e.f2]:=fun i hi=>by
   obtain⟨ar,h1,h2⟩:=hx i (by omega)
   rw[ab] at h1
   obtain⟨e,rfl⟩:=Ec h2
   exact⟨e,h1⟩
  obtain⟨f,hf⟩:=choose_lt each
  simp at o
  subst o
  refine⟨some a,cap,(List.range len).map f,by simp,⟨by simp,by simp only[List.length_map,List.length_range];unfold maxLen at hm;omega,fun _=>⟨a,rfl,fun j p I=>?_⟩⟩,by simpa using R⟩
  have J:j<len:=by
   have:=List.getElem?_eq_some_iff.1 I
   obtain⟨h,_⟩:=this
   simpa using h
  have hp:f j=p:=by simpa [J] using I
  subst hp
  refine⟨[.int .i64 (f j).f0,.int .i64 (f j).f1,.int .i64 (f j).f2],rfl,yc W (f j),fun i u hi=>?_⟩
  obtain⟨_,_,ad⟩:=World.cells?_some (hf j J)
  have ag:i<3:=by
   obtain⟨h,_⟩:=List.getElem?_eq_some_iff.1 hi
   simpa using h
  have:=ad i ag
  rw[Deep.add_add] at this
  exact this.trans hi
theorem Ee {r:Reach} {o:Nat} {v:Value} {d:DataW H} {p:List MemPlace} (I:Value.okWide Tryz.prog W r o 24 v) (h:DataW.Trod enc Tryz.prog W base spare held 24 v d p):
  ∃(N:Int) (A:Option Addr) (c:Nat) (l:List S83),v= .agg #[.int .i64 N,.slice A l.length c]∧Kd.C aG W A l.length l∧l.length<=c:=by
 obtain⟨v0,v1,R,U,n,rfl,_,_,h0,h1⟩:=open_agg2 Tryz.underlying24 (by kernel_rfl) (by kernel_rfl) I h
 obtain⟨N,j,_⟩:=DataW.trod_int Tryz.underlying3 h0
 simp at j
 subst j
 obtain⟨A,c,l,rfl,hC,J⟩:=Ed h1
 exact⟨N,A,c,l,rfl,hC,J⟩
theorem Ef {r:Reach} {b0:Nat} {v:Value} {d:DataW H} {p:List MemPlace} (hv:Value.okWide Tryz.prog W r b0 26 v) (h:DataW.Trod enc Tryz.prog W base (fun _=>true) held 26 v d p):
  ∃(A:Option Addr) (c:Nat) (l:List Int),v= .slice A l.length c∧Kd.C (Kd.int .i64) W A l.length l∧l.length<=c:=by
 obtain⟨a0,I,U,rfl⟩:=okWide_slice Tryz.underlying26 hv
 obtain⟨fuel,hf⟩:=h
 rcases open_ints Tryz.underlying26 Tryz.underlying3 (by kernel_rfl) hf with⟨o,_⟩|⟨x,l,c,J,o,_,hl,hm,hz,_,ag,aB⟩
 ·simp[Value.cells] at o
  obtain⟨rfl,rfl,rfl⟩:=o
  exact⟨none,0,[],rfl,⟨rfl,by decide,fun h=>absurd h (by decide)⟩,Nat.le_refl _⟩
 ·simp[Value.cells] at o
  obtain⟨rfl,rfl,rfl⟩:=o
  have aF:J.length=U:=by simpa using hz
  have hlen:(J.take I).length=I:=by simp;omega
  refine⟨some _,U,J.take I,by rw[hlen],⟨rfl,by rw[hlen];unfold maxLen at hm;omega,fun _=>⟨_,rfl,fun j p R=>?_⟩⟩,by omega⟩
  have ak:j<I:=by
   obtain⟨h,_⟩:=List.getElem?_eq_some_iff.1 R
   omega
  have hp:J.getD j 0=p:=by
   rw[List.getElem?_take,if_pos ak] at R
   rw[List.getD_eq_getElem?_getD,R];rfl
  have hc:=ag j (by omega)
  rw[hp] at hc
  refine⟨[.int .i64 p],rfl,rfl,fun i u hi=>?_⟩
  have an:i=0:=by
   obtain⟨h,_⟩:=List.getElem?_eq_some_iff.1 hi
   simpa using h
  subst an
  simp at hi
  subst hi
  rw[show j*(Kd.int IntKind.i64).sz+0=j from by show j*1+0=j;omega]
  exact hc
end
end
end Go.Proofs.YtffdiakgjakngaaGreat.P
namespace Go.Proofs.YtffdiakgjakngaaGreat.topRochUnwinnable
open Go.ChangeShapes Go.WideShapes Go.ChangeAt Go.RowKit Go.Proofs.YtffdiakgjakngaaGreat.P
set_option linter.unusedVariables false
theorem own:ownKnob Tryz.prog.godebug=none:=by kernel_rfl
theorem laidOut:laidOutB Tryz.prog=true:=by kernel_rfl
set_option maxRecDepth 100000 in
theorem lifted (os:Os) (started:os.Started) (H:Type) (enc:TypeId×Value->H):
    ReturnsInHanded {} Tryz.checked os 3 .any (Rows.topRochUnwinnableSpec.pre6 enc Tryz.prog Tryz.f3 Rows.topRochUnwinnableRow.domain false) (Rows.topRochUnwinnableSpec.post enc Tryz.prog Tryz.f3 false true false false):=by
  refine returnsInHanded_of_change_sized (C:=Tryz.checked) own started (by kernel_rfl) Tryz.func3
    (ChangeSpec.witness6 (enc:=enc) (C:=Tryz.checked) false ⟨#[],#[.agg #[.int .i64 0,.slice none 0 0],.slice none 0 0,.int .u8 0],[]⟩ 8 (by kernel_rfl) (by kernel_rfl) (by kernel_rfl) (by kernel_rfl)) ?_
  intro W base args ds gs before I J hcnd ad _
  have o:∀(j:Nat) t v,Tryz.f3.params[j]? =some t->args[j]? =some v->Value.okWide Tryz.prog W .any base t v:=I
  have ag:=J
  obtain⟨p,q,R,hV,rfl,a3,bf⟩:=J
  have U:DataW.TrodAll enc Tryz.prog W 0 (fun _=>true) true Tryz.f3.params.toList args.toList ds p:=R
  rw[Tryz.params3] at U o
  obtain⟨v0,bg,d0,bk,p0,q0,bn,rfl,rfl,h0,r0⟩:=trodAll_cons U
  obtain⟨v1,bo,d1,bw,p1,q1,rfl,rfl,rfl,h1,r1⟩:=trodAll_cons r0
  obtain⟨v2,b0,d2,b1,p2,q2,rfl,rfl,rfl,h2,r2⟩:=trodAll_cons r1
  obtain⟨rfl,rfl,rfl⟩:=trodAll_nil r2
  obtain rfl:args=#[v0,v1,v2]:=by cases args;simp_all
  obtain⟨rfl,rfl⟩:=trodVars_none hV
  have k0:=h0
  have aL:∀x∈p0,x.block<W.heap.size:=by obtain⟨m,hm⟩:=k0;exact DataW.trod_lt m _ _ _ hm
  obtain⟨N,A,c,l,rfl,hC,hl⟩:=Ee (o 0 24 v0 rfl rfl) h0
  have k1:=h1
  have aP:∀x∈p1,x.block<W.heap.size:=by obtain⟨m,hm⟩:=k1;exact DataW.trod_lt m _ _ _ hm
  obtain⟨A2,c2,l2,rfl,a0,a1⟩:=Ef (o 1 26 v1 rfl rfl) h1
  obtain⟨q,rfl,rfl,rfl,hq⟩:=open_int (show Tryz.prog.underlying 5=some (.int .u8) by kernel_rfl) (o 2 5 v2 rfl rfl) h2
  have a2:0<=q∧q<=255:=by
    have h2:(decide (IntKind.min .u8<=q)&&decide (q<=IntKind.max .u8))=true:=hq
    rw[Bool.and_eq_true,decide_eq_true_iff,decide_eq_true_iff] at h2
    exact⟨h2.1,h2.2⟩
  have hlen:l.length<=9223372036854775807:=by have:=hC.2.1;omega
  obtain⟨k,hk⟩:=Eb N l hlen l2 q a2
  clear R I ad
  refine(bI.calls k N A c l A2 c2 l2 q true W hC hl a0 a1 hk).mono fun e W' ⟨he,jo⟩=>?_
  subst he
  exact⟨_,rfl,_,_,_,[],_,[],ag,trodAll_mk1 (shut_bool Tryz.underlying4 _),(trodAll_cons_mk (Below.trod laidOut (by kernel_rfl) (of_decide_eq_true (by kernel_rfl)) k0 jo aL) (trodAll_cons_mk (Below.trod laidOut (by kernel_rfl) (of_decide_eq_true (by kernel_rfl)) k1 jo aP) (trodAll_cons_mk (Below.trod laidOut (by kernel_rfl) (of_decide_eq_true (by kernel_rfl)) h2 jo (by simp)) trodAll_mk0))),rfl,jo.frame _,fun h=>by cases h⟩
theorem Eg:Rows.topRochUnwinnableRow.holds Tryz.pinned (OpenSpec.ofChange Rows.topRochUnwinnableSpec):=
  OpenClaim.holds_of_wide 3 Tryz.f3 rfl rfl rfl rfl rfl rfl rfl ⟨rfl,rfl,rfl,rfl,rfl⟩ rfl rfl rfl rfl rfl (by kernel_rfl) Tryz.func3 (by kernel_rfl)
    (of_decide_eq_true (by kernel_rfl)) (by unfold Func.isWrapper;first|(rw[if_pos (by decide+kernel)];kernel_rfl)|(rw[if_neg (by decide+kernel)];exact⟨rfl,rfl⟩))
    (fun os started H enc _=>lifted os started H enc)
theorem proved:Rows.TopRochUnwinnableSaid:=Eg
#print axioms proved
end Go.Proofs.YtffdiakgjakngaaGreat.topRochUnwinnable
namespace Go.Proofs.YtffdiakgjakngaaGreat
theorem topRochUnwinnable_holds:Rows.TopRochUnwinnableSaid:=topRochUnwinnable.proved
end Go.Proofs.YtffdiakgjakngaaGreat

