/- RiemannrochLoses answers true whatever the input (text 7 of 7): own walks and plain laws; no conditions. -/
import Derived.Below
import Derived.ChangeOld
import Derived.Lib.SmallJoins
import Derived.OpenShut
import Derived.ProofKit
import Derived.ShutString
import Derived.SizedLaws
import Derived.Test.YtffdiakgjakngaaGreatChecked
import Derived.Test.YtffdiakgjakngaaGreatRows
import Derived.WalkKit
import Derived.Test.YtffdiakgjakngaaGreatLoses6
namespace Go.Proofs.YtffdiakgjakngaaGreat.P
open Go.ChangeShapes Go.WideShapes Go.ChangeAt Go.RowKit Go.Deep Go.Joins
open Go.Proofs.YtffdiakgjakngaaGreatW.PrintWords Go.Proofs.YtffdiakgjakngaaGreatW.PrintLast Go.Proofs.YtffdiakgjakngaaGreatW.PrintMore
set_option linter.unusedVariables false
set_option linter.unusedSimpArgs false
set_option maxHeartbeats 8000000
set_option maxRecDepth 100000
section
set_option maxRecDepth 100000
section
variable {H:Type} {enc:TypeId×Value->H} {W:World} {base:Nat} {spare:Nat->Bool} {held:Bool}
instance:Inhabited S83:=⟨⟨0,0,0⟩⟩
theorem ID {n:Nat} {cs:List Value} {x:DataW H×List MemPlace} (h:DataW.trod enc Tryz.prog W base spare held n 83 cs=some x):
  ∃e:S83,cs=[.int .i64 e.f0,.int .i64 e.f1,.int .i64 e.f2]:=by
 obtain⟨q,r,s,m,_,j,k,h1,l⟩:=trod_struct3 Tryz.underlying83 h;have o:cs.length=3:=j.trans (by kernel_rfl);match cs,o with
 |[u,v,t],_=>
  obtain⟨a,g,_⟩:=DataW.trod_int Tryz.underlying3 (by simpa using k);obtain⟨b,hb,_⟩:=DataW.trod_int Tryz.underlying3 (by simpa using h1);obtain⟨c,i,_⟩:=DataW.trod_int Tryz.underlying3 (by simpa using l);have p:Tryz.prog.cellsOf 3=1:=by kernel_rfl
  rw[p] at g hb i;simp only[List.take_succ_cons,List.take_zero,List.cons.injEq,and_true] at g hb i;exact⟨⟨a,b,c⟩,by rw[g,hb,i]⟩
theorem IE {n:Nat} {v:Value} {y:DataW H×List MemPlace} (h:DataW.trod enc Tryz.prog W base spare held n 22 [v]=some y):
  ∃(A:Option Addr) (c:Nat) (l:List S83),v= .slice A l.length c/\Kd.C aN W A l.length l/\l.length<=c:=by
 rcases open_slice Tryz.underlying22 h with⟨b,_⟩|⟨a,len,cap,m,n',D,B,b,_,o,hm,q,_,r⟩
 ·simp at b
  exact⟨none,0,[],b,⟨rfl,by decide,fun h=>absurd h (by decide)⟩,aI _⟩
 ·have E:len<=m:=by rw[q];split<;>omega
  have s:Tryz.prog.cellsOf 83=3:=by kernel_rfl
  have each:∀i,i<len->∃e:S83,W.cells? base (a.add (i*3)) 3=some [.int .i64 e.f0,.int .i64 e.f1,.int .i64 e.f2]:=fun i hi=>by
   obtain⟨F,h1,w⟩:=r i (by omega);rw[s] at h1;obtain⟨e,rfl⟩:=ID w;exact⟨e,h1⟩
  obtain⟨f,hf⟩:=choose_lt each;simp at b;subst b;refine⟨some a,cap,(List.range len).map f,by simp,⟨by simp,by simp only[List.length_map,List.length_range];unfold maxLen at hm;omega,fun _=>⟨a,rfl,fun j p g=>?_⟩⟩,by simpa using o⟩;have k:j<len:=by
   have:=List.getElem?_eq_some_iff.1 g;obtain⟨h,_⟩:=this;simpa using h
  have hp:f j=p:=by simpa [k] using g
  subst hp;refine⟨[.int .i64 (f j).f0,.int .i64 (f j).f1,.int .i64 (f j).f2],rfl,Bi W (f j),fun i u hi=>?_⟩;obtain⟨_,_,x⟩:=World.cells?_some (hf j k);have z:i<3:=by
   obtain⟨h,_⟩:=List.getElem?_eq_some_iff.1 hi;simpa using h
  have:=x i z;rw[Deep.add_add] at this;exact this.trans hi
theorem IF {r:Reach} {b0:Nat} {v:Value} {d:DataW H} {p:List MemPlace} (b:Value.okWide Tryz.prog W r b0 24 v) (h:DataW.Trod enc Tryz.prog W base spare held 24 v d p):
  ∃(N:Int) (A:Option Addr) (c:Nat) (l:List S83),v= .agg #[.int .i64 N,.slice A l.length c]/\Kd.C aN W A l.length l/\l.length<=c:=by
 obtain⟨v0,v1,i,j,n,rfl,_,_,e,h1⟩:=open_agg2 Tryz.underlying24 (by kernel_rfl) (by kernel_rfl) b h;obtain⟨N,a,_⟩:=DataW.trod_int Tryz.underlying3 e;simp at a;subst a;obtain⟨A,c,l,rfl,hC,g⟩:=IE h1;exact⟨N,A,c,l,rfl,hC,g⟩
theorem IG {r:Reach} {b0:Nat} {v:Value} {d:DataW H} {p:List MemPlace} (m:Value.okWide Tryz.prog W r b0 26 v) (h:DataW.Trod enc Tryz.prog W base (fun _=>true) held 26 v d p):
  ∃(A:Option Addr) (c:Nat) (l:List Int),v= .slice A l.length c/\Kd.C (Kd.int .i64) W A l.length l/\l.length<=c:=by
 obtain⟨a0,b,g,rfl⟩:=okWide_slice Tryz.underlying26 m;obtain⟨fuel,hf⟩:=h;rcases open_ints Tryz.underlying26 Tryz.underlying3 (by kernel_rfl) hf with⟨a,_⟩|⟨x,l,c,zs,a,_,w,hm,n,_,o,y⟩
 ·simp[Value.cells] at a
  obtain⟨rfl,rfl,rfl⟩:=a;exact⟨none,0,[],rfl,⟨rfl,by decide,fun h=>absurd h (by decide)⟩,aI _⟩
 ·simp[Value.cells] at a
  obtain⟨rfl,rfl,rfl⟩:=a;have z:zs.length=g:=by simpa using n
  have hlen:(zs.take b).length=b:=by simp;omega
  refine⟨some _,g,zs.take b,by rw[hlen],⟨rfl,by rw[hlen];unfold maxLen at hm;omega,fun _=>⟨_,rfl,fun j p e=>?_⟩⟩,by omega⟩;have q:j<b:=by
   obtain⟨h,_⟩:=List.getElem?_eq_some_iff.1 e;omega
  have hp:zs.getD j 0=p:=by
   rw[List.getElem?_take,if_pos q] at e;rw[a7,e];rfl
  have k:=o j (by omega);rw[hp] at k;refine⟨[.int .i64 p],rfl,rfl,fun i u hi=>?_⟩;have s:i=0:=by
   obtain⟨h,_⟩:=List.getElem?_eq_some_iff.1 hi;simpa using h
  subst s;simp at hi;subst hi;rw[show j*(Kd.int IntKind.i64).sz+0=j from by show j*1+0=j;omega];exact k
end
end
end Go.Proofs.YtffdiakgjakngaaGreat.P
namespace Go.Proofs.YtffdiakgjakngaaGreat.riemannrochLoses
open Go.ChangeShapes Go.WideShapes Go.ChangeAt Go.RowKit Go.Proofs.YtffdiakgjakngaaGreat.P
set_option linter.unusedVariables false
theorem own:ownKnob Tryz.prog.godebug=none:=by kernel_rfl
theorem laidOut:laidOutB Tryz.prog=true:=by kernel_rfl
set_option maxRecDepth 100000 in
theorem lifted (os:Os) (started:os.Started) (H:Type) (enc:TypeId×Value->H):
    ReturnsInHanded {} Tryz.checked os 10 .any (Rows.riemannrochLosesSpec.pre6 enc Tryz.prog Tryz.f10 Rows.riemannrochLosesRow.domain false) (Rows.riemannrochLosesSpec.post enc Tryz.prog Tryz.f10 false true false false):=by
  refine returnsInHanded_of_change_sized (C:=Tryz.checked) own started (by kernel_rfl) Tryz.func10
    (ChangeSpec.witness6 (enc:=enc) (C:=Tryz.checked) false ⟨#[],#[.agg #[.int .i64 0,.slice none 0 0],.slice none 0 0,.int .u8 0],[]⟩ 8 (by kernel_rfl) (by kernel_rfl) (by kernel_rfl) (by kernel_rfl)) ?_
  intro W base args ds gs before g i hcnd u _;have b:∀(j:Nat) t v,Tryz.f10.params[j]? =some t->args[j]? =some v->Value.okWide Tryz.prog W .any base t v:=g;have w:=i;obtain⟨p,q,k,y,rfl,Q,R⟩:=i;have n:DataW.TrodAll enc Tryz.prog W 0 (fun _=>true) true Tryz.f10.params.toList args.toList ds p:=k;rw[Tryz.params10] at n b;obtain⟨v0,S,d0,T,z,q0,U,rfl,rfl,o,B⟩:=trodAll_cons n;obtain⟨v1,V,d1,X,D,Y,rfl,rfl,rfl,h1,E⟩:=trodAll_cons B;obtain⟨v2,Z,d2,aa,p2,q2,rfl,rfl,rfl,a,F⟩:=trodAll_cons E;obtain⟨rfl,rfl,rfl⟩:=trodAll_nil F;obtain rfl:args=#[v0,v1,v2]:=by cases args;simp_all
  obtain⟨rfl,rfl⟩:=trodVars_none y;have r:=o;have G:∀x∈z,x.block<W.heap.size:=by obtain⟨m,hm⟩:=r;exact DataW.trod_lt m _ _ _ hm
  obtain⟨N,A,c,l,rfl,hC,I⟩:=IF (b 0 24 v0 rfl rfl) o;have s:=h1;have J:∀x∈D,x.block<W.heap.size:=by obtain⟨m,hm⟩:=s;exact DataW.trod_lt m _ _ _ hm
  obtain⟨K,c2,l2,rfl,L,M⟩:=IG (b 1 26 v1 rfl rfl) h1;obtain⟨q,rfl,rfl,rfl,O⟩:=open_int (show Tryz.prog.underlying 5=some (.int .u8) by kernel_rfl) (b 2 5 v2 rfl rfl) a;have P:0<=q/\q<=255:=by
    have a:(decide (IntKind.min .u8<=q)&&decide (q<=IntKind.max .u8))=true:=O;rw[Bool.and_eq_true,decide_eq_true_iff,decide_eq_true_iff] at a;exact⟨a.1,a.2⟩
  have hlen:l.length<=9223372036854775807:=by have:=hC.2.1;omega
  clear k g u;refine(IC N A c l K c2 l2 q W hC I L M hlen P).mono fun e W' ⟨he,fs⟩=>?_
  subst he;exact⟨_,rfl,_,_,_,[],_,[],w,trodAll_mk1 (shut_bool Tryz.underlying4 _),(trodAll_cons_mk (Below.trod laidOut (by kernel_rfl) (of_decide_eq_true (by kernel_rfl)) r fs G) (trodAll_cons_mk (Below.trod laidOut (by kernel_rfl) (of_decide_eq_true (by kernel_rfl)) s fs J) (trodAll_cons_mk (Below.trod laidOut (by kernel_rfl) (of_decide_eq_true (by kernel_rfl)) a fs (by simp)) trodAll_mk0))),rfl,fs.frame _,fun h=>by cases h⟩
theorem II:Rows.riemannrochLosesRow.holds Tryz.pinned (OpenSpec.ofChange Rows.riemannrochLosesSpec):=
  OpenClaim.holds_of_wide 10 Tryz.f10 rfl rfl rfl rfl rfl rfl rfl ⟨rfl,rfl,rfl,rfl,rfl⟩ rfl rfl rfl rfl rfl (by kernel_rfl) Tryz.func10 (by kernel_rfl)
    (of_decide_eq_true (by kernel_rfl)) (by unfold Func.isWrapper;first|(rw[if_pos (by decide+kernel)];kernel_rfl)|(rw[if_neg (by decide+kernel)];exact⟨rfl,rfl⟩))
    (fun os started H enc _=>lifted os started H enc)
theorem proved:Rows.RiemannrochLosesSaid:=II
#print axioms proved
end Go.Proofs.YtffdiakgjakngaaGreat.riemannrochLoses
namespace Go.Proofs.YtffdiakgjakngaaGreat
theorem riemannrochLoses_holds:Rows.RiemannrochLosesSaid:=riemannrochLoses.proved
end Go.Proofs.YtffdiakgjakngaaGreat


