/- Lists2 answers true whatever the input (text 8 of 8): own walks and plain laws; no conditions. -/
import Derived.Below
import Derived.ChangeOld
import Derived.Lib.SmallJoins
import Derived.OpenShut
import Derived.ProofKit
import Derived.ShutString
import Derived.SizedLaws
import Derived.Test.YtffdiakgjakngaaGreatChecked
import Derived.Test.YtffdiakgjakngaaGreatRows
import Derived.WalkKit
import Derived.Test.YtffdiakgjakngaaGreatLists27
namespace Go.Proofs.YtffdiakgjakngaaGreat.P
open Go.ChangeShapes Go.WideShapes Go.ChangeAt Go.RowKit Go.Deep Go.Joins
open Go.Proofs.YtffdiakgjakngaaGreatW.PrintWords Go.Proofs.YtffdiakgjakngaaGreatW.PrintLast Go.Proofs.YtffdiakgjakngaaGreatW.PrintMore
set_option linter.unusedVariables false
set_option linter.unusedSimpArgs false
set_option maxHeartbeats 8000000
set_option maxRecDepth 100000
section
set_option maxRecDepth 100000
section
variable {H:Type} {enc:TypeId×Value->H} {W:World} {base:Nat} {spare:Nat->Bool} {held:Bool}
instance:Inhabited S83:=⟨⟨0,0,0⟩⟩
theorem Jr {n:Nat} {cs:List Value} {x:DataW H×List MemPlace} (h:DataW.trod enc Tryz.prog W base spare held n 83 cs=some x):
  ∃e:S83,cs=[.int .i64 e.f0,.int .i64 e.f1,.int .i64 e.f2]:=by
 obtain⟨q,r,s,m,_,j,k,h1,l⟩:=trod_struct3 Tryz.underlying83 h;have o:cs.length=3:=j.trans (by kernel_rfl);match cs,o with
 |[u,v,t],_=>
  obtain⟨a,g,_⟩:=DataW.trod_int Tryz.underlying3 (by simpa using k);obtain⟨b,hb,_⟩:=DataW.trod_int Tryz.underlying3 (by simpa using h1);obtain⟨c,i,_⟩:=DataW.trod_int Tryz.underlying3 (by simpa using l);have p:Tryz.prog.cellsOf 3=1:=by kernel_rfl
  rw[p] at g hb i;simp only[List.take_succ_cons,List.take_zero,List.cons.injEq,and_true] at g hb i;exact⟨⟨a,b,c⟩,by rw[g,hb,i]⟩
theorem Js {n:Nat} {v:Value} {y:DataW H×List MemPlace} (h:DataW.trod enc Tryz.prog W base spare held n 22 [v]=some y):
  ∃(A:Option Addr) (c:Nat) (l:List S83),v= .slice A l.length c/\Kd.C aN W A l.length l/\l.length<=c:=by
 rcases open_slice Tryz.underlying22 h with⟨b,_⟩|⟨a,len,cap,m,n',D,B,b,_,o,hm,q,_,r⟩
 ·simp at b
  exact⟨none,0,[],b,⟨rfl,by decide,fun h=>absurd h (by decide)⟩,aI _⟩
 ·have E:len<=m:=by rw[q];split<;>omega
  have s:Tryz.prog.cellsOf 83=3:=by kernel_rfl
  have each:∀i,i<len->∃e:S83,W.cells? base (a.add (i*3)) 3=some [.int .i64 e.f0,.int .i64 e.f1,.int .i64 e.f2]:=fun i hi=>by
   obtain⟨F,h1,w⟩:=r i (by omega);rw[s] at h1;obtain⟨e,rfl⟩:=Jr w;exact⟨e,h1⟩
  obtain⟨f,hf⟩:=choose_lt each;simp at b;subst b;refine⟨some a,cap,(List.range len).map f,by simp,⟨by simp,by simp only[List.length_map,List.length_range];unfold maxLen at hm;omega,fun _=>⟨a,rfl,fun j p g=>?_⟩⟩,by simpa using o⟩;have k:j<len:=by
   have:=List.getElem?_eq_some_iff.1 g;obtain⟨h,_⟩:=this;simpa using h
  have hp:f j=p:=by simpa [k] using g
  subst hp;refine⟨[.int .i64 (f j).f0,.int .i64 (f j).f1,.int .i64 (f j).f2],rfl,BD W (f j),fun i u hi=>?_⟩;obtain⟨_,_,x⟩:=World.cells?_some (hf j k);have z:i<3:=by
   obtain⟨h,_⟩:=List.getElem?_eq_some_iff.1 hi;simpa using h
  have:=x i z;rw[Deep.add_add] at this;exact this.trans hi
theorem Jt {r:Reach} {b:Nat} {v:Value} {d:DataW H} {p:List MemPlace} (e:Value.okWide Tryz.prog W r b 24 v) (h:DataW.Trod enc Tryz.prog W base spare held 24 v d p):
  ∃(N:Int) (A:Option Addr) (c:Nat) (l:List S83),v= .agg #[.int .i64 N,.slice A l.length c]/\Kd.C aN W A l.length l/\l.length<=c:=by
 obtain⟨v0,v1,j,k,n,rfl,_,_,g,h1⟩:=open_agg2 Tryz.underlying24 (by kernel_rfl) (by kernel_rfl) e h;obtain⟨N,a,_⟩:=DataW.trod_int Tryz.underlying3 g;simp at a;subst a;obtain⟨A,c,l,rfl,hC,i⟩:=Js h1;exact⟨N,A,c,l,rfl,hC,i⟩
end
end
end Go.Proofs.YtffdiakgjakngaaGreat.P
namespace Go.Proofs.YtffdiakgjakngaaGreat.riemannrochLists
open Go.ChangeShapes Go.WideShapes Go.ChangeAt Go.RowKit Go.Proofs.YtffdiakgjakngaaGreat.P
set_option linter.unusedVariables false
theorem own:ownKnob Tryz.prog.godebug=none:=by kernel_rfl
theorem laidOut:laidOutB Tryz.prog=true:=by kernel_rfl
set_option maxRecDepth 100000 in
theorem lifted (os:Os) (started:os.Started) (H:Type) (enc:TypeId×Value->H):
    ReturnsInHanded {} Tryz.checked os 9 .any (Rows.riemannrochListsSpec.pre6 enc Tryz.prog Tryz.f9 Rows.riemannrochListsRow.domain false) (Rows.riemannrochListsSpec.post enc Tryz.prog Tryz.f9 false true false false):=by
  refine returnsInHanded_of_change_sized (C:=Tryz.checked) own started (by kernel_rfl) Tryz.func9
    (ChangeSpec.witness6 (enc:=enc) (C:=Tryz.checked) false ⟨#[],#[.agg #[.int .i64 0,.slice none 0 0],.int .i64 0],[]⟩ 8 (by kernel_rfl) (by kernel_rfl) (by kernel_rfl) (by kernel_rfl)) ?_
  intro W base args ds gs before b g hcnd s _;have a:∀(j:Nat) t v,Tryz.f9.params[j]? =some t->args[j]? =some v->Value.okWide Tryz.prog W .any base t v:=b;have u:=g;obtain⟨p,q,i,w,rfl,F,G⟩:=g;have k:DataW.TrodAll enc Tryz.prog W 0 (fun _=>true) true Tryz.f9.params.toList args.toList ds p:=i;rw[Tryz.params9] at k a;obtain⟨v0,I,d0,J,y,q0,K,rfl,rfl,n,z⟩:=trodAll_cons k;obtain⟨v2,L,d2,M,O,P,rfl,rfl,rfl,o,B⟩:=trodAll_cons z;obtain⟨rfl,rfl,rfl⟩:=trodAll_nil B;obtain rfl:args=#[v0,v2]:=by cases args;simp_all
  obtain⟨rfl,rfl⟩:=trodVars_none w;have r:=n;have D:∀x∈y,x.block<W.heap.size:=by obtain⟨m,hm⟩:=r;exact DataW.trod_lt m _ _ _ hm
  obtain⟨N,A,c,l,rfl,hC,E⟩:=Jt (a 0 24 v0 rfl rfl) n;obtain⟨q,rfl,rfl,rfl,Q⟩:=open_int (show Tryz.prog.underlying 3=some (.int .i64) by kernel_rfl) (a 1 3 v2 rfl rfl) o;have hlen:l.length<=9223372036854775807:=by have:=hC.2.1;omega
  clear i b s;refine(Jq N A c l q W hC E hlen).mono fun e W' ⟨he,lI⟩=>?_
  subst he;exact⟨_,rfl,_,_,_,[],_,[],u,trodAll_mk1 (shut_bool Tryz.underlying4 _),(trodAll_cons_mk (Below.trod laidOut (by kernel_rfl) (of_decide_eq_true (by kernel_rfl)) r lI D) (trodAll_cons_mk (Below.trod laidOut (by kernel_rfl) (of_decide_eq_true (by kernel_rfl)) o lI (by simp)) trodAll_mk0)),rfl,lI.frame _,fun h=>by cases h⟩
theorem Ju:Rows.riemannrochListsRow.holds Tryz.pinned (OpenSpec.ofChange Rows.riemannrochListsSpec):=
  OpenClaim.holds_of_wide 9 Tryz.f9 rfl rfl rfl rfl rfl rfl rfl ⟨rfl,rfl,rfl,rfl,rfl⟩ rfl rfl rfl rfl rfl (by kernel_rfl) Tryz.func9 (by kernel_rfl)
    (of_decide_eq_true (by kernel_rfl)) (by unfold Func.isWrapper;first|(rw[if_pos (by decide+kernel)];kernel_rfl)|(rw[if_neg (by decide+kernel)];exact⟨rfl,rfl⟩))
    (fun os started H enc _=>lifted os started H enc)
theorem proved:Rows.RiemannrochListsSaid:=Ju
#print axioms proved
end Go.Proofs.YtffdiakgjakngaaGreat.riemannrochLists
namespace Go.Proofs.YtffdiakgjakngaaGreat
theorem riemannrochLists_holds:Rows.RiemannrochListsSaid:=riemannrochLists.proved
end Go.Proofs.YtffdiakgjakngaaGreat


