/- TopRochUnwinnable answers true whatever the input (text 18 of 19): own walks and plain laws; no conditions. -/
import Derived.Test.YtffdiakgjakngaaGreatRoch17
namespace Go.Proofs.YtffdiakgjakngaaGreat.P
open Go.RowKit Go.Proofs.YtffdiakgjakngaaGreatW.PrintWords Go.Proofs.YtffdiakgjakngaaGreatW.PrintLast Go.Proofs.YtffdiakgjakngaaGreatW.PrintMore
set_option linter.unusedVariables false
set_option linter.unusedSimpArgs false
set_option maxHeartbeats 8000000
set_option maxRecDepth 100000
theorem vK {l:List (List Int)} {i:Nat} (h:i<l.length):l.drop i=aH l i::l.drop (i+1):=by
 rw[List.drop_eq_getElem_cons h]
 simp[aH,List.getD_eq_getElem?_getD,List.getElem?_eq_getElem h]
theorem D8 {n:Nat} {E:List S83} (j:E.length<=1000) (h0:b7 n E=0) (hp:partsOf E n=1):Ev (fun k=>ei.f k n E) 0:=by
 unfold ei.f
 refine Ev.bind (qw j h0 hp) ?_
 simp only[if_true]
 exact Ev.const _
theorem vL {n q:Nat} (hq:q<n) (I:n<=12) (l:List (List Int)) (J:l.length<=100000) (j:∀x∈l,x.length=n):∀(m i:Nat) (o:List (List Int)),i+m=l.length->o.length<=i->Ev (fun k=>bV.l0 k q o l l.length i) (o++(l.drop i).map (fun c=>c.set q (-1)),(0:Int))
 |0,i,o,hi,ho=>by
  refine Ev.of_succ ?_
  simp only[bV.l0,if_neg (show ¬((i:Int)<(l.length:Int)) by omega)]
  rw[List.drop_eq_nil_of_le (by omega),List.map_nil,List.append_nil]
  exact Ev.const _
 |m+1,i,o,hi,ho=>by
  have R:aH l i∈l:=by
   have:aH l i=l[i]:=by simp[aH,List.getD_eq_getElem?_getD,List.getElem?_eq_getElem (show i<l.length by omega)]
   rw[this];exact List.getElem_mem _
  have hlen:=j _ R
  have U:=vL hq I l J j m (i+1) (o++[(aH l i).set q (-1)]) (by omega) (by simp;omega)
  refine Ev.of_succ ?_
  have aa:eJ.f (aH l i)=some (aH l i):=if_pos (by omega)
  simp only[bV.l0,if_pos (show (i:Int)<(l.length:Int) by omega),if_pos (show (0:Int)<=(i:Int) by omega),aa,Option.bind_some,if_pos (show (0:Int)<=(q:Int) by omega),if_pos (show (q:Int)<((aH l i).length:Int) by omega),if_pos (show o.length<5864062014805 by omega),Int.toNat_natCast,dA (show i<=1000000 by omega)]
  rw[vK (show i<l.length by omega),List.map_cons]
  simpa using U
theorem D9 {n q:Nat} {E:List S83} (h:Small n q E) (hc:b7 n E=0):Ev (fun k=>bV.f k n E q) ((Small.g_ n q E).map (fun c=>c.set q (-1)),(0:Int)):=by
 unfold bV.f
 have hq:=h.q
 have o:=h.n5
 have I:=h.len
 refine Ev.bind (D8 (by omega) hc ((iz h.n1 h.right).2 h.conn)) ?_
 simp only[if_true,if_neg (show ¬(q:Int)<0 by omega)]
 refine Ev.of_succ ?_
 simp only[bV.j0,decide_eq_false (show ¬(q:Int)>=(n:Int) by omega),Bool.false_eq_true,if_false]
 refine Ev.bind (h.Dw (h.Co hc)) ?_
 simp only[if_true]
 have J:=h.qg
 have hle:(Small.g_ n q E).length<=100000:=Nat.le_trans (List.length_filter_le _ _) (by omega)
 have:=vL hq (by omega) (Small.g_ n q E) hle (fun x j=>(h.kQ (List.mem_filter.1 j).1).1) (Small.g_ n q E).length 0 [] (by omega) (by simp)
 rw[List.drop_zero,List.nil_append] at this
 exact this
noncomputable def ke (n:Nat) (E:List S83) (d:List Int) (x:List Int):Bool:=@decide (T.bp n (af E) (fun v=>rd x (v:Nat)-rd d (v:Nat))) (Classical.propDecidable _)
theorem qH {n:Nat} {E:List S83} {d x:List Int}:ke n E d x=true↔T.bp n (af E) (fun v=>rd x (v:Nat)-rd d (v:Nat)):=by
 unfold ke
 exact @decide_eq_true_iff _ (Classical.propDecidable _)
theorem l7.fA {n:Nat} {E:List S83} {d:List Int} (h:l7 n E d) (o:1<=n) {c:List Int} (hc:c.length=n) (hb:∀v:Nat,v<n-> -200<=rd c v∧rd c v<=200):dF n 0 E c:=by
 have j:=h.small 0 (by omega)
 have I:=j.n5
 have J:=j.len
 have R:=h.val
 exact⟨o,by omega,by omega,by omega,j.right,j.conn,by omega,hc,hb⟩
theorem D_ {n:Nat} (h1:1<=n) (U:n<=12) {x d:List Int} (o:x.length=n) (hd:d.length=n) (I:∀v:Nat,v<n-> -100<=rd x v∧rd x v<=100) (J:∀v:Nat,v<n-> -100<=rd d v∧rd d v<=100):Ev (fun k=>dG.f k x d) (cW x d,(0:Int)):=by
 have R:∀c:List Int,c.length=n->(∀v:Nat,v<n-> -200<=rd c v∧rd c v<=200)->c.all bQ=true:=fun c hc hb=>by
  refine List.all_eq_true.2 fun y hy=>?_
  obtain⟨v,j,rfl⟩:=List.getElem_of_mem hy
  have h2:=hb v (by omega)
  have e:rd c (v:Int)=c[v]:=by simp[rd,List.getD_eq_getElem?_getD,List.getElem?_eq_getElem j]
  rw[e] at h2
  unfold bQ
  exact decide_eq_true (by omega)
 have e1:eS x x.length=0:=by rw[o];exact nM h1 U o (fun v j=>by have:=I v j;omega)
 have e2:eS d d.length=0:=by rw[hd];exact nM h1 U hd (fun v j=>by have:=J v j;omega)
 have hown:=CY x d (by omega) (by omega)
 have e3:nH x d=0:=by unfold nH;rw[if_pos e1,if_pos e2,if_pos (by omega)]
 rw[e3] at hown
 unfold dG.f
 refine Ev.bind hown ?_
 have hok:mc x d=true:=by
  unfold mc
  rw[R x o (fun v j=>by have:=I v j;omega),R d hd (fun v j=>by have:=J v j;omega),decide_eq_true ⟨by omega,by omega,by omega⟩]
  rfl
 have ag:(cW x d).all bQ=true:=R _ (by unfold cW;rw[nK];exact o) (fun v j=>by
  rw[nL (by omega)]
  have a:=I v j
  have b:=J v j
  omega)
 simp only[if_true,if_pos hok,if_pos ag]
 exact Ev.const _
theorem qI {n:Nat} {E:List S83} {d:List Int} (h:l7 n E d) (I:1<=n) (is:Bool) (l:List (List Int)) (U:l.length<=100000) (J:∀x∈l,x.length=n∧∀v:Nat,v<n-> -100<=rd x v∧rd x v<=100):
  ∀(m i:Nat) (o:Bool),i+m=l.length->((o||(l.drop i).any (ke n E d)) != is)=true->Ev (fun k=>bI.l0 k d is o l l.length i n E) true
 |0,i,o,hi,hr=>by
  rw[List.drop_eq_nil_of_le (by omega),List.any_nil,Bool.or_false] at hr
  refine Ev.of_succ ?_
  simp only[bI.l0,if_neg (show ¬((i:Int)<(l.length:Int)) by omega),hr,if_true]
  exact Ev.bind vJ (Ev.const _)
 |m+1,i,o,hi,hr=>by
  have ad:aH l i∈l:=by
   have:aH l i=l[i]:=by simp[aH,List.getD_eq_getElem?_getD,List.getElem?_eq_getElem (show i<l.length by omega)]
   rw[this];exact List.getElem_mem _
  obtain⟨hlen,hb⟩:=J _ ad
  rw[vK (show i<l.length by omega),List.any_cons] at hr
  have h5:=(h.small 0 (by omega)).n5
  have ag:(cW (aH l i) d).length=n:=by unfold cW;rw[nK];exact hlen
  have R:∀v:Nat,v<n->rd (cW (aH l i) d) v=rd (aH l i) v-rd d v:=fun v j=>nL (by omega)
  have hok:dF n 0 E (cW (aH l i) d):=h.fA I ag (fun v j=>by
   rw[R v j]
   have a:=hb v j
   have b:=h.low v j
   omega)
  obtain⟨s,aa,ar,ak⟩:=qy hok h.check
  have hw:decide (rd (cO n E (cW (aH l i) d) s) 0>=0)=ke n E d (aH l i):=by
   rw[Bool.eq_iff_iff,decide_eq_true_iff,qH,vo hok ak]
   constructor
   ·exact fun hw=>hw.dB (T.a_.of_eq fun v j=>(R v j).symm)
   ·exact fun hw=>hw.dB (T.a_.of_eq fun v j=>R v j)
  rw[hw] at aa
  refine Ev.of_succ ?_
  simp only[bI.l0,if_pos (show (i:Int)<(l.length:Int) by omega),if_pos (show (0:Int)<=(i:Int) by omega),dA (show i<=1000000 by omega)]
  refine Ev.bind (D_ I (by omega) hlen h.dl hb h.low) ?_
  refine Ev.bind aa ?_
  simp only[if_true]
  cases o with
  |true=>
   simp only[if_true]
   exact qI h I is l U J m (i+1) true (by omega) (by simpa using hr)
  |false=>
   simp only[Bool.false_eq_true,if_false]
   exact qI h I is l U J m (i+1) (ke n E d (aH l i)) (by omega) (by simpa using hr)
theorem Ea (N:Int) (E:List S83) (hE:E.length<=9223372036854775807) (d:List Int) (a:Int) (I:0<=a∧a<=255):Ev (fun k=>bI.f k N E d a) true:=by
 unfold bI.f
 obtain⟨b,hb,ad⟩:=CW N E hE d 5
 cases J:b with
 |false=>
  subst J
  refine Ev.bind hb ?_
  simp only[Bool.false_eq_true,if_false]
  exact Ev.bind vJ (Ev.const _)
 |true=>
  subst J
  obtain⟨n,rfl,R,hC⟩:=ad rfl
  refine Ev.bind hb ?_
  simp only[if_true,if_neg (show ¬(n:Int)=0 by omega)]
  have hok:dF n 0 E d:=hC.fA R hC.dl (fun v U=>by have:=hC.low v U;omega)
  obtain⟨s,ag,aF,ak⟩:=qy hok hC.check
  refine Ev.bind ag ?_
  have an:wrap64 a=a:=by unfold wrap64;omega
  obtain⟨a',rfl⟩:=Int.eq_ofNat_of_zero_le I.1
  have hq:Int.tmod (a':Int) n=((a'%n:Nat):Int):=by
   rw[Int.tmod_eq_emod_of_nonneg I.1];omega
  rw[an,hq]
  have aa:a'%n<n:=Nat.mod_lt _ (by omega)
  generalize a'%n=q at aa
  have hS:=hC.small q aa
  refine Ev.bind (D9 hS hC.check) ?_
  simp only[if_true]
  refine Ev.of_succ ?_
  simp only[bI.j0,show ((0:Int) != 0)=false from rfl,Bool.false_eq_true,if_false]
  have ar:=hS.qg
  have h5:=hS.n5
  refine qI hC R _ _ (by rw[List.length_map];exact Nat.le_trans (List.length_filter_le _ _) (Nat.le_trans ar (by decide))) (fun x j=>?_) (List.map (fun c=>c.set q (-1)) (Small.g_ n q E)).length 0 false (by omega) ?_
  ·obtain⟨c,hc,rfl⟩:=List.mem_map.1 j
   obtain⟨c1,c2⟩:=hS.kQ (List.mem_filter.1 hc).1
   refine⟨by rw[List.length_set];exact c1,fun v U=>?_⟩
   by_cases e:v=q
   ·subst e;rw[gL (by omega)];omega
   ·rw[j6 (fun k=>e k.symm)];have:=c2 v;omega
  ·rw[List.drop_zero,Bool.false_or]
   have av:=hS.Dx (fun v=>rd d (v:Nat))
   have aB:=vo hok ak
   have o:(List.map (fun c=>c.set q (-1)) (Small.g_ n q E)).any (ke n E d)=true↔¬T.bp n (af E) (fun v=>rd d (v:Nat)):=by
    rw[av,List.any_eq_true]
    constructor
    ·rintro⟨x,j,hw⟩
     obtain⟨c,hc,rfl⟩:=List.mem_map.1 j
     exact⟨c,hc,qH.1 hw⟩
    ·rintro⟨c,hc,hw⟩
     exact⟨_,List.mem_map.2 ⟨c,hc,rfl⟩,qH.2 hw⟩
   rw[<-aB] at o
   by_cases h0:rd (cO n E d s) 0>=0
   ·rw[decide_eq_true h0]
    have:(List.map (fun c=>c.set q (-1)) (Small.g_ n q E)).any (ke n E d)=false:=by
     rw[Bool.eq_false_iff];exact fun h=>o.1 h h0
    rw[this];rfl
   ·rw[decide_eq_false h0,o.2 h0];rfl
theorem Eb (N:Int) (E:List S83) (j:E.length<=9223372036854775807) (d:List Int) (a:Int) (o:0<=a∧a<=255):∃k,bI.f k N E d a=some true:=(Ea N E j d a o).get
end Go.Proofs.YtffdiakgjakngaaGreat.P

