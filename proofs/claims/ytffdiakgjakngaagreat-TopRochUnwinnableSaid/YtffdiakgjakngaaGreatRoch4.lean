/- TopRochUnwinnable answers true whatever the input (text 4 of 19): own walks and plain laws; no conditions. -/
import Derived.Deep.RegionLaw
import Derived.Lib.Hide
import Derived.Maps.OwnOps
import Derived.Maps.Views
import Derived.Outline
import Derived.WalkSpells
import Derived.Test.YtffdiakgjakngaaGreatRoch3
namespace Go.Proofs.YtffdiakgjakngaaGreat.T
set_option linter.unusedVariables false
set_option linter.unusedSimpArgs false
set_option maxHeartbeats 8000000
set_option maxRecDepth 100000
theorem yC (B:Nat->Bool) (n:Nat) {v:Nat} (j:v<n) (o:B v=false):bz B n<bz (fun u=>decide (u=v)||B u) n:=
 mT (fun u _ h=>by simp[h]) j o (by simp)
theorem yD {n:Nat} {t:Nat->Nat->Int} (ht:Wt n t) {q:Nat} (hq:q<n) {c:Nat->Int} (hc:jO n t q c):
  ∃pos:Nat->Nat,gv n pos∧pos q=0∧∀v,v<n->v≠q->0<pos v∧c v<=nu n t pos v:=by
 have key:∀(m:Nat) (B:Nat->Bool) (pos:Nat->Nat) (k:Nat),n<=bz B n+m->B q=true->pos q=0->0<k->(∀v,v<n->B v=true->pos v<k)->(∀u v,u<n->v<n->B u=true->B v=true->pos u=pos v->u=v)->
   (∀v,v<n->B v=true->v≠q->0<pos v∧c v<sN (fun u=>if B u=true∧pos u<pos v then t v u else 0) n)->
   ∃pos:Nat->Nat,gv n pos∧pos q=0∧∀v,v<n->v≠q->0<pos v∧c v<=nu n t pos v:=by
  intro m
  induction m with
  |zero=>
   intro B pos k hm U ag hk I ak an
   have J:=oO (S:=B) (n:=n) (by omega)
   refine⟨pos,fun u v hu j=>ak u v hu j (J u hu) (J v j),ag,fun v j aa=>?_⟩
   obtain⟨h1,h2⟩:=an v j (J v j) aa
   refine⟨h1,?_⟩
   unfold nu eO
   have:sN (fun u=>if B u=true∧pos u<pos v then t v u else 0) n=sN (fun u=>if pos u<pos v then t v u else 0) n:=bh fun u hu=>by
    show (if B u=true∧pos u<pos v then t v u else 0)=(if pos u<pos v then t v u else 0)
    by_cases e:pos u<pos v
    ·rw[if_pos e,if_pos ⟨J u hu,e⟩]
    ·rw[if_neg e,if_neg (fun h=>e h.2)]
   omega
  |succ m ih=>
   intro B pos k hm U ag hk I ak an
   by_cases aL:∃v,v<n∧B v=false
   ·obtain⟨w,hw,a2⟩:=aL
    obtain⟨v,j,o,a3⟩:=hc (fun u=> !B u) ⟨w,hw,by simp[a2]⟩ (by simp[U])
    have o:B v=false:=by simpa using o
    have aa:v≠q:=fun h=>by subst h;rw[U] at o;cases o
    refine ih (fun u=>decide (u=v)||B u) (fun u=>if u=v then k else pos u) (k+1) (by have:=yC B n j o;omega) (by simp[U]) (by show (if q=v then k else pos q)=0;rw[if_neg (fun h=>aa h.symm)];exact ag) (by omega) ?_ ?_ ?_
    ·intro u hu ar
     show (if u=v then k else pos u)<k+1
     by_cases e:u=v
     ·rw[if_pos e];omega
     ·rw[if_neg e]
      have:=I u hu (by simpa [e] using ar)
      omega
    ·intro a b ha hb aP aS av
     by_cases R:a=v
     ·by_cases e2:b=v
      ·rw[R,e2]
      ·exfalso
       have h1:=I b hb (by simpa [e2] using aS)
       have h2:(if a=v then k else pos a)=(if b=v then k else pos b):=av
       rw[if_pos R,if_neg e2] at h2
       omega
     ·by_cases e2:b=v
      ·exfalso
       have h1:=I a ha (by simpa [R] using aP)
       have h2:(if a=v then k else pos a)=(if b=v then k else pos b):=av
       rw[if_neg R,if_pos e2] at h2
       omega
      ·have h2:(if a=v then k else pos a)=(if b=v then k else pos b):=av
       rw[if_neg R,if_neg e2] at h2
       exact ak a b ha hb (by simpa [R] using aP) (by simpa [e2] using aS) h2
    ·intro u hu ar bf
     by_cases e:u=v
     ·subst e
      show 0<(if u=u then k else pos u)∧_
      rw[if_pos rfl]
      refine⟨hk,Int.lt_of_lt_of_le a3 (cm fun x hx=>?_)⟩
      show (if(!B x)=false then t u x else 0)<=(if(decide (x=u)||B x)=true∧(if x=u then k else pos x)<k then t u x else 0)
      cases a1:B x with
      |false=>
       rw[if_neg (by simp)]
       have:=ht.pos u x
       by_cases h4:(decide (x=u)||false)=true∧(if x=u then k else pos x)<k
       ·rw[if_pos h4];exact this
       ·rw[if_neg h4];exact Int.le_refl _
      |true=>
       have bg:x≠u:=fun h=>by subst h;rw[a1] at o;cases o
       rw[if_pos (by simp),if_pos (by simp[bg];exact I x hx a1)]
       exact Int.le_refl _
     ·have bk:B u=true:=by simpa [e] using ar
      obtain⟨h1,h2⟩:=an u hu bk bf
      show 0<(if u=v then k else pos u)∧_
      rw[if_neg e]
      refine⟨h1,Int.lt_of_lt_of_le h2 (cm fun x hx=>?_)⟩
      show (if B x=true∧pos x<pos u then t u x else 0)<=(if(decide (x=v)||B x)=true∧(if x=v then k else pos x)<pos u then t u x else 0)
      by_cases h3:B x=true∧pos x<pos u
      ·have bn:x≠v:=fun h=>by subst h;rw[o] at h3;cases h3.1
       rw[if_pos h3,if_pos (by simp[bn,h3])];exact Int.le_refl _
      ·rw[if_neg h3]
       have:=ht.pos u x
       by_cases h4:(decide (x=v)||B x)=true∧(if x=v then k else pos x)<pos u
       ·rw[if_pos h4];exact this
       ·rw[if_neg h4];exact Int.le_refl _
   ·have J:∀v,v<n->B v=true:=fun v j=>by
     cases h:B v with
     |true=>rfl
     |false=>exact absurd ⟨v,j,h⟩ aL
    have bo:n<=bz B n:=by
     have h2:=oP n
     have:=lK (S:=fun _=>true) (T:=B) (n:=n) (fun v j _=>J v j)
     omega
    exact ih B pos k (by omega) U ag hk I ak an
 refine key n (fun v=>decide (v=q)) (fun _=>0) 1 (by omega) (by simp) rfl (by omega) (fun _ _ _=>by omega) (fun u v _ _ hu j _=>?_) (fun v _ j aa=>absurd (of_decide_eq_true j) aa)
 have h1:u=q:=of_decide_eq_true hu
 have h2:v=q:=of_decide_eq_true j
 rw[h1,h2]
theorem yE {n:Nat} {t:Nat->Nat->Int} {pos:Nat->Nat} {q:Nat} (h:pos q=0):nu n t pos q= -1:=by
 unfold nu eO
 rw[fO fun u _=>by rw[if_neg (by omega)]];rfl
theorem sh {n:Nat} {t:Nat->Nat->Int} (I:Wt n t) {q:Nat} (hq:q<n) {c:Nat->Int} (hc:jO n t q c) (hd:c q<0):∃pos:Nat->Nat,gv n pos∧pos q=0∧(∀v,v<n->v≠q->0<pos v)∧∀v,v<n->c v<=nu n t pos v:=by
 obtain⟨pos,h1,h2,o⟩:=yD I hq hc
 refine⟨pos,h1,h2,fun v j J=>(o v j J).1,fun v j=>?_⟩
 by_cases e:v=q
 ·subst e;rw[yE h2];omega
 ·exact(o v j e).2
theorem kD {n:Nat} {t:Nat->Nat->Int} (j:Wt n t) {q:Nat} (hq:q<n) {c:Nat->Int} (hc:iq n t q c):bp n t c↔0<=c q:=by
 constructor
 ·intro hw
  refine Classical.byContradiction fun hd=>?_
  obtain⟨pos, -, -, -,h⟩:=sh j hq hc.2 (by omega)
  exact oN j (by omega) pos (hw.mono h)
 ·intro h
  exact bp.mS fun v o=>by
   by_cases e:v=q
   ·subst e;exact h
   ·exact hc.1 v o e
theorem yF {n:Nat} {t:Nat->Nat->Int} (j:Wt n t) (hc:cR n t) (o:0<n) (D:Nat->Int):¬bp n t D↔∃pos:Nat->Nat,gv n pos∧bp n t (fun v=>nu n t pos v-D v):=by
 constructor
 ·intro h
  obtain⟨c,h1,h2⟩:=oR j hc o D
  have I:c 0<0:=by
   refine Classical.byContradiction fun h4=>h ?_
   rw[yo h1]
   exact(kD j o h2).2 (by omega)
  obtain⟨pos,J, -, -,R⟩:=sh j o h2.2 I
  refine⟨pos,J,?_⟩
  have U:a_ n t (fun v=>nu n t pos v+ -c v) (fun v=>nu n t pos v+ -D v):=(a_.refl _ _ _).add h1.symm.neg
  exact bp.dB U (bp.mS fun v hv=>by have:=R v hv;show 0<=nu n t pos v+ -c v;omega)
 ·rintro⟨pos, -,hw⟩ hD
  refine oN j o pos ((hw.add hD).mono fun v _=>?_)
  show nu n t pos v-D v+D v<=_
  omega
def ez (n:Nat) (t:Nat->Nat->Int) (D:Nat->Int) (k:Int):Prop:=∀F:Nat->Int,mR n F->sN F n=k->bp n t (fun v=>D v-F v)
def bA (n:Nat) (t:Nat->Nat->Int) (D:Nat->Int) (r:Int):Prop:= -1<=r∧(∀k,0<=k->k<=r->ez n t D k)∧¬ez n t D (r+1)
theorem ez.down {n:Nat} {t:Nat->Nat->Int} (I:0<n) {D:Nat->Int} {k j:Int} (h:ez n t D k) (R:j<=k):ez n t D j:=by
 intro F hF J
 have h1:=h (fun v=>F v+(k-j)*one 0 v) (fun v o=>by
  have:=hF v o
  show 0<=F v+(k-j)*one 0 v
  unfold one
  split
  ·rw[Int.mul_one];omega
  ·rw[Int.mul_zero];omega) (by rw[dn,eN,e8 I,J];omega)
 refine h1.mono fun v o=>?_
 show D v- (F v+(k-j)*one 0 v)<=D v-F v
 unfold one
 split
 ·rw[Int.mul_one];omega
 ·rw[Int.mul_zero];omega
theorem bA.oT {n:Nat} {t:Nat->Nat->Int} (j:0<n) {D:Nat->Int} {r:Int} (h:bA n t D r) {k:Int} (hk:0<=k):ez n t D k↔k<=r:=by
 constructor
 ·intro o
  refine Classical.byContradiction fun I=>h.2.2 (o.down j (by omega))
 ·exact fun hle=>h.2.1 k hk hle
theorem bA.unique {n:Nat} {t:Nat->Nat->Int} (I:0<n) {D:Nat->Int} {r j:Int} (h:bA n t D r) (o:bA n t D j):r=j:=by
 have h1:=h.1
 have h2:=o.1
 rcases Int.lt_trichotomy r j with e|e|e
 ·exact absurd (o.2.1 (r+1) (by omega) (by omega)) h.2.2
 ·exact e
 ·exact absurd (h.2.1 (j+1) (by omega) (by omega)) o.2.2
theorem ez.dB {n:Nat} {t:Nat->Nat->Int} {D D':Nat->Int} (he:a_ n t D D') {k:Int} (h:ez n t D k):ez n t D' k:=fun F hF j=>by
 have o:a_ n t (fun v=>D v+ -F v) (fun v=>D' v+ -F v):=he.add (a_.refl _ _ _)
 exact bp.dB o (h F hF j)
theorem bA.dB {n:Nat} {t:Nat->Nat->Int} {D D':Nat->Int} (he:a_ n t D D') {r:Int} (h:bA n t D r):bA n t D' r:=
 ⟨h.1,fun k h0 hk=>(h.2.1 k h0 hk).dB he,fun j=>h.2.2 (j.dB he.symm)⟩
def up (x:Int):Int:=if 0<=x then x else 0
theorem yG (x:Int):0<=up x:=by unfold up;split<;>omega
theorem sj (x:Int):x<=up x:=by unfold up;split<;>omega
theorem oU {n:Nat} {t:Nat->Nat->Int} (J:Wt n t) (hc:cR n t) (I:0<n) (D:Nat->Int) (k:Int) (hk:0<=k):ez n t D k↔∀(D':Nat->Int) (pos:Nat->Nat),a_ n t D D'->gv n pos->k<sN (fun v=>up (D' v-nu n t pos v)) n:=by
 constructor
 ·intro h D' pos he hi
  refine Classical.byContradiction fun hle=>?_
  have hle:sN (fun v=>up (D' v-nu n t pos v)) n<=k:=by omega
  have h1:=(h.down I hle) (fun v=>up (D' v-nu n t pos v)) (fun v _=>yG _) rfl
  have R:a_ n t (fun v=>D v+ -up (D' v-nu n t pos v)) (fun v=>D' v+ -up (D' v-nu n t pos v)):=he.add (a_.refl _ _ _)
  have h2:bp n t (fun v=>D' v+ -up (D' v-nu n t pos v)):=bp.dB R h1
  exact oN J I pos (h2.mono fun v _=>by
   have:=sj (D' v-nu n t pos v)
   show D' v+ -up (D' v-nu n t pos v)<=nu n t pos v
   omega)
 ·intro h F hF hs
  refine Classical.byContradiction fun U=>?_
  obtain⟨pos,hi,hw⟩:=(yF J hc I _).1 U
  obtain⟨j,⟨s,h1⟩,h2⟩:=hw
  have he:a_ n t D (fun v=>nu n t pos v+F v-j v):=⟨fun u=> -s u,fun v o=>by
   have h7:j v=nu n t pos v- (D v-F v)-aI n t s v:=h1 v o
   rw[kA]
   show nu n t pos v+F v-j v=_
   omega⟩
  have h3:=h _ pos he hi
  have h4:sN (fun v=>up (nu n t pos v+F v-j v-nu n t pos v)) n<=sN F n:=cm fun v o=>by
   have:=h2 v o
   have:=hF v o
   show up (nu n t pos v+F v-j v-nu n t pos v)<=F v
   unfold up;split<;>omega
  omega
def can (n:Nat) (t:Nat->Nat->Int) (v:Nat):Int:=val n t v-2
def eA (n:Nat) (t:Nat->Nat->Int) (g:Int):Prop:=sN (can n t) n=2*g-2
theorem sk {n:Nat} {t:Nat->Nat->Int} (j:Wt n t) {g:Int} (o:eA n t g) {pos:Nat->Nat} (hi:gv n pos):sN (nu n t pos) n=g-1:=by
 have h1:=yt j hi
 have h2:=yu (n:=n) (t:=t) pos
 have I:sN (can n t) n=sN (val n t) n-n*2:=by
  have:sN (can n t) n=sN (fun v=>val n t v- (fun _=>(2:Int)) v) n:=rfl
  rw[this,cM,ig]
 unfold eA at o
 omega
theorem yH {n:Nat} {t:Nat->Nat->Int} (j:Wt n t) (hc:cR n t) (I:0<n) {g:Int} (o:eA n t g) {D:Nat->Int} {k:Int} (hk:0<=k) (J:0<=k- (sN D n+1-g)) (h:ez n t D k):ez n t (fun v=>can n t v-D v) (k- (sN D n+1-g)):=by
 rw[oU j hc I _ _ J]
 rw[oU j hc I _ _ hk] at h
 intro D' pos he hi
 obtain⟨pos',hr⟩:=sb n pos
 have hi':=yq hi hr
 have R:a_ n t D (fun v=>can n t v-D' v):=by
  have h1:a_ n t (fun v=>can n t v+ -(can n t v-D v)) (fun v=>can n t v+ -D' v):=(a_.refl _ _ _).add he.neg
  exact(a_.of_eq (D:=D) (D':=fun v=>can n t v+ -(can n t v-D v)) fun v _=>by show can n t v+ -(can n t v-D v)=D v;omega).trans (h1.trans (a_.of_eq fun v _=>by show can n t v-D' v=can n t v+ -D' v;omega))
 have h1:=h _ pos' R hi'
 have h2:sN (fun v=>up (can n t v-D' v-nu n t pos' v)) n=sN (fun v=>up (D' v-nu n t pos v)) n-sN (fun v=>D' v-nu n t pos v) n:=by
  rw[<-cM]
  refine bh fun v U=>?_
  have h3:=yv j hi hr U
  show up (can n t v-D' v-nu n t pos' v)=up (D' v-nu n t pos v)- (D' v-nu n t pos v)
  unfold can up
  rw[<-h3]
  split<;>split<;>omega
 rw[h2,cM,he.ik j,sk j o hi,cM] at h1
 unfold eA at o
 rw[o] at h1
 omega
theorem bA.oV {n:Nat} {t:Nat->Nat->Int} (o:Wt n t) (j:0<n) {D:Nat->Int} {r:Int} (h:bA n t D r) (hr:0<=r):r<=sN D n:=by
 have h1:=h.2.1 r hr (Int.le_refl _) (fun v=>r*one 0 v) (fun v _=>Int.mul_nonneg hr (by unfold one;split<;>omega)) (by rw[eN,e8 j,Int.mul_one])
 have:=h1.ik o
 rw[cM,eN,e8 j] at this
 omega
theorem bA.lL {n:Nat} {t:Nat->Nat->Int} {D:Nat->Int} {r:Int} (o:0<n) (h:bA n t D r):r= -1↔¬bp n t D:=by
 have key:ez n t D 0↔bp n t D:=by
  constructor
  ·intro I
   exact(I (fun _=>0) (fun _ _=>Int.le_refl _) (jM n)).mono fun v _=>by show D v-0<=D v;omega
  ·intro hw F hF J
   have h0:∀v,v<n->F v=0:=fun v j=>by
    have h1:=fP j hF
    have:=hF v j
    omega
   exact hw.mono fun v j=>by show D v<=D v-F v;rw[h0 v j];omega
 have h1:=h.1
 have h2:=h.oT o (Int.le_refl 0)
 rw[<-key,h2]
 omega
theorem ir {n:Nat} {t:Nat->Nat->Int} (I:Wt n t) (o:0<n) (D:Nat->Int):∃r,bA n t D r:=by
 have key:∃k:Nat,¬ez n t D k:=by
  refine⟨(sN D n).toNat+1,fun h=>?_⟩
  have h1:=h (fun v=>(((sN D n).toNat+1:Nat):Int)*one 0 v) (fun v _=>Int.mul_nonneg (by omega) (by unfold one;split<;>omega)) (by rw[eN,e8 o,Int.mul_one])
  have:=h1.ik I
  rw[cM,eN,e8 o] at this
  omega
 obtain⟨k,hk,J⟩:=ym key
 refine⟨(k:Int)-1,by omega,fun j h0 U=>?_,by rw[show (k:Int)-1+1=k by omega];exact hk⟩
 refine Classical.byContradiction fun R=>?_
 obtain⟨i,rfl⟩:=Int.eq_ofNat_of_zero_le h0
 have:=J i R
 omega
theorem oW {n:Nat} {t:Nat->Nat->Int} (J:Wt n t) (hc:cR n t) (R:0<n) {g:Int} (o:eA n t g) {D:Nat->Int} {r j:Int} (h:bA n t D r) (I:bA n t (fun v=>can n t v-D v) j):r-j=sN D n+1-g:=by
 have key:∀{D D':Nat->Int} {r j:Int},(∀v,v<n->D' v=can n t v-D v)->bA n t D r->bA n t D' j->r- (sN D n+1-g)<=j:=by
  intro D D' r j hD h I
  refine Classical.byContradiction fun ag=>?_
  have h1:=h.1
  have ak:=I.1
  have an:sN D' n=2*g-2-sN D n:=by
   rw[bh hD,cM]
   unfold eA at o
   rw[o]
  by_cases hr:0<=r
  ·have h2:=yH J hc R o hr (by omega) (h.2.1 r hr (Int.le_refl _))
   have U:ez n t D' (r- (sN D n+1-g)):=h2.dB (a_.of_eq hD)
   have h4:=(I.oT R (by omega)).1 U
   omega
  ·
   have ar:r= -1:=by omega
   have hx:0<=j+1:=by omega
   have h2:¬ez n t D' (j+1):=I.2.2
   rw[oU J hc R _ _ hx] at h2
   refine h2 fun F pos he hi=>?_
   have U:sN (fun v=>F v-nu n t pos v) n<=sN (fun v=>up (F v-nu n t pos v)) n:=cm fun v _=>sj _
   have h4:sN (fun v=>F v-nu n t pos v) n=sN D' n- (g-1):=by rw[cM,he.ik J,sk J o hi]
   omega
 have h1:=key (fun v _=>rfl) h I
 have h2:=key (D:=fun v=>can n t v-D v) (D':=D) (fun v _=>by show D v=can n t v- (can n t v-D v);omega) I h
 have U:sN (fun v=>can n t v-D v) n=2*g-2-sN D n:=by
  rw[cM]
  unfold eA at o
  rw[o]
 omega
theorem yI {n:Nat} {t:Nat->Nat->Int} (ht:Wt n t) (J:0<n) {D:Nat->Int} (hw:bp n t D) {r:Int} (h:bA n t D r):(∀v,v<n->∀k,bA n t (fun u=>D u-one v u) k->r<=k+1)∧∃v,v<n∧∀k,bA n t (fun u=>D u-one v u) k->r=k+1:=by
 have hr:0<=r:=by
  have h1:=h.1
  have:=(h.lL J).1
  refine Classical.byContradiction fun I=>this (by omega) hw
 have R:∀v,v<n->∀k,bA n t (fun u=>D u-one v u) k->r<=k+1:=by
  intro v j k hk
  have ag:=hk.1
  refine Classical.byContradiction fun ak=>hk.2.2 fun F hF o=>?_
  have h1:=h.2.1 (k+2) (by omega) (by omega) (fun u=>F u+one v u) (fun u hu=>by have:=hF u hu;show 0<=F u+one v u;unfold one;split<;>omega) (by rw[dn,e8 j,o];omega)
  exact h1.mono fun u _=>by show D u- (F u+one v u)<=D u-one v u-F u;omega
 refine⟨R,?_⟩
 obtain⟨F,hF,o,U⟩:∃F,mR n F∧sN F n=r+1∧¬bp n t (fun v=>D v-F v):=by
  refine Classical.byContradiction fun I=>h.2.2 fun F hF o=>?_
  exact Classical.byContradiction fun hw=>I ⟨F,hF,o,hw⟩
 obtain⟨v,j,an⟩:∃v,v<n∧1<=F v:=by
  refine Classical.byContradiction fun I=>?_
  have:sN F n=0:=fO fun v j=>by
   have:=hF v j
   refine Classical.byContradiction fun h0=>I ⟨v,j,by omega⟩
  omega
 refine⟨v,j,fun k hk=>?_⟩
 have h1:=R v j k hk
 have h2:¬ez n t (fun u=>D u-one v u) r:=fun hg=>by
  have h3:=hg (fun u=>F u-one v u) (fun u hu=>by
   have:=hF u hu
   show 0<=F u-one v u
   unfold one
   by_cases e:u=v
   ·subst e;rw[if_pos rfl];omega
   ·rw[if_neg e];omega) (by rw[cM,e8 j,o];omega)
  exact U (h3.mono fun u _=>by show D u-one v u- (F u-one v u)<=D u-F u;omega)
 have:=hk.oT J hr
 have:¬r<=k:=fun hle=>h2 (this.2 hle)
 omega
theorem yJ {n:Nat} {t:Nat->Nat->Int} (j:Wt n t) (hc:cR n t) (o:0<n) {g:Int} (I:eA n t g) {D:Nat->Int} (hd:2*g-2<sN D n) {r:Int} (h:bA n t D r):r=sN D n-g:=by
 obtain⟨R,J⟩:=ir j o (fun v=>can n t v-D v)
 have h1:=oW j hc o I h J
 have h2:¬bp n t (fun v=>can n t v-D v):=fun hw=>by
  have:=hw.ik j
  rw[cM] at this
  unfold eA at I
  omega
 have:=(J.lL o).2 h2
 omega
end Go.Proofs.YtffdiakgjakngaaGreat.T
namespace Go.Proofs.YtffdiakgjakngaaGreat.P
open Go.RowKit Go.Proofs.YtffdiakgjakngaaGreatW.PrintWords Go.Proofs.YtffdiakgjakngaaGreatW.PrintLast Go.Proofs.YtffdiakgjakngaaGreatW.PrintMore
set_option linter.unusedVariables false
set_option linter.unusedSimpArgs false
set_option maxHeartbeats 8000000
set_option maxRecDepth 100000
def dc (f:Nat->Nat->Int) (x:S83):Nat->Nat->Int:=if x.f0=x.f1 then f else fun a b=>if a=x.f1.toNat∧b=x.f0.toNat then x.f2 else if a=x.f0.toNat∧b=x.f1.toNat then x.f2 else f a b
def af (E:List S83):Nat->Nat->Int:=E.foldl dc (fun _ _=>0)
theorem sm (E:List S83) (k:Nat) (h:k<E.length):af (E.take (k+1))=dc (af (E.take k)) (ae E k):=by
 unfold af
 rw[List.take_succ_eq_append_getElem h,List.foldl_append]
 simp[ae,List.getD_eq_getElem?_getD,List.getElem?_eq_getElem h]
def dp (n:Nat) (E:List S83):Prop:=∀x∈E,0<=x.f0∧x.f0<n∧0<=x.f1∧x.f1<n∧1<=x.f2∧x.f2<=50
theorem dp.get {n:Nat} {E:List S83} (h:dp n E) (k:Nat) (hk:k<E.length):0<=(ae E k).f0∧(ae E k).f0<n∧0<=(ae E k).f1∧(ae E k).f1<n∧1<=(ae E k).f2∧(ae E k).f2<=50:=by
 have e:ae E k=E[k]:=by simp[ae,List.getD_eq_getElem?_getD,List.getElem?_eq_getElem hk]
 rw[e];exact h _ (List.getElem_mem hk)
theorem sn {n:Nat}:∀(E:List S83) (f:Nat->Nat->Int),(∀x∈E,1<=x.f2∧x.f2<=50)->(∀i j,0<=f i j∧f i j<=50)->∀i j,0<=E.foldl dc f i j∧E.foldl dc f i j<=50
 |[],f,_,hf=>hf
 |x::E,f,h,hf=>by
  refine sn (n:=n) E _ (fun y I=>h y (List.mem_cons_of_mem _ I)) ?_
  intro i j
  have J:=h x (List.mem_cons_self ..)
  have o:=hf i j
  unfold dc
  split
  ·exact o
  ·dsimp only
   split
   ·omega
   ·split
    ·omega
    ·exact o
theorem dp.times {n:Nat} {E:List S83} (h:dp n E) (i j:Nat):0<=af E i j∧af E i j<=50:=sn (n:=n) E _ (fun x o=>⟨(h x o).2.2.2.2.1,(h x o).2.2.2.2.2⟩) (fun _ _=>by simp) i j
def gw (n:Int) (E:List S83):Bool:=E.all fun x=>decide (0<=x.f0∧x.f0<n∧0<=x.f1∧x.f1<n∧1<=x.f2∧x.f2<=50)
theorem gU {n:Nat} {E:List S83} (h:gw n E=true):dp n E:=fun x j=>by simpa using List.all_eq_true.1 h x j
def jP (x y:S83):Prop:=x.f0<y.f0∨x.f0=y.f0∧x.f1<y.f1
structure ba (N:Int) (E:List S83):Prop where
 ok:∀x∈E,b6 N x=true
 le:∀x∈E,x.f0<=x.f1
 order:E.Pairwise jP
theorem so {N:Int}:∀{E:List S83} {j I:Int},gj N j I E=0->(∀x∈E,b6 N x=true∧x.f0<=x.f1∧(j<x.f0∨j=x.f0∧I<x.f1))∧E.Pairwise jP
 |[],_,_,_=>⟨fun x o=>absurd o (by simp),List.Pairwise.nil⟩
 |y::E,j,I,h=>by
  rw[gj] at h
  by_cases he:dm N j I y=0
  ·rw[if_pos he] at h
   obtain⟨h1,h2⟩:=so h
   have J:b6 N y=true∧y.f0<=y.f1∧(j<y.f0∨j=y.f0∧I<y.f1):=by
    unfold dm at he
    cases hok:b6 N y with
    |false=>rw[hok] at he;simp at he
    |true=>
     rw[hok,if_neg (show ¬(true=false) by decide)] at he
     by_cases hc:y.f0<j∨y.f0=j∧y.f1<=I∨y.f0>y.f1
     ·rw[if_pos hc] at he;exact absurd he (by decide)
     ·exact⟨rfl,by omega,by omega⟩
   refine⟨fun x o=>?_,List.Pairwise.cons (fun x o=>(h1 x o).2.2) h2⟩
   rcases List.mem_cons.1 o with rfl|o
   ·exact J
   ·have:=h1 x o
    exact⟨this.1,this.2.1,by omega⟩
  ·rw[if_neg he] at h;exact absurd h he
theorem gy {N:Int} {E:List S83} (h:b7 N E=0):1<=N∧N<=12∧ba N E:=by
 unfold b7 at h
 by_cases o:N<1∨N>12
 ·rw[if_pos o] at h;exact absurd h (by decide)
 ·rw[if_neg o] at h
  obtain⟨h1,h2⟩:=so h
  exact⟨by omega,by omega,fun x j=>(h1 x j).1,fun x j=>(h1 x j).2.1,h2⟩
theorem ba.bQ {N:Int} {E:List S83} (h:ba N E):gw N E=true:=by
 refine List.all_eq_true.2 fun x j=>?_
 have:=h.ok x j
 simpa [b6] using this
def e9 (a b:Int) (x:S83):Bool:=decide (x.f0=min a b∧x.f1=max a b)
def cn (E:List S83) (a b:Int):Int:=match E.find? (e9 a b) with|some x=>x.f2|none=>0
theorem sr (x:S83) (E:List S83) (a b:Int):cn (x::E) a b=if x.f0=min a b∧x.f1=max a b then x.f2 else cn E a b:=by
 unfold cn
 rw[List.find?_cons]
 unfold e9
 by_cases h:x.f0=min a b∧x.f1=max a b
 ·simp[h]
 ·rw[decide_eq_false h,if_neg h]
theorem mU (E:List S83) (a b:Int):cn E a b=cn E b a:=by
 unfold cn e9
 rw[show min a b=min b a by omega,show max a b=max b a by omega]
theorem ss {E:List S83} {a b:Int} (h:∀x∈E,¬(x.f0=min a b∧x.f1=max a b)):E.find? (e9 a b)=none:=by
 rw[List.find?_eq_none]
 intro x j
 simp[e9,h x j]
theorem su (a b:Nat) (I:a≠b):∀(E:List S83) (f:Nat->Nat->Int),(∀x∈E,0<=x.f0∧x.f0<=x.f1)->E.Pairwise jP->E.foldl dc f a b=match E.find? (e9 a b) with|some x=>x.f2|none=>f a b
 |[],f,_,_=>rfl
 |x::E,f,h,hp=>by
  have R:=h x (List.mem_cons_self ..)
  obtain⟨h1,h2⟩:=List.pairwise_cons.1 hp
  rw[List.foldl_cons,su a b I E _ (fun y j=>h y (List.mem_cons_of_mem _ j)) h2,List.find?_cons]
  by_cases J:x.f0=min (a:Int) b∧x.f1=max (a:Int) b
  ·rw[show e9 a b x=true from by simp[e9,J]]
   rw[ss (fun y j U=>by have:=h1 y j;unfold jP at this;omega)]
   show dc f x a b=x.f2
   unfold dc
   rw[if_neg (by omega)]
   by_cases o:a=x.f1.toNat∧b=x.f0.toNat
   ·rw[if_pos o]
   ·rw[if_neg o,if_pos (by omega)]
  ·rw[show e9 a b x=false from by simp[e9];omega]
   have e:dc f x a b=f a b:=by
    unfold dc
    split
    ·rfl
    ·dsimp only
     rw[if_neg (by omega),if_neg (by omega)]
   rw[e]
theorem jQ {N:Int} {E:List S83} (h:ba N E) (a b:Nat) (o:a≠b):af E a b=cn E a b:=by
 unfold af cn
 exact su a b o E _ (fun x j=>⟨by have:=h.ok x j;simp[b6] at this;omega,h.le x j⟩) h.order
theorem oX {N:Int} {E:List S83} (h:ba N E) (a b:Int):0<=cn E a b∧cn E a b<=50:=by
 unfold cn
 split
 ·rename_i x j
  have:=h.ok x (List.mem_of_find?_eq_some j)
  simp[b6] at this;omega
 ·omega
section
attribute [local go_sem] jG jH jI jJ mF mG mH mI
def cS.l0:Nat->Int->Int->Int->Int->List (S83)->Option (Int)
 |0,_,_,_,_,_=>none
 |k+1,x1,x2,j,I,o=>if j<(o.length:Int) then(if 0<=j then(if((ae o j).f0)=(mn x1 x2) then(if((ae o j).f1)=(mx x1 x2) then(some ((ae o j).f2)) else(cS.l0 k x1 x2 (wrap64 (j+1)) I o)) else(cS.l0 k x1 x2 (wrap64 (j+1)) I o)) else(none)) else(some 0)
def cS.f (k:Nat) (j:Int) (o:List (S83)) (I:Int) (J:Int):Option (Int):=cS.l0 k I J 0 j o
theorem cS.calls (k:Nat) (aa:Int) (b1:Option Addr) (aO:Nat) (j:List (S83)) (a1:Int) (a2:Int) (r:Int) (w:World) (cb:Kd.C aG w b1 j.length j) (cc:j.length<=aO) (h:cS.f k aa j a1 a2=some r):
  Calls Tryz.prog 147 #[.agg #[.int .i64 aa,.slice b1 j.length aO],.int .i64 a1,.int .i64 a2] w fun e w'=>e= .returned (.int .i64 r)∧Below w.heap.size w w':=by
 have cx:=Tryz.underlying24
 have c0:=Tryz.underlying83
 have b_:=Aside0.mk cb
 have c2:=Aside0.mk cc
 clear cb cc
 have J:=Aside0.mk (Below.refl w.heap.size w)
 have H:(cS.l0 k a1 a2 0 aa j)=some r:=h
 clear h
 have H':=Aside0.mk H
 clear H
 go_enter Tryz.func147,Tryz.ntmps147
 go_wp2_with (first|((with_reducible refine aA (N:=3) rfl ?_);(try(refine dk (by rfl) ?_;dsimp only));refine zX 3 #[.int .i64 aa,.slice b1 j.length aO] 24 ?_;intro ag R w4 ak hb;have U:=Aside0.mk (ak);have c4:=zG J R;have c7:=zG J R;replace J:=zS J hb;clear hb ak R))
 go_loopg [7] k (fun kq v7 w'=>∃(I:Int),v7= .int .i64 I∧Aside0 (cS.l0 kq a1 a2 I aa j=some r)∧Aside0 (kq<=k)∧Aside0 (w'.heap[ag]? =some (.cells #[.int .i64 aa,(.slice b1 j.length aO)] 24 (0,0)))∧Aside0 (Below w.heap.size w w'))
 case atStart=>exact⟨(0),zT,H',⟨Nat.le_refl _⟩,⟨zK U⟩,⟨zB⟩⟩
 case round=>
  clear H'
  try clear c1
  try clear p2
  obtain⟨I,rfl,HA,b2,U,J⟩:=hrel
  cases gk with
  |zero=>exact absurd HA.out (by simp[cS.l0])
  |succ k1=>
   have H:=HA.out
   clear HA
   simp only[cS.l0] at H
   by_cases c5:I<(j.length:Int)
   ·rw[if_pos c5] at H
    have ck:decide (I<(j.length:Int))=true:=decide_eq_true c5
    clear c5
    by_cases c6:0<=I
    ·rw[if_pos c6] at H
     have c':decide (0<=I)=true:=decide_eq_true c6
     clear c6
     obtain⟨a0,b4⟩:∃j_:Int,(mn a1 a2)=j_:=⟨_,rfl⟩
     replace H:(if((ae j I).f0)=(a0) then(if((ae j I).f1)=(mx a1 a2) then(some ((ae j I).f2)) else(cS.l0 k1 a1 a2 (wrap64 (I+1)) aa j)) else(cS.l0 k1 a1 a2 (wrap64 (I+1)) aa j))=some r:=by first|(rw[b4] at H;exact H)|(simp only[b4] at H⊢;exact H)
     have dd:(if a2<a1 then a2 else a1)=a0:=b4
     by_cases c8:((ae j I).f0)=(a0)
     ·rw[if_pos c8] at H
      have cl:(((ae j I).f0)==(a0))=true:=beq_iff_eq.mpr c8
      have cq:(((ae j I).f0) != (a0))=false:=bne_eq_false_iff_eq.mpr c8
      clear c8
      obtain⟨bf,b5⟩:∃j_:Int,(mx a1 a2)=j_:=⟨_,rfl⟩
      replace H:(if((ae j I).f1)=(bf) then(some ((ae j I).f2)) else(cS.l0 k1 a1 a2 (wrap64 (I+1)) aa j))=some r:=by first|(rw[b5] at H;exact H)|(simp only[b5] at H⊢;exact H)
      have ds:(if a1<a2 then a2 else a1)=bf:=b5
      by_cases bg:((ae j I).f1)=(bf)
      ·rw[if_pos bg] at H
       have cr:(((ae j I).f1)==(bf))=true:=beq_iff_eq.mpr bg
       have cv:(((ae j I).f1) != (bf))=false:=bne_eq_false_iff_eq.mpr bg
       clear bg
       obtain rfl:=Option.some.inj H
       obtain⟨dv,ea,eb,ed⟩:=ao U
       have an:0<=(I:Int):=of_decide_eq_true ‹_›
       have ar:I<(j.length:Int):=of_decide_eq_true ‹_›
       obtain⟨aP,bw,av,aB,aF⟩:=dK b_.out I an ar
       cases bw
       replace av:=(J.out.cell (World.block_lt_of_cell? w _ av)).trans av
       replace aB:=(J.out.cell (World.block_lt_of_cell? w _ aB)).trans aB
       replace aF:=(J.out.cell (World.block_lt_of_cell? w _ aF)).trans aF
       replace an:=eq_true an
       replace ar:=eq_true ar
       go_wp2_with (first|((with_reducible refine aA (N:=8) rfl ?_);(try(refine dk (by rfl) ?_;dsimp only));refine zX 8 #[.int .i64 0,.int .i64 0,.int .i64 0] 83 ?_;intro aS R eg ak hb;have bx:=Aside0.mk (ak);have cf:=zG J R;have ch:=zG J R;replace J:=zS J hb;have aL:=Aside0.mk ((by rw[R];exact Nat.ne_of_lt (aw (g:=ag) (o:=.cells #[.int .i64 aa,.slice (some aP) j.length aO] 24 (0,0)) (zK U)):ag≠aS));have b0:=Aside0.mk ((by rw[R];exact Nat.ne_of_gt (aw (g:=ag) (o:=.cells #[.int .i64 aa,.slice (some aP) j.length aO] 24 (0,0)) (zK U)):aS≠ag));replace U:=zb U hb;clear hb ak R;have ek:=b0.out;have er:=aL.out;obtain⟨ev,ew,ey,e0,e1,e2⟩:=bE bx))
       go_ret
       exact⟨by first|rfl|(simp[ep,et]<;>rfl)|(simp only[<-b4,<-b5];first|rfl|(simp[ep,et]<;>rfl))|(simp[*,ep,et]<;>rfl),zB⟩
      ·rw[if_neg bg] at H
       have cr:(((ae j I).f1)==(bf))=false:=beq_eq_false_iff_ne.mpr bg
       have cv:(((ae j I).f1) != (bf))=true:=bne_iff_ne.mpr bg
       have H':=Aside0.mk H
       clear H
       obtain⟨e3,e4,e5,e6⟩:=ao U
       have an:0<=(I:Int):=of_decide_eq_true ‹_›
       have ar:I<(j.length:Int):=of_decide_eq_true ‹_›
       obtain⟨aP,bw,av,aB,aF⟩:=dK b_.out I an ar
       cases bw
       replace av:=(J.out.cell (World.block_lt_of_cell? w _ av)).trans av
       replace aB:=(J.out.cell (World.block_lt_of_cell? w _ aB)).trans aB
       replace aF:=(J.out.cell (World.block_lt_of_cell? w _ aF)).trans aF
       replace an:=eq_true an
       replace ar:=eq_true ar
       go_wp2_with (first|((with_reducible refine aA (N:=8) rfl ?_);(try(refine dk (by rfl) ?_;dsimp only));refine zX 8 #[.int .i64 0,.int .i64 0,.int .i64 0] 83 ?_;intro aS R e_ ak hb;have bx:=Aside0.mk (ak);have cf:=zG J R;have ch:=zG J R;replace J:=zS J hb;have aL:=Aside0.mk ((by rw[R];exact Nat.ne_of_lt (aw (g:=ag) (o:=.cells #[.int .i64 aa,.slice (some aP) j.length aO] 24 (0,0)) (zK U)):ag≠aS));have b0:=Aside0.mk ((by rw[R];exact Nat.ne_of_gt (aw (g:=ag) (o:=.cells #[.int .i64 aa,.slice (some aP) j.length aO] 24 (0,0)) (zK U)):aS≠ag));replace U:=zb U hb;clear hb ak R;have e':=b0.out;have fb:=aL.out;obtain⟨fo,fq,fr,ft,fv,f'⟩:=bE bx))
       go_roundg k1
       case measure=>have:=b2.out;omega
       case rel=>exact⟨(wrap64 (I+1)),zT,H',⟨by have:=b2.out;omega⟩,⟨by refine zk ?_;refine ay ?_ aL.out _;refine zk ?_;refine ay ?_ aL.out _;refine zk ?_;refine ay ?_ aL.out _;exact zK U⟩,⟨zB⟩⟩
     ·rw[if_neg c8] at H
      have cl:(((ae j I).f0)==(a0))=false:=beq_eq_false_iff_ne.mpr c8
      have cq:(((ae j I).f0) != (a0))=true:=bne_iff_ne.mpr c8
      have H':=Aside0.mk H
      clear H
      obtain⟨gb,gd,gf,gg⟩:=ao U
      have an:0<=(I:Int):=of_decide_eq_true ‹_›
      have ar:I<(j.length:Int):=of_decide_eq_true ‹_›
      obtain⟨aP,bw,av,aB,aF⟩:=dK b_.out I an ar
      cases bw
      replace av:=(J.out.cell (World.block_lt_of_cell? w _ av)).trans av
      replace aB:=(J.out.cell (World.block_lt_of_cell? w _ aB)).trans aB
      replace aF:=(J.out.cell (World.block_lt_of_cell? w _ aF)).trans aF
      replace an:=eq_true an
      replace ar:=eq_true ar
      go_wp2_with (first|((with_reducible refine aA (N:=8) rfl ?_);(try(refine dk (by rfl) ?_;dsimp only));refine zX 8 #[.int .i64 0,.int .i64 0,.int .i64 0] 83 ?_;intro aS R gi ak hb;have bx:=Aside0.mk (ak);have cf:=zG J R;have ch:=zG J R;replace J:=zS J hb;have aL:=Aside0.mk ((by rw[R];exact Nat.ne_of_lt (aw (g:=ag) (o:=.cells #[.int .i64 aa,.slice (some aP) j.length aO] 24 (0,0)) (zK U)):ag≠aS));have b0:=Aside0.mk ((by rw[R];exact Nat.ne_of_gt (aw (g:=ag) (o:=.cells #[.int .i64 aa,.slice (some aP) j.length aO] 24 (0,0)) (zK U)):aS≠ag));replace U:=zb U hb;clear hb ak R;have gl:=b0.out;have gm:=aL.out;obtain⟨gp,gq,gr,gx,g0,g1⟩:=bE bx))
      go_roundg k1
      case measure=>have:=b2.out;omega
      case rel=>exact⟨(wrap64 (I+1)),zT,H',⟨by have:=b2.out;omega⟩,⟨by refine zk ?_;refine ay ?_ aL.out _;refine zk ?_;refine ay ?_ aL.out _;refine zk ?_;refine ay ?_ aL.out _;exact zK U⟩,⟨zB⟩⟩
    ·rw[if_neg c6] at H
     exact absurd H (by simp)
   ·rw[if_neg c5] at H
    have ck:decide (I<(j.length:Int))=false:=decide_eq_false c5
    clear c5
    obtain rfl:=Option.some.inj H
    obtain⟨g2,g3,g4,g'⟩:=ao U
    go_wp2
    go_ret
    exact⟨zE,zB⟩
end
theorem sw (N:Int) (E:List S83) (a b:Int) (o:E.length<=1000):∀(m i:Nat),i+m=E.length->Ev (fun k=>cS.l0 k a b i N E) (cn (E.drop i) a b)
 |0,i,hi=>by
  refine Ev.of_succ ?_
  simp only[cS.l0,if_neg (show ¬((i:Int)<(E.length:Int)) by omega)]
  rw[List.drop_eq_nil_of_le (by omega)]
  exact Ev.const _
 |m+1,i,hi=>by
  have j:=sw N E a b o m (i+1) (by omega)
  refine Ev.of_succ ?_
  simp only[cS.l0,if_pos (show (i:Int)<(E.length:Int) by omega),if_pos (show (0:Int)<=(i:Int) by omega),dA (show i<=1000000 by omega)]
  rw[oK (by omega),sr]
  rw[show mn a b=min a b from by unfold mn;omega,show mx a b=max a b from by unfold mx;omega]
  by_cases h0:(ae E i).f0=min a b
  ·simp only[if_pos h0]
   by_cases h1:(ae E i).f1=max a b
   ·simp only[if_pos h1];rw[if_pos ⟨h0,h1⟩];exact Ev.const _
   ·simp only[if_neg h1];rw[if_neg (fun h=>h1 h.2)];exact j
  ·simp only[if_neg h0];rw[if_neg (fun h=>h0 h.1)];exact j
theorem sx (N:Int) (E:List S83) (a b:Int) (j:E.length<=1000):Ev (fun k=>cS.f k N E a b) (cn E a b):=by
 unfold cS.f
 have:=sw N E a b j E.length 0 (by omega)
 simpa using this
section
theorem jd (w:World) (g j:Nat) (v:Value):w.grownBy (w.setCell ⟨g,j,none⟩ v) (some g):=⟨rfl,rfl,rfl,by simp,fun k _ hk=>Below.heap_setCell w _ v k (fun e=>hk (by rw[e]))⟩
def ForestAt (w:World) (g:Nat) (p:Nat->Nat):Prop:=∃cs:Array Value,w.heap[g]? =some (.cells cs 217 (0,0))∧cs.size=12∧∀i,i<12->cs[i]? =some (.int .i64 (p i:Nat))
namespace ForestAt
variable {w w':World} {g:Nat} {p:Nat->Nat}
theorem lt (h:ForestAt w g p):g<w.heap.size:=by
 obtain⟨cs,hb,_⟩:=h
 exact aw hb
theorem cell (h:ForestAt w g p) (i:Nat) (hi:i<12):w.cell? ⟨g,i,none⟩=some (.int .i64 (p i:Nat)):=by
 obtain⟨cs,hb,_,hc⟩:=h
 exact(ai hb i).trans (hc i hi)
theorem frozen (h:ForestAt w g p) (k:Nat):w.frozen? ⟨g,k,none⟩=false:=by
 obtain⟨cs,hb,_⟩:=h
 exact a9 hb k
theorem below (h:ForestAt w g p) (hb:Below w.heap.size w w'):ForestAt w' g p:=by
 obtain⟨cs,j,hc⟩:=h
 exact⟨cs,aE j hb,hc⟩
theorem alloc (h:ForestAt w g p) (o:Obj):ForestAt (w.alloc o) g p:=h.below (al (Below.refl _ _) o)
theorem set (h:ForestAt w g p) (i:Nat) (hi:i<12) (x:Nat):ForestAt (w.setCell ⟨g,i,none⟩ (.int .i64 x)) g (fun j=>if j=i then x else p j):=by
 obtain⟨cs,o,I,hc⟩:=h
 refine⟨cs.setIfInBounds i (.int .i64 x),by simpa using bt o i (.int .i64 x),by simp[I],?_⟩
 intro k hk
 by_cases e:k=i
 ·subst e
  rw[Array.getElem?_setIfInBounds_self_of_lt (by omega)];simp
 ·rw[Array.getElem?_setIfInBounds_ne (by omega),hc k hk];simp[e]
theorem congr {q:Nat->Nat} (h:ForestAt w g p) (he:∀i,i<12->q i=p i):ForestAt w g q:=by
 obtain⟨cs,j,o,hc⟩:=h
 exact⟨cs,j,o,fun i hi=>by rw[he i hi];exact hc i hi⟩
end ForestAt
def fQ (p:Nat->Nat):Prop:=∀i,p i<=i
def rootOf (p:Nat->Nat) (v:Nat):Nat:=if h:p v<v then rootOf p (p v) else v
termination_by v
theorem je (p:Nat->Nat) (v:Nat):rootOf p v<=v:=by
 induction v using Nat.strongRecOn with
 |ind v j=>
  rw[rootOf]
  split
  ·rename_i h
   exact Nat.le_trans (j _ h) (Nat.le_of_lt h)
  ·exact Nat.le_refl _
def dq (p:Nat->Nat) (a b:Nat):Nat->Nat:=fun j=>if j=max (rootOf p a) (rootOf p b) then min (rootOf p a) (rootOf p b) else p j
theorem sy {p:Nat->Nat} (h:fQ p) (a b:Nat):fQ (dq p a b):=fun i=>by
 unfold dq
 split
 ·subst_vars;omega
 ·exact h i
def az (E:List S83):Nat->Nat:=E.foldl (fun p x=>dq p x.f0.toNat x.f1.toNat) id
theorem yK (E:List S83) (k:Nat) (h:k<E.length):az (E.take (k+1))=dq (az (E.take k)) (ae E k).f0.toNat (ae E k).f1.toNat:=by
 unfold az
 rw[List.take_succ_eq_append_getElem h,List.foldl_append]
 simp[ae,List.getD_eq_getElem?_getD,List.getElem?_eq_getElem h]
theorem sA (E:List S83):fQ (az E):=by
 suffices h:∀(E:List S83) p,fQ p->fQ (E.foldl (fun p x=>dq p x.f0.toNat x.f1.toNat) p) from h E id (fun i=>Nat.le_refl _)
 intro E
 induction E with
 |nil=>exact fun p h=>h
 |cons x E j=>exact fun p h=>j _ (sy h _ _)
theorem sB {k:IntKind} {a b:Int} (h:a=b):Ending.returned (.int k a)= .returned (.int k b):=by rw[h]
theorem oY (g v:Nat) (p:Nat->Nat) (w:World) (hf:fQ p) (R:v<12) (hw:ForestAt w g p):
  Calls Tryz.prog 210 #[.pointer (some ⟨g,0,none⟩),.int .i64 v] w fun e w'=>e= .returned (.int .i64 (rootOf p v:Nat))∧w=w':=by
 go_enter Tryz.func210,Tryz.ntmps210
 go_wp2
 go_loop [1] (fun u=>∃k:Nat,k<12∧u= .int .i64 k∧rootOf p k=rootOf p v) (fun u=>(intOf u).toNat)
 case atStart=>exact⟨v,R,rfl,rfl⟩
 case round=>
  obtain⟨k,hk,rfl,hr⟩:=hrel
  have I:=Lib.hid hr
  clear hr
  have hc:=hw.cell k hk
  have U:(0:Int)<=(k:Int):=by omega
  have aa:(k:Int)<12:=by omega
  have hle:=hf k
  by_cases J:p k<k
  ·have j:rootOf p k=rootOf p (p k):=by rw[rootOf,dif_pos J]
   have o:=Lib.hid j
   clear j
   have ab:((p k:Nat):Int)≠(k:Int):=by omega
   go_wp2
   go_round
   case rel=>exact⟨p k,by omega,rfl,by rw[<-I.out,o.out]⟩
   case measure=>simp[intOf];omega
  ·have j:rootOf p k=k:=by rw[rootOf,dif_neg J]
   have o:=Lib.hid j
   clear j
   have hq:p k=k:=by omega
   rw[hq] at hc
   clear hq
   go_wp2
   go_ret
   exact⟨sB (by rw[<-I.out,o.out]),rfl⟩
theorem yL (g a b:Nat) (p:Nat->Nat) (w:World) (hf:fQ p) (ha:a<12) (hb:b<12) (hw:ForestAt w g p):
  Calls Tryz.prog 209 #[.pointer (some ⟨g,0,none⟩),.int .i64 a,.int .i64 b] w fun e w'=>e= .returned (.tuple #[])∧ForestAt w' g (dq p a b)∧w.grownBy w' (some g):=by
 have h1:=je p a
 have h2:=je p b
 generalize J:rootOf p a=j at h1
 generalize R:rootOf p b=o at h2
 have U:=oY g a p w hf ha hw
 have cb:=oY g b p w hf hb hw
 rw[J] at U
 rw[R] at cb
 have CA:=Aside0.mk U
 have CB:=Aside0.mk cb
 have I:Aside0 (ForestAt (w.setCell ⟨g,max j o,none⟩ (.int .i64 (min j o:Nat))) g (dq p a b)):=⟨by unfold dq;rw[J,R];exact hw.set _ (by omega) _⟩
 have Hg:Aside0 (w.grownBy (w.setCell ⟨g,max j o,none⟩ (.int .i64 (min j o:Nat))) (some g)):=⟨jd ..⟩
 clear J R U cb
 have ad:j<12:=by omega
 have ag:o<12:=by omega
 have a0:(0:Int)<=(j:Int):=by omega
 have a1:(j:Int)<12:=by omega
 have an:(0:Int)<=(o:Int):=by omega
 have ar:(o:Int)<12:=by omega
 have a2:=hw.cell j ad
 have a3:=hw.frozen j
 have av:=hw.cell o ag
 have aB:=hw.frozen o
 have HW:=Aside0.mk hw
 clear hw h1 h2 ad ag
 rcases Nat.lt_trichotomy j o with aF|heq|aF
 ·rw[show max j o=o from by omega,show min j o=j from by omega] at I Hg
  have aL:(j:Int)<(o:Int):=by omega
  have aO:¬(o:Int)<(j:Int):=by omega
  have aP:(j:Int)<=(o:Int):=by omega
  have aS:¬(o:Int)<=(j:Int):=by omega
  go_enter Tryz.func209,Tryz.ntmps209
  go_wp2_with (first|(go_at_call 210;(first|(with_reducible refine CA.out.mono ?_)|(with_reducible refine CB.out.mono ?_));rintro e w1 ⟨rfl,rfl⟩))
  go_end0
  exact⟨rfl,I.out,Hg.out⟩
 ·subst heq
  rw[Nat.max_self,Nat.min_self] at I Hg
  clear av aB an ar
  go_enter Tryz.func209,Tryz.ntmps209
  go_wp2_with (first|(go_at_call 210;(first|(with_reducible refine CA.out.mono ?_)|(with_reducible refine CB.out.mono ?_));rintro e w1 ⟨rfl,rfl⟩))
  go_end0
  exact⟨rfl,I.out,Hg.out⟩
 ·rw[show max j o=j from by omega,show min j o=o from by omega] at I Hg
  have aL:(o:Int)<(j:Int):=by omega
  have aO:¬(j:Int)<(o:Int):=by omega
  have aP:(o:Int)<=(j:Int):=by omega
  have aS:¬(j:Int)<=(o:Int):=by omega
  go_enter Tryz.func209,Tryz.ntmps209
  go_wp2_with (first|(go_at_call 210;(first|(with_reducible refine CA.out.mono ?_)|(with_reducible refine CB.out.mono ?_));rintro e w1 ⟨rfl,rfl⟩))
  go_end0
  exact⟨rfl,I.out,Hg.out⟩
theorem yM (w:World):Calls Tryz.prog 208 #[] w fun e w'=>e= .returned (.agg #[.int .i64 0,.int .i64 1,.int .i64 2,.int .i64 3,.int .i64 4,.int .i64 5,.int .i64 6,.int .i64 7,.int .i64 8,.int .i64 9,.int .i64 10,.int .i64 11])∧Below w.heap.size w w':=by
 go_enter Tryz.func208,Tryz.ntmps208
 go_wp2
 have J:=al (al (Below.refl w.heap.size w) (.cells #[.int .i64 0,.int .i64 0,.int .i64 0,.int .i64 0,.int .i64 0,.int .i64 0,.int .i64 0,.int .i64 0,.int .i64 0,.int .i64 0,.int .i64 0,.int .i64 0] 217)) (.cells #[.int .i64 0,.int .i64 0,.int .i64 0,.int .i64 0,.int .i64 0,.int .i64 0,.int .i64 0,.int .i64 0,.int .i64 0,.int .i64 0,.int .i64 0,.int .i64 0] 217)
 have h0:((w.alloc (.cells #[.int .i64 0,.int .i64 0,.int .i64 0,.int .i64 0,.int .i64 0,.int .i64 0,.int .i64 0,.int .i64 0,.int .i64 0,.int .i64 0,.int .i64 0,.int .i64 0] 217)).alloc (.cells #[.int .i64 0,.int .i64 0,.int .i64 0,.int .i64 0,.int .i64 0,.int .i64 0,.int .i64 0,.int .i64 0,.int .i64 0,.int .i64 0,.int .i64 0,.int .i64 0] 217)).heap[w.heap.size]? =some (.cells #[.int .i64 0,.int .i64 0,.int .i64 0,.int .i64 0,.int .i64 0,.int .i64 0,.int .i64 0,.int .i64 0,.int .i64 0,.int .i64 0,.int .i64 0,.int .i64 0] 217 (0,0)):=aq (heap_alloc_new w _) _
 have h1:ForestAt ((w.alloc (.cells #[.int .i64 0,.int .i64 0,.int .i64 0,.int .i64 0,.int .i64 0,.int .i64 0,.int .i64 0,.int .i64 0,.int .i64 0,.int .i64 0,.int .i64 0,.int .i64 0] 217)).alloc (.cells #[.int .i64 0,.int .i64 0,.int .i64 0,.int .i64 0,.int .i64 0,.int .i64 0,.int .i64 0,.int .i64 0,.int .i64 0,.int .i64 0,.int .i64 0,.int .i64 0] 217)) (w.heap.size+1) (fun i=>if i<0 then i else 0):=by
  refine⟨#[.int .i64 0,.int .i64 0,.int .i64 0,.int .i64 0,.int .i64 0,.int .i64 0,.int .i64 0,.int .i64 0,.int .i64 0,.int .i64 0,.int .i64 0,.int .i64 0],by simpa using heap_alloc_new (w.alloc (.cells #[.int .i64 0,.int .i64 0,.int .i64 0,.int .i64 0,.int .i64 0,.int .i64 0,.int .i64 0,.int .i64 0,.int .i64 0,.int .i64 0,.int .i64 0,.int .i64 0] 217)) (.cells #[.int .i64 0,.int .i64 0,.int .i64 0,.int .i64 0,.int .i64 0,.int .i64 0,.int .i64 0,.int .i64 0,.int .i64 0,.int .i64 0,.int .i64 0,.int .i64 0] 217),rfl,fun i hi=>?_⟩
  match i,hi with|0,_=>rfl|1,_=>rfl|2,_=>rfl|3,_=>rfl|4,_=>rfl|5,_=>rfl|6,_=>rfl|7,_=>rfl|8,_=>rfl|9,_=>rfl|10,_=>rfl|11,_=>rfl
 generalize aa:w.heap.size=gb at h0 h1 J⊢
 generalize ((w.alloc (.cells #[.int .i64 0,.int .i64 0,.int .i64 0,.int .i64 0,.int .i64 0,.int .i64 0,.int .i64 0,.int .i64 0,.int .i64 0,.int .i64 0,.int .i64 0,.int .i64 0] 217)).alloc (.cells #[.int .i64 0,.int .i64 0,.int .i64 0,.int .i64 0,.int .i64 0,.int .i64 0,.int .i64 0,.int .i64 0,.int .i64 0,.int .i64 0,.int .i64 0,.int .i64 0] 217))=W0 at h0 h1 J⊢
 go_loopw [2,3] (fun _ i wr=>∃k:Nat,k<=12∧i= .int .i64 k∧Aside0 (wr.heap[gb]? =some (.cells #[.int .i64 0,.int .i64 0,.int .i64 0,.int .i64 0,.int .i64 0,.int .i64 0,.int .i64 0,.int .i64 0,.int .i64 0,.int .i64 0,.int .i64 0,.int .i64 0] 217 (0,0)))∧Aside0 (ForestAt wr (gb+1) (fun i=>if i<k then i else 0))∧Aside0 (Below gb w wr)) (fun _ i _=>12- (intOf i).toNat)
 case atStart=>exact⟨0,by omega,rfl,⟨h0⟩,⟨h1⟩,⟨J⟩⟩
 case round=>
  obtain⟨k,hk,rfl,o,H1,R⟩:=hrel
  by_cases U:k<12
  ·have hc:=H1.out.cell k U
   have hf:=H1.out.frozen k
   have ag:(0:Int)<=(k:Int):=by omega
   have ak:(k:Int)<12:=by omega
   have n0:=Aside0.mk (cg o.out (jd wr (gb+1) k (.int .i64 k)) (by simp))
   have n1:=Aside0.mk ((H1.out.set k U k).congr (q:=fun i=>if i<k+1 then i else 0) (fun i hi=>by(try dsimp only);split<;>split<;>(try split)<;>omega))
   have n2:=Aside0.mk (R.out.grown (jd wr (gb+1) k (.int .i64 k)) (by have:=H1.out.lt;omega) (fun j e=>by cases e;omega))
   go_wp2
   go_roundw
   case rel=>exact⟨k+1,by omega,by go_num,n0,n1,n2⟩
   case measure=>(show 12- ((k:Int)+1).toNat<12- ((k:Int)).toNat;omega)
  ·obtain rfl:k=12:=by omega
   have an:wr.cell? ⟨gb+1,0,none⟩=some (.int .i64 0):=H1.out.cell 0 (by omega)
   have ar:wr.cell? ⟨gb,0,none⟩=some (.int .i64 0):=(ai o.out 0).trans rfl
   have av:=a9 o.out 0
   have aB:wr.cell? ⟨gb+1,1,none⟩=some (.int .i64 1):=H1.out.cell 1 (by omega)
   have aF:wr.cell? ⟨gb,1,none⟩=some (.int .i64 0):=(ai o.out 1).trans rfl
   have aL:=a9 o.out 1
   have aO:wr.cell? ⟨gb+1,2,none⟩=some (.int .i64 2):=H1.out.cell 2 (by omega)
   have aP:wr.cell? ⟨gb,2,none⟩=some (.int .i64 0):=(ai o.out 2).trans rfl
   have aS:=a9 o.out 2
   have a0:wr.cell? ⟨gb+1,3,none⟩=some (.int .i64 3):=H1.out.cell 3 (by omega)
   have a1:wr.cell? ⟨gb,3,none⟩=some (.int .i64 0):=(ai o.out 3).trans rfl
   have a2:=a9 o.out 3
   have a3:wr.cell? ⟨gb+1,4,none⟩=some (.int .i64 4):=H1.out.cell 4 (by omega)
   have bf:wr.cell? ⟨gb,4,none⟩=some (.int .i64 0):=(ai o.out 4).trans rfl
   have bg:=a9 o.out 4
   have bk:wr.cell? ⟨gb+1,5,none⟩=some (.int .i64 5):=H1.out.cell 5 (by omega)
   have bn:wr.cell? ⟨gb,5,none⟩=some (.int .i64 0):=(ai o.out 5).trans rfl
   have bo:=a9 o.out 5
   have bw:wr.cell? ⟨gb+1,6,none⟩=some (.int .i64 6):=H1.out.cell 6 (by omega)
   have bx:wr.cell? ⟨gb,6,none⟩=some (.int .i64 0):=(ai o.out 6).trans rfl
   have b0:=a9 o.out 6
   have b1:wr.cell? ⟨gb+1,7,none⟩=some (.int .i64 7):=H1.out.cell 7 (by omega)
   have b2:wr.cell? ⟨gb,7,none⟩=some (.int .i64 0):=(ai o.out 7).trans rfl
   have b3:=a9 o.out 7
   have b4:wr.cell? ⟨gb+1,8,none⟩=some (.int .i64 8):=H1.out.cell 8 (by omega)
   have b5:wr.cell? ⟨gb,8,none⟩=some (.int .i64 0):=(ai o.out 8).trans rfl
   have b_:=a9 o.out 8
   have b':wr.cell? ⟨gb+1,9,none⟩=some (.int .i64 9):=H1.out.cell 9 (by omega)
   have ca:wr.cell? ⟨gb,9,none⟩=some (.int .i64 0):=(ai o.out 9).trans rfl
   have cb:=a9 o.out 9
   have cc:wr.cell? ⟨gb+1,10,none⟩=some (.int .i64 10):=H1.out.cell 10 (by omega)
   have cd:wr.cell? ⟨gb,10,none⟩=some (.int .i64 0):=(ai o.out 10).trans rfl
   have cf:=a9 o.out 10
   have ch:wr.cell? ⟨gb+1,11,none⟩=some (.int .i64 11):=H1.out.cell 11 (by omega)
   have cj:wr.cell? ⟨gb,11,none⟩=some (.int .i64 0):=(ai o.out 11).trans rfl
   have ck:=a9 o.out 11
   go_wp2
   have I:=o.out
   replace I:=bt I 0 (.int .i64 0)
   replace I:=bt I 1 (.int .i64 1)
   replace I:=bt I 2 (.int .i64 2)
   replace I:=bt I 3 (.int .i64 3)
   replace I:=bt I 4 (.int .i64 4)
   replace I:=bt I 5 (.int .i64 5)
   replace I:=bt I 6 (.int .i64 6)
   replace I:=bt I 7 (.int .i64 7)
   replace I:=bt I 8 (.int .i64 8)
   replace I:=bt I 9 (.int .i64 9)
   replace I:=bt I 10 (.int .i64 10)
   replace I:=bt I 11 (.int .i64 11)
   simp only[List.setIfInBounds_toArray,List.set_cons_zero,List.set_cons_succ] at I
   refine bodyPost_ret (v:=.agg #[.int .i64 0,.int .i64 1,.int .i64 2,.int .i64 3,.int .i64 4,.int .i64 5,.int .i64 6,.int .i64 7,.int .i64 8,.int .i64 9,.int .i64 10,.int .i64 11]) (results_cell_row rfl _ _ gb 217 #[.int .i64 0,.int .i64 1,.int .i64 2,.int .i64 3,.int .i64 4,.int .i64 5,.int .i64 6,.int .i64 7,.int .i64 8,.int .i64 9,.int .i64 10,.int .i64 11] (0,0) _ rfl I Tryz.underlying217 rfl rfl) rfl ⟨rfl,?_⟩
   iterate 12 (refine dJ ?_ (by omega))
   rw[aa]
   exact R.out
end
theorem yN (N:Int) (A0:Option Addr) (c0:Nat) (E:List S83) (w:World) (aL:Kd.C aG w A0 E.length E) (hE:dp 12 E):
  Calls Tryz.prog 196 #[.agg #[.int .i64 N,.slice A0 E.length c0]] w fun e w'=>e= .returned (.agg #[.int .i64 (az E 0:Nat),.int .i64 (az E 1:Nat),.int .i64 (az E 2:Nat),.int .i64 (az E 3:Nat),.int .i64 (az E 4:Nat),.int .i64 (az E 5:Nat),.int .i64 (az E 6:Nat),.int .i64 (az E 7:Nat),.int .i64 (az E 8:Nat),.int .i64 (az E 9:Nat),.int .i64 (az E 10:Nat),.int .i64 (az E 11:Nat)])∧Below w.heap.size w w':=by
 have hu:=Tryz.underlying24
 have b0:=Tryz.underlying83
 have HE:=Aside0.mk hE.get
 clear hE
 go_enter Tryz.func196,Tryz.ntmps196
 go_wp2_with (first|(go_at_call 208;refine(yM _).mono ?_;rintro e w1 ⟨rfl,hb⟩;have av:w1.heap[w.heap.size]? =some (.cells #[.int .i64 N,.slice A0 E.length c0] 24 (0,0)):=aE (aq (heap_alloc_new w _) _) hb;have aB:w1.heap[w.heap.size+1]? =some (.cells #[.int .i64 0,.int .i64 0,.int .i64 0,.int .i64 0,.int .i64 0,.int .i64 0,.int .i64 0,.int .i64 0,.int .i64 0,.int .i64 0,.int .i64 0,.int .i64 0] 217 (0,0)):=aE (heap_alloc2_new w _ _) hb;have aP:=Aside0.mk (aN (al (al (Below.refl w.heap.size w) _) _) hb);clear hb;have aS:(w1.alloc (.cells #[.int .i64 0,.int .i64 1,.int .i64 2,.int .i64 3,.int .i64 4,.int .i64 5,.int .i64 6,.int .i64 7,.int .i64 8,.int .i64 9,.int .i64 10,.int .i64 11] 217)).cell? ⟨w.heap.size,1,none⟩=some (.slice A0 E.length c0):=(ai (aq av _) 1).trans rfl))
 have U:=Aside0.mk (aq av (.cells #[.int .i64 0,.int .i64 1,.int .i64 2,.int .i64 3,.int .i64 4,.int .i64 5,.int .i64 6,.int .i64 7,.int .i64 8,.int .i64 9,.int .i64 10,.int .i64 11] 217))
 have o:=Aside0.mk (aq aB (.cells #[.int .i64 0,.int .i64 1,.int .i64 2,.int .i64 3,.int .i64 4,.int .i64 5,.int .i64 6,.int .i64 7,.int .i64 8,.int .i64 9,.int .i64 10,.int .i64 11] 217))
 have R:=Aside0.mk (al aP.out (.cells #[.int .i64 0,.int .i64 1,.int .i64 2,.int .i64 3,.int .i64 4,.int .i64 5,.int .i64 6,.int .i64 7,.int .i64 8,.int .i64 9,.int .i64 10,.int .i64 11] 217))
 have J:Aside0 (ForestAt (w1.alloc (.cells #[.int .i64 0,.int .i64 1,.int .i64 2,.int .i64 3,.int .i64 4,.int .i64 5,.int .i64 6,.int .i64 7,.int .i64 8,.int .i64 9,.int .i64 10,.int .i64 11] 217)) w1.heap.size (az (E.take 0))):=⟨⟨#[.int .i64 0,.int .i64 1,.int .i64 2,.int .i64 3,.int .i64 4,.int .i64 5,.int .i64 6,.int .i64 7,.int .i64 8,.int .i64 9,.int .i64 10,.int .i64 11],heap_alloc_new _ _,rfl,fun i hi=>by
  match i,hi with|0,_=>rfl|1,_=>rfl|2,_=>rfl|3,_=>rfl|4,_=>rfl|5,_=>rfl|6,_=>rfl|7,_=>rfl|8,_=>rfl|9,_=>rfl|10,_=>rfl|11,_=>rfl⟩⟩
 have a3:w.heap.size+1<w1.heap.size:=aw aB
 clear av aB aP aS
 generalize (w1.alloc (.cells #[.int .i64 0,.int .i64 1,.int .i64 2,.int .i64 3,.int .i64 4,.int .i64 5,.int .i64 6,.int .i64 7,.int .i64 8,.int .i64 9,.int .i64 10,.int .i64 11] 217))=W0 at U o R J⊢
 generalize w1.heap.size=gf at J a3⊢
 clear w1
 go_loopw [10] (fun i wr=>∃k:Nat,k<=E.length∧i= .int .i64 k∧Aside0 (wr.heap[w.heap.size]? =some (.cells #[.int .i64 N,.slice A0 E.length c0] 24 (0,0)))∧Aside0 (wr.heap[w.heap.size+1]? =some (.cells #[.int .i64 0,.int .i64 0,.int .i64 0,.int .i64 0,.int .i64 0,.int .i64 0,.int .i64 0,.int .i64 0,.int .i64 0,.int .i64 0,.int .i64 0,.int .i64 0] 217 (0,0)))∧Aside0 (ForestAt wr gf (az (E.take k)))∧Aside0 (Below w.heap.size w wr)) (fun i _=>E.length- (intOf i).toNat)
 case atStart=>exact⟨0,by omega,rfl,U,o,J,R⟩
 case round=>
  clear U o J R
  obtain⟨k,hk,rfl,U,o,J,HB⟩:=hrel
  by_cases a0:k<E.length
  ·obtain⟨h1,h2,h3,h4, -, -⟩:=HE.out k a0
   have Hs:=Lib.hid (yK E k a0)
   obtain⟨ad,rfl,ab,ag,ak⟩:=dK aL k (by omega) (by omega)
   rw[Int.toNat_natCast] at ab ag ak
   generalize ae E k=x at h1 h2 h3 h4 ab ag ak Hs
   obtain⟨a,b,m⟩:=x
   simp only at h1 h2 h3 h4 ab ag ak
   obtain⟨a,rfl⟩:=Int.eq_ofNat_of_zero_le h1
   obtain⟨b,rfl⟩:=Int.eq_ofNat_of_zero_le h3
   have ab:=fY HB.out ab
   have ag:=fY HB.out ag
   have ak:=fY HB.out ak
   have b1:(0:Int)<=(k:Int):=by omega
   have b2:(k:Int)<(E.length:Int):=by omega
   have hml:=aL.2.1
   have b3:wrap64 ((k:Int)+1)=(k:Int)+1:=by unfold wrap64;omega
   have bf:=Aside0.mk (J.out.alloc (.cells #[.int .i64 a,.int .i64 b,.int .i64 m] 83))
   have bg:=Aside0.mk (aq U.out (.cells #[.int .i64 a,.int .i64 b,.int .i64 m] 83))
   have bk:=Aside0.mk (aq o.out (.cells #[.int .i64 a,.int .i64 b,.int .i64 m] 83))
   have R:=Aside0.mk (al HB.out (.cells #[.int .i64 a,.int .i64 b,.int .i64 m] 83))
   have ha:a<12:=by omega
   have hb:b<12:=by omega
   clear h1 h2 h3 h4
   go_wp2_with (first|(go_at_call 209;refine(yL gf a b _ _ (sA _) ha hb bf.out).mono ?_;rintro e w2 ⟨rfl,hf,hg⟩;have n0:=Aside0.mk hf;have n1:=Aside0.mk (cg bg.out hg (by simp;omega));have n2:=Aside0.mk (cg bk.out hg (by simp;omega));have n3:=Aside0.mk (Below.grown R.out hg R.out.size (fun j e=>by cases e;omega));clear hf hg))
   go_roundw
   case rel=>exact⟨k+1,by omega,by go_num,n1,n2,⟨by rw[Hs.out];exact n0.out⟩,n3⟩
   case measure=>(show E.length- ((k:Int)+1).toNat<E.length- ((k:Int)).toNat;omega)
  ·obtain rfl:k=E.length:=by omega
   rw[List.take_length] at J
   have b4:=J.out.cell 0 (by omega)
   have b5:wr.cell? ⟨w.heap.size+1,0,none⟩=some (.int .i64 0):=(ai o.out 0).trans rfl
   have b_:=a9 o.out 0
   have aS:=J.out.cell 1 (by omega)
   have b':wr.cell? ⟨w.heap.size+1,1,none⟩=some (.int .i64 0):=(ai o.out 1).trans rfl
   have ca:=a9 o.out 1
   have cb:=J.out.cell 2 (by omega)
   have cc:wr.cell? ⟨w.heap.size+1,2,none⟩=some (.int .i64 0):=(ai o.out 2).trans rfl
   have cd:=a9 o.out 2
   have cf:=J.out.cell 3 (by omega)
   have ch:wr.cell? ⟨w.heap.size+1,3,none⟩=some (.int .i64 0):=(ai o.out 3).trans rfl
   have cj:=a9 o.out 3
   have ck:=J.out.cell 4 (by omega)
   have cl:wr.cell? ⟨w.heap.size+1,4,none⟩=some (.int .i64 0):=(ai o.out 4).trans rfl
   have cq:=a9 o.out 4
   have cr:=J.out.cell 5 (by omega)
   have cv:wr.cell? ⟨w.heap.size+1,5,none⟩=some (.int .i64 0):=(ai o.out 5).trans rfl
   have cx:=a9 o.out 5
   have c1:=J.out.cell 6 (by omega)
   have c2:wr.cell? ⟨w.heap.size+1,6,none⟩=some (.int .i64 0):=(ai o.out 6).trans rfl
   have c3:=a9 o.out 6
   have c4:=J.out.cell 7 (by omega)
   have c5:wr.cell? ⟨w.heap.size+1,7,none⟩=some (.int .i64 0):=(ai o.out 7).trans rfl
   have c6:=a9 o.out 7
   have c7:=J.out.cell 8 (by omega)
   have c8:wr.cell? ⟨w.heap.size+1,8,none⟩=some (.int .i64 0):=(ai o.out 8).trans rfl
   have c9:=a9 o.out 8
   have c':=J.out.cell 9 (by omega)
   have dd:wr.cell? ⟨w.heap.size+1,9,none⟩=some (.int .i64 0):=(ai o.out 9).trans rfl
   have ds:=a9 o.out 9
   have dv:=J.out.cell 10 (by omega)
   have ea:wr.cell? ⟨w.heap.size+1,10,none⟩=some (.int .i64 0):=(ai o.out 10).trans rfl
   have eb:=a9 o.out 10
   have ed:=J.out.cell 11 (by omega)
   have eg:wr.cell? ⟨w.heap.size+1,11,none⟩=some (.int .i64 0):=(ai o.out 11).trans rfl
   have ek:=a9 o.out 11
   go_wp2
   have I:=o.out
   replace I:=bt I 0 (.int .i64 (az E 0:Nat))
   replace I:=bt I 1 (.int .i64 (az E 1:Nat))
   replace I:=bt I 2 (.int .i64 (az E 2:Nat))
   replace I:=bt I 3 (.int .i64 (az E 3:Nat))
   replace I:=bt I 4 (.int .i64 (az E 4:Nat))
   replace I:=bt I 5 (.int .i64 (az E 5:Nat))
   replace I:=bt I 6 (.int .i64 (az E 6:Nat))
   replace I:=bt I 7 (.int .i64 (az E 7:Nat))
   replace I:=bt I 8 (.int .i64 (az E 8:Nat))
   replace I:=bt I 9 (.int .i64 (az E 9:Nat))
   replace I:=bt I 10 (.int .i64 (az E 10:Nat))
   replace I:=bt I 11 (.int .i64 (az E 11:Nat))
   simp only[List.setIfInBounds_toArray,List.set_cons_zero,List.set_cons_succ] at I
   refine bodyPost_ret (v:=.agg #[.int .i64 (az E 0:Nat),.int .i64 (az E 1:Nat),.int .i64 (az E 2:Nat),.int .i64 (az E 3:Nat),.int .i64 (az E 4:Nat),.int .i64 (az E 5:Nat),.int .i64 (az E 6:Nat),.int .i64 (az E 7:Nat),.int .i64 (az E 8:Nat),.int .i64 (az E 9:Nat),.int .i64 (az E 10:Nat),.int .i64 (az E 11:Nat)]) (results_cell_row rfl _ _ (w.heap.size+1) 217 #[.int .i64 (az E 0:Nat),.int .i64 (az E 1:Nat),.int .i64 (az E 2:Nat),.int .i64 (az E 3:Nat),.int .i64 (az E 4:Nat),.int .i64 (az E 5:Nat),.int .i64 (az E 6:Nat),.int .i64 (az E 7:Nat),.int .i64 (az E 8:Nat),.int .i64 (az E 9:Nat),.int .i64 (az E 10:Nat),.int .i64 (az E 11:Nat)] (0,0) _ rfl I Tryz.underlying217 rfl rfl) rfl ⟨rfl,?_⟩
   iterate 12 (refine dJ ?_ (by simp))
   exact HB.out
end Go.Proofs.YtffdiakgjakngaaGreat.P
namespace Go.Proofs.YtffdiakgjakngaaGreat.P
open Go.RowKit Go.Maps Go.Proofs.YtffdiakgjakngaaGreatW.PrintWords Go.Proofs.YtffdiakgjakngaaGreatW.PrintLast Go.Proofs.YtffdiakgjakngaaGreatW.PrintMore
set_option linter.unusedVariables false
set_option linter.unusedSimpArgs false
set_option maxHeartbeats 8000000
set_option maxRecDepth 100000
def cu (p:Nat->Nat):Nat->Nat
 |0=>0
 |u+1=>cu p u+(if rootOf p u=u then 1 else 0)
theorem lM (p:Nat->Nat):∀u,cu p u<=u
 |0=>Nat.le_refl _
 |u+1=>by
  have:=lM p u
  simp only[cu]
  split<;>omega
theorem mV (p:Nat->Nat) (v:Nat):rootOf p (rootOf p v)=rootOf p v:=by
 induction v using Nat.strongRecOn with
 |ind v j=>
  by_cases h:p v<v
  ·rw[show rootOf p v=rootOf p (p v) by rw[rootOf,dif_pos h]]
   exact j _ h
  ·have e:rootOf p v=v:=by rw[rootOf,dif_neg h]
   rw[e,e]
theorem oZ (w:World):(zeroValue 3).run Tryz.prog w= .ok (.int .i64 0) w:=by kernel_rfl
theorem o5:Keyed Tryz.prog 3:=int_keyed Tryz.underlying3
theorem o6 {a:Nat} (h:a<=1000):keyOf Tryz.prog 3 (.int .i64 a)=some (.int .i64 a):=keyOf_int_mk Tryz.underlying3 (WalkArith.wf_i64 (by omega))
def jR (p:Nat->Nat) (k m:Nat) (D:DataW Unit):Prop:=IsMap D∧∀r,r<k->rootOf p r=r->∃c:Nat,c<m∧D.atKey (.int .i64 r) (.lit (.int .i64 0))= .lit (.int .i64 c)
theorem jR.skip {p:Nat->Nat} {k m:Nat} {D:DataW Unit} (h:jR p k m D) (hr:rootOf p k≠k):jR p (k+1) m D:=by
 refine⟨h.1,fun r o j=>?_⟩
 by_cases e:r=k
 ·subst e;exact absurd j hr
 ·exact h.2 r (by omega) j
theorem jR.put {p:Nat->Nat} {k m:Nat} {D:DataW Unit} (h:jR p k m D) (hk:k<=1000):jR p (k+1) (m+1) (D.put (.int .i64 k) (.lit (.int .i64 m))):=by
 refine⟨h.1.put _ _,fun r I j=>?_⟩
 by_cases e:r=k
 ·subst e
  exact⟨m,by omega,atKey_put_same h.1 (by simp[WideAt.IsKeyLit]) _ _⟩
 ·obtain⟨c,hc,o⟩:=h.2 r (by omega) j
  refine⟨c,by omega,?_⟩
  rw[atKey_put_other (fun e2=>e (by injection e2;omega))]
  exact o
theorem sC {W o:World} {I g0 cap c:Nat} {X:List (List Int)} {oki:Nat->Prop} {ev s:Value} {J:List Int} (U:Kd.H (Kd.slice 3 (Kd.int .i64)) 25 W I (fun q=>True∧¬W.heap.size<=q) (.slice (some ⟨g0,0,none⟩) X.length cap) X (c:Int) oki [ev]) (ad:c<X.length)
  (hg:W.drew.grownBy o ev.ownBlock) (hok:∀q,ev.ownBlock=some q->oki q) (hR:(Kd.int .i64).R 3 o I (fun q=>oki q∨W.heap.size<=q) s J) (ag:g0<W.heap.size):
  Kd.S (Kd.slice 3 (Kd.int .i64)) 25 (o.setCell ⟨g0,c,none⟩ s) I (fun _=>True) (.slice (some ⟨g0,0,none⟩) X.length cap) (X.set c J):=by
 have h:=(Kd.xt (d:=Kd.slice 3 (Kd.int .i64)) (okg:=fun q=>W.heap.size<=q) (ok:=fun _=>True) (okp:=fun q=>oki q∨W.heap.size<=q) (seg:=[s]) (j:=0) (x':=J) (Kd.rF (Kd.xm U) hg hok) (by omega) (by omega) (by simp[Kd.slice]) (Kd.mi hR) (fun q hq=>hq) (fun q hq=>⟨trivial,by omega⟩)).1
 rw[Int.toNat_natCast] at h
 simpa [Kd.slice,World.setCells] using h
theorem sD {X:List (List Int)} {c k:Nat} {y:List Int} {x:Int} (h:∀z∈X,z.length<=k) (o:y.length<=k):∀z∈X.set c (y++[x]),z.length<=k+1:=fun z j=>by
 rcases List.mem_or_eq_of_mem_set j with h1|h1
 ·exact Nat.le_succ_of_le (h z h1)
 ·subst h1;simp;omega
theorem yO (g n:Nat) (p:Nat->Nat) (w:World) (hn:n<=12) (hf:fQ p) (hw:ForestAt w g p):
  Calls Tryz.prog 197 #[.pointer (some ⟨g,0,none⟩),.int .i64 n] w fun e w'=>∃A c,e= .returned (.slice A (cu p n) c)∧Below w.heap.size w w':=by
 have gb:=@run_makeMap Tryz.prog
 have hc:=hw.lt
 go_enter Tryz.func197,Tryz.ntmps197
 go_wp2
 have hB:=al (Below.refl w.heap.size w) (.map #[] 0)
 have hM:=World.ownsMap_made (H:=Unit) w Tryz.prog 3 (plainElem Tryz.prog 3)
 generalize e5:w.heap.size=j at hM hB⊢
 generalize (w.alloc (.map #[] 0))=W0 at hM hB⊢
 clear gb
 go_loopw [5,11] (fun v i wr=>∃(k:Nat) (xs:List (List Int)) (D:DataW Unit),k<=n∧i= .int .i64 k∧Aside0 (xs.length=cu p k)∧Aside0 (∀y∈xs,y.length<=k)∧Aside0 (Kd.S (Kd.slice 3 (Kd.int .i64)) 25 wr j (fun _=>True) v xs)∧Aside0 (wr.ownsMap Tryz.prog 3 (plainElem Tryz.prog 3) j k D)∧Aside0 (jR p k (cu p k) D)∧Aside0 (Below j w wr)) (fun _ i _=>n- (intOf i).toNat)
 case atStart=>exact⟨0,[],_,by omega,rfl,⟨rfl⟩,⟨fun y hy=>absurd hy (by simp)⟩,⟨Kd.eZ _ _ _ _ _⟩,⟨hM⟩,⟨isMap_empty,fun r hr=>absurd hr (by omega)⟩,⟨hB⟩⟩
 case round=>
  clear hM hB
  obtain⟨k,xs,D,hk,rfl,HL,HY,HS,HM,HP,HB⟩:=hrel
  by_cases hg:k<n
  ·have hle:=je p k
   have hh:=lM p k
   have CR:=Aside0.mk (oY g k p wr hf (by omega) (hw.below (by rw[e5];exact HB.out)))
   have e6:=Lib.hid (mV p k)
   have Hs:Hid (cu p (k+1)=cu p k+(if rootOf p k=k then 1 else 0)):=Lib.hid rfl
   by_cases ak:rootOf p k=k
   ·have e':=Lib.hid ak
    rw[ak] at CR
    clear ak hle
    obtain⟨Ao,co,rfl⟩:=Kd.kn HS.out
    have hj:xs.length<=12:=by have:=HL.out;omega
    obtain⟨es,ck,R, -⟩:=HM.out
    have gd:some j≠(Value.slice Ao xs.length co).ownBlock:=fun e=>by
     obtain⟨cs,U⟩:=Kd.mz HS.out j e.symm
     rw[R] at U;cases U
    have gf:=Aside0.mk (Kd.jF (ok':=fun q=>q≠j) (Kd.lq HS.out) (fun q hq e=>by obtain⟨t,_,cs,U⟩:=hq.2.2.2;subst e;rw[R] at U;cases U))
    clear R es ck
    have c7:=HP.out.put (by omega)
    have an:cu p (k+1)=cu p k+1:=by rw[Hs.out,if_pos e'.out]
    rw[<-an,<-HL.out] at c7
    have c3:cu p (k+1)=xs.length+1:=by rw[an,HL.out]
    have gg:=Aside0.mk c3
    clear an c3
    have gi:=Aside0.mk c7
    clear c7
    go_wp2_with (first|(go_at_call 210;refine CR.out.mono ?_;rintro e w1 ⟨rfl,rfl⟩)|(at_mapUpdate;refine wpList_mapUpdate_own _ rfl _ _ _ 229 rfl 3 3 o5 Tryz.underlying229 _ j k _ rfl HM.out (by unfold maxLen;omega) _ _ _ rfl rfl (o6 (by omega)) _ [] (plainElem_int Tryz.underlying3 (WalkArith.wf_i64 (by omega))) ?_;intro w2 fo c8;have fq:=Aside0.mk fo;have gl:=Aside0.mk (Kd.rB gf.out c8 (fun q hq e=>hq (by injection e)));have gp:=Aside0.mk (HB.out.grown c8 (by have:=HM.out.lt;omega) (fun q e=>by injection e with e;omega));clear fo c8)|(at_builtin;refine Kd.xi (Kd.slice 3 (Kd.int .i64)) (w0:=w) j rfl (.tmp 24) (.tmp 25) 73 25 (.slice none 0 0) 24 rfl Tryz.underlying73 rY rfl (by decide) (by omega) _ xs [] [.slice none 0 0] (fun _=>True) (fun _=>False) rfl rfl (Kd.mi (Kd.cE _ _ _ _ _)) (fun _ hk=>hk.elim) (fun _ _=>trivial) (Kd.jF gl.out (fun q _=>⟨trivial,fun h=>h⟩)) gp.out (by have:=fq.out.lt;omega) (by omega) ?_;intro v3 W fr ft fv gq;have ar:=Aside0.mk fr;have b1:=Aside0.mk ft;have I:=Aside0.mk (fq.out.kept fv gd);have av:=gi;clear fr ft fv gq))
    generalize ho:D.put (.int .i64 k) (.lit (.int .i64 xs.length))=D1 at I av
    have bn:Aside0 ((xs++[[]]).length=cu p (k+1)):=⟨by rw[gg.out];simp⟩
    have bo:Aside0 (∀y∈xs++[[]],y.length<=k):=⟨fun y hy=>by
     rcases List.mem_append.1 hy with h|h
     ·exact HY.out y h
     ·simp at h;subst h;simp⟩
    generalize hX:xs++[[]]=X at ar bn bo
    obtain⟨c,c9,b2⟩:=av.out.2 k (by omega) e'.out
    have ad:∀w':World,w'.ownsMap Tryz.prog 3 (plainElem Tryz.prog 3) j (k+1) D1->(Instr.lookup 229 (.map (some j)) (.int .i64 (k:Nat)) false).run Tryz.prog w'= .ok (.int .i64 c) w':=fun w' h=>by
     obtain⟨c',dd,J,_⟩:=h.lookup_int o5 Tryz.underlying229 Tryz.underlying3 (oZ _) (o6 (a:=k) (by omega))
     rw[b2] at J
     injection J with J
     injection J with _ J
     rw[dd,J]
    have ds:=bn.out
    have dv:=lM p (k+1)
    obtain⟨g0,cap,hv,gx,aF,cells,aL⟩:=Kd.ou ar.out (by omega)
    (first|subst hv|(injection hv with ea _ eb;subst ea;subst eb))
    obtain⟨oki,cc,ed,⟨ev,rfl,o⟩,b4,b5,aO,hH⟩:=Kd.rG (Kd.jF (ok':=fun q=>True∧¬W.heap.size<=q) (Kd.lq ar.out) (fun q hq=>⟨trivial,by have:=hq.2.2.1;omega⟩)) [] (c:Int) (by omega) (by omega)
    have aP:(X.getD (c:Int).toNat []).length<=k:=by
     have aS:c<X.length:=by omega
     rw[Int.toNat_natCast,List.getD_eq_getElem?_getD,List.getElem?_eq_getElem aS]
     exact bo.out _ (List.getElem_mem aS)
    have b':W.cell? ⟨g0,c,none⟩=some ev:=by have h1:=b4 0 _ rfl;rw[Int.toNat_natCast] at h1;simpa [Kd.slice] using h1
    have ca:W.frozen? ⟨g0,c,none⟩=false:=by have h1:=b5 0;rw[Int.toNat_natCast] at h1;simpa [Kd.slice] using h1
    rw[Int.toNat_natCast] at o aP
    have eg:=Lib.hid (show (X.getD (c:Int).toNat [])=X.getD c [] by rw[Int.toNat_natCast])
    generalize X.getD c []=y at o aP eg
    obtain⟨Ae,ce,rfl⟩:=Kd.a7 o
    have cb:some j≠(Value.slice Ae y.length ce).ownBlock:=fun e=>by
     obtain⟨cs,U⟩:=Kd.fI o j e.symm
     obtain⟨es,ck,R, -⟩:=I.out
     rw[R] at U;cases U
    have g1:g0≠j:=fun e=>by
     subst e
     obtain⟨es,ck,R, -⟩:=I.out
     rw[R] at aL;cases aL
    have cd:some g0≠(Value.slice Ae y.length ce).ownBlock:=fun e=>(aO g0 (o.1 g0 e.symm)).2 rfl
    have HR:=Aside0.mk (Kd.a8 (Kd.aR (ok':=fun q=>oki q∨W.heap.size<=q) o (fun q hq=>.inl hq)))
    have ch:=Aside0.mk hH
    have cj:=Aside0.mk o.1
    have ek:=Aside0.mk aO
    clear hH b4 b5 o aO aL cells ed
    have er:=ad _ I.out.drew
    have ew:=ad _ ((I.out.alloc (.cells #[.int .i64 k] 3)).drew)
    have g2:(0:Int)<=(c:Int):=by omega
    have g3:(c:Int)<(X.length:Int):=by omega
    have cl:=Aside0.mk ad
    have g4:c<12:=by omega
    have c3:X.length<=12:=by omega
    have aS:c<X.length:=by omega
    clear ad b2 c9 ds dv
    go_region_law ((refine Kd.nX (Kd.int .i64) (w0:=w) (W:=W.drew) j (by rfl) (.tmp 36) (.tmp 38) 25 3 (.int .i64 0) 8 (by rfl) Tryz.underlying25 fw rfl (by decide) (by omega) _ y (k:Int) [.int .i64 k] (fun q=>oki q∨W.heap.size<=q) (fun _=>False) (by rfl) (by rfl) rfl (fun _ hk=>hk.elim) (fun q hq=>.inr hq) HR.out (bu b1.out) (by have:=b1.out.size;show j<=W.heap.size;omega) (by omega) ?_;intro v4 w4 a1 cq ab ey;obtain⟨a2,a3,cr⟩:=Kd.a7 a1;rw[show (y++[(k:Int)]).length=y.length+1 by simp] at cr;subst cr;have cv:=Aside0.mk a1;have bf:=Aside0.mk cq;have ag:=Aside0.mk ab;have e0:=cl.out _ (I.out.drew.kept ab cb);have e1:w4.cell? ⟨g0,c,none⟩=some (.slice Ae y.length ce):=(ab.cell_far ⟨g0,c,none⟩ aF cd).trans b';have e2:w4.frozen? ⟨g0,c,none⟩=false:=(ab.frozen_far ⟨g0,c,none⟩ aF cd).trans ca;clear a1 cq ab ey))
    all_goals have n0:=Aside0.mk (sC ch.out (by omega) ag.out cj.out cv.out aF)
    all_goals have n1:=Aside0.mk ((I.out.drew.kept ag.out cb).kept (jd w4 g0 c (.slice a2 (y.length+1) a3)) (by simp;omega))
    all_goals have n2:=Aside0.mk (bf.out.grown (jd w4 g0 c (.slice a2 (y.length+1) a3)) (by have:=bf.out.size;have:=I.out.lt;have:W.drew.heap.size=W.heap.size:=rfl;have:=ag.out.size;omega) (fun q e=>by injection e with e;omega))
    all_goals have n3:=Aside0.mk (av.out)
    all_goals have n4:Aside0 (∀z∈X.set c (y++[(k:Int)]),z.length<=k+1):=⟨sD bo.out aP⟩
    all_goals have n5:Aside0 ((X.set c (y++[(k:Int)])).length=X.length):=⟨List.length_set⟩
    all_goals clear er ew e0 b' ca e1 e2 ag bf cv cl ch cj ek HR
    all_goals generalize (w4.setCell ⟨g0,c,none⟩ (.slice a2 (y.length+1) a3))=w5 at n0 n1 n2⊢
    all_goals go_wp2
    all_goals exact⟨⟨k+1,_,D1,by omega,by go_num,⟨by rw[n5.out];exact bn.out⟩,n4,n0,n1,n3,n2⟩,(show n- ((k:Int)+1).toNat<n- ((k:Int)).toNat by omega)⟩
   ·have ha:rootOf p k<k:=by omega
    have ht:=Lib.hid ak
    have av:=Aside0.mk (HP.out.skip ak)
    have an:cu p (k+1)=cu p k:=by rw[Hs.out,if_neg ak];rfl
    have bn:=Aside0.mk (HL.out.trans an.symm)
    rw[<-an] at av
    clear an ak hle
    have bo:=HY
    have I:=Aside0.mk (HM.out.mono (Nat.le_succ k))
    have ar:=HS
    have b1:=HB
    clear HM HS HB HP HL HY
    obtain⟨Ao,co,rfl⟩:=Kd.kn ar.out
    obtain⟨W,rfl⟩:∃W,W=wr:=⟨_,rfl⟩
    obtain⟨X,rfl⟩:∃X,X=xs:=⟨_,rfl⟩
    obtain⟨D1,rfl⟩:∃D1,D1=D:=⟨_,rfl⟩
    generalize f':rootOf p k=r at ha CR e6
    have hx:=Lib.hid f'
    clear f'
    have hz:((r:Nat):Int)≠(k:Int):=by omega
    go_wp2_with (first|(go_at_call 210;refine CR.out.mono ?_;rintro e w1 ⟨rfl,rfl⟩))
    obtain⟨c,c9,b2⟩:=av.out.2 r (by omega) e6.out
    have ad:∀w':World,w'.ownsMap Tryz.prog 3 (plainElem Tryz.prog 3) j (k+1) D1->(Instr.lookup 229 (.map (some j)) (.int .i64 (r:Nat)) false).run Tryz.prog w'= .ok (.int .i64 c) w':=fun w' h=>by
     obtain⟨c',dd,J,_⟩:=h.lookup_int o5 Tryz.underlying229 Tryz.underlying3 (oZ _) (o6 (a:=r) (by omega))
     rw[b2] at J
     injection J with J
     injection J with _ J
     rw[dd,J]
    have ds:=bn.out
    have dv:=lM p (k+1)
    obtain⟨g0,cap,hv,gx,aF,cells,aL⟩:=Kd.ou ar.out (by omega)
    (first|subst hv|(injection hv with ea _ eb;subst ea;subst eb))
    obtain⟨oki,cc,ed,⟨ev,rfl,o⟩,b4,b5,aO,hH⟩:=Kd.rG (Kd.jF (ok':=fun q=>True∧¬W.heap.size<=q) (Kd.lq ar.out) (fun q hq=>⟨trivial,by have:=hq.2.2.1;omega⟩)) [] (c:Int) (by omega) (by omega)
    have aP:(X.getD (c:Int).toNat []).length<=k:=by
     have aS:c<X.length:=by omega
     rw[Int.toNat_natCast,List.getD_eq_getElem?_getD,List.getElem?_eq_getElem aS]
     exact bo.out _ (List.getElem_mem aS)
    have b':W.cell? ⟨g0,c,none⟩=some ev:=by have h1:=b4 0 _ rfl;rw[Int.toNat_natCast] at h1;simpa [Kd.slice] using h1
    have ca:W.frozen? ⟨g0,c,none⟩=false:=by have h1:=b5 0;rw[Int.toNat_natCast] at h1;simpa [Kd.slice] using h1
    rw[Int.toNat_natCast] at o aP
    have eg:=Lib.hid (show (X.getD (c:Int).toNat [])=X.getD c [] by rw[Int.toNat_natCast])
    generalize X.getD c []=y at o aP eg
    obtain⟨Ae,ce,rfl⟩:=Kd.a7 o
    have cb:some j≠(Value.slice Ae y.length ce).ownBlock:=fun e=>by
     obtain⟨cs,U⟩:=Kd.fI o j e.symm
     obtain⟨es,ck,R, -⟩:=I.out
     rw[R] at U;cases U
    have g1:g0≠j:=fun e=>by
     subst e
     obtain⟨es,ck,R, -⟩:=I.out
     rw[R] at aL;cases aL
    have cd:some g0≠(Value.slice Ae y.length ce).ownBlock:=fun e=>(aO g0 (o.1 g0 e.symm)).2 rfl
    have HR:=Aside0.mk (Kd.a8 (Kd.aR (ok':=fun q=>oki q∨W.heap.size<=q) o (fun q hq=>.inl hq)))
    have ch:=Aside0.mk hH
    have cj:=Aside0.mk o.1
    have ek:=Aside0.mk aO
    clear hH b4 b5 o aO aL cells ed
    have er:=ad _ I.out.drew
    have ew:=ad _ ((I.out.alloc (.cells #[.int .i64 k] 3)).drew)
    have g2:(0:Int)<=(c:Int):=by omega
    have g3:(c:Int)<(X.length:Int):=by omega
    have cl:=Aside0.mk ad
    have g4:c<12:=by omega
    have c3:X.length<=12:=by omega
    have aS:c<X.length:=by omega
    clear ad b2 c9 ds dv
    go_region_law ((refine Kd.nX (Kd.int .i64) (w0:=w) (W:=W.drew) j (by rfl) (.tmp 36) (.tmp 38) 25 3 (.int .i64 0) 8 (by rfl) Tryz.underlying25 fw rfl (by decide) (by omega) _ y (k:Int) [.int .i64 k] (fun q=>oki q∨W.heap.size<=q) (fun _=>False) (by rfl) (by rfl) rfl (fun _ hk=>hk.elim) (fun q hq=>.inr hq) HR.out (bu b1.out) (by have:=b1.out.size;show j<=W.heap.size;omega) (by omega) ?_;intro v4 w4 a1 cq ab ey;obtain⟨a2,a3,cr⟩:=Kd.a7 a1;rw[show (y++[(k:Int)]).length=y.length+1 by simp] at cr;subst cr;have cv:=Aside0.mk a1;have bf:=Aside0.mk cq;have ag:=Aside0.mk ab;have e0:=cl.out _ (I.out.drew.kept ab cb);have e1:w4.cell? ⟨g0,c,none⟩=some (.slice Ae y.length ce):=(ab.cell_far ⟨g0,c,none⟩ aF cd).trans b';have e2:w4.frozen? ⟨g0,c,none⟩=false:=(ab.frozen_far ⟨g0,c,none⟩ aF cd).trans ca;clear a1 cq ab ey))
    all_goals have n0:=Aside0.mk (sC ch.out (by omega) ag.out cj.out cv.out aF)
    all_goals have n1:=Aside0.mk ((I.out.drew.kept ag.out cb).kept (jd w4 g0 c (.slice a2 (y.length+1) a3)) (by simp;omega))
    all_goals have n2:=Aside0.mk (bf.out.grown (jd w4 g0 c (.slice a2 (y.length+1) a3)) (by have:=bf.out.size;have:=I.out.lt;have:W.drew.heap.size=W.heap.size:=rfl;have:=ag.out.size;omega) (fun q e=>by injection e with e;omega))
    all_goals have n3:=Aside0.mk (av.out)
    all_goals have n4:Aside0 (∀z∈X.set c (y++[(k:Int)]),z.length<=k+1):=⟨sD bo.out aP⟩
    all_goals have n5:Aside0 ((X.set c (y++[(k:Int)])).length=X.length):=⟨List.length_set⟩
    all_goals clear er ew e0 b' ca e1 e2 ag bf cv cl ch cj ek HR
    all_goals generalize (w4.setCell ⟨g0,c,none⟩ (.slice a2 (y.length+1) a3))=w5 at n0 n1 n2⊢
    all_goals go_wp2
    all_goals exact⟨⟨k+1,_,D1,by omega,by go_num,⟨by rw[n5.out];exact bn.out⟩,n4,n0,n1,n3,n2⟩,(show n- ((k:Int)+1).toNat<n- ((k:Int)).toNat by omega)⟩
  ·obtain rfl:k=n:=by omega
   go_wp2
   go_ret
   obtain⟨A,c,rfl⟩:=Kd.kn HS.out
   exact⟨A,c,by rw[HL.out];rfl,by rw[e5];exact HB.out⟩
end Go.Proofs.YtffdiakgjakngaaGreat.P
namespace Go.Proofs.YtffdiakgjakngaaGreat.P
open Go.RowKit Go.Proofs.YtffdiakgjakngaaGreatW.PrintWords Go.Proofs.YtffdiakgjakngaaGreatW.PrintLast Go.Proofs.YtffdiakgjakngaaGreatW.PrintMore
set_option linter.unusedVariables false
set_option linter.unusedSimpArgs false
set_option maxHeartbeats 8000000
set_option maxRecDepth 100000
def gV (n:Nat) (E:List S83):Prop:=∀S:Nat->Bool,(∃v,v<n∧S v=true)->(∃v,v<n∧S v=false)->∃x,x∈E∧S x.f0.toNat≠S x.f1.toNat
theorem mW {p:Nat->Nat} {v:Nat} (h:p v<v):rootOf p v=rootOf p (p v):=by rw[rootOf,dif_pos h]
theorem lN {p:Nat->Nat} {v:Nat} (h:¬p v<v):rootOf p v=v:=by rw[rootOf,dif_neg h]
theorem yP {p:Nat->Nat} {v:Nat} (h:rootOf p v=v):¬p v<v:=fun j=>by
 have h1:=mW j
 have h2:=je p (p v)
 omega
theorem lO (p:Nat->Nat) (a b v:Nat):rootOf (dq p a b) v=if rootOf p v=max (rootOf p a) (rootOf p b) then min (rootOf p a) (rootOf p b) else rootOf p v:=by
 have R:=mV p a
 have hb:=mV p b
 have hM:rootOf p (max (rootOf p a) (rootOf p b))=max (rootOf p a) (rootOf p b):=by rw[Nat.max_def];split<;>assumption
 have hm:rootOf p (min (rootOf p a) (rootOf p b))=min (rootOf p a) (rootOf p b):=by rw[Nat.min_def];split<;>assumption
 have hle:min (rootOf p a) (rootOf p b)<=max (rootOf p a) (rootOf p b):=by omega
 have I:∀j,dq p a b j=if j=max (rootOf p a) (rootOf p b) then min (rootOf p a) (rootOf p b) else p j:=fun j=>rfl
 generalize max (rootOf p a) (rootOf p b)=M at*
 generalize min (rootOf p a) (rootOf p b)=m at*
 generalize dq p a b=q at*
 induction v using Nat.strongRecOn with
 |ind v J=>
  by_cases e:v=M
  ·subst e
   rw[hM,if_pos rfl]
   by_cases o:m<v
   ·have h1:q v=m:=by rw[I,if_pos rfl]
    rw[mW (by omega),h1]
    refine lN ?_
    rw[I,if_neg (by omega)]
    exact yP hm
   ·rw[lN (by rw[I,if_pos rfl];exact o)]
    omega
  ·have h1:q v=p v:=by rw[I,if_neg e]
   by_cases o:p v<v
   ·rw[mW (p:=q) (by omega),h1,J _ o,mW (p:=p) o]
   ·rw[lN (p:=q) (by omega),lN (p:=p) o,if_neg e]
theorem yQ (S:Nat->Bool):∀(E:List S83) (p:Nat->Nat),(∀x∈E,S x.f0.toNat=S x.f1.toNat)->(∀v,S (rootOf p v)=S v)->∀v,S (rootOf (E.foldl (fun p x=>dq p x.f0.toNat x.f1.toNat) p) v)=S v:=by
 intro E
 induction E with
 |nil=>exact fun p _ h=>h
 |cons x E I=>
  intro p j h
  refine I _ (fun y J=>j y (List.mem_cons_of_mem _ J)) fun v=>?_
  rw[lO]
  split
  ·rename_i e
   have R:=j x (List.mem_cons_self ..)
   have h1:=h x.f0.toNat
   have h2:=h x.f1.toNat
   have o:=h v
   rw[e] at o
   rw[<-o]
   rw[Nat.min_def,Nat.max_def]
   split<;>simp_all
  ·exact h v
theorem yR:∀(E:List S83) (p:Nat->Nat) (u v:Nat),rootOf p u=rootOf p v->rootOf (E.foldl (fun p x=>dq p x.f0.toNat x.f1.toNat) p) u=rootOf (E.foldl (fun p x=>dq p x.f0.toNat x.f1.toNat) p) v:=by
 intro E
 induction E with
 |nil=>exact fun p u v h=>h
 |cons x E j=>
  intro p u v h
  refine j _ u v ?_
  rw[lO,lO,h]
theorem yS:∀(E:List S83) (p:Nat->Nat),∀x∈E,rootOf (E.foldl (fun p x=>dq p x.f0.toNat x.f1.toNat) p) x.f0.toNat=rootOf (E.foldl (fun p x=>dq p x.f0.toNat x.f1.toNat) p) x.f1.toNat:=by
 intro E
 induction E with
 |nil=>exact fun p x j=>absurd j (by simp)
 |cons y E o=>
  intro p x j
  rcases List.mem_cons.1 j with rfl|j
  ·refine yR E _ _ _ ?_
   rw[lO,lO]
   by_cases h1:rootOf p x.f0.toNat=max (rootOf p x.f0.toNat) (rootOf p x.f1.toNat)<;>by_cases h2:rootOf p x.f1.toNat=max (rootOf p x.f0.toNat) (rootOf p x.f1.toNat)
   ·rw[if_pos h1,if_pos h2]
   ·rw[if_pos h1,if_neg h2];omega
   ·rw[if_neg h1,if_pos h2];omega
   ·omega
  ·exact o _ x j
theorem sE (p:Nat->Nat) (h0:rootOf p 0=0):∀u,1<=u->1<=cu p u
 |0,h=>by omega
 |u+1,_=>by
  by_cases e:u=0
  ·subst e;simp[cu,h0]
  ·have:=sE p h0 u (by omega)
   simp only[cu]
   omega
theorem sF (p:Nat->Nat) (h0:rootOf p 0=0):∀u,cu p u=1->∀v,v<u->rootOf p v=v->v=0
 |0,h=>by simp[cu] at h
 |u+1,h=>by
  intro v j hr
  simp only[cu] at h
  by_cases e:u=0
  ·omega
  ·have h1:=sE p h0 u (by omega)
   by_cases hu:rootOf p u=u
   ·rw[if_pos hu] at h;omega
   ·rw[if_neg hu] at h
    by_cases ev:v=u
    ·subst ev;exact absurd hr hu
    ·exact sF p h0 u (by omega) v (by omega) hr
theorem sG (p:Nat->Nat):∀u,1<=u->(∀v,v<u->rootOf p v=0)->cu p u=1
 |0,h,_=>by omega
 |u+1,_,h=>by
  by_cases e:u=0
  ·subst e;simp[cu,h 0 (by omega)]
  ·have:=sG p u (by omega) (fun v j=>h v (by omega))
   simp only[cu]
   rw[this,h u (by omega),if_neg (fun e2=>e e2.symm)]
theorem sH {n:Nat} {E:List S83} (U:1<=n) (hE:dp n E):cu (az E) n=1↔gV n E:=by
 have h0:rootOf (az E) 0=0:=Nat.le_zero.1 (je _ 0)
 constructor
 ·rintro h S ⟨u,hu,aa⟩ ⟨v,j,ab⟩
  refine Classical.byContradiction fun o=>?_
  have hS:∀x∈E,S x.f0.toNat=S x.f1.toNat:=fun x ad=>Classical.byContradiction fun I=>o ⟨x,ad,I⟩
  have J:=yQ S E id hS (fun v=>by rw[lN (by simp)])
  have R:∀w,w<n->rootOf (az E) w=0:=fun w hw=>sF _ h0 n h _ (Nat.lt_of_le_of_lt (je _ w) hw) (mV _ w)
  have h1:=J u
  have h2:=J v
  rw[show E.foldl (fun p x=>dq p x.f0.toNat x.f1.toNat) id=az E from rfl] at h1 h2
  rw[R u hu] at h1
  rw[R v j] at h2
  rw[h1,aa] at h2
  rw[ab] at h2
  cases h2
 ·intro h
  refine sG _ n U fun v j=>?_
  refine Classical.byContradiction fun I=>?_
  obtain⟨x,o,hs⟩:=h (fun u=>decide (rootOf (az E) u=0)) ⟨0,by omega,by simp[h0]⟩ ⟨v,j,by simp[I]⟩
  have:=yS E id x o
  rw[show E.foldl (fun p x=>dq p x.f0.toNat x.f1.toNat) id=az E from rfl] at this
  simp only[this,ne_eq,not_true_eq_false] at hs
end Go.Proofs.YtffdiakgjakngaaGreat.P

