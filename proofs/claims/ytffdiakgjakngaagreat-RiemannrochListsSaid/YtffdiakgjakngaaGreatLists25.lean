/- Lists2 answers true whatever the input (text 5 of 8): own walks and plain laws; no conditions. -/
import Derived.DeepKeys3
import Derived.Maps.Keyed
import Derived.Maps.Own
import Derived.StillTailTactics
import Derived.Test.YtffdiakgjakngaaGreatLists24
namespace Go.Proofs.YtffdiakgjakngaaGreat.P
open Go.RowKit Go.Proofs.YtffdiakgjakngaaGreatW.PrintWords Go.Proofs.YtffdiakgjakngaaGreatW.PrintLast Go.Proofs.YtffdiakgjakngaaGreatW.PrintMore
set_option linter.unusedVariables false
set_option linter.unusedSimpArgs false
set_option maxHeartbeats 8000000
set_option maxRecDepth 100000
section
def fN (s:Int) (u:Nat):Int:=Go.bits .and .i64 (s/2 ^ min u 64) 1
def gj (t:Nat->Nat->Int) (s:Int) (v:Nat):Nat->Int
 |0=>0
 |u+1=>if u=v then gj t s v u else if fN s u=0 then wrap64 (gj t s v u+t u v) else gj t s v u
theorem EY (k n:Nat) (A0:Option Addr) (c0:Nat) (E:List S83) (s:Int) (v:Nat) (w:World) (o:Kd.C aN w A0 E.length E) (p:E.length<=c0) (hn:n<=1000) (q:v<n) (m:∀u v:Nat,u<n->v<n->u≠v->cT.f k n E u v=some (ae E u v)):
  Calls Tryz.prog 214 #[.agg #[.int .i64 n,.slice A0 E.length c0],.int .i64 s,.int .i64 v] w fun e w'=>e= .returned (.int .i64 (gj (ae E) s v n))/\Below w.heap.size w w':=by
 have hu:=Tryz.underlying24;have r:=zA m;have y:=zA (a7 w (.cells #[.int .i64 n,.slice A0 E.length c0] 24));clear m;go_enter Tryz.func214,Tryz.ntmps214
 go_wp2;go_loopg [7,8] (n) (fun z x i wr=>∃u:Nat,u<=n/\i= .int .i64 u/\x= .int .i64 (gj (ae E) s v u)/\Aside0 (Below w.heap.size w wr)/\Aside0 (wr.heap[w.heap.size]? =some (.cells #[.int .i64 n,.slice A0 E.length c0] 24 (0,0)))/\Aside0 (z=n-u))
 case atStart=>exact⟨0,Nat.zero_le _,rfl,rfl,⟨ao (aq _ _) _⟩,y,⟨rfl⟩⟩
 case round=>
  obtain⟨u,K,rfl,rfl,b,g,j⟩:=hrel;have B:wr.cell? ⟨w.heap.size,0,none⟩=some (.int .i64 n):=(ah g.out 0).trans rfl;have D:wr.cell? ⟨w.heap.size,1,none⟩=some (.slice A0 E.length c0):=(ah g.out 1).trans rfl;have L:(0:Int)<=(u:Int):=by omega
  by_cases F:u<n
  ·have M:(u:Int)<(n:Int):=by omega
   have a:=zA (show gj (ae E) s v (u+1)=if u=v then gj (ae E) s v u else if fN s u=0 then wrap64 (gj (ae E) s v u+ae E u v) else gj (ae E) s v u from rfl);have G:=zA (r.out u v F q);generalize gj (ae E) s v u=x at a;by_cases h:u=v
   ·rw[if_pos h] at a
    have H:((u:Int) != (v:Int))=false:=by simp[h]
    go_wp2;go_roundg (n- (u+1))
    case measure=>rw[j.out];omega
    case rel=>exact⟨u+1,by omega,by go_num,by rw[a.out],b,g,⟨rfl⟩⟩
   ·rw[if_neg h] at a
    have H:((u:Int) != (v:Int))=true:=by simp;omega
    by_cases hb:fN s u=0
    ·rw[if_pos hb] at a
     unfold fN at hb;go_wp2_with (go_at_call 147;refine(cT.calls k n A0 c0 E u v _ _ (Kd.ax o b.out) p (G.out h)).mono ?_;rintro e w1 ⟨rfl,l⟩;have I:=zA (aW b.out l);have J:=zA (aD g.out l);clear l B D)
     go_roundg (n- (u+1))
     case measure=>rw[j.out];omega
     case rel=>exact⟨u+1,by omega,by go_num,by rw[a.out],I,J,⟨rfl⟩⟩
    ·rw[if_neg hb] at a
     unfold fN at hb;go_wp2;go_roundg (n- (u+1))
     case measure=>rw[j.out];omega
     case rel=>exact⟨u+1,by omega,by go_num,by rw[a.out],b,g,⟨rfl⟩⟩
  ·obtain rfl:u=n:=by omega
   go_wp2;go_ret;exact⟨rfl,b.out⟩
section
variable {w w':World} {c0 m:Nat} {n:Int} {A0:Option Addr} {a:Addr} {x:Value}
theorem GC.mk (b:w'.heap[w.heap.size]? =some (.cells #[.int .i64 n,.slice A0 m c0] 24 (0,0))) (e:w'.cell? a=some x) (hb:Below w.heap.size w w'):
  w'.heap[w.heap.size]? =some (.cells #[.int .i64 n,.slice A0 m c0] 24 (0,0))/\w'.cell? ⟨w.heap.size,0,none⟩=some (.int .i64 n)/\w'.cell? ⟨w.heap.size,1,none⟩=some (.slice A0 m c0)/\w'.cell? a=some x/\Below w.heap.size w w':=
 ⟨b,(ah b 0).trans rfl,(ah b 1).trans rfl,e,hb⟩
theorem GC.step {w2:World} (e:w'.heap[w.heap.size]? =some (.cells #[.int .i64 n,.slice A0 m c0] 24 (0,0))) (g:w'.cell? a=some x) (hb:Below w.heap.size w w') (b:Below w'.heap.size w' w2):
  w2.heap[w.heap.size]? =some (.cells #[.int .i64 n,.slice A0 m c0] 24 (0,0))/\w2.cell? ⟨w.heap.size,0,none⟩=some (.int .i64 n)/\w2.cell? ⟨w.heap.size,1,none⟩=some (.slice A0 m c0)/\w2.cell? a=some x/\Below w.heap.size w w2:=
 GC.mk (aD e b) (fU b g) (aW hb b)
end
theorem nO {n v:Nat} {P:Nat->Bool} (a:v<n) (h:P v=false):(List.range n).all P=false:=by
 rw[List.all_eq_false];exact⟨v,List.mem_range.2 a,by simp[h]⟩
theorem pI {n:Nat} {P:Nat->Bool} (h:∀v,v<n->P v=true):(List.range n).all P=true:=List.all_eq_true.2 fun v a=>h v (List.mem_range.1 a)
def nP (t:Nat->Nat->Int) (n:Nat) (d:List Int) (s:Int) (v:Nat):Bool:= !(decide (fN s v=1)&&decide (rd d v<gj t s v n))
def lT (t:Nat->Nat->Int) (n:Nat) (d:List Int) (s:Int):Bool:=(List.range n).all (nP t n d s)
theorem EZ (k n:Nat) (A0:Option Addr) (c0:Nat) (E:List S83) (m:Option Addr) (c1:Nat) (d:List Int) (s:Int) (w:World) (G:Kd.C aN w A0 E.length E) (H:E.length<=c0) (o:Kd.C (Kd.int .i64) w m d.length d) (hn:n<=1000) (hd:d.length=n) (p:∀u v:Nat,u<n->v<n->u≠v->cT.f k n E u v=some (ae E u v)):
  Calls Tryz.prog 204 #[.agg #[.int .i64 n,.slice A0 E.length c0],.slice m n c1,.int .i64 s] w fun e w'=>e= .returned (.bool (lT (ae E) n d s))/\Below w.heap.size w w':=by
 have hu:=Tryz.underlying24;have I:Aside0 (∀W,Below w.heap.size w W->∀v:Nat,v<n->_):=⟨fun W h v J=>EY k n A0 c0 E s v W (Kd.ax G h) H hn J p⟩;have K:=zA (a7 w (.cells #[.int .i64 n,.slice A0 E.length c0] 24));have L:=zA hd;have M:=zA o;clear p o hd;go_enter Tryz.func204,Tryz.ntmps204
 go_wp2;go_loopg [7] (n) (fun N i wr=>∃v:Nat,v<=n/\i= .int .i64 v/\Aside0 (∀u,u<v->nP (ae E) n d s u=true)/\Aside0 (Below w.heap.size w wr)/\Aside0 (wr.heap[w.heap.size]? =some (.cells #[.int .i64 n,.slice A0 E.length c0] 24 (0,0)))/\Aside0 (N=n-v))
 case atStart=>exact⟨0,Nat.zero_le _,rfl,⟨fun u hu=>by omega⟩,⟨ao (aq _ _) _⟩,K,⟨rfl⟩⟩
 case round=>
  obtain⟨v,T,rfl,j,b,g,q⟩:=hrel;have U:wr.cell? ⟨w.heap.size,0,none⟩=some (.int .i64 n):=(ah g.out 0).trans rfl;have V:wr.cell? ⟨w.heap.size,1,none⟩=some (.slice A0 E.length c0):=(ah g.out 1).trans rfl;have X:(0:Int)<=(v:Int):=by omega
  by_cases r:v<n
  ·have Y:(v:Int)<(n:Int):=by omega
   have a:=zA (show nP (ae E) n d s v= !(decide (fN s v=1)&&decide (rd d v<gj (ae E) s v n)) from rfl);by_cases hb:fN s v=1
   ·rw[ay hb,Bool.true_and] at a
    have O:(Go.bits .and .i64 (s/2 ^ min v 64) 1==1)=true:=beq_iff_eq.2 hb;have Z:Go.bits .and .i64 (s/2 ^ min v 64) 1=1:=hb;obtain⟨ad,P,l⟩:=Kd.bJ (Kd.ax M.out b.out) (v:Int) (by omega) (by have:=L.out;omega);subst P;rw[aG] at l;have y:Aside0 (∀W,Below w.heap.size w W->Calls Tryz.prog 214 #[.agg #[.int .i64 n,.slice A0 E.length c0],.int .i64 s,.int .i64 v] W fun e w'=>e= .returned (.int .i64 (gj (ae E) s v n))/\Below W.heap.size W w'):=⟨fun W h=>I.out W h v r⟩;generalize gj (ae E) s v n=x at a y;generalize rd d v=z at a l;have Q:=zA l;go_upto_region 4 with (fail)
    go_region_held3 (fun w'=>w'.heap[w.heap.size]? =some (.cells #[.int .i64 n,.slice A0 E.length c0] 24 (0,0))/\w'.cell? ⟨w.heap.size,0,none⟩=some (.int .i64 n)/\w'.cell? ⟨w.heap.size,1,none⟩=some (.slice A0 E.length c0)/\w'.cell? (ad.add v)=some (.int .i64 z)/\Below w.heap.size w w')
     (first
      |exact GC.mk (eZ g.out) Q.out (bR b.out)
      |((try go_split_ands);refine⟨by assumption,by assumption,by assumption,by assumption,by assumption⟩)
      |((try go_split_ands);exact GC.step (by assumption) (by assumption) (by assumption) (by assumption))
      |fail)
     ((go_at_call 214;refine(y.out _ (by go_split_ands;assumption)).mono ?_;rintro e B ⟨rfl,R⟩))
    rename_i hHeld;have D:Aside0 (Below w.heap.size w B):=⟨by go_split_ands;assumption⟩;have S:Aside0 (B.heap[w.heap.size]? =some (.cells #[.int .i64 n,.slice A0 E.length c0] 24 (0,0))):=⟨by go_split_ands;assumption⟩;clear hHeld R;by_cases F:z<x
    ·rw[ay F] at a
     go_wp2;go_ret;refine⟨?_,D.out⟩;rw[show lT (ae E) n d s=false from nO r a.out];rfl
    ·rw[aZ F] at a
     go_wp2;go_roundg (n- (v+1))
     case measure=>rw[q.out];omega
     case rel=>exact⟨v+1,by omega,by go_num,⟨fun u hu=>by
      by_cases e:u=v
      ·subst e;exact a.out
      ·exact j.out u (by omega)⟩,D,S,⟨rfl⟩⟩
   ·rw[aZ hb,Bool.false_and] at a
    have O:(Go.bits .and .i64 (s/2 ^ min v 64) 1==1)=false:=beq_eq_false_iff_ne.2 hb;go_upto_region 4 with (fail)
    go_quiet (fail)
    go_wp2;go_roundg (n- (v+1))
    case measure=>rw[q.out];omega
    case rel=>exact⟨v+1,by omega,by go_num,⟨fun u hu=>by
     by_cases e:u=v
     ·subst e;exact a.out
     ·exact j.out u (by omega)⟩,⟨bN b.out _⟩,⟨iB g.out _⟩,⟨rfl⟩⟩
  ·obtain rfl:v=n:=by omega
   go_wp2;go_ret;refine⟨?_,b.out⟩;rw[show lT (ae E) v d s=true from pI j.out];rfl
def mL (t:Nat->Nat->Int) (n q:Nat) (d:List Int) (s:Nat):Bool:=decide (s=0)|| !(decide (fN s q=0)&&lT t n d s)
def pJ (t:Nat->Nat->Int) (n q:Nat) (d:List Int):Bool:=(List.range (2 ^ n)).all (mL t n q d)
theorem E4 (k n q:Nat) (A0:Option Addr) (c0:Nat) (E:List S83) (l:Option Addr) (c1:Nat) (d:List Int) (w:World) (B:Kd.C aN w A0 E.length E) (D:E.length<=c0) (r:Kd.C (Kd.int .i64) w l d.length d) (hn:n<=12) (O:q<n) (hd:d.length=n) (x:∀u v:Nat,u<n->v<n->u≠v->cT.f k n E u v=some (ae E u v)):
  Calls Tryz.prog 187 #[.agg #[.int .i64 n,.slice A0 E.length c0],.int .i64 q,.slice l n c1] w fun e w'=>e= .returned (.bool (pJ (ae E) n q d))/\Below w.heap.size w w':=by
 have hu:=Tryz.underlying24;have F:Aside0 (∀W,Below w.heap.size w W->∀s:Nat,_):=⟨fun W y s=>EZ k n A0 c0 E l c1 d s W (Kd.ax B y) D (Kd.ax r y) (by omega) hd x⟩;have G:=zA (a7 w (.cells #[.int .i64 n,.slice A0 E.length c0] 24));clear x r hd;obtain⟨p,hp⟩:∃p:Nat,p=2 ^ n:=⟨_,rfl⟩;have P:p<=4096:=by rw[hp];exact Nat.pow_le_pow_right (n:=2) (by omega) (show n<=12 by omega)
 have Q:wrap64 ((2:Int) ^ n)=(p:Int):=by
  have H:((2:Int) ^ n)=(p:Int):=by rw[hp];simp
  rw[H];unfold wrap64;omega
 have I:1<=p:=by rw[hp];exact Nat.one_le_two_pow
 unfold pJ;rw[<-hp];clear hp;have R:(0:Int)<=(n:Int):=by omega
 have S:(0:Int)<=(q:Int):=by omega
 go_enter Tryz.func187,Tryz.ntmps187
 go_wp2;go_loopg [7] (p-1) (fun J i wr=>∃s:Nat,1<=s/\s<=p/\i= .int .i64 s/\Aside0 (∀u,u<s->mL (ae E) n q d u=true)/\Aside0 (Below w.heap.size w wr)/\Aside0 (wr.heap[w.heap.size]? =some (.cells #[.int .i64 n,.slice A0 E.length c0] 24 (0,0)))/\Aside0 (J=p-s))
 case atStart=>exact⟨1,aI _,I,rfl,⟨fun u hu=>by rw[show u=0 by omega];rfl⟩,⟨ao (aq _ _) _⟩,G,⟨rfl⟩⟩
 case round=>
  obtain⟨s,T,U,rfl,m,g,h,z⟩:=hrel;have V:wr.cell? ⟨w.heap.size,0,none⟩=some (.int .i64 n):=(ah h.out 0).trans rfl;have X:wr.cell? ⟨w.heap.size,1,none⟩=some (.slice A0 E.length c0):=(ah h.out 1).trans rfl;by_cases K:s<p
  ·have Y:(s:Int)<(p:Int):=by omega
   have a:=zA (show mL (ae E) n q d s= !(decide (fN s q=0)&&lT (ae E) n d s) by unfold mL;rw[aZ (show ¬s=0 by omega),Bool.false_or]);by_cases hb:fN s q=0
   ·rw[ay hb,Bool.true_and] at a
    have L:(Go.bits .and .i64 ((s:Int)/2 ^ q) 1==0)=true:=by unfold fN at hb;rw[Nat.min_eq_left (show q<=64 by omega)] at hb;exact beq_iff_eq.2 hb
    have j:=zA (F.out wr g.out s);cases hm:lT (ae E) n d s with
    |true=>
     rw[hm] at a j;go_wp2_with (go_at_call 204;refine j.out.mono ?_;rintro e M ⟨rfl,b⟩;have o:=zA (aW g.out b);clear b)
     go_ret;refine⟨?_,o.out⟩;rw[nO K a.out];rfl
    |false=>
     rw[hm] at a j;go_wp2_with (go_at_call 204;refine j.out.mono ?_;rintro e M ⟨rfl,b⟩;have o:=zA (aW g.out b);have N:=zA (aD h.out b);clear b)
     go_roundg (p- (s+1))
     case measure=>rw[z.out];omega
     case rel=>exact⟨s+1,by omega,by omega,by go_num,⟨fun u hu=>by
      by_cases e:u=s
      ·subst e;exact a.out
      ·exact m.out u (by omega)⟩,o,N,⟨rfl⟩⟩
   ·rw[aZ hb,Bool.false_and] at a
    have L:(Go.bits .and .i64 ((s:Int)/2 ^ q) 1==0)=false:=by unfold fN at hb;rw[Nat.min_eq_left (show q<=64 by omega)] at hb;exact beq_eq_false_iff_ne.2 hb
    go_wp2;go_roundg (p- (s+1))
    case measure=>rw[z.out];omega
    case rel=>exact⟨s+1,by omega,by omega,by go_num,⟨fun u hu=>by
     by_cases e:u=s
     ·subst e;exact a.out
     ·exact m.out u (by omega)⟩,g,h,⟨rfl⟩⟩
  ·obtain rfl:s=p:=by omega
   go_wp2;go_ret;refine⟨?_,g.out⟩;rw[pI m.out];rfl
def nQ (q:Nat) (d:List Int) (v:Nat):Bool:=decide (0<=rd d v)&&(decide (v≠q)||decide (rd d v=0))
def gu (t:Nat->Nat->Int) (n q:Nat) (d:List Int):Bool:=(List.range n).all (nQ q d)&&pJ t n q d
theorem E5 (k n q:Nat) (A0:Option Addr) (c0:Nat) (E:List S83) (m:Option Addr) (c1:Nat) (d:List Int) (w:World) (G:Kd.C aN w A0 E.length E) (H:E.length<=c0) (o:Kd.C (Kd.int .i64) w m d.length d) (hn:n<=12) (I:q<n) (hd:d.length=n) (r:∀u v:Nat,u<n->v<n->u≠v->cT.f k n E u v=some (ae E u v)):
  Calls Tryz.prog 151 #[.agg #[.int .i64 n,.slice A0 E.length c0],.int .i64 q,.slice m n c1] w fun e w'=>e= .returned (.bool (gu (ae E) n q d))/\Below w.heap.size w w':=by
 have hu:=Tryz.underlying24;have J:Aside0 (∀W,Below w.heap.size w W->_):=⟨fun W s=>E4 k n q A0 c0 E m c1 d W (Kd.ax G s) H (Kd.ax o s) hn I hd r⟩;have K:=zA (a7 w (.cells #[.int .i64 n,.slice A0 E.length c0] 24));have L:=zA hd;have M:=zA o;clear r o hd;unfold gu;go_enter Tryz.func151,Tryz.ntmps151
 go_wp2;go_loopg [7] (n) (fun N i wr=>∃v:Nat,v<=n/\i= .int .i64 v/\Aside0 (∀u,u<v->nQ q d u=true)/\Aside0 (Below w.heap.size w wr)/\Aside0 (wr.heap[w.heap.size]? =some (.cells #[.int .i64 n,.slice A0 E.length c0] 24 (0,0)))/\Aside0 (N=n-v))
 case atStart=>exact⟨0,Nat.zero_le _,rfl,⟨fun u hu=>by omega⟩,⟨ao (aq _ _) _⟩,K,⟨rfl⟩⟩
 case round=>
  obtain⟨v,S,rfl,p,b,g,x⟩:=hrel;have T:wr.cell? ⟨w.heap.size,0,none⟩=some (.int .i64 n):=(ah g.out 0).trans rfl;have U:wr.cell? ⟨w.heap.size,1,none⟩=some (.slice A0 E.length c0):=(ah g.out 1).trans rfl;have V:(0:Int)<=(v:Int):=by omega
  by_cases y:v<n
  ·have X:(v:Int)<(n:Int):=by omega
   have a:=zA (show nQ q d v=(decide (0<=rd d v)&&(decide (v≠q)||decide (rd d v=0))) from rfl);obtain⟨ad,O,B⟩:=Kd.bJ (Kd.ax M.out b.out) (v:Int) (by omega) (by have:=L.out;omega);subst O;rw[aG] at B;generalize rd d v=z at a B;by_cases D:0<=z
   ·rw[ay D,Bool.true_and] at a
    by_cases j:v=q
    ·rw[aZ (fun h=>h j),Bool.false_or] at a
     have P:((v:Int)==(q:Int))=true:=by simp[j]
     clear j;by_cases l:z=0
     ·rw[ay l] at a
      subst l;go_wp2;go_roundg (n- (v+1))
      case measure=>rw[x.out];omega
      case rel=>exact⟨v+1,by omega,by go_num,⟨fun u hu=>by
       by_cases e:u=v
       ·subst e;exact a.out
       ·exact p.out u (by omega)⟩,b,g,⟨rfl⟩⟩
     ·rw[aZ l] at a
      have Y:(z != 0)=true:=by simpa using l
      go_wp2;go_ret;refine⟨?_,b.out⟩;rw[nO y a.out];rfl
    ·rw[ay j,Bool.true_or] at a
     have P:((v:Int)==(q:Int))=false:=by simp;omega
     go_wp2;go_roundg (n- (v+1))
     case measure=>rw[x.out];omega
     case rel=>exact⟨v+1,by omega,by go_num,⟨fun u hu=>by
      by_cases e:u=v
      ·subst e;exact a.out
      ·exact p.out u (by omega)⟩,b,g,⟨rfl⟩⟩
   ·rw[aZ D,Bool.false_and] at a
    go_wp2;go_ret;refine⟨?_,b.out⟩;rw[nO y a.out];rfl
  ·obtain rfl:v=n:=by omega
   have Q:=zA (J.out wr b.out);go_wp2_with (go_at_call 187;refine Q.out.mono ?_;rintro e Z ⟨rfl,F⟩;have R:=zA (aW b.out F);clear F)
   go_ret;refine⟨?_,R.out⟩;rw[pI p.out];rfl
end
def eU.l0:Nat->Int->Int->Int->Int->List (S83)->Option (Int)
 |0,_,_,_,_,_=>none
 |k+1,x1,e,a,b,g=>if a<b then(if a=x1 then(eU.l0 k x1 e (wrap64 (a+1)) b g) else((cT.f k b g a x1).bind fun t160=>(eU.l0 k x1 (wrap64 (e+t160)) (wrap64 (a+1)) b g))) else(some e)
def eU.f (k:Nat) (a:Int) (b:List (S83)) (e:Int):Option (Int):=eU.l0 k e 0 0 a b
theorem eU.calls (k:Nat) (b:Int) (n:Option Addr) (o:Nat) (a:List (S83)) (j:Int) (r:Int) (w:World) (y:Kd.C aN w n a.length a) (z:a.length<=o) (h:eU.f k b a j=some r):
  Calls Tryz.prog 144 #[.agg #[.int .i64 b,.slice n a.length o],.int .i64 j] w fun e w'=>e= .returned (.int .i64 r)/\Below w.heap.size w w':=by
 have M:=Tryz.underlying24;have E:=zA y;have F:=zA z;clear y z;have l:=zA (aq w.heap.size w);have H:(eU.l0 k j 0 0 b a)=some r:=h;clear h;have m:=zA H;clear H;go_enter Tryz.func144,Tryz.ntmps144
 go_wp2_with (first|((with_reducible refine aU (N:=2) rfl ?_);refine zX 2 #[.int .i64 b,.slice n a.length o] 24 ?_;intro G u w3 B hb;have g:=zA (B);have O:=zG l u;have P:=zG l u;replace l:=zS l hb;clear hb B u))
 go_loopg [5,6] k (fun D v5 v6 w'=>∃(p:Int) (i:Int),v5= .int .i64 p/\v6= .int .i64 i/\Aside0 (eU.l0 D j p i b a=some r)/\Aside0 (D<=k)/\Aside0 (w'.heap[G]? =some (.cells #[.int .i64 b,(.slice n a.length o)] 24 (0,0)))/\Aside0 (Below w.heap.size w w'))
 case atStart=>exact⟨(0),(0),zT,zT,m,⟨aI _⟩,⟨zK g⟩,⟨zB⟩⟩
 case round=>
  clear m;obtain⟨p,i,rfl,rfl,v,s,g,l⟩:=hrel;cases gk with
  |zero=>exact absurd v.out (by simp[eU.l0])
  |succ x=>
   have H:=v.out;clear v;simp only[eU.l0] at H;by_cases c4:i<b
   ·rw[if_pos c4] at H
    have I:=ay c4;clear c4;by_cases q:i=j
    ·rw[if_pos q] at H
     obtain⟨J,K⟩:=bT q;clear q;have m:=zA H;clear H;obtain⟨Q,R,S,T⟩:=aA g;go_wp2;go_roundg x
     case measure=>have:=s.out;omega
     case rel=>exact⟨(p),(wrap64 (i+1)),zT,zT,m,⟨by have:=s.out;omega⟩,⟨zK g⟩,⟨zB⟩⟩
    ·rw[if_neg q] at H
     obtain⟨J,K⟩:=bU q;obtain⟨t160,L,H⟩:=zo H;have m:=zA H;clear H;obtain⟨U,V,W,X⟩:=aA g;go_wp2_with (first|((with_reducible refine aJ (f:=147) rfl ?_);refine zL (some 20) Tryz.func147 #[.agg #[.int .i64 b,.slice n a.length o],.int .i64 i,.int .i64 j] ?_;(with_reducible refine(cT.calls x b _ _ a i j t160 _ ?al ?aj L.out).mono ?_);(case al=>exact Kd.ax E.out zB);(case aj=>exact F.out);rintro e Y ⟨rfl,hb⟩;refine⟨_,rfl,?_⟩;replace g:=zb g hb;replace l:=zS l hb;(try clear hb)))
     go_roundg x
     case measure=>have:=s.out;omega
     case rel=>exact⟨(wrap64 (p+t160)),(wrap64 (i+1)),zT,zT,m,⟨by have:=s.out;omega⟩,⟨zK g⟩,⟨zB⟩⟩
   ·rw[if_neg c4] at H
    have I:=aZ c4;clear c4;obtain rfl:=aQ H;obtain⟨Z,aa,ab,ad⟩:=aA g;go_wp2;go_ret;exact⟨zE,zB⟩
section
theorem wJ (A0:Option Addr) (c0:Nat) (d:List Int) (v:Nat) (x:Int) (w:World) (l:Kd.C (Kd.int .i64) w A0 d.length d) (y:v<d.length) (hd:d.length<=1000):
  Calls Tryz.prog 100 #[.slice A0 d.length c0,.int .i64 v,.int .i64 x] w fun e w'=>∃go a,e= .returned (.slice (some ⟨go,0,none⟩) d.length a)/\(Kd.int .i64).R 3 w' w.heap.size (fun _=>True) (.slice (some ⟨go,0,none⟩) d.length a) (d.set v (wrap64 (rd d v+x)))/\Below w.heap.size w w':=by
 have m:(0:Int)<=(v:Int):=by omega
 have n:(v:Int)<(d.length:Int):=by omega
 go_enter Tryz.func100,Tryz.ntmps100
 go_upto_region 2 with (at_builtin;refine Kd.oE (w0:=w) (Value.int .i64) (0:Int) (h1:=fun _=>rfl) w.heap.size rfl (.tmp 8) (.tmp 9) 25 3 (.int .i64 0) 8 rfl Tryz.underlying25 gz rfl (by decide) (.slice (some ⟨w.heap.size,0,none⟩) 0 0) [] d A0 d.length c0 (fun _=>True) rfl rfl (fun _ _=>trivial) (o9 w _ trivial 3) (Kd.ax l (ao (aq _ _) _)) (ao (aq _ _) _) (by simp) (by simp;omega) ?_;intro v1 w1 b hb o _;rw[List.nil_append] at b;obtain⟨go,a,rfl⟩:=vA b (by omega);have h:Aside0 ((Kd.int .i64).R 3 w1 w.heap.size (fun _=>True) (.slice (some ⟨go,0,none⟩) d.length a) d):=⟨b⟩;have q:=zA hb;clear b hb o)
 obtain⟨g,r⟩:=Kd.bO (0:Int) h.out (v:Int) m n;rw[show bM 0 d (v:Int)=rd d (v:Int) from rfl,aG] at g;rw[aG] at r;have s:w.heap.size<=go:=Kd.dK h.out go rfl;have i:=Kd.dh h.out (v:Int) (wrap64 (rd d (v:Int)+x));rw[aG] at i;have k:=zA i.1;clear i;obtain⟨z,j⟩:∃z,z=rd d (v:Int):=⟨_,rfl⟩;rw[<-j] at g k;have u:=zA j;clear j;replace g:w1.cell? ⟨go,v,none⟩=some (.int .i64 z):=g;go_wp2;go_ret;exact⟨_,_,rfl,by rw[<-u.out];exact k.out,Below.setCell (p:=⟨go,v,none⟩) q.out s _⟩
def eV (n q:Nat) (vl:Nat->Int) (v:Nat):List Int:=(List.range n).map fun u=>if u<v/\u≠q then wrap64 (vl u-1) else 0
theorem wK (n q:Nat) (vl:Nat->Int) (v:Nat):(eV n q vl v).length=n:=by simp[eV]
theorem E6 (n q:Nat) (vl:Nat->Int):List.replicate n (0:Int)=eV n q vl 0:=by
 refine List.ext_getElem (by simp[eV]) fun i h1 a=>?_
 simp[eV]
theorem E7 {n q:Nat} {vl:Nat->Int}:eV n q vl (q+1)=eV n q vl q:=by
 unfold eV;refine List.map_congr_left fun u _=>?_
 by_cases e:u=q
 ·simp[e]
 ·by_cases h:u<q
  ·rw[if_pos ⟨by omega,e⟩,if_pos ⟨h,e⟩]
  ·rw[if_neg (by omega),if_neg (by omega)]
theorem E8 {n q v:Nat} {vl:Nat->Int} (b:v<n) (a:v≠q):(eV n q vl v).set v (wrap64 (vl v-1))=eV n q vl (v+1):=by
 unfold eV;refine List.ext_getElem (by simp) fun i h1 g=>?_
 rw[List.getElem_set];simp only[List.getElem_map,List.getElem_range];by_cases e:v=i
 ·subst e;rw[if_pos rfl,if_pos ⟨by omega,a⟩]
 ·rw[if_neg e]
  by_cases h:i<v/\i≠q
  ·rw[if_pos h,if_pos ⟨by omega,h.2⟩]
  ·rw[if_neg h,if_neg (by omega)]
theorem E9 (k n q:Nat) (A0:Option Addr) (c0:Nat) (E:List S83) (vl:Nat->Int) (w:World) (G:Kd.C aN w A0 E.length E) (H:E.length<=c0) (hn:n<=1000) (o:∀v:Nat,v<n->eU.f k n E v=some (vl v)):
  Calls Tryz.prog 150 #[.agg #[.int .i64 n,.slice A0 E.length c0],.int .i64 q] w fun e w'=>∃go r,e= .returned (.slice (some ⟨go,0,none⟩) n r)/\(Kd.int .i64).R 3 w' w.heap.size (fun _=>True) (.slice (some ⟨go,0,none⟩) n r) (eV n q vl n)/\Below w.heap.size w w':=by
 have hu:=Tryz.underlying24;obtain⟨zs,I,s⟩:=lH 25 Tryz.underlying25 n hn;have J:=zA o;have u:=zA (au (a7 w (.cells #[.int .i64 n,.slice A0 E.length c0] 24)) (.cells zs 3));have j:=s (w.alloc (.cells #[.int .i64 n,.slice A0 E.length c0] 24)) (fun _=>True) trivial;rw[World.size_alloc] at j;have y:Aside0 ((Kd.int .i64).R 3 ((w.alloc (.cells #[.int .i64 n,.slice A0 E.length c0] 24)).alloc (.cells zs 3)) w.heap.size (fun _=>True) (.slice (some ⟨w.heap.size+1,0,none⟩) n n) (eV n q vl 0)):=⟨by rw[<-E6];exact Kd.bd j (by omega)⟩;have W:(0:Int)<=(n:Int):=by omega
 have K:(w.alloc (.cells #[.int .i64 n,.slice A0 E.length c0] 24)).cell? ⟨w.heap.size,0,none⟩=some (.int .i64 n):=(ah (a7 _ _) 0).trans rfl;clear o s j;go_enter Tryz.func150,Tryz.ntmps150
 go_wp2;clear K I;go_loopg [6] (n) (fun L i wr=>∃v:Nat,v<=n/\i= .int .i64 v/\Aside0 ((Kd.int .i64).R 3 wr w.heap.size (fun _=>True) (.slice (some ⟨w.heap.size+1,0,none⟩) n n) (eV n q vl v))/\Aside0 (Below w.heap.size w wr)/\Aside0 (wr.heap[w.heap.size]? =some (.cells #[.int .i64 n,.slice A0 E.length c0] 24 (0,0)))/\Aside0 (L=n-v))
 case atStart=>exact⟨0,Nat.zero_le _,rfl,y,⟨ao (ao (aq _ _) _) _⟩,u,⟨rfl⟩⟩
 case round=>
  clear y u;obtain⟨v,X,rfl,l,b,g,z⟩:=hrel;have M:wr.cell? ⟨w.heap.size,0,none⟩=some (.int .i64 n):=(ah g.out 0).trans rfl;have N:wr.cell? ⟨w.heap.size,1,none⟩=some (.slice A0 E.length c0):=(ah g.out 1).trans rfl;have O:(0:Int)<=(v:Int):=by omega
  by_cases B:v<n
  ·have Y:(v:Int)<(n:Int):=by omega
   by_cases a:v=q
   ·have P:((v:Int) != (q:Int))=false:=by simp[a]
    have h:=zA (show eV n q vl (v+1)=eV n q vl v by rw[a];exact E7);clear a;go_wp2;go_roundg (n- (v+1))
    case measure=>rw[z.out];omega
    case rel=>exact⟨v+1,by omega,by go_num,⟨by rw[h.out];exact l.out⟩,b,g,⟨rfl⟩⟩
   ·have P:((v:Int) != (q:Int))=true:=by simp;omega
    have h:=zA (E8 (vl:=vl) B a);have D:=zA (J.out v B);generalize vl v=x at h D;clear a;go_wp2_with (go_at_call 144;refine(eU.calls k n A0 c0 E v x _ (Kd.ax G b.out) H D.out).mono ?_;rintro e w1 ⟨rfl,hb⟩;have Q:=zA (aW b.out hb);have S:=zA (aD g.out hb);have F:=zA (Kd.cY l.out hb);obtain⟨T,U⟩:=Kd.bO (0:Int) F.out (v:Int) O (by first|omega|(rw[wK];omega));rw[aG] at T U;have m:=Kd.dh F.out (v:Int) (wrap64 (x-1));rw[aG,h.out] at m;have V:=zA m.1;clear hb m M N)
    go_roundg (n- (v+1))
    case measure=>rw[z.out];omega
    case rel=>exact⟨v+1,by omega,by go_num,V,⟨Below.setCell (p:=⟨w.heap.size+1,v,none⟩) Q.out (by show w.heap.size<=w.heap.size+1;omega) _⟩,⟨aE S.out (by show w.heap.size≠w.heap.size+1;omega) _⟩,⟨rfl⟩⟩
  ·obtain rfl:v=n:=by omega
   go_wp2;go_ret;exact⟨_,_,rfl,l.out,b.out⟩
section
variable {w w':World} {gb c0 m:Nat} {n:Int} {A0:Option Addr} {a:Addr} {x:Value}
theorem GD.mk (b:w'.heap[gb]? =some (.cells #[.int .i64 n,.slice A0 m c0] 24 (0,0))) (e:w'.cell? a=some x) (hb:Below w.heap.size w w'):
  w'.heap[gb]? =some (.cells #[.int .i64 n,.slice A0 m c0] 24 (0,0))/\w'.cell? ⟨gb,0,none⟩=some (.int .i64 n)/\w'.cell? ⟨gb,1,none⟩=some (.slice A0 m c0)/\w'.cell? a=some x/\Below w.heap.size w w':=
 ⟨b,(ah b 0).trans rfl,(ah b 1).trans rfl,e,hb⟩
theorem GD.step {w2:World} (e:w'.heap[gb]? =some (.cells #[.int .i64 n,.slice A0 m c0] 24 (0,0))) (g:w'.cell? a=some x) (hb:Below w.heap.size w w') (b:Below w'.heap.size w' w2):
  w2.heap[gb]? =some (.cells #[.int .i64 n,.slice A0 m c0] 24 (0,0))/\w2.cell? ⟨gb,0,none⟩=some (.int .i64 n)/\w2.cell? ⟨gb,1,none⟩=some (.slice A0 m c0)/\w2.cell? a=some x/\Below w.heap.size w w2:=
 GD.mk (aD e b) (fU b g) (aW hb b)
end
def fu (m:Nat) (L:List (List Int)) (j:Nat):List (List Int):=(L.take j).flatMap fun p=>(List.range (m+1)).map fun (x:Nat)=>p++[(x:Int)]
theorem wL {m:Nat} {L:List (List Int)} {j:Nat} (a:j<L.length):fu m L (j+1)=fu m L j++(List.range (m+1)).map fun (x:Nat)=>L.getD j []++[(x:Int)]:=by
 unfold fu;rw[List.take_succ_eq_append_getElem a,List.flatMap_append,aX,bB a];simp
theorem rT (m:Nat) (L:List (List Int)):∀j,(fu m L j).length<=j*(m+1)
 |0=>by simp[fu]
 |j+1=>by
  by_cases h:j<L.length
  ·rw[wL h,List.length_append,List.length_map,List.length_range,Nat.succ_mul]
   have:=rT m L j;omega
  ·have e:fu m L (j+1)=fu m L j:=by unfold fu;rw[List.take_of_length_le (by omega),List.take_of_length_le (by omega)]
   rw[e,Nat.succ_mul];have:=rT m L j;omega
theorem E_ (W:World) (base:Nat) (hb:base<=W.heap.size):(Kd.slice 3 (Kd.int .i64)).R 25 (W.alloc (.cells #[.slice none 0 0] 25)) base (fun _=>True) (.slice (some ⟨W.heap.size,0,none⟩) 1 1) [[]]:=
 ⟨fun _ _=>trivial,[.slice none 0 0],World.ownsRow_lit (base:=base) (e:=25) (size:=1) W #[.slice none 0 0] 1 hb (by decide) rfl,aT.front (c:=[.slice none 0 0]) (cs:=[]) (Kd.lu (e:=3) (Kd.dm _ _ _ _ _)) rfl (aT.none _ _) rfl⟩
theorem Fa (k n q:Nat) (A0:Option Addr) (c0:Nat) (E:List S83) (vl:Nat->Int) (b:Nat->Nat) (w:World) (ab:Kd.C aN w A0 E.length E) (a3:E.length<=c0) (hn:n<=12) (hq:q<n) (a4:∀u v:Nat,u<n->v<n->u≠v->cT.f k n E u v=some (ae E u v)) (a5:∀v:Nat,v<n->eU.f k n E v=some (vl v))
  (hm:∀v:Nat,v<n->rd (eV n q vl n) v=(b v:Int)/\b v<=1000) (hlen:∀v:Nat,v<=n->(de b v).length<=100000):
  Calls Tryz.prog 99 #[.agg #[.int .i64 n,.slice A0 E.length c0],.int .i64 q] w fun e w'=>∃v,e= .returned v/\Kd.N (Kd.slice 3 (Kd.int .i64)) 25 w' w.heap.size (fun k=>w.heap.size<=k) v ((de b n).filter (gu (ae E) n q))/\Below w.heap.size w w':=by
 have hu:=Tryz.underlying24;have ce:Aside0 (∀(A1:Option Addr) (c1:Nat) (d:List Int) (W:World),Below w.heap.size w W->d.length=n->Kd.C (Kd.int .i64) W A1 d.length d->_):=⟨fun A1 c1 d W hW hd hC=>E5 k n q A0 c0 E A1 c1 d W (Kd.ax ab hW) a3 hC hn hq hd a4⟩;have a9:Aside0 (∀W,Below w.heap.size w W->_):=⟨fun W hW=>E9 k n q A0 c0 E vl W (Kd.ax ab hW) a3 (by omega) a5⟩;have HM:=zA hm;have cf:=zA hlen;have cg:=zA (wK n q vl n);have HX:=zA (a7 w (.cells #[.int .i64 n,.slice A0 E.length c0] 24));have b0:(w.alloc (.cells #[.int .i64 n,.slice A0 E.length c0] 24)).cell? ⟨w.heap.size,0,none⟩=some (.int .i64 n):=(ah HX.out 0).trans rfl;clear a4 a5 hm hlen ab;generalize eV n q vl n=top at a9 HM cg;go_enter Tryz.func99,Tryz.ntmps99
 go_upto_region 3 with (go_at_call 150;refine(a9.out _ (ao (aq _ _) _)).mono ?_;rintro e w1 ⟨gt,ct,rfl,hR,hb⟩;have ci:=zA hR;have B:=zA (aW (ao (aq w.heap.size w) _) hb);have bi:=zA (aD HX.out hb);clear hR hb b0)
 have bk:=zA (E_ w1 w1.heap.size (aI _));have bn:=zA (ao (aq w1.heap.size w1) (.cells #[.slice none 0 0] 25));go_wp2;go_loopg [6,7] (n) (fun D ls i wr=>∃v:Nat,v<=n/\i= .int .i64 v/\Aside0 (Below w1.heap.size w1 wr)/\Aside0 ((Kd.slice 3 (Kd.int .i64)).R 25 wr w1.heap.size (fun _=>True) ls (de b v))/\Aside0 (D=n-v))
 case atStart=>exact⟨0,Nat.zero_le _,rfl,bn,bk,⟨rfl⟩⟩
 case round=>
  clear bk bn;obtain⟨v,cj,rfl,o,K,HK⟩:=hrel;have HG:=zA (aD bi.out o.out);have y0:wr.cell? ⟨w.heap.size,0,none⟩=some (.int .i64 n):=(ah HG.out 0).trans rfl;have y1:wr.cell? ⟨w.heap.size,1,none⟩=some (.slice A0 E.length c0):=(ah HG.out 1).trans rfl;have ck:(0:Int)<=(v:Int):=by omega
  obtain⟨Al,cl,M⟩:=Kd.bh K.out;have an:=cf.out v cj;by_cases co:v<n
  ·have cq:(v:Int)<(n:Int):=by omega
   have ap:=zA (show de b (v+1)=fu (b v) (de b v) (de b v).length by unfold fu;rw[List.take_length];rfl);have ar:=HM.out v co;have cr:=ar.2;have bw:=zA ar.1;clear ar;have O:=zA (fun p hp=>kM b v p hp);generalize cs:b v=m at ap cr bw;clear cs;generalize de b v=L at K M an ap O;subst M;go_wp2;obtain⟨a,av⟩:∃x,x=wr:=⟨_,rfl⟩;subst av;go_loopg [8,9] (L.length) (fun D nx i wi=>∃j:Nat,j<=L.length/\i= .int .i64 j/\Aside0 (Below a.heap.size a wi)/\Aside0 ((Kd.slice 3 (Kd.int .i64)).R 25 wi a.heap.size (fun _=>True) nx (fu m L j))/\Aside0 (D=L.length-j))
   case atStart=>exact⟨0,Nat.zero_le _,rfl,⟨aq _ _⟩,⟨by unfold fu;simpa using Kd.dm _ _ _ _ _⟩,⟨rfl⟩⟩
   case round=>
    obtain⟨j,hj,rfl,s,g,U⟩:=hrel;have cx:(0:Int)<=(j:Int):=by omega
    by_cases z:j<L.length
    ·have c3:(j:Int)<(L.length:Int):=by omega
     have bx:=zA (wL (m:=m) z);go_wp2;go_loopg [8,10] (m+1) (fun D nx i wk=>∃x:Nat,x<=m+1/\i= .int .i64 x/\Aside0 (Below a.heap.size a wk)/\Aside0 ((Kd.slice 3 (Kd.int .i64)).R 25 wk a.heap.size (fun _=>True) nx (fu m L j++(List.range x).map fun (y:Nat)=>L.getD j []++[(y:Int)]))/\Aside0 (D=m+1-x))
     case atStart=>exact⟨0,Nat.zero_le _,rfl,s,⟨by simpa using g.out⟩,⟨rfl⟩⟩
     case round=>
      clear g s;obtain⟨x,hx,rfl,P,g,c4⟩:=hrel;have eb:(0:Int)<=(x:Int):=by omega
      obtain⟨yt, -⟩:=Kd.bO (0:Int) (Kd.cY ci.out (o.out.trans (P.out.mono o.out.size))) (v:Int) ck cq;rw[show bM 0 top (v:Int)=rd top (v:Int) from rfl,bw.out,aG] at yt;replace yt:wr.cell? ⟨gt,v,none⟩=some (.int .i64 m):=yt;by_cases ed:x<m+1
      ·have eg:(x:Int)<=(m:Int):=by omega
       have F:(L.getD j []).length<=1000:=by rw[O.out _ (by rw[aX,bB z];exact List.getElem_mem z)];omega
       have c5:(fu m L j).length<=100100000:=Nat.le_trans (rT m L j) (Nat.mul_le_mul (show j<=100000 by omega) (show m+1<=1001 by omega));have Q:Aside0 (((fu m L j++(List.range x).map fun (y:Nat)=>L.getD j []++[(y:Int)]).length+1)*24<=140737488355328):=⟨by rw[List.length_append,List.length_map,List.length_range];omega⟩;have aL:=zA (show (fu m L j++(List.range (x+1)).map fun (y:Nat)=>L.getD j []++[(y:Int)])=(fu m L j++(List.range x).map fun (y:Nat)=>L.getD j []++[(y:Int)])++[L.getD j []++[(x:Int)]] by rw[List.range_succ,List.map_append,<-List.append_assoc];rfl);obtain⟨gl,G,H,rfl,z1,z2,z3⟩:=j4 (Kd.dF (Kd.jP K.out) P.out) j z;generalize (fu m L j++(List.range x).map fun (y:Nat)=>L.getD j []++[(y:Int)])=NX at g Q aL;clear c5 bx;generalize b2:L.getD j []=p at z1 z2 z3 aL F;have c6:=zA b2;clear b2;have c7:=zA (Kd.ax (Kd.fF z3) (ao (aq _ _) (.cells #[] 3)));obtain⟨S,T,aP⟩:=Kd.bh g.out;subst aP;have aR:Aside0 (∀k,wr.heap.size<=k->True/\some k≠(Value.slice S NX.length T).ownBlock):=⟨fun k hk=>⟨trivial,fun e=>by have:=Kd.ba g.out k e.symm;omega⟩⟩;have z4:=fU (ao (aq wr.heap.size wr) (.cells #[] 3)) z1;clear z3;go_wp2_with (first
        |(at_builtin;refine Kd.oE (w0:=wr) (Value.int .i64) (0:Int) (h1:=fun _=>rfl) wr.heap.size rfl (.tmp 38) (.tmp 42) 25 3 (.int .i64 0) 8 rfl Tryz.underlying25 gz rfl (by decide) (.slice (some ⟨wr.heap.size,0,none⟩) 0 0) [] p G p.length H (fun _=>True) rfl rfl (fun _ _=>trivial) (o9 wr _ trivial 3) c7.out (ao (aq _ _) _) (by simp) (by simp;omega) ?_;intro v1 w5 l hb I _;rw[List.nil_append] at l;have c9:Aside0 ((Kd.int .i64).R 3 w5 wr.heap.size (fun _=>True) v1 p):=⟨l⟩;have b3:=zA hb;clear l hb I)
        |(at_builtin;refine Kd.l9 (Kd.int .i64) (w0:=wr) wr.heap.size rfl (.tmp 43) (.tmp 45) 25 3 (.int .i64 0) 8 rfl Tryz.underlying25 gz rfl (by decide) (by omega) v1 p (x:Int) [.int .i64 x] (fun _=>True) (fun _=>False) rfl rfl rfl (fun _ hk=>hk.elim) (fun _ _=>trivial) c9.out b3.out b3.out.size (by omega) ?_;intro v2 w6 l hb I _;obtain⟨A2,c2,b4⟩:=Kd.bh l;rw[List.length_append,List.length_singleton] at b4;subst b4;have dd:=zA (Kd.lu (Kd.bd (base':=a.heap.size) (Kd.a_ (ok':=fun k=>wr.heap.size<=k) (Kd.ef l) (fun k hk=>hk.2.1)) P.out.size));have b5:=zA (aW P.out hb);have dk:=zA (Kd.cY g.out hb);clear l hb I)
        |(at_builtin;refine Kd.l9 (Kd.slice 3 (Kd.int .i64)) (w0:=a) a.heap.size rfl (.tmp 37) (.tmp 47) 73 25 (.slice none 0 0) 24 rfl Tryz.underlying73 jU rfl (by decide) (by omega) (.slice S NX.length T) NX (p++[(x:Int)]) [.slice A2 (p.length+1) c2] (fun _=>True) (fun k=>wr.heap.size<=k) rfl rfl dd.out aR.out (fun _ _=>trivial) dk.out b5.out b5.out.size Q.out ?_;intro v3 w7 l hb I _;have dl:=zA l;have ds:=zA hb;clear l hb I))
       go_roundg (m+1- (x+1))
       case measure=>rw[c4.out];omega
       case rel=>exact⟨x+1,by omega,by go_num,ds,⟨by rw[c6.out,aL.out];exact dl.out⟩,⟨rfl⟩⟩
      ·obtain rfl:x=m+1:=by omega
       go_wp2;go_roundg (L.length- (j+1))
       case measure=>rw[U.out];omega
       case rel=>exact⟨j+1,by omega,by go_num,P,⟨by rw[bx.out];exact g.out⟩,⟨rfl⟩⟩
    ·obtain rfl:j=L.length:=by omega
     go_wp2;go_roundg (n- (v+1))
     case measure=>rw[HK.out];omega
     case rel=>exact⟨v+1,by omega,by go_num,⟨o.out.trans (s.out.mono o.out.size)⟩,⟨by rw[ap.out];exact Kd.bd g.out o.out.size⟩,⟨rfl⟩⟩
  ·have V:v=n:=by omega
   have X:=zA K.out;rw[V] at X;have b6:=an;rw[V] at b6;have O:=zA (fun p hp=>kM b n p hp);rw[V] at M;clear an K HK V;generalize b_:de b n=L at X b6 O M;have dv:=zA b_;clear b_;subst M;go_wp2;obtain⟨a,av⟩:∃x,x=wr:=⟨_,rfl⟩;subst av;have dx:=zA (Kd.jP (Kd.a_ (ok':=fun k=>w1.heap.size<=k/\k<a.heap.size) (Kd.ef X.out) (fun k hk=>⟨hk.2.1,hk.2.2.1⟩)));clear X y0 y1;go_loopg [11,12] (L.length) (fun D ou i wi=>∃j:Nat,j<=L.length/\i= .int .i64 j/\Aside0 (Below a.heap.size a wi)/\Aside0 (Kd.N (Kd.slice 3 (Kd.int .i64)) 25 wi a.heap.size (fun k=>w.heap.size<=k) ou ((L.take j).filter (gu (ae E) n q)))/\Aside0 (D=L.length-j))
   case atStart=>exact⟨0,Nat.zero_le _,rfl,⟨aq _ _⟩,⟨Kd.fV _ _ _ _ _⟩,⟨rfl⟩⟩
   case round=>
    obtain⟨j,hj,rfl,s,g,U⟩:=hrel;have cx:(0:Int)<=(j:Int):=by omega
    by_cases z:j<L.length
    ·have c3:(j:Int)<(L.length:Int):=by omega
     have b':L.getD j []∈L:=by rw[aX,bB z];exact List.getElem_mem z
     have F:=O.out _ b';have J:=zA (show (L.take (j+1)).filter (gu (ae E) n q)=(L.take j).filter (gu (ae E) n q)++(if gu (ae E) n q (L.getD j [])=true then[L.getD j []] else[]) by
      rw[List.take_succ_eq_append_getElem z,List.filter_append,aX,bB z];congr 1
      by_cases h:gu (ae E) n q L[j]=true
      ·simp[h]
      ·simp[h])
     have Q:Aside0 ((((L.take j).filter (gu (ae E) n q)).length+1)*24<=140737488355328):=⟨by have h1:=List.length_filter_le (gu (ae E) n q) (L.take j);have h2:=List.length_take_le j L;omega⟩;obtain⟨gl,G,H,rfl,z1,z2,z3⟩:=j4 (Kd.dF dx.out s.out) j z;generalize (L.take j).filter (gu (ae E) n q)=NX at g J Q;generalize L.getD j []=p at F z1 z2 z3 J;clear b';have ca:=zA z3;have d1:=zA z2;have d2:=zA F;rw[F] at z1;have cb:=zA ((B.out.trans (o.out.mono B.out.size)).trans (s.out.mono (Nat.le_trans B.out.size o.out.size)));have Y:=zA (aD (aD bi.out o.out) s.out);have a0:Aside0 (∀W,Below a.heap.size a W->Below wr.heap.size wr W->Calls Tryz.prog 151 #[.agg #[.int .i64 n,.slice A0 E.length c0],.int .i64 q,.slice G n H] W fun e w'=>e= .returned (.bool (gu (ae E) n q p))/\Below W.heap.size W w'):=⟨fun W h1 h2=>ce.out G H p W (aW cb.out h2) F (Kd.ax (Kd.fF ca.out) h2)⟩;have d3:=zA z1;have y0:wr.cell? ⟨w.heap.size,0,none⟩=some (.int .i64 n):=(ah Y.out 0).trans rfl;have y1:wr.cell? ⟨w.heap.size,1,none⟩=some (.slice A0 E.length c0):=(ah Y.out 1).trans rfl;clear z2 z3 F;generalize gu (ae E) n q p=r at a0 J;go_upto_region 19 with (fail)
     go_region_held3 (fun w'=>w'.heap[w.heap.size]? =some (.cells #[.int .i64 n,.slice A0 E.length c0] 24 (0,0))/\w'.cell? ⟨w.heap.size,0,none⟩=some (.int .i64 n)/\w'.cell? ⟨w.heap.size,1,none⟩=some (.slice A0 E.length c0)/\w'.cell? ⟨gl,j,none⟩=some (.slice G n H)/\Below wr.heap.size wr w')
      (first
       |exact GD.mk (eZ Y.out) d3.out (bR (aq _ _))
       |((try go_split_ands);refine⟨by assumption,by assumption,by assumption,by assumption,by assumption⟩)
       |((try go_split_ands);exact GD.step (by assumption) (by assumption) (by assumption) (by assumption))
       |fail)
      ((go_at_call 151;refine(a0.out _ (aW s.out (by go_split_ands;assumption)) (by go_split_ands;assumption)).mono ?_;rintro e w8 ⟨rfl,hB⟩))
     rename_i hHeld;have Z:Aside0 (Below wr.heap.size wr w8):=⟨by go_split_ands;assumption⟩;have z8:w8.cell? ⟨gl,j,none⟩=some (.slice G n H):=by go_split_ands;assumption
     have a2:=zA (aW s.out Z.out);have aa:=zA (Kd.dF g.out Z.out);clear hHeld hB a0 z1 Y y0 y1;cases r with
     |false=>
      rw[if_neg (by decide),List.append_nil] at J;go_wp2;go_roundg (L.length- (j+1))
      case measure=>rw[U.out];omega
      case rel=>exact⟨j+1,by omega,by go_num,a2,⟨by rw[J.out];exact aa.out⟩,⟨rfl⟩⟩
     |true=>
      rw[if_pos rfl] at J;obtain⟨S,T,aP, -⟩:=Kd.kG aa.out;subst aP;have cc:=zA (Kd.oQ (e:=3) d1.out (Kd.kC ca.out Z.out));rw[d2.out] at cc;have aR:Aside0 (∀k,(w1.heap.size<=k/\k<a.heap.size)->w.heap.size<=k/\some k≠(Value.slice S NX.length T).ownBlock):=⟨fun k hk=>⟨Nat.le_trans B.out.size hk.1,fun e=>by have:=Kd.tV aa.out k e.symm;omega⟩⟩;have d5:Aside0 (∀k,w8.heap.size<=k->w.heap.size<=k):=⟨fun k hk=>Nat.le_trans cb.out.size (Nat.le_trans Z.out.size hk)⟩;go_wp2_with (at_builtin;refine Kd.oN (Kd.slice 3 (Kd.int .i64)) (w0:=a) a.heap.size rfl (.tmp 63) (.tmp 68) 73 25 (.slice none 0 0) 24 rfl Tryz.underlying73 jU rfl (by decide) (by omega) (.slice S NX.length T) NX p [.slice G n H] (fun k=>w.heap.size<=k) (fun k=>w1.heap.size<=k/\k<a.heap.size) rfl rfl cc.out aR.out d5.out aa.out a2.out a2.out.size Q.out ?_;intro v3 w9 l hb I _;have d6:=zA l;have d7:=zA hb;clear l hb I)
      go_roundg (L.length- (j+1))
      case measure=>rw[U.out];omega
      case rel=>exact⟨j+1,by omega,by go_num,d7,⟨by rw[J.out];exact d6.out⟩,⟨rfl⟩⟩
    ·obtain rfl:j=L.length:=by omega
     go_wp2;go_ret;refine⟨_,rfl,?_,(B.out.trans (o.out.mono B.out.size)).trans (s.out.mono (Nat.le_trans B.out.size o.out.size))⟩;have h:=g.out;rw[List.take_length,<-dv.out] at h;exact Kd.kF h (Nat.le_trans B.out.size o.out.size)
end
def fO.l0:Nat->List Int->Int->Int->Option (Int)
 |0,_,_,_=>none
 |k+1,a,x3,x4=>if x4<(a.length:Int) then(if 0<=x4 then(fO.l0 k a (wrap64 (x3+(rd a x4))) (wrap64 (x4+1))) else(none)) else(some x3)
def fO.f (k:Nat) (l0:List Int):Option (Int):=fO.l0 k l0 0 0
theorem fO.calls (k:Nat) (A0:Option Addr) (c0:Nat) (l0:List Int) (r:Int) (w:World) (m:Kd.C (Kd.int .i64) w A0 l0.length l0) (n:l0.length<=c0) (h:fO.f k l0=some r):
  Calls Tryz.prog 22 #[.slice A0 l0.length c0] w fun e w'=>e= .returned (.int .i64 r)/\az w w':=by
 have q:=zA m;have x:=zA n;clear m n;have H:(fO.l0 k l0 0 0)=some r:=h;clear h;have b:=zA H;clear H;go_enter Tryz.func22,Tryz.ntmps22
 go_wp2;go_loopg [3,4] k (fun o v3 v4 w'=>∃(g:Int) (a:Int),v3= .int .i64 g/\v4= .int .i64 a/\Aside0 (fO.l0 o l0 g a=some r)/\Aside0 (o<=k)/\az w w')
 case atStart=>exact⟨(0),(0),zT,zT,b,⟨aI _⟩,by repeat(first|exact az.refl _|apply az.step)⟩
 case round=>
  clear b;obtain⟨g,a,rfl,rfl,i,p,⟨m1,rfl⟩⟩:=hrel;cases gk with
  |zero=>exact absurd i.out (by simp[fO.l0])
  |succ s=>
   have H:=i.out;clear i;simp only[fO.l0] at H;by_cases c2:a<(l0.length:Int)
   ·rw[if_pos c2] at H
    have u:=ay c2;clear c2;by_cases c3:0<=a
    ·rw[if_pos c3] at H
     have y:=ay c3;clear c3;have b:=zA H;clear H;have j:0<=(a:Int):=aw ‹_›;have l:a<(l0.length:Int):=aw ‹_›;obtain⟨z,v,B⟩:=Kd.bJ q.out a j l;cases v;replace j:=eq_true j;replace l:=eq_true l;go_wp2;go_roundg s
     case measure=>have:=p.out;omega
     case rel=>exact⟨(wrap64 (g+(rd l0 a))),(wrap64 (a+1)),zT,zT,b,⟨by have:=p.out;omega⟩,by repeat(first|exact az.refl _|apply az.step)⟩
    ·rw[if_neg c3] at H
     exact absurd H (by simp)
   ·rw[if_neg c2] at H
    have u:=aZ c2;clear c2;obtain rfl:=aQ H;go_wp2;go_ret;exact⟨zT,by repeat(first|exact az.refl _|apply az.step)⟩
def eH.l0:Nat->List Int->Int->Option (Int)
 |0,_,_=>none
 |k+1,a,x3=>if x3<(a.length:Int) then(if 0<=x3 then(if(rd a x3)<0 then(some x3) else(eH.l0 k a (wrap64 (x3+1)))) else(none)) else(some (-1))
def eH.f (k:Nat) (l0:List Int):Option (Int):=eH.l0 k l0 0
theorem eH.calls (k:Nat) (A0:Option Addr) (c0:Nat) (l0:List Int) (r:Int) (w:World) (m:Kd.C (Kd.int .i64) w A0 l0.length l0) (n:l0.length<=c0) (h:eH.f k l0=some r):
  Calls Tryz.prog 145 #[.slice A0 l0.length c0] w fun e w'=>e= .returned (.int .i64 r)/\az w w':=by
 have o:=zA m;have z:=zA n;clear m n;have H:(eH.l0 k l0 0)=some r:=h;clear h;have i:=zA H;clear H;go_enter Tryz.func145,Tryz.ntmps145
 go_wp2;go_loopg [3] k (fun p v3 w'=>∃(a:Int),v3= .int .i64 a/\Aside0 (eH.l0 p l0 a=some r)/\Aside0 (p<=k)/\az w w')
 case atStart=>exact⟨(0),zT,i,⟨aI _⟩,by repeat(first|exact az.refl _|apply az.step)⟩
 case round=>
  clear i;obtain⟨a,rfl,j,q,⟨m1,rfl⟩⟩:=hrel;cases gk with
  |zero=>exact absurd j.out (by simp[eH.l0])
  |succ s=>
   have H:=j.out;clear j;simp only[eH.l0] at H;by_cases c2:a<(l0.length:Int)
   ·rw[if_pos c2] at H
    have u:=ay c2;clear c2;by_cases c3:0<=a
    ·rw[if_pos c3] at H
     have B:=ay c3;clear c3;by_cases c4:(rd l0 a)<0
     ·rw[if_pos c4] at H
      have v:=ay c4;clear c4;obtain rfl:=aQ H;have b:0<=(a:Int):=aw ‹_›;have g:a<(l0.length:Int):=aw ‹_›;obtain⟨x,l,y⟩:=Kd.bJ o.out a b g;cases l;replace b:=eq_true b;replace g:=eq_true g;go_wp2;go_ret;exact⟨zT,by repeat(first|exact az.refl _|apply az.step)⟩
     ·rw[if_neg c4] at H
      have v:=aZ c4;clear c4;have i:=zA H;clear H;have b:0<=(a:Int):=aw ‹_›;have g:a<(l0.length:Int):=aw ‹_›;obtain⟨x,l,y⟩:=Kd.bJ o.out a b g;cases l;replace b:=eq_true b;replace g:=eq_true g;go_wp2;go_roundg s
      case measure=>have:=q.out;omega
      case rel=>exact⟨(wrap64 (a+1)),zT,i,⟨by have:=q.out;omega⟩,by repeat(first|exact az.refl _|apply az.step)⟩
    ·rw[if_neg c3] at H
     exact absurd H (by simp)
   ·rw[if_neg c2] at H
    have u:=aZ c2;clear c2;obtain rfl:=aQ H;go_wp2;go_ret;exact⟨zT,by repeat(first|exact az.refl _|apply az.step)⟩
def eI.l0:Nat->List Bool->Int->Option (Bool)
 |0,_,_=>none
 |k+1,a,x3=>if x3<(a.length:Int) then(if 0<=x3 then(if bM false a x3=true then(eI.l0 k a (wrap64 (x3+1))) else(some false)) else(none)) else(some true)
def eI.f (k:Nat) (l0:List Bool):Option (Bool):=eI.l0 k l0 0
theorem eI.calls (k:Nat) (A0:Option Addr) (c0:Nat) (l0:List Bool) (r:Bool) (w:World) (p:Kd.C Kd.bool w A0 l0.length l0) (q:l0.length<=c0) (h:eI.f k l0=some r):
  Calls Tryz.prog 146 #[.slice A0 l0.length c0] w fun e w'=>e= .returned (.bool r)/\az w w':=by
 have s:=zA p;have F:=zA q;clear p q;have H:(eI.l0 k l0 0)=some r:=h;clear h;have i:=zA H;clear H;go_enter Tryz.func146,Tryz.ntmps146
 go_wp2;go_loopg [3] k (fun u v3 w'=>∃(a:Int),v3= .int .i64 a/\Aside0 (eI.l0 u l0 a=some r)/\Aside0 (u<=k)/\az w w')
 case atStart=>exact⟨(0),zT,i,⟨aI _⟩,by repeat(first|exact az.refl _|apply az.step)⟩
 case round=>
  clear i;obtain⟨a,rfl,l,v,⟨m1,rfl⟩⟩:=hrel;cases gk with
  |zero=>exact absurd l.out (by simp[eI.l0])
  |succ x=>
   have H:=l.out;clear l;simp only[eI.l0] at H;by_cases c2:a<(l0.length:Int)
   ·rw[if_pos c2] at H
    have B:=ay c2;clear c2;by_cases c3:0<=a
    ·rw[if_pos c3] at H
     have G:=ay c3;clear c3;obtain⟨y,m⟩:∃D:Bool,D=(bM false l0 a):=⟨_,rfl⟩;replace H:(if y=true then(eI.l0 x l0 (wrap64 (a+1))) else(some false))=some r:=by rw[<-m] at H;exact H
     have z:=zA m;clear m;by_cases j:y=true
     ·subst j
      replace H:=zi H;have i:=zA H;clear H;have b:0<=(a:Int):=aw ‹_›;have g:a<(l0.length:Int):=aw ‹_›;obtain⟨E,n,o⟩:=Kd.jt s.out a b g
      (try rw[<-z.out] at o)
      cases n;replace b:=eq_true b;replace g:=eq_true g;go_wp2;go_roundg x
      case measure=>have:=v.out;omega
      case rel=>exact⟨(wrap64 (a+1)),zT,i,⟨by have:=v.out;omega⟩,by repeat(first|exact az.refl _|apply az.step)⟩
     ·replace j:=Bool.eq_false_iff.mpr j
      subst j;replace H:=zj H;obtain rfl:=aQ H;have b:0<=(a:Int):=aw ‹_›;have g:a<(l0.length:Int):=aw ‹_›;obtain⟨E,n,o⟩:=Kd.jt s.out a b g
      (try rw[<-z.out] at o)
      cases n;replace b:=eq_true b;replace g:=eq_true g;go_wp2;go_ret;exact⟨zT,by repeat(first|exact az.refl _|apply az.step)⟩
    ·rw[if_neg c3] at H
     exact absurd H (by simp)
   ·rw[if_neg c2] at H
    have B:=aZ c2;clear c2;obtain rfl:=aQ H;go_wp2;go_ret;exact⟨zT,by repeat(first|exact az.refl _|apply az.step)⟩
mutual
def bD.l0:Nat->List Int->List Bool->Int->Int->List (S83)->Option (Bool)
 |0,_,_,_,_,_=>none
 |k+1,x1,b,e,g,h=>if e<10000000 then((eH.f k x1).bind fun a=>(if a<0 then(some true) else((eI.f k b).bind fun i=>(if i=true then(some false) else(if 0<=a then(if a<(b.length:Int) then(bD.l1 k x1 (b.set (a:Int).toNat true) e a 0 g h) else(none)) else(none)))))) else(some false)
def bD.l1:Nat->List Int->List Bool->Int->Int->Int->Int->List (S83)->Option (Bool)
 |0,_,_,_,_,_,_,_=>none
 |k+1,x1,h,i,b,a,e,g=>if a<e then(if a=b then(bD.l1 k x1 h i b (wrap64 (a+1)) e g) else(if 0<=a then(if a<(x1.length:Int) then((cT.f k e g a b).bind fun l=>((some (x1.set (a:Int).toNat (wrap64 ((rd x1 a)-l)):List Int)).bind fun j=>(if 0<=b then(if b<(x1.length:Int) then((cT.f k e g a b).bind fun m=>(bD.l1 k (j.set (b:Int).toNat (wrap64 ((rd j b)+m))) h i b (wrap64 (a+1)) e g)) else(none)) else(none)))) else(none)) else(none))) else(bD.l0 k x1 h (wrap64 (i+1)) e g)
end
def bD.f (k:Nat) (a:Int) (e:List (S83)) (l1:List Int):Option (Bool):=(fO.f k l1).bind fun g=>(if g<0 then(some false) else((some (([]:List Int):List Int)).bind fun b=>(if b.length+l1.length<17592186044416 then(if 0<=a then(if(a:Int).toNat<=281474976710656 then(bD.l0 k (b++l1) (List.replicate (a:Int).toNat false) 0 a e) else(none)) else(none)) else(none))))
def bD.wM:Bool×List (List Nat×List Nat):=(true,[([],[]),([],[]),([0,1],[0,1]),([2],[2]),([],[]),([],[]),([],[]),([4,5,6],[4,5,6]),([3,7],[3,7]),([0,1,0,1,2,3,4,5,6,7,8],[0,1]),([9,8,7,0,1,2,3,4,5,6,7,8],[8,9])])
def bD.Fb:List Nat:=[0,0,3,7,0,0,0,112,255,511,1023]
theorem bD.Fc:dX .any (opsOf Tryz.f92 18)=bD.wM:=by kernel_rfl
theorem bD.Fe:lG bD.wM.2 bD.Fb=true:=by kernel_rfl
def bD.wN:Bool×List (List Nat×List Nat):=(true,[([],[]),([],[]),([0,1],[0,1]),([2],[2]),([],[]),([],[]),([],[]),([4,5,6],[4,5,6]),([3,7],[3,7]),([0,1,0,1,2,3,4,5,6,7,8],[0,1]),([9,8,7,0,1,2,3,4,5,6,7,8],[8,9])])
def bD.Ff:List Nat:=[0,0,3,7,0,0,0,112,255,511,1023]
theorem bD.Fg:dX .any (opsOf Tryz.f92 19)=bD.wN:=by kernel_rfl
theorem bD.Fh:lG bD.wN.2 bD.Ff=true:=by kernel_rfl
theorem bD.calls (k:Nat) (q:Int) (E:Option Addr) (F:Nat) (s:List (S83)) (A1:Option Addr) (c1:Nat) (l1:List Int) (r:Bool) (w:World) (d1:Kd.C aN w E s.length s) (d2:s.length<=F) (d3:Kd.C (Kd.int .i64) w A1 l1.length l1) (d4:l1.length<=c1) (h:bD.f k q s l1=some r):
  Calls Tryz.prog 92 #[.agg #[.int .i64 q,.slice E s.length F],.slice A1 l1.length c1] w fun e w'=>e= .returned (.bool r)/\Below w.heap.size w w':=by
 have g':=Tryz.underlying24;have d5:=zA d1;have d6:=zA d2;clear d1 d2;have cb:=zA d3;have d7:=zA d4;clear d3 d4;have o:=zA (aq w.heap.size w);unfold bD.f at h;have H:=h;clear h;obtain⟨cc,A3,H⟩:=zo H;by_cases c4:cc<0
 ·rw[if_pos c4] at H
  have d9:=ay c4;clear c4;obtain rfl:=aQ H;go_enter Tryz.func92,Tryz.ntmps92
  go_wp2_with (first|((with_reducible refine aU (N:=2) rfl ?_);refine zX 2 #[.int .i64 q,.slice E s.length F] 24 ?_;intro O hg w5 a1 hb;have a:=zA (a1);have fb:=zG o hg;have cd:=zG o hg;replace o:=zS o hb;clear hb a1 hg)|((with_reducible refine aJ (f:=22) rfl ?_);refine zL (some 10) Tryz.func22 #[.slice A1 l1.length c1] ?_;(with_reducible refine(fO.calls k _ _ l1 cc _ ?al ?aj A3.out).mono ?_);(case al=>exact Kd.ax cb.out zB);(case aj=>exact d7.out);rintro e w' ⟨rfl,⟨nd,rfl⟩⟩;refine⟨_,rfl,?_⟩))
  go_ret;exact⟨zE,zB⟩
 ·rw[if_neg c4] at H
  have d9:=aZ c4;clear c4;obtain⟨a2,ce⟩:∃G:List Int,G=(([]:List Int)):=⟨_,rfl⟩;replace H:(if a2.length+l1.length<17592186044416 then(if 0<=q then(if(q:Int).toNat<=281474976710656 then(bD.l0 k (a2++l1) (List.replicate (q:Int).toNat false) 0 q s) else(none)) else(none)) else(none))=some r:=zh ce H;have ea:=zA ce;clear ce;by_cases c6:a2.length+l1.length<17592186044416
  ·rw[if_pos c6] at H
   have fd:=zA c6;clear c6;obtain⟨cf,cg⟩:∃G:List Int,G=(a2++l1):=⟨_,rfl⟩;replace H:(if 0<=q then(if(q:Int).toNat<=281474976710656 then(bD.l0 k cf (List.replicate (q:Int).toNat false) 0 q s) else(none)) else(none))=some r:=zh cg H;have fn:=zA cg;clear cg;by_cases c7:0<=q
   ·rw[if_pos c7] at H
    have fo:=eq_true c7;have fq:=ay c7;clear c7;by_cases c8:(q:Int).toNat<=281474976710656
    ·rw[if_pos c8] at H
     have fr:=eq_true c8;have ft:=ay c8;clear c8;obtain⟨eb,ch⟩:∃G:List Bool,G=(List.replicate (q:Int).toNat false):=⟨_,rfl⟩;replace H:(bD.l0 k cf eb 0 q s)=some r:=zh ch H;have ed:=zA ch;clear ch;have I:=zA H;clear H;go_enter Tryz.func92,Tryz.ntmps92
     go_wp2_with (first|((with_reducible refine aU (N:=2) rfl ?_);refine zX 2 #[.int .i64 q,.slice E s.length F] 24 ?_;intro O hg w9 a1 hb;have a:=zA (a1);have fb:=zG o hg;have cd:=zG o hg;replace o:=zS o hb;clear hb a1 hg)|((with_reducible refine aJ (f:=22) rfl ?_);refine zL (some 10) Tryz.func22 #[.slice A1 l1.length c1] ?_;(with_reducible refine(fO.calls k _ _ l1 cc _ ?al ?aj A3.out).mono ?_);(case al=>exact Kd.ax cb.out zB);(case aj=>exact d7.out);rintro e w' ⟨rfl,⟨nd,rfl⟩⟩;refine⟨_,rfl,?_⟩)|((with_reducible refine aU (N:=12) rfl ?_);refine Kd.e7 (Kd.int .i64) _ 3 ?hg (N:=12) ?hd (xs:=([]:List Int)) (inner:=[]) (ok:=fun _=>True) (okp:=fun _=>True) ?hr ?hp (fun _ hk=>hk) trivial (aq _ _) (aI _) (by simp) ?_;(case hd=>rfl);(case hg=>rfl);(case hr=>first|(go_simp;done)|(go_simp;rfl));(case hp=>exact(aT.none _ _));intro fv he a5 hb ci cj;clear ci cj;(first|rw[<-ea.out] at a5|(simp only[Int.reduceToNat] at a5;rw[<-ea.out] at a5));have ck:=zA (Kd.bd a5 (bH zB));replace a:=zb a hb;replace o:=zS o hb;clear hb a5)|((with_reducible refine qF (b:=.append) (xs:=#[.tmp 12,.tmp 13]) rfl ?_);at_builtin;refine Kd.tA (Kd.int .i64) (w0:=w) w.heap.size rfl (.tmp 12) (.tmp 13) 25 3 (.int .i64 0) 8 rfl Tryz.underlying25 gz rfl (by decide) (by omega) fv a2 l1 _ _ _ (fun _=>True) (fun _=>False) rfl rfl ?aO ?aR (fun _ _ h=>h) (fun _ h=>h.elim) ?aF ?aB ?aS ?aL ?_;(case aR=>exact Kd.ax cb.out zB);(case aB=>exact zB);(case aF=>exact(fun _ _=>trivial));(case aO=>exact(zR ck));(case aS=>exact(bH zB));(case aL=>have:=fd.out;omega);intro f0 hf ho hb hg f1;rw[<-fn.out] at ho;replace a:=zA (dc (zK a) hg (Kd.dr ck.out a.out (by decide)));replace o:=zA (hb);have cl:=zA (ho);clear ck;clear ho hb hg f1;obtain⟨f2,f3,f4,f5⟩:=aA a)|((with_reducible refine aU (N:=17) rfl ?_);refine Kd.ky Kd.bool _ 4 rfl (N:=17) rfl 43 _ _ rfl q rfl rfl Tryz.underlying43 (.bool false) 1 mu rfl (by decide) (by omega) false (ok:=fun _=>True) (okp:=fun _=>True) rfl (fun _ hk=>hk) trivial (aw ‹_›) (Nat.le_trans (Nat.mul_le_mul_right _ (aw ‹_› :q.toNat<=281474976710656)) (by omega)) (aq _ _) (aI _) ?_;intro eg hh a9 hb ci cj;clear ci cj;(first|rw[<-ed.out] at a9|(simp only[Int.reduceToNat] at a9;rw[<-ed.out] at a9));replace cl:=bp cl hb;have f6:=zA (Kd.bd a9 (bH zB));replace a:=zb a hb;replace o:=zS o hb;clear hb a9))
     go_loopg [6] k (fun kq v6 w'=>∃(y:List Int) (z:List Bool) (P:Int),v6= .int .i64 P/\Aside0 (bD.l0 kq y z P q s=some r)/\Aside0 (kq<=k)/\Aside0 (Kd.R (Kd.int .i64) 3 w' w.heap.size (fun _=>True) f0 y)/\Aside0 (Kd.R Kd.bool 4 w' w.heap.size (fun _=>True) eg z)/\Aside0 (w'.heap[O]? =some (.cells #[.int .i64 q,(.slice E s.length F)] 24 (0,0)))/\Aside0 (Below w.heap.size w w'))
     case atStart=>exact⟨(cf),(eb),(0),zT,I,⟨aI _⟩,⟨zR cl⟩,⟨zR f6⟩,⟨zK a⟩,⟨zB⟩⟩
     case round=>
      clear I;clear d9 fo fq fr ft f2 f3 f4 f5;obtain⟨y,z,P,rfl,HA,ak,g,l,a,o⟩:=hrel;cases gk with
      |zero=>exact absurd HA.out (by simp[bD.l0])
      |succ k1=>
       have H:=HA.out;clear HA;simp only[bD.l0] at H;by_cases am:P<10000000
       ·rw[if_pos am] at H
        have ek:=ay am;clear am;obtain⟨j,cn,H⟩:=zo H;by_cases an:j<0
        ·rw[if_pos an] at H
         have el:=ay an;clear an;obtain rfl:=aQ H;obtain⟨f7,f8,f9⟩:=Kd.bh g.out;subst f9;go_wp2_with (first|((with_reducible refine aJ (f:=145) rfl ?_);refine zL (some 23) Tryz.func145 #[.slice f7 y.length f8] ?_;(with_reducible refine(eH.calls k1 _ _ y j _ ?al ?aj cn.out).mono ?_);(case al=>exact zC (Kd.aH g.out).2.2);(case aj=>exact(Kd.aH g.out).2.1);rintro e w' ⟨rfl,⟨nd,rfl⟩⟩;refine⟨_,rfl,?_⟩))
         go_ret;exact⟨zE,zB⟩
        ·rw[if_neg an] at H
         have el:=aZ an;clear an;obtain⟨f',em,H⟩:=zo H;by_cases bx:f'=true
         ·subst bx
          replace H:=zi H;obtain rfl:=aQ H;obtain⟨ga,gb,gc⟩:=Kd.bh g.out;subst gc;go_wp2_with (first|((with_reducible refine aJ (f:=145) rfl ?_);refine zL (some 23) Tryz.func145 #[.slice ga y.length gb] ?_;(with_reducible refine(eH.calls k1 _ _ y j _ ?al ?aj cn.out).mono ?_);(case al=>exact zC (Kd.aH g.out).2.2);(case aj=>exact(Kd.aH g.out).2.1);rintro e w' ⟨rfl,⟨nd,rfl⟩⟩;refine⟨_,rfl,?_⟩;obtain⟨gd,ge,gf⟩:=Kd.bh l.out;subst gf)|((with_reducible refine aJ (f:=146) rfl ?_);refine zL (some 27) Tryz.func146 #[.slice gd z.length ge] ?_;(with_reducible refine(eI.calls k1 _ _ z true _ ?al ?aj em.out).mono ?_);(case al=>exact zC (Kd.aH l.out).2.2);(case aj=>exact(Kd.aH l.out).2.1);rintro e w' ⟨rfl,⟨nd,rfl⟩⟩;refine⟨_,rfl,?_⟩))
          go_ret;exact⟨zE,zB⟩
         ·replace bx:=Bool.eq_false_iff.mpr bx
          subst bx;replace H:=zj H;by_cases b0:0<=j
          ·rw[if_pos b0] at H
           have gg:=ay b0;clear b0;by_cases b1:j<(z.length:Int)
           ·rw[if_pos b1] at H
            have gi:=ay b1;clear b1;obtain⟨Q,co⟩:∃G:List Bool,G=(z.set (j:Int).toNat true):=⟨_,rfl⟩;replace H:(bD.l1 k1 y Q P j 0 q s)=some r:=zh co H;have gl:=zA co;clear co;have I:=zA H;clear H;obtain⟨b2,bf,gm⟩:=Kd.bh g.out;subst gm;go_wp2_with (first|((with_reducible refine aJ (f:=145) rfl ?_);refine zL (some 23) Tryz.func145 #[.slice b2 y.length bf] ?_;(with_reducible refine(eH.calls k1 _ _ y j _ ?al ?aj cn.out).mono ?_);(case al=>exact zC (Kd.aH g.out).2.2);(case aj=>exact(Kd.aH g.out).2.1);rintro e w' ⟨rfl,⟨nd,rfl⟩⟩;refine⟨_,rfl,?_⟩;(try(rw[tZ wr];generalize J:World.drewN wr _=wr;have T:Aside0 (Kd.R (Kd.int .i64) 3 wr w.heap.size (fun _=>True) (.slice b2 y.length bf) y):=⟨by rw[<-J];exact(zR g)⟩;have U:Aside0 (Kd.R Kd.bool 4 wr w.heap.size (fun _=>True) eg z):=⟨by rw[<-J];exact(zR l)⟩;have V:Aside0 (wr.heap[O]? =some (.cells #[.int .i64 q,.slice E s.length F] 24 (0,0))):=⟨by rw[<-J];exact(zK a)⟩;have W:Aside0 (Below w.heap.size w wr):=⟨by rw[<-J];exact zB⟩;clear g l a o J;have g:=T;have l:=U;have a:=V;have o:=W;clear T U V W));obtain⟨er,ap,gn⟩:=Kd.bh l.out;subst gn)|((with_reducible refine aJ (f:=146) rfl ?_);refine zL (some 27) Tryz.func146 #[.slice er z.length ap] ?_;(with_reducible refine(eI.calls k1 _ _ z false _ ?al ?aj em.out).mono ?_);(case al=>exact zC (Kd.aH l.out).2.2);(case aj=>exact(Kd.aH l.out).2.1);rintro e w' ⟨rfl,⟨nd,rfl⟩⟩;refine⟨_,rfl,?_⟩;(try(rw[tZ wr];generalize J:World.drewN wr _=wr;have T:Aside0 (Kd.R (Kd.int .i64) 3 wr w.heap.size (fun _=>True) (.slice b2 y.length bf) y):=⟨by rw[<-J];exact(zR g)⟩;have U:Aside0 (Kd.R Kd.bool 4 wr w.heap.size (fun _=>True) (.slice er z.length ap) z):=⟨by rw[<-J];exact(zR l)⟩;have V:Aside0 (wr.heap[O]? =some (.cells #[.int .i64 q,.slice E s.length F] 24 (0,0))):=⟨by rw[<-J];exact(zK a)⟩;have W:Aside0 (Below w.heap.size w wr):=⟨by rw[<-J];exact zB⟩;clear g l a o J;have g:=T;have l:=U;have a:=V;have o:=W;clear T U V W));have b3:0<=(j:Int):=aw ‹_›;have b4:(j:Int)<((z.length:Int):Int):=aw ‹_›;obtain⟨ar,hj,es,ev,go,hl,ew⟩:=Kd.fE l.out (by omega);(first|cases es|(injection es with X cp cq;(first|subst X|(injection X with X;subst X));subst cq;clear cp));have gp:=zA ev;have hm:=zA ew;clear ev go ew;obtain⟨gq,hq⟩:=Kd.bO false l.out (j:Int) b3 b4;replace b3:=eq_true b3;replace b4:=eq_true b4;obtain⟨hs,ht⟩:=Kd.bO false l.out (j:Int) (aw ‹_›) (aw ‹_›);have cr:=Kd.dh l.out (j:Int) true)|((with_reducible refine jO (t:=4) (p:=30) rfl ?_);refine jN (t:=4) (p:=30) (v:=?L8) (w1:=(wr.setCell ⟨ar,(j:Int).toNat,none⟩ (.bool true))) ?hg ?ho ?hn ?hr ?_;(case ho=>rfl);(case hg=>rfl);(case hn=>rfl);(case hr=>first|(go_simp;done)|(go_simp;rfl));intro cs hw;have hg:wr.grownBy cs (some ar):=(by rw[hw];exact cr.2);have ex:Kd.R Kd.bool 4 cs w.heap.size (fun _=>True) (.slice (some ⟨ar,0,none⟩) z.length ap) Q:=(by rw[hw,gl.out];exact cr.1);clear cr;replace g:=zA (Kd.qo (v:=(.slice (some ⟨ar,0,none⟩) z.length ap)) (zR g) (Kd.gN l.out) (by decide) hg);replace a:=zA (dc (zK a) hg (Kd.dr l.out a.out (by decide)));replace l:=zA (ex);replace o:=zA ((by rw[hw];exact dL (o.out) gp.out:Below w.heap.size w cs));clear hg hw ex))
            go_loopg [8] k1 (fun kq v8 w'=>∃(u:List Int) (m:Int),v8= .int .i64 m/\Aside0 (bD.l1 kq u Q P j m q s=some r)/\Aside0 (kq<=k1)/\Aside0 (Kd.R (Kd.int .i64) 3 w' w.heap.size (fun _=>True) (.slice b2 y.length bf) u)/\Aside0 (Kd.R Kd.bool 4 w' w.heap.size (fun _=>True) (.slice (some ⟨ar,0,none⟩) z.length ap) Q)/\Aside0 (w'.heap[O]? =some (.cells #[.int .i64 q,(.slice E s.length F)] 24 (0,0)))/\Aside0 (Below w.heap.size w w'))
            case atStart=>exact⟨(y),(0),zT,I,⟨aI _⟩,⟨zR g⟩,⟨zR l⟩,⟨zK a⟩,⟨zB⟩⟩
            case round=>
             clear I;clear ek el gg gi b3 b4 gq;obtain⟨u,m,rfl,HA,av,g,l,a,o⟩:=hrel;have B:=(Kd.aH g.out).1;rw[B] at g
             (try simp only[B])
             (try simp only[B] at a)
             (try simp only[B] at l)
             have D:=(Kd.aH l.out).1;rw[D] at l
             (try simp only[D])
             (try simp only[D] at a)
             (try simp only[D] at g)
             cases gk with
             |zero=>exact absurd HA.out (by simp[bD.l1])
             |succ k2=>
              have H:=HA.out;clear HA;simp only[bD.l1] at H;by_cases aP:m<q
              ·rw[if_pos aP] at H
               have gs:=ay aP;clear aP;by_cases bg:m=j
               ·rw[if_pos bg] at H
                obtain⟨gt,gx⟩:=bT bg;clear bg;have I:=zA H;clear H;obtain⟨hv,hx,hy,hz⟩:=aA a;go_wp2
                (try simp only[<-B,<-D])
                go_roundg k2
                case measure=>have:=ak.out;have:=av.out;omega
                case rel=>exact⟨(u),(wrap64 (m+1)),zT,I,⟨by have:=ak.out;have:=av.out;omega⟩,⟨by(try simp only[B]);(try simp only[D]);(with_reducible repeat(first|apply Kd.aM|apply Kd.bs|apply Kd.bj));exact g.out⟩,⟨by(try simp only[B]);(try simp only[D]);(with_reducible repeat(first|apply Kd.aM|apply Kd.bs|apply Kd.bj));exact l.out⟩,⟨by(try simp only[B]);(try simp only[D]);exact zK a⟩,⟨zB⟩⟩
               ·rw[if_neg bg] at H
                obtain⟨gt,gx⟩:=bU bg;by_cases b5:0<=m
                ·rw[if_pos b5] at H
                 have hA:=ay b5;clear b5;by_cases b6:m<(u.length:Int)
                 ·rw[if_pos b6] at H
                  have hB:=ay b6;clear b6;obtain⟨Y,g0,H⟩:=zo H;obtain⟨Z,ct⟩:∃G:List Int,G=(u.set (m:Int).toNat (wrap64 ((rd u m)-Y))):=⟨_,rfl⟩;replace H:(if 0<=j then(if j<(u.length:Int) then((cT.f k2 q s m j).bind fun a0=>(bD.l1 k2 (Z.set (j:Int).toNat (wrap64 ((rd Z j)+a0))) Q P j (wrap64 (m+1)) q s)) else(none)) else(none))=some r:=zh ct H;have ey:=zA ct;clear ct;by_cases b_:0<=j
                  ·rw[if_pos b_] at H
                   have hC:=ay b_;clear b_;by_cases b':j<(u.length:Int)
                   ·rw[if_pos b'] at H
                    have hD:=ay b';clear b';obtain⟨a0,g1,H⟩:=zo H;obtain⟨e0,cv⟩:∃G:List Int,G=(Z.set (j:Int).toNat (wrap64 ((rd Z j)+a0))):=⟨_,rfl⟩;replace H:(bD.l1 k2 e0 Q P j (wrap64 (m+1)) q s)=some r:=zh cv H;have g2:=zA cv;clear cv;have I:=zA H;clear H;obtain⟨hE,hG,hH,hI⟩:=aA a;try go_wp2
                    replace g:=zA (Kd.bj g.out);replace l:=zA (Kd.bj l.out);replace a:=zA (eZ a.out);replace o:=zA (bR o.out);have cx:0<=(m:Int):=aw ‹_›;have c0:m<(u.length:Int):=aw ‹_›;obtain⟨g3,g4,c2⟩:=Kd.bJ (Kd.aH g.out).2.2 m cx c0;cases g4;replace cx:=eq_true cx;replace c0:=eq_true c0;refine qq (n:=11) (S:=fun w'=>w'.cell? ⟨O,0,none⟩=some (.int .i64 q)/\w'.cell? ⟨O,1,none⟩=some (.slice E s.length F)/\w'.cell? (g3.add (m).toNat)=some (.int .i64 (rd u m))) (ds:=[10]) #[false,false,false,false,false,false,false,false,false,false,false] (by kernel_rfl) rfl rfl ⟨(ah a.out 0).trans rfl,(ah a.out 1).trans rfl,c2⟩ (fun hHeld=>?_);refine qO bD.Fc bD.Fe (fun x bi=>?_);generalize wr.drew=hJ at g l a o c2 hHeld⊢;refine zs 11 0 0 (by kernel_rfl) ?_;iterate 3 (refine zn (v:=?_) (a':=?_) (by simp only[Nat.reduceAdd];rfl) x rfl rfl (by kernel_rfl) (Or.inl ⟨by rfl,?_⟩) ?_ ?_;rotate_left;(focus (intro w';go_simp;with_reducible rfl));rotate_left;(focus (simp only[Act.put,List.setIfInBounds_toArray,List.set_cons_zero,List.set_cons_succ,cH,cP];rfl)))
                    refine zs 11 7 5 (by kernel_rfl) ?_;iterate 2 (refine zn (v:=?_) (a':=?_) (by simp only[Nat.reduceAdd];rfl) x rfl rfl (by kernel_rfl) (Or.inl ⟨by rfl,?_⟩) ?_ ?_;rotate_left;(focus (intro w';go_simp;with_reducible rfl));rotate_left;(focus (simp only[Act.put,List.setIfInBounds_toArray,List.set_cons_zero,List.set_cons_succ,cH,cP];rfl)))
                    refine kz (i:=3) (N:=some 43) (v:=?_) (a':=?_) #[true,true,true,true,false,true,true,false,false,false,false] rfl rfl (kJ x.out bi.out (by kernel_rfl)) (fun _ _ _ h=>h) (Or.inl ⟨by rfl,?_⟩) hHeld ?_ ?_;rotate_left
                    ·rintro w' ⟨s0,s1,s2⟩
                     go_simp
                     with_reducible rfl
                    rotate_left
                    ·simp only[Act.put,List.setIfInBounds_toArray,List.set_cons_zero,List.set_cons_succ,cH,cP]
                     rfl
                    refine kz (i:=4) (N:=some 44) (v:=?_) (a':=?_) #[true,true,true,true,true,true,true,false,false,false,false] rfl rfl (kJ x.out bi.out (by kernel_rfl)) (fun _ _ _ h=>h) (Or.inl ⟨by rfl,?_⟩) hHeld ?_ ?_;rotate_left
                    ·rintro w' ⟨s0,s1,s2⟩
                     go_simp
                     with_reducible rfl
                    rotate_left
                    ·simp only[Act.put,List.setIfInBounds_toArray,List.set_cons_zero,List.set_cons_succ,cH,cP]
                     rfl
                    refine me (i:=7) (N:=some 47) #[true,true,true,true,true,true,true,true,false,false,false] rfl rfl (kI x.out (by kernel_rfl)) (by decide) (fun K L=>?_);refine mZ Tryz.func147 (by kernel_rfl) rfl #[.agg #[.int .i64 q,.slice E s.length F],.int .i64 m,.int .i64 j] (by rfl) rfl rfl (by(try simp only[List.map_toArray,List.map_cons,List.map_nil]);first|done|rfl|(simp only[List.length_drop,List.length_take];rfl)) ?_;with_reducible refine(cT.calls k2 q _ _ s m j Y _ ?al ?aj g0.out).mono ?_
                    (case al=>exact Kd.ax d5.out zB)
                    (case aj=>exact d6.out)
                    rintro e bk ⟨rfl,hb⟩;have c3:=(hb.cell (bu _ _ (hHeld.2.2))).trans (hHeld.2.2);refine⟨_,rfl,?_⟩;replace g:=bp g hb;replace l:=bp l hb;replace a:=zb a hb;replace o:=zS o hb
                    (try clear hb)
                    skip;skip;skip;have c5:0<=(m:Int):=aw ‹_›;have c9:(m:Int)<((u.length:Int):Int):=aw ‹_›;obtain⟨M,hL,e1,e2,g5,hM,e3⟩:=Kd.fE g.out (by omega)
                    (first|cases e1|(injection e1 with X cp cq;(first|subst X|(injection X with X;subst X));subst cq;clear cp))
                    have e4:=zA e2;have c':=zA e3;clear e2 g5 e3
                    (first|simp only[add_plain] at c2|skip)
                    obtain⟨hN,hO⟩:=Kd.bO 0 g.out (m:Int) c5 c9;replace c5:=eq_true c5;replace c9:=eq_true c9;have dd:=Kd.tC g.out (m:Int) (wrap64 ((rd u m)-Y));rw[<-ey.out] at dd;have e5:=zA dd;clear dd;refine L.out _ _ ⟨(ah a.out 0).trans rfl,(ah a.out 1).trans rfl,c3⟩ (fun hHeld=>?_);clear L K;refine mf (a':=?_) ?_ ?_;rotate_left
                    ·show Act.put _ (some 47) _=_
                     simp only[Act.put,List.setIfInBounds_toArray,List.set_cons_zero,List.set_cons_succ,cH,cP];rfl
                    refine zs 11 255 8 (by kernel_rfl) ?_;iterate 2 (refine zn (v:=?_) (a':=?_) (by simp only[Nat.reduceAdd];rfl) x rfl rfl (by kernel_rfl) (Or.inl ⟨by rfl,?_⟩) ?_ ?_;rotate_left;(focus (intro w';go_simp;with_reducible rfl));rotate_left;(focus (simp only[Act.put,List.setIfInBounds_toArray,List.set_cons_zero,List.set_cons_succ,cH,cP];rfl)))
                    refine tH (i:=10) (N:=none) #[true,true,true,true,true,true,true,true,true,true,true] rfl rfl (kI x.out (by kernel_rfl)) (by decide) (fun K L=>?_);refine tK (w1:=?_) (by rfl) rfl ?_ ?_;rotate_left
                    ·go_simp
                     rfl
                    refine L.out _ _ ?_;clear L K;refine qt (qN x.out (by kernel_rfl)) ?_;try go_wp2
                    have T:Aside0 (Kd.R (Kd.int .i64) 3 (bk.setCell ⟨M,(m:Int).toNat,none⟩ (.int .i64 (wrap64 ((rd u m)-Y)))) w.heap.size (fun _=>True) (.slice (some ⟨M,0,none⟩) u.length bf) Z):=⟨zR e5⟩;have U:Aside0 (Kd.R Kd.bool 4 (bk.setCell ⟨M,(m:Int).toNat,none⟩ (.int .i64 (wrap64 ((rd u m)-Y)))) w.heap.size (fun _=>True) (.slice (some ⟨ar,0,none⟩) Q.length ap) Q):=⟨by(with_reducible repeat(first|apply Kd.aM|apply Kd.bs|apply Kd.bj));exact Kd.a_ (Kd.dJ (p:=⟨M,(m:Int).toNat,none⟩) (Kd.gM l.out c'.out (by decide)) (fun _ hk=>hk.2) (.int .i64 (wrap64 ((rd u m)-Y)))) (fun _ hk=>trivial)⟩;have V:Aside0 ((bk.setCell ⟨M,(m:Int).toNat,none⟩ (.int .i64 (wrap64 ((rd u m)-Y)))).heap[O]? =some (.cells #[.int .i64 q,.slice E s.length F] 24 (0,0))):=⟨by refine zk ?_;refine aE ?_ (by have h_:=Kd.dr g.out a.out (by decide);intro e_;exact h_ (by rw[e_];rfl)) _;exact zK a⟩;have W:Aside0 (Below w.heap.size w (bk.setCell ⟨M,(m:Int).toNat,none⟩ (.int .i64 (wrap64 ((rd u m)-Y))))):=⟨by repeat(first|(with_reducible first|exact o.out|apply ao|apply bN|apply bR|refine dL ?_ e4.out|refine dL ?_ cd.out)|exact o.out)⟩
                    (try clear g)
                    (try clear l)
                    (try clear a)
                    (try clear o)
                    generalize (bk.setCell ⟨M,(m:Int).toNat,none⟩ (.int .i64 (wrap64 ((rd u m)-Y))))=g6 at T U V W⊢;have g:=T;have l:=U;have a:=V;have o:=W;clear T U V W;replace g:=zA (Kd.bj g.out);replace l:=zA (Kd.bj l.out);replace a:=zA (eZ a.out);replace o:=zA (bR o.out);have dk:0<=(j:Int):=aw ‹_›;have dl:j<(Z.length:Int):=(by have h_:(j:Int)<((u.length:Int):Int):=aw ‹_›;first|(have e_:=(Kd.aH g.out).1;omega)|simpa only[ey.out,List.length_set] using h_);have hP:((j:Int)<((u.length:Int):Int))=True:=eq_true (aw ‹_›);obtain⟨g7,g8,bo⟩:=Kd.bJ (Kd.aH g.out).2.2 j dk dl;obtain rfl:(⟨M,0,none⟩:Addr)=g7:=(by injection g8)
                    (first|simp only[add_plain] at bo|simp only[iC] at bo|simp only[Addr.add,Nat.zero_add] at bo|skip)
                    replace dk:=eq_true dk;replace dl:=eq_true dl;refine qq (n:=11) (S:=fun w'=>w'.cell? ⟨O,0,none⟩=some (.int .i64 q)/\w'.cell? ⟨O,1,none⟩=some (.slice E s.length F)/\w'.cell? ⟨M,(j).toNat,none⟩=some (.int .i64 (rd Z j))) (ds:=[10]) #[false,false,false,false,false,false,false,false,false,false,false] (by kernel_rfl) rfl rfl ⟨(ah a.out 0).trans rfl,(ah a.out 1).trans rfl,bo⟩ (fun hHeld=>?_);refine qO bD.Fg bD.Fh (fun x bi=>?_);generalize g6.drew=hQ at g l a o e5 bo hHeld⊢;refine zs 11 0 0 (by kernel_rfl) ?_;iterate 3 (refine zn (v:=?_) (a':=?_) (by simp only[Nat.reduceAdd];rfl) x rfl rfl (by kernel_rfl) (Or.inl ⟨by rfl,?_⟩) ?_ ?_;rotate_left;(focus (intro w';go_simp;with_reducible rfl));rotate_left;(focus (simp only[Act.put,List.setIfInBounds_toArray,List.set_cons_zero,List.set_cons_succ,cH,cP];rfl)))
                    refine zs 11 7 5 (by kernel_rfl) ?_;iterate 2 (refine zn (v:=?_) (a':=?_) (by simp only[Nat.reduceAdd];rfl) x rfl rfl (by kernel_rfl) (Or.inl ⟨by rfl,?_⟩) ?_ ?_;rotate_left;(focus (intro w';go_simp;with_reducible rfl));rotate_left;(focus (simp only[Act.put,List.setIfInBounds_toArray,List.set_cons_zero,List.set_cons_succ,cH,cP];rfl)))
                    refine kz (i:=3) (N:=some 53) (v:=?_) (a':=?_) #[true,true,true,true,false,true,true,false,false,false,false] rfl rfl (kJ x.out bi.out (by kernel_rfl)) (fun _ _ _ h=>h) (Or.inl ⟨by rfl,?_⟩) hHeld ?_ ?_;rotate_left
                    ·rintro w' ⟨s0,s1,s2⟩
                     go_simp
                     with_reducible rfl
                    rotate_left
                    ·simp only[Act.put,List.setIfInBounds_toArray,List.set_cons_zero,List.set_cons_succ,cH,cP]
                     rfl
                    refine kz (i:=4) (N:=some 54) (v:=?_) (a':=?_) #[true,true,true,true,true,true,true,false,false,false,false] rfl rfl (kJ x.out bi.out (by kernel_rfl)) (fun _ _ _ h=>h) (Or.inl ⟨by rfl,?_⟩) hHeld ?_ ?_;rotate_left
                    ·rintro w' ⟨s0,s1,s2⟩
                     go_simp
                     with_reducible rfl
                    rotate_left
                    ·simp only[Act.put,List.setIfInBounds_toArray,List.set_cons_zero,List.set_cons_succ,cH,cP]
                     rfl
                    refine me (i:=7) (N:=some 57) #[true,true,true,true,true,true,true,true,false,false,false] rfl rfl (kI x.out (by kernel_rfl)) (by decide) (fun K L=>?_);refine mZ Tryz.func147 (by kernel_rfl) rfl #[.agg #[.int .i64 q,.slice E s.length F],.int .i64 m,.int .i64 j] (by rfl) rfl rfl (by(try simp only[List.map_toArray,List.map_cons,List.map_nil]);first|done|rfl|(simp only[List.length_drop,List.length_take];rfl)) ?_;with_reducible refine(cT.calls k2 q _ _ s m j a0 _ ?al ?aj g1.out).mono ?_
                    (case al=>exact Kd.ax d5.out zB)
                    (case aj=>exact d6.out)
                    rintro e hR ⟨rfl,hb⟩;have c3:=(hb.cell (bu _ _ (hHeld.2.2))).trans (hHeld.2.2);refine⟨_,rfl,?_⟩;replace g:=bp g hb;replace l:=bp l hb;replace a:=zb a hb;replace o:=zS o hb
                    (try clear hb)
                    skip;skip;skip;have dv:0<=(j:Int):=aw ‹_›;have dx:(j:Int)<((u.length:Int):Int):=aw ‹_›;obtain⟨hT,hV⟩:=Kd.bO 0 g.out (j:Int) dv dx;replace dv:=eq_true dv;replace dx:=eq_true dx;have d0:=Kd.tC g.out (j:Int) (wrap64 ((rd Z j)+a0));rw[<-g2.out] at d0;have g9:=zA d0;clear d0;refine L.out _ _ ⟨(ah a.out 0).trans rfl,(ah a.out 1).trans rfl,c3⟩ (fun hHeld=>?_);clear L K;refine mf (a':=?_) ?_ ?_;rotate_left
                    ·show Act.put _ (some 57) _=_
                     simp only[Act.put,List.setIfInBounds_toArray,List.set_cons_zero,List.set_cons_succ,cH,cP];rfl
                    refine zs 11 255 8 (by kernel_rfl) ?_;iterate 2 (refine zn (v:=?_) (a':=?_) (by simp only[Nat.reduceAdd];rfl) x rfl rfl (by kernel_rfl) (Or.inl ⟨by rfl,?_⟩) ?_ ?_;rotate_left;(focus (intro w';go_simp;with_reducible rfl));rotate_left;(focus (simp only[Act.put,List.setIfInBounds_toArray,List.set_cons_zero,List.set_cons_succ,cH,cP];rfl)))
                    refine tH (i:=10) (N:=none) #[true,true,true,true,true,true,true,true,true,true,true] rfl rfl (kI x.out (by kernel_rfl)) (by decide) (fun K L=>?_);refine tK (w1:=?_) (by rfl) rfl ?_ ?_;rotate_left
                    ·go_simp
                     rfl
                    refine L.out _ _ ?_;clear L K;refine qt (qN x.out (by kernel_rfl)) ?_;try go_wp2
                    (try simp only[<-B,<-D])
                    obtain⟨i_,e6⟩:=Kd.js g.out;obtain⟨k_,H_⟩:=jr e6 M rfl;have c':=zA H_;clear H_ e6;go_roundg k2
                    case measure=>have:=ak.out;have:=av.out;omega
                    case rel=>exact⟨(e0),(wrap64 (m+1)),zT,I,⟨by have:=ak.out;have:=av.out;omega⟩,⟨by(try simp only[B]);(try simp only[D]);(with_reducible repeat(first|apply Kd.aM|apply Kd.bs|apply Kd.bj));exact g9.out⟩,⟨by(try simp only[B]);(try simp only[D]);(with_reducible repeat(first|apply Kd.aM|apply Kd.bs|apply Kd.bj));exact Kd.a_ (Kd.dJ (p:=⟨M,(j:Int).toNat,none⟩) (Kd.gM l.out c'.out (by decide)) (fun _ hk=>hk.2) (.int .i64 (wrap64 ((rd Z j)+a0)))) (fun _ hk=>trivial)⟩,⟨by(try simp only[B]);(try simp only[D]);refine zk ?_;refine aE ?_ (by have h_:=Kd.dr g.out a.out (by decide);intro e_;exact h_ (by rw[e_];rfl)) _;exact zK a⟩,⟨by repeat(first|(with_reducible first|exact o.out|apply ao|apply bN|apply bR|refine dL ?_ e4.out|refine dL ?_ cd.out)|exact o.out)⟩⟩
                   ·rw[if_neg b'] at H
                    exact absurd H (by simp)
                  ·rw[if_neg b_] at H
                   exact absurd H (by simp)
                 ·rw[if_neg b6] at H
                  exact absurd H (by simp)
                ·rw[if_neg b5] at H
                 exact absurd H (by simp)
              ·rw[if_neg aP] at H
               have gs:=aZ aP;clear aP;have I:=zA H;clear H;obtain⟨hY,h0,h1,h2⟩:=aA a;go_wp2
               (try simp only[<-B,<-D])
               go_roundg k2
               case measure=>have:=ak.out;have:=av.out;omega
               case rel=>exact⟨(u),(Q),(wrap64 (P+1)),zT,I,⟨by have:=ak.out;have:=av.out;omega⟩,⟨by(try simp only[B]);(try simp only[D]);(with_reducible repeat(first|apply Kd.aM|apply Kd.bs|apply Kd.bj));exact g.out⟩,⟨by(try simp only[B]);(try simp only[D]);(with_reducible repeat(first|apply Kd.aM|apply Kd.bs|apply Kd.bj));exact l.out⟩,⟨by(try simp only[B]);(try simp only[D]);exact zK a⟩,⟨zB⟩⟩
           ·rw[if_neg b1] at H
            exact absurd H (by simp)
          ·rw[if_neg b0] at H
           exact absurd H (by simp)
       ·rw[if_neg am] at H
        have ek:=aZ am;clear am;obtain rfl:=aQ H;go_wp2;go_ret;exact⟨zE,zB⟩
    ·rw[if_neg c8] at H
     exact absurd H (by simp)
   ·rw[if_neg c7] at H
    exact absurd H (by simp)
  ·rw[if_neg c6] at H
   exact absurd H (by simp)
end Go.Proofs.YtffdiakgjakngaaGreat.P


namespace Go.Proofs.YtffdiakgjakngaaGreat.P
open Go.RowKit Go.Proofs.YtffdiakgjakngaaGreatW.PrintWords Go.Proofs.YtffdiakgjakngaaGreatW.PrintLast Go.Proofs.YtffdiakgjakngaaGreatW.PrintMore
set_option linter.unusedVariables false
set_option linter.unusedSimpArgs false
set_option maxHeartbeats 8000000
set_option maxRecDepth 100000
section
attribute [local go_sem] Oper.semAt_some
section
variable {w w':World} {gb c0 m:Nat} {n:Int} {A0:Option Addr}
theorem GE.mk (a:w'.heap[gb]? =some (.cells #[.int .i64 n,.slice A0 m c0] 24 (0,0))) (hb:Below w.heap.size w w'):
  w'.heap[gb]? =some (.cells #[.int .i64 n,.slice A0 m c0] 24 (0,0))/\w'.cell? ⟨gb,0,none⟩=some (.int .i64 n)/\w'.cell? ⟨gb,1,none⟩=some (.slice A0 m c0)/\Below w.heap.size w w':=
 ⟨a,(ah a 0).trans rfl,(ah a 1).trans rfl,hb⟩
theorem GE.step {w2:World} (b:w'.heap[gb]? =some (.cells #[.int .i64 n,.slice A0 m c0] 24 (0,0))) (hb:Below w.heap.size w w') (a:Below w'.heap.size w' w2):
  w2.heap[gb]? =some (.cells #[.int .i64 n,.slice A0 m c0] 24 (0,0))/\w2.cell? ⟨gb,0,none⟩=some (.int .i64 n)/\w2.cell? ⟨gb,1,none⟩=some (.slice A0 m c0)/\Below w.heap.size w w2:=
 GE.mk (aD b a) (aW hb a)
end
theorem Fi (k n:Nat) (A0:Option Addr) (c0:Nat) (E:List S83) (g:Option Addr) (c1:Nat) (d:List Int) (b r:Bool) (ws:Nat->Bool) (w:World) (s:Kd.C aN w A0 E.length E) (K:E.length<=c0) (y:Kd.C (Kd.int .i64) w g n d) (ak:n<=c1) (hd:d.length=n) (hn:n<=1000)
  (hw:bD.f k n E d=some b) (z:∀v:Nat,v<n->bD.f k n E (d.set v (wrap64 (rd d v+1)))=some (ws v)) (L:r=true↔b=false/\∀v:Nat,v<n->ws v=true):
  Calls Tryz.prog 101 #[.agg #[.int .i64 n,.slice A0 E.length c0],.slice g n c1] w fun e w'=>e= .returned (.bool r)/\Below w.heap.size w w':=by
 have hu:=Tryz.underlying24;have l:=zA (a7 w (.cells #[.int .i64 n,.slice A0 E.length c0] 24));have B:Aside0 (∀W,Below w.heap.size w W->Calls Tryz.prog 92 #[.agg #[.int .i64 n,.slice A0 E.length c0],.slice g n c1] W fun e w'=>e= .returned (.bool b)/\Below W.heap.size W w'):=⟨fun W a=>by
  have h:=bD.calls k n A0 c0 E g c1 d b W (Kd.ax s a) K (by rw[hd];exact Kd.ax y a) (by omega) hw;rw[hd] at h;exact h⟩
 have U:Aside0 (∀W,Below w.heap.size w W->∀v:Nat,v<n->Calls Tryz.prog 100 #[.slice g n c1,.int .i64 v,.int .i64 1] W fun e w'=>∃go j,e= .returned (.slice (some ⟨go,0,none⟩) n j)/\Kd.C (Kd.int .i64) w' (some ⟨go,0,none⟩) (d.set v (wrap64 (rd d v+1))).length (d.set v (wrap64 (rd d v+1)))/\n<=j/\Below W.heap.size W w'):=⟨fun W a v z=>by
  have h:=wJ g c1 d v 1 W (by rw[hd];exact Kd.ax y a) (by omega) (by omega);rw[hd] at h;refine h.mono ?_;rintro e w1 ⟨go,j,rfl,V,hb⟩;have m:=Kd.aH V;exact⟨go,j,rfl,m.2.2,m.2.1,hb⟩⟩
 have X:Aside0 (∀W,Below w.heap.size w W->∀v:Nat,v<n->∀(o:Option Addr) (p:Nat),n<=p->Kd.C (Kd.int .i64) W o (d.set v (wrap64 (rd d v+1))).length (d.set v (wrap64 (rd d v+1)))->Calls Tryz.prog 92 #[.agg #[.int .i64 n,.slice A0 E.length c0],.slice o n p] W fun e w'=>e= .returned (.bool (ws v))/\Below W.heap.size W w'):=⟨fun W a v M o p am hC=>by
  have h:=bD.calls k n A0 c0 E o p _ (ws v) W (Kd.ax s a) K hC (by rw[List.length_set];omega) (z v M);rw[List.length_set,hd] at h;exact h⟩
 have D:=zA L;have an:=zA hn;have N:(w.alloc (.cells #[.int .i64 n,.slice A0 E.length c0] 24)).cell? ⟨w.heap.size,0,none⟩=some (.int .i64 n):=(ah l.out 0).trans rfl;clear s y hw z L;cases b with
 |true=>
  go_enter Tryz.func101,Tryz.ntmps101
  go_wp2_with (go_at_call 92;refine(B.out _ (ao (aq _ _) _)).mono ?_;rintro e w1 ⟨rfl,hb⟩;have q:=zA (aW (ao (aq w.heap.size w) _) hb);have F:=zA (aD l.out hb);clear hb N)
  go_ret;exact⟨by have h:=D.out;cases r<;>simp_all,q.out⟩
 |false=>
  go_enter Tryz.func101,Tryz.ntmps101
  go_wp2_with (go_at_call 92;refine(B.out _ (ao (aq _ _) _)).mono ?_;rintro e w1 ⟨rfl,hb⟩;have q:=zA (aW (ao (aq w.heap.size w) _) hb);have F:=zA (aD l.out hb);clear hb N)
  clear B l;go_loopg [5] (n) (fun Y i wr=>∃v:Nat,v<=n/\i= .int .i64 v/\Aside0 (Below w.heap.size w wr)/\Aside0 (wr.heap[w.heap.size]? =some (.cells #[.int .i64 n,.slice A0 E.length c0] 24 (0,0)))/\Aside0 (∀u:Nat,u<v->ws u=true)/\Aside0 (Y=n-v))
  case atStart=>exact⟨0,Nat.zero_le _,rfl,q,F,⟨fun u hu=>by omega⟩,⟨rfl⟩⟩
  case round=>
   clear q F;obtain⟨v,M,rfl,O,G,P,Z⟩:=hrel;have y0:wr.cell? ⟨w.heap.size,0,none⟩=some (.int .i64 n):=(ah G.out 0).trans rfl;have y1:wr.cell? ⟨w.heap.size,1,none⟩=some (.slice A0 E.length c0):=(ah G.out 1).trans rfl;have av:(0:Int)<=(v:Int):=by omega
   by_cases H:v<n
   ·have aB:(v:Int)<(n:Int):=by omega
    have Q:=zA (fun W a=>U.out W a v H);have I:=zA (fun W a=>X.out W a v H);generalize d.set v (wrap64 (rd d v+1))=dx at Q I;obtain⟨x,J⟩:∃x,x=ws v:=⟨_,rfl⟩;have R:=zA J;rw[<-J] at I;clear J;go_upto_region 6 with (fail)
    go_region_held3 (fun w'=>w'.heap[w.heap.size]? =some (.cells #[.int .i64 n,.slice A0 E.length c0] 24 (0,0))/\w'.cell? ⟨w.heap.size,0,none⟩=some (.int .i64 n)/\w'.cell? ⟨w.heap.size,1,none⟩=some (.slice A0 E.length c0)/\Below w.heap.size w w')
     (first
      |exact GE.mk (eZ G.out) (bR O.out)
      |((try go_split_ands);refine⟨by assumption,by assumption,by assumption,by assumption⟩)
      |((try go_split_ands);exact GE.step (by assumption) (by assumption) (by assumption))
      |fail)
     (first
      |(go_at_call 100;refine(Q.out _ (by go_split_ands;assumption)).mono ?_;rintro e w7 ⟨go,j,rfl,hC,aa,hB⟩)
      |(go_at_call 92;refine(I.out _ (by go_split_ands;assumption) _ _ aa hC).mono ?_;rintro e S ⟨rfl,ad⟩))
    rename_i hHeld;have T:Aside0 (Below w.heap.size w S):=⟨by go_split_ands;assumption⟩;have ag:Aside0 (S.heap[w.heap.size]? =some (.cells #[.int .i64 n,.slice A0 E.length c0] 24 (0,0))):=⟨by go_split_ands;assumption⟩;clear hHeld hB ad hC;cases x with
    |false=>
     go_wp2;go_ret;exact⟨by have h:=D.out;have m:=R.out;cases r with
      |false=>rfl
      |true=>exact absurd ((h.1 rfl).2 v H) (by rw[<-m];decide),T.out⟩
    |true=>
     go_wp2;go_roundg (n- (v+1))
     case measure=>rw[Z.out];omega
     case rel=>exact⟨v+1,by omega,by go_num,T,ag,⟨fun u hu=>by
      by_cases e:u=v
      ·subst e;exact R.out.symm
      ·exact P.out u (by omega)⟩,⟨rfl⟩⟩
   ·obtain rfl:v=n:=by omega
    go_wp2;go_ret;rw[D.out.2 ⟨trivial,P.out⟩];exact⟨rfl,O.out⟩
end
def eW.l0:Nat->List Int->List Int->Int->Option (Int)
 |0,_,_,_=>none
 |k+1,b,x1,a=>if a<(b.length:Int) then(if 0<=a then(if a<(x1.length:Int) then(if(rd b a)<(rd x1 a) then(some (-1)) else(if(rd b a)>(rd x1 a) then(some 1) else(eW.l0 k b x1 (wrap64 (a+1))))) else(none)) else(none)) else(some 0)
def eW.f (k:Nat) (l0:List Int) (l1:List Int):Option (Int):=eW.l0 k l0 l1 0
theorem eW.calls (k:Nat) (A0:Option Addr) (c0:Nat) (l0:List Int) (K:Option Addr) (c1:Nat) (l1:List Int) (r:Int) (w:World) (L:Kd.C (Kd.int .i64) w A0 l0.length l0) (M:l0.length<=c0) (N:Kd.C (Kd.int .i64) w K l1.length l1) (O:l1.length<=c1) (h:eW.f k l0 l1=some r):
  Calls Tryz.prog 152 #[.slice A0 l0.length c0,.slice K l1.length c1] w fun e w'=>e= .returned (.int .i64 r)/\az w w':=by
 have s:=zA L;have Z:=zA M;clear L M;have u:=zA N;have aa:=zA O;clear N O;have H:(eW.l0 k l0 l1 0)=some r:=h;clear h;have y:=zA H;clear H;go_enter Tryz.func152,Tryz.ntmps152
 go_wp2;repeat(go_quiet (fail);try go_wp2)
 go_loopg [5] k (fun P v5 w'=>∃(a:Int),v5= .int .i64 a/\Aside0 (eW.l0 P l0 l1 a=some r)/\Aside0 (P<=k)/\az w w')
 case atStart=>exact⟨(0),zT,y,⟨aI _⟩,by repeat(first|exact az.refl _|apply az.step)⟩
 case round=>
  clear y;try clear c1
  try clear p2
  obtain⟨a,rfl,E,Q,⟨m1,rfl⟩⟩:=hrel;cases gk with
  |zero=>exact absurd E.out (by simp[eW.l0])
  |succ T=>
   have H:=E.out;clear E;simp only[eW.l0] at H;by_cases c3:a<(l0.length:Int)
   ·rw[if_pos c3] at H
    have U:=ay c3;clear c3;by_cases c4:0<=a
    ·rw[if_pos c4] at H
     have ad:=ay c4;clear c4;by_cases z:a<(l1.length:Int)
     ·rw[if_pos z] at H
      have ag:=ay z;clear z;by_cases p:(rd l0 a)<(rd l1 a)
      ·rw[if_pos p] at H
       have V:=ay p;clear p;obtain rfl:=aQ H;have b:0<=(a:Int):=aw ‹_›;have g:a<(l0.length:Int):=aw ‹_›;obtain⟨B,v,R⟩:=Kd.bJ s.out a b g;cases v;replace b:=eq_true b;replace g:=eq_true g;have i:0<=(a:Int):=aw ‹_›;have j:a<(l1.length:Int):=aw ‹_›;obtain⟨D,x,S⟩:=Kd.bJ u.out a i j;cases x;replace i:=eq_true i;replace j:=eq_true j;go_wp2;repeat(go_quiet (fail);try go_wp2)
       go_ret;exact⟨zT,by repeat(first|exact az.refl _|apply az.step)⟩
      ·rw[if_neg p] at H
       have V:=aZ p;clear p;by_cases q:(rd l0 a)>(rd l1 a)
       ·rw[if_pos q] at H
        have W:=ay q;clear q;obtain rfl:=aQ H;have b:0<=(a:Int):=aw ‹_›;have g:a<(l0.length:Int):=aw ‹_›;obtain⟨B,v,R⟩:=Kd.bJ s.out a b g;cases v;replace b:=eq_true b;replace g:=eq_true g;have i:0<=(a:Int):=aw ‹_›;have j:a<(l1.length:Int):=aw ‹_›;obtain⟨D,x,S⟩:=Kd.bJ u.out a i j;cases x;replace i:=eq_true i;replace j:=eq_true j;have l:0<=(a:Int):=aw ‹_›;have m:a<(l0.length:Int):=aw ‹_›;obtain⟨F,G,X⟩:=Kd.bJ s.out a l m;obtain rfl:B=F:=(by injection G);replace l:=eq_true l;replace m:=eq_true m;have n:0<=(a:Int):=aw ‹_›;have o:a<(l1.length:Int):=aw ‹_›;obtain⟨I,J,Y⟩:=Kd.bJ u.out a n o;obtain rfl:D=I:=(by injection J);replace n:=eq_true n;replace o:=eq_true o;go_wp2;repeat(go_quiet (fail);try go_wp2)
        go_ret;exact⟨zT,by repeat(first|exact az.refl _|apply az.step)⟩
       ·rw[if_neg q] at H
        have W:=aZ q;clear q;have y:=zA H;clear H;have b:0<=(a:Int):=aw ‹_›;have g:a<(l0.length:Int):=aw ‹_›;obtain⟨B,v,R⟩:=Kd.bJ s.out a b g;cases v;replace b:=eq_true b;replace g:=eq_true g;have i:0<=(a:Int):=aw ‹_›;have j:a<(l1.length:Int):=aw ‹_›;obtain⟨D,x,S⟩:=Kd.bJ u.out a i j;cases x;replace i:=eq_true i;replace j:=eq_true j;have l:0<=(a:Int):=aw ‹_›;have m:a<(l0.length:Int):=aw ‹_›;obtain⟨F,G,X⟩:=Kd.bJ s.out a l m;obtain rfl:B=F:=(by injection G);replace l:=eq_true l;replace m:=eq_true m;have n:0<=(a:Int):=aw ‹_›;have o:a<(l1.length:Int):=aw ‹_›;obtain⟨I,J,Y⟩:=Kd.bJ u.out a n o;obtain rfl:D=I:=(by injection J);replace n:=eq_true n;replace o:=eq_true o;go_wp2;repeat(go_quiet (fail);try go_wp2)
        go_roundg T
        case measure=>have:=Q.out;omega
        case rel=>exact⟨(wrap64 (a+1)),zT,y,⟨by have:=Q.out;omega⟩,by repeat(first|exact az.refl _|apply az.step)⟩
     ·rw[if_neg z] at H
      exact absurd H (by simp)
    ·rw[if_neg c4] at H
     exact absurd H (by simp)
   ·rw[if_neg c3] at H
    have U:=aZ c3;clear c3;obtain rfl:=aQ H;go_wp2;repeat(go_quiet (fail);try go_wp2)
    go_ret;exact⟨zT,by repeat(first|exact az.refl _|apply az.step)⟩
theorem Fj (W:World) (base:Nat) (ok:Nat->Prop) (hb:base<=W.heap.size) (a:ok W.heap.size):Kd.N (Kd.slice 3 (Kd.int .i64)) 25 (W.alloc (.cells #[] 25)) base ok (.slice (some ⟨W.heap.size,0,none⟩) 0 0) []:=
 by
  refine Kd.jP ⟨fun k hk=>?_,[],World.ownsRow_lit (base:=base) (e:=25) (size:=1) W #[] 0 hb (by decide) rfl,aT.none _ _⟩
  obtain rfl:W.heap.size=k:=by simpa [Value.ownBlock] using hk
  exact a
theorem Fk {W:World} {ok:Nat->Prop} {A:Option Addr} {m:Nat} (h:m=0):Kd.F (Kd.slice 3 (Kd.int .i64)) W ok A m []:=fun _ _=>⟨h.symm,by omega,fun hp=>by omega⟩
theorem Fl (k b b1:Nat) (A:Option Addr) (c:Nat) (l:List (List Int)) (w:World) (S:Kd.N (Kd.slice 3 (Kd.int .i64)) 25 w b1 (fun k=>b<=k) (.slice A l.length c) l) (bv:b<=w.heap.size) (hO:∀u v:Nat,u<v->v<l.length->eW.f k (l.getD u []) (l.getD v [])=some (-1)) (hl:l.length<=100000):
  Calls Tryz.prog 102 #[.slice A l.length c] w fun e w'=>∃v,e= .returned v/\Kd.N (Kd.slice 3 (Kd.int .i64)) 25 w' w.heap.size (fun k=>b<=k) v l/\Below w.heap.size w w':=by
 have HA:=zA S;have HO:=zA hO;clear S hO;go_enter Tryz.func102,Tryz.ntmps102
 go_wp2;go_loopg [3,4] (l.length) (fun E ou i wr=>∃v:Nat,v<=l.length/\i= .int .i64 v/\Aside0 (Below w.heap.size w wr)/\Aside0 (Kd.N (Kd.slice 3 (Kd.int .i64)) 25 wr w.heap.size (fun k=>b<=k) ou (l.take v))/\Aside0 (E=l.length-v))
 case atStart=>exact⟨0,Nat.zero_le _,rfl,⟨aq _ _⟩,⟨by rw[List.take_zero];exact Kd.fV _ _ _ _ _⟩,⟨rfl⟩⟩
 case round=>
  obtain⟨v,hv,rfl,G,m,HK⟩:=hrel;have b2:(0:Int)<=(v:Int):=by omega
  by_cases r:v<l.length
  ·have b3:(v:Int)<(l.length:Int):=by omega
   obtain⟨j,n,T,U, -⟩:=Kd.kG m.out;have s:(l.take v).length=v:=by rw[List.length_take];omega
   have H:Aside0 (∀a:Nat,a<v->eW.f k ((l.take v).getD a []) (l.getD v [])=some (-1)):=⟨fun a I=>by
    have e:(l.take v).getD a []=l.getD a []:=by rw[aX,aX,List.getElem?_take_of_lt I]
    rw[e];exact HO.out a v I r⟩
   have J:=zA (show l.take (v+1)=l.take v++[l.getD v []] by rw[List.take_succ_eq_append_getElem r,aX,bB r];rfl);obtain⟨gl,K,L,rfl,z1,z2,z3⟩:=j4 (Kd.eE (ok':=fun k=>b<=k/\k<w.heap.size) (Kd.nc HA.out) (fun k hk=>hk)) v r;rw[s] at T U;subst T;generalize l.getD v []=p at H J z1 z2 z3;generalize l.take v=X at H J m s;have M:=zA s;clear s;have V:=zA z2;have Y:=zA z3;have Z:=zA z1;clear z1 z2 z3;go_wp2;obtain⟨wo,a0⟩:∃x,x=wr:=⟨_,rfl⟩;subst a0;go_loopg [5] (v) (fun E i wi=>∃a:Nat,a<=v/\i= .int .i64 a/\Aside0 (Below wo.heap.size wo wi)/\Aside0 (E=v-a))
   case atStart=>exact⟨0,Nat.zero_le _,rfl,⟨aq _ _⟩,⟨rfl⟩⟩
   case round=>
    obtain⟨a,I,rfl,z,a1⟩:=hrel;have B:=zA (G.out.trans (z.out.mono G.out.size));have z1:=fU B.out Z.out;have ab:(0:Int)<=(a:Int):=by omega
    by_cases ad:a<v
    ·have b5:(a:Int)<(v:Int):=by omega
     have ag:Kd.N (Kd.slice 3 (Kd.int .i64)) 25 wr w.heap.size (fun k=>b<=k) (.slice j X.length n) X:=by rw[M.out];exact Kd.dF m.out z.out
     obtain⟨ga,Aa,ca,rfl,x1,x2,x3⟩:=j4 ag a (by rw[M.out];exact ad);have h1:=H.out a ad;have an:Aside0 (∀W,Below wr.heap.size wr W->Calls Tryz.prog 152 #[.slice Aa (X.getD a []).length ca,.slice K p.length L] W fun e w'=>e= .returned (.int .i64 (-1))/\az W w'):=⟨fun W O=>eW.calls k Aa ca _ K L p (-1) W (Kd.ax (Kd.fF x3) O) x2 (Kd.ax (Kd.ax (Kd.fF Y.out) B.out) O) V.out h1⟩;clear h1 x2 x3 ag;generalize X.getD a []=y at an x1;go_upto_region 6 with (fail)
     go_quiet ((go_at_call 152;refine(an.out _ (by repeat(first|exact aq _ _|(with_reducible first|apply ao|apply bN|apply bR)))).mono ?_;rintro e w' ⟨rfl,⟨nd,rfl⟩⟩;(try first|exact⟨rfl,_,World.drewN_drewN _ _ _⟩|exact⟨rfl,_,Eq.trans (World.drewN_drewN _ _ _) (congrArg (World.drewN _) (Nat.add_assoc _ _ _))⟩)))
     go_wp2;go_roundg (v- (a+1))
     case measure=>rw[a1.out];omega
     case rel=>exact⟨a+1,by omega,by go_num,⟨bN z.out _⟩,⟨rfl⟩⟩
    ·obtain rfl:a=v:=by omega
     obtain⟨i0,ap,_,aY,_⟩:=info_parts jU;have a2:=zt (P:=Tryz.prog) 73 25 .i64 Tryz.underlying73 ap j a n (a:Int) ab (Int.le_refl _) U;have C:=zu (P:=Tryz.prog) 73 25 .i64 Tryz.underlying73 ap 1 aY j a n (a:Int) ab (Int.le_refl _);rw[aG] at a2 C;go_upto_region 6 with (fail)
     go_quiet (fail)
     generalize a3:(if n=a then j else j.map (·.add (a*1)))=A2 at C;generalize a5:n-a=c2 at C;generalize a9:a-a=m2 at C;have ar:Aside0 (m2=0):=⟨by omega⟩;clear a3 a5 a9;go_upto_region 8 with (fail)
     have av:=zA (bN z.out nq);have o:=zA (bN B.out nq);clear z1 B;generalize wr.drewN nq=h at av o⊢;have aB:=zA (Kd.dF m.out av.out);have be:Aside0 (Kd.F (Kd.slice 3 (Kd.int .i64)) (h.alloc (.cells #[] 25)) (fun k=>b<=k/\k<h.heap.size) j a X):=⟨Kd.kC (Kd.qD (Kd.nc aB.out)) (ao (aq _ _) _)⟩;have bf:=o.out.size;have bg:=zA (Fj h w.heap.size (fun k=>b<=k) bf (by omega));have bi:Aside0 (∀k,(b<=k/\k<h.heap.size)->b<=k/\some k≠(Value.slice (some ⟨h.heap.size,0,none⟩) 0 0).ownBlock):=⟨fun k hk=>⟨hk.1,fun e=>by
      have e2:h.heap.size=k:=by simpa [Value.ownBlock,eq_comm] using e
      omega⟩⟩
     have Q:Aside0 (∀W:World,w.heap.size<=W.heap.size->∀k,W.heap.size<=k->b<=k):=⟨fun W O k hk=>by omega⟩;have hX:=M.out;clear aB;go_wp2_with (first
      |(at_builtin;refine Kd.tY (Kd.slice 3 (Kd.int .i64)) (w0:=w) w.heap.size rfl (.tmp 31) (.tmp 34) 73 25 (.slice none 0 0) 24 rfl Tryz.underlying73 jU rfl (by decide) (by omega) (.slice (some ⟨h.heap.size,0,none⟩) 0 0) [] X j a n (fun k=>b<=k) (fun k=>b<=k/\k<h.heap.size) rfl rfl bg.out be.out bi.out (Q.out _ (ao o.out _).size) (ao o.out _) (ao o.out _).size (by simp only[List.length_nil];omega) ?_;intro v1 w5 g hb q _;rw[List.nil_append] at g;have aF:=zA g;have D:=zA hb;have z5:=fU hb Z.out;clear g hb q)
      |(at_builtin;refine Kd.oN (Kd.slice 3 (Kd.int .i64)) (w0:=w) w.heap.size rfl (.tmp 36) (.tmp 41) 73 25 (.slice none 0 0) 24 rfl Tryz.underlying73 jU rfl (by decide) (by omega) v1 X p [.slice K p.length L] (fun k=>b<=k) (fun k=>b<=k/\k<w.heap.size) rfl rfl (Kd.oQ V.out (Kd.kC Y.out D.out)) (fun k hk=>⟨hk.1,fun e=>by have:=Kd.tV aF.out k e.symm;omega⟩) (Q.out _ D.out.size) aF.out D.out D.out.size (by omega) ?_;intro v2 w6 g hb q _;have bk:=zA g;have R:=zA hb;clear g hb q z5)
      |(at_builtin;refine Kd.tY (Kd.slice 3 (Kd.int .i64)) (w0:=w) w.heap.size rfl (.tmp 43) (.tmp 46) 73 25 (.slice none 0 0) 24 rfl Tryz.underlying73 jU rfl (by decide) (by omega) v2 (X++[p]) [] A2 m2 c2 (fun k=>b<=k) (fun _=>False) rfl rfl bk.out (Fk ar.out) (fun _ hk=>hk.elim) (Q.out _ R.out.size) R.out R.out.size (by have:=ar.out;rw[List.length_append,List.length_singleton];omega) ?_;intro v3 w7 g hb q _;rw[List.append_nil] at g;have bn:=zA g;have bo:=zA hb;clear g hb q))
     go_roundg (l.length- (a+1))
     case measure=>rw[HK.out];omega
     case rel=>exact⟨a+1,by omega,by go_num,bo,⟨by rw[J.out];exact bn.out⟩,⟨rfl⟩⟩
  ·obtain rfl:v=l.length:=by omega
   go_wp2;go_ret;rw[List.take_length] at m;exact⟨_,rfl,m.out,G.out⟩
mutual
def b8.l0:Nat->List Bool->Int->Int->List (S83)->Option (List Bool)
 |0,_,_,_,_=>none
 |k+1,a,b,e,g=>if b<e then(b8.l1 k a b 0 e g) else(some a)
def b8.l1:Nat->List Bool->Int->Int->Int->List (S83)->Option (List Bool)
 |0,_,_,_,_,_=>none
 |k+1,b,e,g,a,h=>if g<a then(b8.l2 k b e g 0 a h) else(b8.l0 k b (wrap64 (e+1)) a h)
def b8.l2:Nat->List Bool->Int->Int->Int->Int->List (S83)->Option (List Bool)
 |0,_,_,_,_,_,_=>none
 |k+1,e,i,a,b,g,h=>if b<g then(if 0<=a then(if a<(e.length:Int) then(if bM false e a=true then((cT.f k g h a b).bind fun t132=>(if t132>0 then(if 0<=b then(if b<(e.length:Int) then(b8.l2 k (e.set (b:Int).toNat true) i a (wrap64 (b+1)) g h) else(none)) else(none)) else(b8.l2 k e i a (wrap64 (b+1)) g h))) else(b8.l2 k e i a (wrap64 (b+1)) g h)) else(none)) else(none)) else(b8.l1 k e i (wrap64 (a+1)) g h)
end
def b8.f (k:Nat) (a:Int) (g:List (S83)) (b:Int):Option (List Bool):=if 0<=a then(if(a:Int).toNat<=281474976710656 then((some (List.replicate (a:Int).toNat false:List Bool)).bind fun e=>(if 0<=b then(if b<(e.length:Int) then(b8.l0 k (e.set (b:Int).toNat true) 0 a g) else(none)) else(none))) else(none)) else(none)
theorem b8.calls (k:Nat) (g:Int) (P:Option Addr) (Q:Nat) (l:List (S83)) (x:Int) (r:List Bool) (w:World) (bo:Kd.C aN w P l.length l) (bv:l.length<=Q) (h:b8.f k g l x=some r):
  Calls Tryz.prog 131 #[.agg #[.int .i64 g,.slice P l.length Q],.int .i64 x] w fun e w'=>∃bw:Value,e= .returned (bw)/\Kd.R Kd.bool 4 w' w.heap.size (fun _=>True) bw r/\Below w.heap.size w w':=by
 have d3:=Tryz.underlying24;have bx:=zA bo;have b0:=zA bv;clear bo bv;have q:=zA (aq w.heap.size w);unfold b8.f at h;have H:=h;clear h;by_cases c3:0<=g
 ·rw[if_pos c3] at H
  have cg:=eq_true c3;have ch:=ay c3;clear c3;by_cases c4:(g:Int).toNat<=281474976710656
  ·rw[if_pos c4] at H
   have ci:=eq_true c4;have cj:=ay c4;clear c4;obtain⟨M,aP⟩:∃X:List Bool,X=(List.replicate (g:Int).toNat false):=⟨_,rfl⟩;replace H:(if 0<=x then(if x<(M.length:Int) then(b8.l0 k (M.set (x:Int).toNat true) 0 g l) else(none)) else(none))=some r:=zh aP H;have b1:=zA aP;clear aP;by_cases c5:0<=x
   ·rw[if_pos c5] at H
    have ck:=ay c5;clear c5;by_cases c6:x<(M.length:Int)
    ·rw[if_pos c6] at H
     have cl:=ay c6;clear c6;obtain⟨aR,aS⟩:∃X:List Bool,X=(M.set (x:Int).toNat true):=⟨_,rfl⟩;replace H:(b8.l0 k aR 0 g l)=some r:=zh aS H;have cn:=zA aS;clear aS;have n:=zA H;clear H;go_enter Tryz.func131,Tryz.ntmps131
     go_wp2_with (first|((with_reducible refine aU (N:=2) rfl ?_);refine zX 2 #[.int .i64 g,.slice P l.length Q] 24 ?_;intro a0 hg w8 b2 hb;have a:=zA (b2);have d5:=zG q hg;have d6:=zG q hg;replace q:=zS q hb;clear hb b2 hg;obtain⟨co,cp,cq,cr⟩:=aA a)|((with_reducible refine aU (N:=11) rfl ?_);refine Kd.ky Kd.bool _ 4 rfl (N:=11) rfl 43 _ _ rfl g rfl rfl Tryz.underlying43 (.bool false) 1 mu rfl (by decide) (by omega) false (ok:=fun _=>True) (okp:=fun _=>True) rfl (fun _ hk=>hk) trivial (aw ‹_›) (Nat.le_trans (Nat.mul_le_mul_right _ (aw ‹_› :g.toNat<=281474976710656)) (by omega)) (aq _ _) (aI _) ?_;intro d7 b3 Y hb cs ct;clear cs ct;(first|rw[<-b1.out] at Y|(simp only[Int.reduceToNat] at Y;rw[<-b1.out] at Y));have O:=zA (Kd.bd Y (bH zB));replace a:=zb a hb;replace q:=zS q hb;clear hb Y;have p7:0<=(x:Int):=aw ‹_›;have q7:(x:Int)<((M.length:Int):Int):=aw ‹_›;obtain⟨z,Z,b4,b5,cv,d8,b6⟩:=Kd.fE O.out (by omega);(first|cases b4|(injection b4 with ar cx c0;(first|subst ar|(injection ar with ar;subst ar));subst c0;clear cx));have b':=zA b5;have d9:=zA b6;clear b5 cv b6;obtain⟨c1,ea⟩:=Kd.bO false O.out (x:Int) p7 q7;replace p7:=eq_true p7;replace q7:=eq_true q7;obtain⟨eb,ed⟩:=Kd.bO false O.out (x:Int) (aw ‹_›) (aw ‹_›);have a2:=Kd.dh O.out (x:Int) true)|((with_reducible refine jO (t:=4) (p:=14) rfl ?_);refine jN (t:=4) (p:=14) (v:=?JV) (w1:=(b3.setCell ⟨z,(x:Int).toNat,none⟩ (.bool true))) ?hg ?ho ?hn ?hr ?_;(case ho=>rfl);(case hg=>rfl);(case hn=>rfl);(case hr=>first|(go_simp;done)|(go_simp;rfl));intro a3 hw;have hg:b3.grownBy a3 (some z):=(by rw[hw];exact a2.2);have aa:Kd.R Kd.bool 4 a3 w.heap.size (fun _=>True) (.slice (some ⟨z,0,none⟩) M.length Z) aR:=(by rw[hw,cn.out];exact a2.1);clear a2;replace a:=zA (dc (zK a) hg (Kd.dr O.out a.out (by decide)));replace O:=zA (aa);replace q:=zA ((by rw[hw];exact dL (q.out) b'.out:Below w.heap.size w a3));clear hg hw aa))
     go_loopg [6] k (fun K v6 w'=>∃(ab:List Bool) (B:Int),v6= .int .i64 B/\Aside0 (b8.l0 K ab B g l=some r)/\Aside0 (K<=k)/\Aside0 (Kd.R Kd.bool 4 w' w.heap.size (fun _=>True) (.slice (some ⟨z,0,none⟩) M.length Z) ab)/\Aside0 (w'.heap[a0]? =some (.cells #[.int .i64 g,(.slice P l.length Q)] 24 (0,0)))/\Aside0 (Below w.heap.size w w'))
     case atStart=>exact⟨(aR),(0),zT,n,⟨aI _⟩,⟨zR O⟩,⟨zK a⟩,⟨zB⟩⟩
     case round=>
      clear n;clear cg ch ci cj ck cl p7 q7 co cp cq cr c1;obtain⟨ab,B,rfl,D,I,b,a,q⟩:=hrel;have o:=(Kd.aH b.out).1;rw[o] at b
      (try simp only[o])
      (try simp only[o] at a)
      cases gk with
      |zero=>exact absurd D.out (by simp[b8.l0])
      |succ k1=>
       have H:=D.out;clear D;simp only[b8.l0] at H;by_cases S:B<g
       ·rw[if_pos S] at H
        have cb:=ay S;clear S;have n:=zA H;clear H;obtain⟨c2,c7,c8,c9⟩:=aA a;go_wp2;go_loopg [7] k1 (fun K v7 w'=>∃(T:List Bool) (j:Int),v7= .int .i64 j/\Aside0 (b8.l1 K T B j g l=some r)/\Aside0 (K<=k1)/\Aside0 (Kd.R Kd.bool 4 w' w.heap.size (fun _=>True) (.slice (some ⟨z,0,none⟩) ab.length Z) T)/\Aside0 (w'.heap[a0]? =some (.cells #[.int .i64 g,(.slice P l.length Q)] 24 (0,0)))/\Aside0 (Below w.heap.size w w'))
        case atStart=>exact⟨(ab),(0),zT,n,⟨aI _⟩,⟨by(try simp only[o]);(with_reducible repeat(first|apply Kd.aM|apply Kd.bs|apply Kd.bj));exact b.out⟩,⟨by(try simp only[o]);exact zK a⟩,⟨zB⟩⟩
        case round=>
         clear n;clear cb c2 c7 c8 c9;obtain⟨T,j,rfl,D,J,b,a,q⟩:=hrel;have s:=(Kd.aH b.out).1;rw[s] at b
         (try simp only[s])
         (try simp only[s] at a)
         cases gk with
         |zero=>exact absurd D.out (by simp[b8.l1])
         |succ k2=>
          have H:=D.out;clear D;simp only[b8.l1] at H;by_cases U:j<g
          ·rw[if_pos U] at H
           have cc:=ay U;clear U;have n:=zA H;clear H;obtain⟨dd,dk,dl,ds⟩:=aA a;go_wp2;go_loopg [8] k2 (fun K v8 w'=>∃(m:List Bool) (i:Int),v8= .int .i64 i/\Aside0 (b8.l2 K m B j i g l=some r)/\Aside0 (K<=k2)/\Aside0 (Kd.R Kd.bool 4 w' w.heap.size (fun _=>True) (.slice (some ⟨z,0,none⟩) T.length Z) m)/\Aside0 (w'.heap[a0]? =some (.cells #[.int .i64 g,(.slice P l.length Q)] 24 (0,0)))/\Aside0 (Below w.heap.size w w'))
           case atStart=>exact⟨(T),(0),zT,n,⟨aI _⟩,⟨by(try simp only[o]);(try simp only[s]);(with_reducible repeat(first|apply Kd.aM|apply Kd.bs|apply Kd.bj));exact b.out⟩,⟨by(try simp only[o]);(try simp only[s]);exact zK a⟩,⟨zB⟩⟩
           case round=>
            clear n;clear cc dd dk dl ds;obtain⟨m,i,rfl,D,L,b,a,q⟩:=hrel;have u:=(Kd.aH b.out).1;rw[u] at b
            (try simp only[u])
            (try simp only[u] at a)
            cases gk with
            |zero=>exact absurd D.out (by simp[b8.l2])
            |succ E=>
             have H:=D.out;clear D;simp only[b8.l2] at H;by_cases V:i<g
             ·rw[if_pos V] at H
              have dx:=ay V;clear V;by_cases av:0<=j
              ·rw[if_pos av] at H
               have eg:=ay av;clear av;by_cases aB:j<(m.length:Int)
               ·rw[if_pos aB] at H
                have ek:=ay aB;clear aB;obtain⟨cd,a5⟩:∃b_:Bool,b_=(bM false m j):=⟨_,rfl⟩;replace H:(if cd=true then((cT.f E g l j i).bind fun t132=>(if t132>0 then(if 0<=i then(if i<(m.length:Int) then(b8.l2 E (m.set (i:Int).toNat true) B j (wrap64 (i+1)) g l) else(none)) else(none)) else(b8.l2 E m B j (wrap64 (i+1)) g l))) else(b8.l2 E m B j (wrap64 (i+1)) g l))=some r:=by rw[<-a5] at H;exact H
                have a9:=zA a5;clear a5;by_cases aF:cd=true
                ·subst aF
                 replace H:=zi H;obtain⟨t132,ce,H⟩:=zo H;by_cases W:t132>0
                 ·rw[if_pos W] at H
                  have d1:=ay W;clear W;by_cases aL:0<=i
                  ·rw[if_pos aL] at H
                   have el:=ay aL;clear aL;by_cases aO:i<(m.length:Int)
                   ·rw[if_pos aO] at H
                    have em:=ay aO;clear aO;obtain⟨be,bf⟩:∃X:List Bool,X=(m.set (i:Int).toNat true):=⟨_,rfl⟩;replace H:(b8.l2 E be B j (wrap64 (i+1)) g l)=some r:=zh bf H;have d2:=zA bf;clear bf;have n:=zA H;clear H;obtain⟨er,es,ev,ew⟩:=aA a;have F:0<=(j:Int):=aw ‹_›;have G:j<(m.length:Int):=aw ‹_›;obtain⟨ad,ag,y⟩:=Kd.jt (Kd.aH b.out).2.2 j F G
                    (try rw[<-a9.out] at y)
                    obtain rfl:(⟨z,0,none⟩:Addr)=ad:=(by injection ag)
                    (first|simp only[add_plain] at y|simp only[iC] at y|simp only[Addr.add,Nat.zero_add] at y|skip)
                    replace F:=eq_true F;replace G:=eq_true G;go_wp2_with (first|(go_at_call 147;(with_reducible refine(cT.calls E g _ _ l j i t132 _ ?al ?aj ce.out).mono ?_);(case al=>exact Kd.ax bx.out zB);(case aj=>exact b0.out);rintro e cf ⟨rfl,hb⟩;replace b:=bp b hb;replace a:=zb a hb;replace q:=zS q hb;(try clear hb);have bg:0<=(i:Int):=aw ‹_›;have bi:(i:Int)<((m.length:Int):Int):=aw ‹_›;obtain⟨ex,ey⟩:=Kd.bO false b.out (i:Int) bg bi;replace bg:=eq_true bg;replace bi:=eq_true bi;obtain⟨e0,e1⟩:=Kd.bO false b.out (i:Int) (aw ‹_›) (aw ‹_›);have bk:=Kd.dh b.out (i:Int) true)|((with_reducible refine jO (t:=4) (p:=46) rfl ?_);refine jN (t:=4) (p:=46) (v:=?L9) (w1:=(cf.setCell ⟨z,(i:Int).toNat,none⟩ (.bool true))) ?hg ?ho ?hn ?hr ?_;(case ho=>rfl);(case hg=>rfl);(case hn=>rfl);(case hr=>first|(go_simp;done)|(go_simp;rfl));intro bn hw;have hg:cf.grownBy bn (some z):=(by rw[hw];exact bk.2);have aa:Kd.R Kd.bool 4 bn w.heap.size (fun _=>True) (.slice (some ⟨z,0,none⟩) m.length Z) be:=(by rw[hw,d2.out];exact bk.1);clear bk;replace a:=zA (dc (zK a) hg (Kd.dr b.out a.out (by decide)));replace b:=zA (aa);replace q:=zA ((by rw[hw];exact dL (q.out) b'.out:Below w.heap.size w bn));clear hg hw aa))
                    (try simp only[<-u])
                    go_roundg E
                    case measure=>have:=I.out;have:=J.out;have:=L.out;omega
                    case rel=>exact⟨(be),(wrap64 (i+1)),zT,n,⟨by have:=I.out;have:=J.out;have:=L.out;omega⟩,⟨by(try simp only[o]);(try simp only[s]);(try simp only[u]);(with_reducible repeat(first|apply Kd.aM|apply Kd.bs|apply Kd.bj));exact b.out⟩,⟨by(try simp only[o]);(try simp only[s]);(try simp only[u]);exact zK a⟩,⟨zB⟩⟩
                   ·rw[if_neg aO] at H
                    exact absurd H (by simp)
                  ·rw[if_neg aL] at H
                   exact absurd H (by simp)
                 ·rw[if_neg W] at H
                  have d1:=aZ W;clear W;have n:=zA H;clear H;obtain⟨e2,e3,e4,e5⟩:=aA a;have F:0<=(j:Int):=aw ‹_›;have G:j<(m.length:Int):=aw ‹_›;obtain⟨ad,ag,y⟩:=Kd.jt (Kd.aH b.out).2.2 j F G
                  (try rw[<-a9.out] at y)
                  obtain rfl:(⟨z,0,none⟩:Addr)=ad:=(by injection ag)
                  (first|simp only[add_plain] at y|simp only[iC] at y|simp only[Addr.add,Nat.zero_add] at y|skip)
                  replace F:=eq_true F;replace G:=eq_true G;go_wp2_with (first|(go_at_call 147;(with_reducible refine(cT.calls E g _ _ l j i t132 _ ?al ?aj ce.out).mono ?_);(case al=>exact Kd.ax bx.out zB);(case aj=>exact b0.out);rintro e e6 ⟨rfl,hb⟩;replace b:=bp b hb;replace a:=zb a hb;replace q:=zS q hb;(try clear hb)))
                  (try simp only[<-u])
                  go_roundg E
                  case measure=>have:=I.out;have:=J.out;have:=L.out;omega
                  case rel=>exact⟨(m),(wrap64 (i+1)),zT,n,⟨by have:=I.out;have:=J.out;have:=L.out;omega⟩,⟨by(try simp only[o]);(try simp only[s]);(try simp only[u]);(with_reducible repeat(first|apply Kd.aM|apply Kd.bs|apply Kd.bj));exact b.out⟩,⟨by(try simp only[o]);(try simp only[s]);(try simp only[u]);exact zK a⟩,⟨zB⟩⟩
                ·replace aF:=Bool.eq_false_iff.mpr aF
                 subst aF;replace H:=zj H;have n:=zA H;clear H;obtain⟨e_,e',fb,fd⟩:=aA a;have F:0<=(j:Int):=aw ‹_›;have G:j<(m.length:Int):=aw ‹_›;obtain⟨ad,ag,y⟩:=Kd.jt (Kd.aH b.out).2.2 j F G
                 (try rw[<-a9.out] at y)
                 obtain rfl:(⟨z,0,none⟩:Addr)=ad:=(by injection ag)
                 (first|simp only[add_plain] at y|simp only[iC] at y|simp only[Addr.add,Nat.zero_add] at y|skip)
                 replace F:=eq_true F;replace G:=eq_true G;go_wp2
                 (try simp only[<-u])
                 go_roundg E
                 case measure=>have:=I.out;have:=J.out;have:=L.out;omega
                 case rel=>exact⟨(m),(wrap64 (i+1)),zT,n,⟨by have:=I.out;have:=J.out;have:=L.out;omega⟩,⟨by(try simp only[o]);(try simp only[s]);(try simp only[u]);(with_reducible repeat(first|apply Kd.aM|apply Kd.bs|apply Kd.bj));exact b.out⟩,⟨by(try simp only[o]);(try simp only[s]);(try simp only[u]);exact zK a⟩,⟨zB⟩⟩
               ·rw[if_neg aB] at H
                exact absurd H (by simp)
              ·rw[if_neg av] at H
               exact absurd H (by simp)
             ·rw[if_neg V] at H
              have dx:=aZ V;clear V;have n:=zA H;clear H;obtain⟨fn,fo,fq,fr⟩:=aA a;go_wp2
              (try simp only[<-s,<-u])
              go_roundg E
              case measure=>have:=I.out;have:=J.out;have:=L.out;omega
              case rel=>exact⟨(m),(wrap64 (j+1)),zT,n,⟨by have:=I.out;have:=J.out;have:=L.out;omega⟩,⟨by(try simp only[o]);(try simp only[s]);(try simp only[u]);(with_reducible repeat(first|apply Kd.aM|apply Kd.bs|apply Kd.bj));exact b.out⟩,⟨by(try simp only[o]);(try simp only[s]);(try simp only[u]);exact zK a⟩,⟨zB⟩⟩
          ·rw[if_neg U] at H
           have cc:=aZ U;clear U;have n:=zA H;clear H;obtain⟨ft,fv,f0,f1⟩:=aA a;go_wp2
           (try simp only[<-o,<-s])
           go_roundg k2
           case measure=>have:=I.out;have:=J.out;omega
           case rel=>exact⟨(T),(wrap64 (B+1)),zT,n,⟨by have:=I.out;have:=J.out;omega⟩,⟨by(try simp only[o]);(try simp only[s]);(with_reducible repeat(first|apply Kd.aM|apply Kd.bs|apply Kd.bj));exact b.out⟩,⟨by(try simp only[o]);(try simp only[s]);exact zK a⟩,⟨zB⟩⟩
       ·rw[if_neg S] at H
        have cb:=aZ S;clear S;obtain rfl:=aQ H;obtain⟨f2,f3,f4,f5⟩:=aA a;go_wp2;go_ret;exact⟨_,zE,by(with_reducible repeat(first|apply Kd.aM|apply Kd.bs|apply Kd.bj));exact b.out,zB⟩
    ·rw[if_neg c6] at H
     exact absurd H (by simp)
   ·rw[if_neg c5] at H
    exact absurd H (by simp)
  ·rw[if_neg c4] at H
   exact absurd H (by simp)
 ·rw[if_neg c3] at H
  exact absurd H (by simp)
mutual
def cX.l0:Nat->Int->List Bool->Int->Int->List (S83)->Option (Int)
 |0,_,_,_,_,_=>none
 |k+1,x3,x4,a,b,e=>if a<b then(if 0<=a then(if a<(x4.length:Int) then(if bM false x4 a=true then(cX.l0 k x3 x4 (wrap64 (a+1)) b e) else((b8.f k b e a).bind fun t139=>(cX.l1 k (wrap64 (x3+1)) x4 a t139 0 b e))) else(none)) else(none)) else(some x3)
def cX.l1:Nat->Int->List Bool->Int->List Bool->Int->Int->List (S83)->Option (Int)
 |0,_,_,_,_,_,_,_=>none
 |k+1,x3,x4,g,b,a,e,h=>if a<e then(if 0<=a then(if a<(x4.length:Int) then(if bM false x4 a=true then(cX.l1 k x3 (x4.set (a:Int).toNat true) g b (wrap64 (a+1)) e h) else(if a<(b.length:Int) then(cX.l1 k x3 (x4.set (a:Int).toNat (bM false b a)) g b (wrap64 (a+1)) e h) else(none))) else(none)) else(none)) else(cX.l0 k x3 x4 (wrap64 (g+1)) e h)
end
def cX.f (k:Nat) (a:Int) (b:List (S83)):Option (Int):=if 0<=a then(if(a:Int).toNat<=281474976710656 then(cX.l0 k 0 (List.replicate (a:Int).toNat false) 0 a b) else(none)) else(none)
theorem cX.calls (k:Nat) (j:Int) (O:Option Addr) (P:Nat) (l:List (S83)) (r:Int) (w:World) (b2:Kd.C aN w O l.length l) (b3:l.length<=P) (h:cX.f k j l=some r):
  Calls Tryz.prog 74 #[.agg #[.int .i64 j,.slice O l.length P]] w fun e w'=>e= .returned (.int .i64 r)/\Below w.heap.size w w':=by
 have ek:=Tryz.underlying24;have ci:=zA b2;have cj:=zA b3;clear b2 b3;have q:=zA (aq w.heap.size w);unfold cX.f at h;have H:=h;clear h;by_cases c2:0<=j
 ·rw[if_pos c2] at H
  have ck:=eq_true c2;have cl:=ay c2;clear c2;by_cases c3:(j:Int).toNat<=281474976710656
  ·rw[if_pos c3] at H
   have cn:=eq_true c3;have co:=ay c3;clear c3;obtain⟨b4,aB⟩:∃V:List Bool,V=(List.replicate (j:Int).toNat false):=⟨_,rfl⟩;replace H:(cX.l0 k 0 b4 0 j l)=some r:=zh aB H;have b5:=zA aB;clear aB;have s:=zA H;clear H;go_enter Tryz.func74,Tryz.ntmps74
   go_wp2_with (first|((with_reducible refine aU (N:=1) rfl ?_);refine zX 1 #[.int .i64 j,.slice O l.length P] 24 ?_;intro b6 hg w4 b' hb;have g:=zA (b');have em:=zG q hg;have er:=zG q hg;replace q:=zS q hb;clear hb b' hg;obtain⟨cp,cq,cr,cs⟩:=aA g)|((with_reducible refine aU (N:=10) rfl ?_);refine Kd.ky Kd.bool _ 4 rfl (N:=10) rfl 43 _ _ rfl j rfl rfl Tryz.underlying43 (.bool false) 1 mu rfl (by decide) (by omega) false (ok:=fun _=>True) (okp:=fun _=>True) rfl (fun _ hk=>hk) trivial (aw ‹_›) (Nat.le_trans (Nat.mul_le_mul_right _ (aw ‹_› :j.toNat<=281474976710656)) (by omega)) (aq _ _) (aI _) ?_;intro ct w6 W hb cv cx;clear cv cx;(first|rw[<-b5.out] at W|(simp only[Int.reduceToNat] at W;rw[<-b5.out] at W));have c0:=zA (Kd.bd W (bH zB));replace g:=zb g hb;replace q:=zS q hb;clear hb W))
   go_loopg [3,5] k (fun X v3 v5 w'=>∃(x:Int) (u:List Bool) (i:Int),v3= .int .i64 x/\v5= .int .i64 i/\Aside0 (cX.l0 X x u i j l=some r)/\Aside0 (X<=k)/\Aside0 (Kd.R Kd.bool 4 w' w.heap.size (fun _=>True) ct u)/\Aside0 (w'.heap[b6]? =some (.cells #[.int .i64 j,(.slice O l.length P)] 24 (0,0)))/\Aside0 (Below w.heap.size w w'))
   case atStart=>exact⟨(0),(b4),(0),zT,zT,s,⟨aI _⟩,⟨zR c0⟩,⟨zK g⟩,⟨zB⟩⟩
   case round=>
    clear s;clear ck cl cn co cp cq cr cs;obtain⟨x,u,i,rfl,rfl,F,z,b,g,q⟩:=hrel;cases gk with
    |zero=>exact absurd F.out (by simp[cX.l0])
    |succ G=>
     have H:=F.out;clear F;simp only[cX.l0] at H;by_cases Q:i<j
     ·rw[if_pos Q] at H
      have ca:=ay Q;clear Q;by_cases c9:0<=i
      ·rw[if_pos c9] at H
       have c1:=ay c9;clear c9;by_cases ag:i<(u.length:Int)
       ·rw[if_pos ag] at H
        have c4:=ay ag;clear ag;obtain⟨cb,aF⟩:∃b_:Bool,b_=(bM false u i):=⟨_,rfl⟩;replace H:(if cb=true then(cX.l0 G x u (wrap64 (i+1)) j l) else((b8.f G j l i).bind fun t139=>(cX.l1 G (wrap64 (x+1)) u i t139 0 j l)))=some r:=by rw[<-aF] at H;exact H
        have Y:=zA aF;clear aF;by_cases ak:cb=true
        ·subst ak
         replace H:=zi H;have s:=zA H;clear H;obtain⟨ev,ew,ex,ey⟩:=aA g;obtain⟨e0,e1,c5⟩:=Kd.bh b.out;subst c5;have B:0<=(i:Int):=aw ‹_›;have D:i<(u.length:Int):=aw ‹_›;obtain⟨c6,aO,S⟩:=Kd.jt (Kd.aH b.out).2.2 i B D
         (try rw[<-Y.out] at S)
         cases aO;replace B:=eq_true B;replace D:=eq_true D;go_wp2;go_roundg G
         case measure=>have:=z.out;omega
         case rel=>exact⟨(x),(u),(wrap64 (i+1)),zT,zT,s,⟨by have:=z.out;omega⟩,⟨zR b⟩,⟨zK g⟩,⟨zB⟩⟩
        ·replace ak:=Bool.eq_false_iff.mpr ak
         subst ak;replace H:=zj H;obtain⟨t139,c7,H⟩:=zo H;have s:=zA H;clear H;obtain⟨c',dd,dk,dl⟩:=aA g;obtain⟨e2,E,ds⟩:=Kd.bh b.out;subst ds;have B:0<=(i:Int):=aw ‹_›;have D:i<(u.length:Int):=aw ‹_›;obtain⟨c6,aO,S⟩:=Kd.jt (Kd.aH b.out).2.2 i B D
         (try rw[<-Y.out] at S)
         cases aO;obtain⟨am,dv⟩:=Kd.mg b.out;subst dv;simp only[add_plain] at S;replace B:=eq_true B;replace D:=eq_true D;go_wp2_with (first|((with_reducible refine aJ (f:=131) rfl ?_);refine zL (some 25) Tryz.func131 #[.agg #[.int .i64 j,.slice O l.length P],.int .i64 i] ?_;(with_reducible refine(b8.calls G j _ _ l i t139 _ ?al ?aj c7.out).mono ?_);(case al=>exact Kd.ax ci.out zB);(case aj=>exact cj.out);rintro e e3 ⟨aP,rfl,aR,hb⟩;refine⟨_,rfl,?_⟩;have dx:=zA (Kd.bd (Kd.bQ aR (Kd.ba (zR b))) (bH zB));replace b:=bS b aR hb;replace g:=zb g hb;replace q:=zS q hb;(try clear hb);(try clear aR)))
         go_loopg [7] G (fun X v7 w'=>∃(m:List Bool) (a:Int),v7= .int .i64 a/\Aside0 (cX.l1 X (wrap64 (x+1)) m i t139 a j l=some r)/\Aside0 (X<=G)/\Aside0 (Kd.R Kd.bool 4 w' w.heap.size (fun I=>some I≠(aP:Value).ownBlock) (.slice (some ⟨am,0,none⟩) u.length E) m)/\Aside0 (Kd.R Kd.bool 4 w' w.heap.size (fun I=>some I≠((.slice (some ⟨am,0,none⟩) u.length E):Value).ownBlock) aP t139)/\Aside0 (w'.heap[b6]? =some (.cells #[.int .i64 j,(.slice O l.length P)] 24 (0,0)))/\Aside0 (Below w.heap.size w w'))
         case atStart=>exact⟨(u),(0),zT,s,⟨aI _⟩,⟨by(with_reducible repeat(first|apply Kd.aM|apply Kd.bs|apply Kd.bj));exact Kd.a_ b.out (fun _ hk=>hk.2)⟩,⟨by(with_reducible repeat(first|apply Kd.aM|apply Kd.bs|apply Kd.bj));exact Kd.a_ dx.out (fun _ hk=>hk.2)⟩,⟨zK g⟩,⟨zB⟩⟩
         case round=>
          clear s;clear ca c1 c4 c' dd dk dl S B D;obtain⟨m,a,rfl,F,T,b,y,g,q⟩:=hrel;have o:=(Kd.aH b.out).1;rw[o] at b
          (try simp only[o])
          (try simp only[o] at g)
          (try simp only[o] at y)
          cases gk with
          |zero=>exact absurd F.out (by simp[cX.l1])
          |succ J=>
           have H:=F.out;clear F;simp only[cX.l1] at H;by_cases U:a<j
           ·rw[if_pos U] at H
            have d1:=ay U;clear U;by_cases an:0<=a
            ·rw[if_pos an] at H
             have e4:=ay an;clear an;by_cases ap:a<(m.length:Int)
             ·rw[if_pos ap] at H
              have e5:=ay ap;clear ap;obtain⟨cc,aS⟩:∃b_:Bool,b_=(bM false m a):=⟨_,rfl⟩;replace H:(if cc=true then(cX.l1 J (wrap64 (x+1)) (m.set (a:Int).toNat true) i t139 (wrap64 (a+1)) j l) else(if a<(t139.length:Int) then(cX.l1 J (wrap64 (x+1)) (m.set (a:Int).toNat (bM false t139 a)) i t139 (wrap64 (a+1)) j l) else(none)))=some r:=by rw[<-aS] at H;exact H
              have a0:=zA aS;clear aS;by_cases ar:cc=true
              ·subst ar
               replace H:=zi H;obtain⟨a1,a2⟩:∃V:List Bool,V=(m.set (a:Int).toNat true):=⟨_,rfl⟩;replace H:(cX.l1 J (wrap64 (x+1)) a1 i t139 (wrap64 (a+1)) j l)=some r:=zh a2 H;have d2:=zA a2;clear a2;have s:=zA H;clear H;obtain⟨e6,e_,e',fb⟩:=aA g;have K:0<=(a:Int):=aw ‹_›;have L:a<(m.length:Int):=aw ‹_›;obtain⟨a3,a4,M⟩:=Kd.jt (Kd.aH b.out).2.2 a K L
               (try rw[<-Y.out] at M)
               (try rw[<-a0.out] at M)
               obtain rfl:(⟨am,0,none⟩:Addr)=a3:=(by injection a4);replace K:=eq_true K;replace L:=eq_true L;have a5:0<=(a:Int):=aw ‹_›;have a9:(a:Int)<((m.length:Int):Int):=aw ‹_›;obtain⟨Z,fd,d3,cd,d4,fn,ce⟩:=Kd.fE b.out (by omega)
               (first|(injection d3 with n be bf;(first|subst n|(injection n with n;first|subst n|(injection n with n;have n:=n.symm;subst n)));subst bf;clear be))
               have d5:=zA cd;have fo:=zA ce;clear cd d4 ce
               (first|simp only[add_plain] at S|skip)
               (first|simp only[add_plain] at M|skip)
               obtain⟨fq,fr⟩:=Kd.bO false b.out (a:Int) a5 a9;replace a5:=eq_true a5;replace a9:=eq_true a9;have bg:=Kd.dh b.out (a:Int) true;go_wp2_with (first|((with_reducible refine jO (t:=4) (p:=44) rfl ?_);refine jN (t:=4) (p:=44) (v:=?JW) (w1:=(wr.setCell ⟨Z,(a:Int).toNat,none⟩ (.bool true))) ?hg ?ho ?hn ?hr ?_;(case ho=>rfl);(case hg=>rfl);(case hn=>rfl);(case hr=>first|(go_simp;done)|(go_simp;rfl));intro bi hw;have hg:wr.grownBy bi (some Z):=(by rw[hw];exact bg.2);have aa:Kd.R Kd.bool 4 bi w.heap.size (fun I=>some I≠(aP:Value).ownBlock) (.slice (some ⟨Z,0,none⟩) m.length E) a1:=(by rw[hw,d2.out];exact bg.1);clear bg;replace y:=zA (Kd.te (v:=(.slice (some ⟨Z,0,none⟩) m.length E)) (v1:=(.slice (some ⟨Z,0,none⟩) m.length E)) (ok:=(fun _=>True)) (by(with_reducible repeat(first|apply Kd.aM|apply Kd.bs|apply Kd.bj));exact Kd.a_ y.out (fun _ hk=>⟨trivial,hk⟩)) hg (.inl rfl));replace g:=zA (dc (zK g) hg (Kd.dr b.out g.out (by decide)));replace b:=zA (aa);replace q:=zA ((by rw[hw];exact dL (q.out) d5.out:Below w.heap.size w bi));clear hg hw aa))
               (try simp only[<-o])
               go_roundg J
               case measure=>have:=z.out;have:=T.out;omega
               case rel=>exact⟨(a1),(wrap64 (a+1)),zT,s,⟨by have:=z.out;have:=T.out;omega⟩,⟨by(try simp only[o]);(with_reducible repeat(first|apply Kd.aM|apply Kd.bs|apply Kd.bj));exact b.out⟩,⟨by(try simp only[o]);(with_reducible repeat(first|apply Kd.aM|apply Kd.bs|apply Kd.bj));exact Kd.a_ y.out (fun _ hk=>hk.2)⟩,⟨by(try simp only[o]);exact zK g⟩,⟨zB⟩⟩
              ·replace ar:=Bool.eq_false_iff.mpr ar
               subst ar;replace H:=zj H;by_cases av:a<(t139.length:Int)
               ·rw[if_pos av] at H
                have ft:=ay av;clear av;obtain⟨bk,bn⟩:∃V:List Bool,V=(m.set (a:Int).toNat (bM false t139 a)):=⟨_,rfl⟩;replace H:(cX.l1 J (wrap64 (x+1)) bk i t139 (wrap64 (a+1)) j l)=some r:=zh bn H;have d6:=zA bn;clear bn;have s:=zA H;clear H;obtain⟨fv,f0,f1,f2⟩:=aA g;have K:0<=(a:Int):=aw ‹_›;have L:a<(m.length:Int):=aw ‹_›;obtain⟨a3,a4,M⟩:=Kd.jt (Kd.aH b.out).2.2 a K L
                (try rw[<-Y.out] at M)
                (try rw[<-a0.out] at M)
                obtain rfl:(⟨am,0,none⟩:Addr)=a3:=(by injection a4);replace K:=eq_true K;replace L:=eq_true L;obtain⟨f3,d7,d8⟩:=Kd.bh y.out;subst d8;have bo:0<=(a:Int):=aw ‹_›;have bv:a<(t139.length:Int):=aw ‹_›;obtain⟨d9,ea,cf⟩:=Kd.jt (Kd.aH y.out).2.2 a bo bv
                (try rw[<-Y.out] at cf)
                (try rw[<-a0.out] at cf)
                cases ea;replace bo:=eq_true bo;replace bv:=eq_true bv;have bw:0<=(a:Int):=aw ‹_›;have bx:(a:Int)<((m.length:Int):Int):=aw ‹_›;obtain⟨ab,f4,eb,cg,ed,f5,ch⟩:=Kd.fE b.out (by omega)
                (first|(injection eb with n be bf;(first|subst n|(injection n with n;first|subst n|(injection n with n;have n:=n.symm;subst n)));subst bf;clear be))
                have eg:=zA cg;have f6:=zA ch;clear cg ed ch
                (first|simp only[add_plain] at M|skip)
                obtain⟨f7,f8⟩:=Kd.bO false b.out (a:Int) bw bx;replace bw:=eq_true bw;replace bx:=eq_true bx;have b0:=Kd.dh b.out (a:Int) (bM false t139 a);go_wp2_with (first|((with_reducible refine jO (t:=4) (p:=44) rfl ?_);refine jN (t:=4) (p:=44) (v:=?L_) (w1:=(wr.setCell ⟨ab,(a:Int).toNat,none⟩ (.bool (bM false t139 a)))) ?hg ?ho ?hn ?hr ?_;(case ho=>rfl);(case hg=>rfl);(case hn=>rfl);(case hr=>first|(go_simp;done)|(go_simp;rfl));intro b1 hw;have hg:wr.grownBy b1 (some ab):=(by rw[hw];exact b0.2);have aa:Kd.R Kd.bool 4 b1 w.heap.size (fun I=>some I≠(.slice (some d9) t139.length d7:Value).ownBlock) (.slice (some ⟨ab,0,none⟩) m.length E) bk:=(by rw[hw,d6.out];exact b0.1);clear b0;replace y:=zA (Kd.te (v:=(.slice (some ⟨ab,0,none⟩) m.length E)) (v1:=(.slice (some ⟨ab,0,none⟩) m.length E)) (ok:=(fun _=>True)) (by(with_reducible repeat(first|apply Kd.aM|apply Kd.bs|apply Kd.bj));exact Kd.a_ y.out (fun _ hk=>⟨trivial,hk⟩)) hg (.inl rfl));replace g:=zA (dc (zK g) hg (Kd.dr b.out g.out (by decide)));replace b:=zA (aa);replace q:=zA ((by rw[hw];exact dL (q.out) eg.out:Below w.heap.size w b1));clear hg hw aa))
                (try simp only[<-o])
                go_roundg J
                case measure=>have:=z.out;have:=T.out;omega
                case rel=>exact⟨(bk),(wrap64 (a+1)),zT,s,⟨by have:=z.out;have:=T.out;omega⟩,⟨by(try simp only[o]);(with_reducible repeat(first|apply Kd.aM|apply Kd.bs|apply Kd.bj));exact b.out⟩,⟨by(try simp only[o]);(with_reducible repeat(first|apply Kd.aM|apply Kd.bs|apply Kd.bj));exact Kd.a_ y.out (fun _ hk=>hk.2)⟩,⟨by(try simp only[o]);exact zK g⟩,⟨zB⟩⟩
               ·rw[if_neg av] at H
                exact absurd H (by simp)
             ·rw[if_neg ap] at H
              exact absurd H (by simp)
            ·rw[if_neg an] at H
             exact absurd H (by simp)
           ·rw[if_neg U] at H
            have d1:=aZ U;clear U;have s:=zA H;clear H;obtain⟨f9,f',ga,gb⟩:=aA g;go_wp2
            (try simp only[<-o])
            go_roundg J
            case measure=>have:=z.out;have:=T.out;omega
            case rel=>exact⟨((wrap64 (x+1))),(m),(wrap64 (i+1)),zT,zT,s,⟨by have:=z.out;have:=T.out;omega⟩,⟨by(try simp only[o]);(with_reducible repeat(first|apply Kd.aM|apply Kd.bs|apply Kd.bj));exact Kd.a_ b.out (fun _ hk=>trivial)⟩,⟨by(try simp only[o]);exact zK g⟩,⟨zB⟩⟩
       ·rw[if_neg ag] at H
        exact absurd H (by simp)
      ·rw[if_neg c9] at H
       exact absurd H (by simp)
     ·rw[if_neg Q] at H
      have ca:=aZ Q;clear Q;obtain rfl:=aQ H;obtain⟨gc,gd,ge,gf⟩:=aA g;go_wp2;go_ret;exact⟨zE,zB⟩
  ·rw[if_neg c3] at H
   exact absurd H (by simp)
 ·rw[if_neg c2] at H
  exact absurd H (by simp)
def mM.f (k:Nat) (a:Int) (b:List (S83)):Option (Bool):=(cX.f k a b).bind fun t147=>(some (t147==1))
theorem mM.calls (k:Nat) (b:Int) (i:Option Addr) (j:Nat) (a:List (S83)) (r:Bool) (w:World) (n:Kd.C aN w i a.length a) (o:a.length<=j) (h:mM.f k b a=some r):
  Calls Tryz.prog 104 #[.agg #[.int .i64 b,.slice i a.length j]] w fun e w'=>e= .returned (.bool r)/\Below w.heap.size w w':=by
 have v:=Tryz.underlying24;have q:=zA n;have s:=zA o;clear n o;have g:=zA (aq w.heap.size w);have H:((cX.f k b a).bind fun t147=>(some (t147==1)))=some r:=h;clear h;obtain⟨t147,u,H⟩:=zo H;obtain rfl:=aQ H;go_enter Tryz.func104,Tryz.ntmps104
 go_wp2_with (first|((with_reducible refine aU (N:=1) rfl ?_);refine zX 1 #[.int .i64 b,.slice i a.length j] 24 ?_;intro x l w3 p hb;have m:=zA (p);have y:=zG g l;have z:=zG g l;replace g:=zS g hb;clear hb p l;obtain⟨B,D,E,F⟩:=aA m)|((with_reducible refine aJ (f:=74) rfl ?_);refine zL (some 4) Tryz.func74 #[.agg #[.int .i64 b,.slice i a.length j]] ?_;(with_reducible refine(cX.calls k b _ _ a t147 _ ?al ?aj u.out).mono ?_);(case al=>exact Kd.ax q.out zB);(case aj=>exact s.out);rintro e G ⟨rfl,hb⟩;refine⟨_,rfl,?_⟩;replace m:=zb m hb;replace g:=zS g hb;(try clear hb)))
 go_ret;exact⟨zE,zB⟩
def kc.f (k:Nat) (a:Int) (b:List (S83)):Option (Int):=(dq.f k a b).bind fun t149=>(if t149=0 then((mM.f k a b).bind fun t150=>(if t150=true then(some 0) else(some 13))) else(some t149))
theorem kc.calls (k:Nat) (i:Int) (l:Option Addr) (m:Nat) (b:List (S83)) (r:Int) (w:World) (u:Kd.C aN w l b.length b) (v:b.length<=m) (h:kc.f k i b=some r):
  Calls Tryz.prog 48 #[.agg #[.int .i64 i,.slice l b.length m]] w fun e w'=>e= .returned (.int .i64 r)/\Below w.heap.size w w':=by
 have F:=Tryz.underlying24;have o:=zA u;have p:=zA v;clear u v;have a:=zA (aq w.heap.size w);unfold kc.f at h;have H:=h;clear h;obtain⟨t149,s,H⟩:=zo H;by_cases c3:t149=0
 ·rw[if_pos c3] at H
  obtain⟨D,E⟩:=bT c3;clear c3;obtain⟨t150,x,H⟩:=zo H;by_cases q:t150=true
  ·subst q
   replace H:=zi H;obtain rfl:=aQ H;go_enter Tryz.func48,Tryz.ntmps48
   go_wp2_with (first|((with_reducible refine aU (N:=1) rfl ?_);refine zX 1 #[.int .i64 i,.slice l b.length m] 24 ?_;intro y j G n hb;have g:=zA (n);have z:=zG a j;have B:=zG a j;replace a:=zS a hb;clear hb n j;obtain⟨I,J,K,L⟩:=aA g)|((with_reducible refine aJ (f:=103) rfl ?_);refine zL (some 5) Tryz.func103 #[.agg #[.int .i64 i,.slice l b.length m]] ?_;(with_reducible refine(dq.calls k i _ _ b t149 _ ?al ?aj s.out).mono ?_);(case al=>exact Kd.ax o.out zB);(case aj=>exact p.out);rintro e M ⟨rfl,hb⟩;refine⟨_,rfl,?_⟩;replace g:=zb g hb;replace a:=zS a hb;(try clear hb);obtain⟨O,P,Q,R⟩:=aA g)|((with_reducible refine aJ (f:=104) rfl ?_);refine zL (some 10) Tryz.func104 #[.agg #[.int .i64 i,.slice l b.length m]] ?_;(with_reducible refine(mM.calls k i _ _ b true _ ?al ?aj x.out).mono ?_);(case al=>exact Kd.ax o.out zB);(case aj=>exact p.out);rintro e S ⟨rfl,hb⟩;refine⟨_,rfl,?_⟩;replace g:=zb g hb;replace a:=zS a hb;(try clear hb)))
   go_ret;exact⟨zE,zB⟩
  ·replace q:=Bool.eq_false_iff.mpr q
   subst q;replace H:=zj H;obtain rfl:=aQ H;go_enter Tryz.func48,Tryz.ntmps48
   go_wp2_with (first|((with_reducible refine aU (N:=1) rfl ?_);refine zX 1 #[.int .i64 i,.slice l b.length m] 24 ?_;intro y j T n hb;have g:=zA (n);have z:=zG a j;have B:=zG a j;replace a:=zS a hb;clear hb n j;obtain⟨U,V,W,X⟩:=aA g)|((with_reducible refine aJ (f:=103) rfl ?_);refine zL (some 5) Tryz.func103 #[.agg #[.int .i64 i,.slice l b.length m]] ?_;(with_reducible refine(dq.calls k i _ _ b t149 _ ?al ?aj s.out).mono ?_);(case al=>exact Kd.ax o.out zB);(case aj=>exact p.out);rintro e Y ⟨rfl,hb⟩;refine⟨_,rfl,?_⟩;replace g:=zb g hb;replace a:=zS a hb;(try clear hb);obtain⟨Z,aa,ab,ad⟩:=aA g)|((with_reducible refine aJ (f:=104) rfl ?_);refine zL (some 10) Tryz.func104 #[.agg #[.int .i64 i,.slice l b.length m]] ?_;(with_reducible refine(mM.calls k i _ _ b false _ ?al ?aj x.out).mono ?_);(case al=>exact Kd.ax o.out zB);(case aj=>exact p.out);rintro e ag ⟨rfl,hb⟩;refine⟨_,rfl,?_⟩;replace g:=zb g hb;replace a:=zS a hb;(try clear hb)))
   go_ret;exact⟨zE,zB⟩
 ·rw[if_neg c3] at H
  obtain⟨D,E⟩:=bU c3;obtain rfl:=aQ H;go_enter Tryz.func48,Tryz.ntmps48
  go_wp2_with (first|((with_reducible refine aU (N:=1) rfl ?_);refine zX 1 #[.int .i64 i,.slice l b.length m] 24 ?_;intro y j ak n hb;have g:=zA (n);have z:=zG a j;have B:=zG a j;replace a:=zS a hb;clear hb n j;obtain⟨am,an,ap,ar⟩:=aA g)|((with_reducible refine aJ (f:=103) rfl ?_);refine zL (some 5) Tryz.func103 #[.agg #[.int .i64 i,.slice l b.length m]] ?_;(with_reducible refine(dq.calls k i _ _ b t149 _ ?al ?aj s.out).mono ?_);(case al=>exact Kd.ax o.out zB);(case aj=>exact p.out);rintro e av ⟨rfl,hb⟩;refine⟨_,rfl,?_⟩;replace g:=zb g hb;replace a:=zS a hb;(try clear hb)))
  go_ret;exact⟨zE,zB⟩
def jg.f (k:Nat) (a:Int) (b:List (S83)) (g:Int):Option (Int):=(kc.f k a b).bind fun e=>(if e=0 then((fK.f a b g).bind fun h=>(if h=true then(some 0) else(some 2))) else(some e))
theorem jg.calls (k:Nat) (i:Int) (l:Option Addr) (m:Nat) (b:List (S83)) (o:Int) (r:Int) (w:World) (x:Kd.C aN w l b.length b) (y:b.length<=m) (h:jg.f k i b o=some r):
  Calls Tryz.prog 98 #[.agg #[.int .i64 i,.slice l b.length m],.int .i64 o] w fun e w'=>e= .returned (.int .i64 r)/\Below w.heap.size w w':=by
 have J:=Tryz.underlying24;have p:=zA x;have q:=zA y;clear x y;have a:=zA (aq w.heap.size w);unfold jg.f at h;have H:=h;clear h;obtain⟨s,v,H⟩:=zo H;by_cases c4:s=0
 ·rw[if_pos c4] at H
  obtain⟨F,G⟩:=bT c4;clear c4;obtain⟨I,z,H⟩:=zo H;by_cases u:I=true
  ·subst u
   replace H:=zi H;obtain rfl:=aQ H;go_enter Tryz.func98,Tryz.ntmps98
   go_wp2_with (first|((with_reducible refine aU (N:=2) rfl ?_);refine zX 2 #[.int .i64 i,.slice l b.length m] 24 ?_;intro B j K n hb;have g:=zA (n);have D:=zG a j;have E:=zG a j;replace a:=zS a hb;clear hb n j;obtain⟨L,M,O,P⟩:=aA g)|((with_reducible refine aJ (f:=48) rfl ?_);refine zL (some 7) Tryz.func48 #[.agg #[.int .i64 i,.slice l b.length m]] ?_;(with_reducible refine(kc.calls k i _ _ b s _ ?al ?aj v.out).mono ?_);(case al=>exact Kd.ax p.out zB);(case aj=>exact q.out);rintro e Q ⟨rfl,hb⟩;refine⟨_,rfl,?_⟩;replace g:=zb g hb;replace a:=zS a hb;(try clear hb);obtain⟨R,S,T,U⟩:=aA g)|((with_reducible refine aJ (f:=149) rfl ?_);refine zL (some 13) Tryz.func149 #[.agg #[.int .i64 i,.slice l b.length m],.int .i64 o] ?_;(with_reducible refine(fK.calls i _ _ b o true _ ?al ?aj z.out).mono ?_);(case al=>exact Kd.ax p.out zB);(case aj=>exact q.out);rintro e V ⟨rfl,hb⟩;refine⟨_,rfl,?_⟩;replace g:=zb g hb;replace a:=zS a hb;(try clear hb)))
   go_ret;exact⟨zE,zB⟩
  ·replace u:=Bool.eq_false_iff.mpr u
   subst u;replace H:=zj H;obtain rfl:=aQ H;go_enter Tryz.func98,Tryz.ntmps98
   go_wp2_with (first|((with_reducible refine aU (N:=2) rfl ?_);refine zX 2 #[.int .i64 i,.slice l b.length m] 24 ?_;intro B j W n hb;have g:=zA (n);have D:=zG a j;have E:=zG a j;replace a:=zS a hb;clear hb n j;obtain⟨X,Y,Z,aa⟩:=aA g)|((with_reducible refine aJ (f:=48) rfl ?_);refine zL (some 7) Tryz.func48 #[.agg #[.int .i64 i,.slice l b.length m]] ?_;(with_reducible refine(kc.calls k i _ _ b s _ ?al ?aj v.out).mono ?_);(case al=>exact Kd.ax p.out zB);(case aj=>exact q.out);rintro e ab ⟨rfl,hb⟩;refine⟨_,rfl,?_⟩;replace g:=zb g hb;replace a:=zS a hb;(try clear hb);obtain⟨ad,ag,ak,am⟩:=aA g)|((with_reducible refine aJ (f:=149) rfl ?_);refine zL (some 13) Tryz.func149 #[.agg #[.int .i64 i,.slice l b.length m],.int .i64 o] ?_;(with_reducible refine(fK.calls i _ _ b o false _ ?al ?aj z.out).mono ?_);(case al=>exact Kd.ax p.out zB);(case aj=>exact q.out);rintro e an ⟨rfl,hb⟩;refine⟨_,rfl,?_⟩;replace g:=zb g hb;replace a:=zS a hb;(try clear hb)))
   go_ret;exact⟨zE,zB⟩
 ·rw[if_neg c4] at H
  obtain⟨F,G⟩:=bU c4;obtain rfl:=aQ H;go_enter Tryz.func98,Tryz.ntmps98
  go_wp2_with (first|((with_reducible refine aU (N:=2) rfl ?_);refine zX 2 #[.int .i64 i,.slice l b.length m] 24 ?_;intro B j ap n hb;have g:=zA (n);have D:=zG a j;have E:=zG a j;replace a:=zS a hb;clear hb n j;obtain⟨ar,av,aB,aF⟩:=aA g)|((with_reducible refine aJ (f:=48) rfl ?_);refine zL (some 7) Tryz.func48 #[.agg #[.int .i64 i,.slice l b.length m]] ?_;(with_reducible refine(kc.calls k i _ _ b s _ ?al ?aj v.out).mono ?_);(case al=>exact Kd.ax p.out zB);(case aj=>exact q.out);rintro e aL ⟨rfl,hb⟩;refine⟨_,rfl,?_⟩;replace g:=zb g hb;replace a:=zS a hb;(try clear hb)))
  go_ret;exact⟨zE,zB⟩
theorem Fm (k:Nat) (N:Int) (A0:Option Addr) (c0:Nat) (E:List S83) (q a:Int) (w:World) (b:Kd.C aN w A0 E.length E) (h:E.length<=c0) (g:jg.f k N E q=some a) (he:a≠0):
  Calls Tryz.prog 45 #[.agg #[.int .i64 N,.slice A0 E.length c0],.int .i64 q] w fun e w'=>∃v,e= .returned (.tuple #[v,.int .i64 a])/\Kd.N (Kd.slice 3 (Kd.int .i64)) 25 w' w.heap.size (fun k=>w.heap.size<=k) v []/\Below w.heap.size w w':=by
 have hu:=Tryz.underlying24;have i:=zA (jg.calls k N A0 c0 E q a (w.alloc (.cells #[.int .i64 N,.slice A0 E.length c0] 24)) (Kd.bz b _) h g);have l:(a != 0)=true:=by simpa using he
 clear g b;go_enter Tryz.func45,Tryz.ntmps45
 go_wp2_with (go_at_call 98;refine i.out.mono ?_;rintro e w1 ⟨rfl,hb⟩;have j:=zA (aW (ao (aq w.heap.size w) _) hb);clear hb)
 go_ret2;exact⟨_,rfl,Kd.fV _ _ _ _ _,j.out⟩
def dj (q:Nat) (c:List Int):List Int:=c.set q (wrap64 (rd c q+ -1))
def nR (k n:Nat) (E:List S83) (q:Nat) (a:List Int->Bool) (c:List Int):Prop:=
 ∃(b:Bool) (ws:Nat->Bool),bD.f k n E (dj q c)=some b/\(∀v:Nat,v<n->bD.f k n E ((dj q c).set v (wrap64 (rd (dj q c) v+1)))=some (ws v))/\(a (dj q c)=true↔b=false/\∀v:Nat,v<n->ws v=true)
theorem Fo (k n q:Nat) (A0:Option Addr) (c0:Nat) (E:List S83) (C:List (List Int)) (a:List Int->Bool) (w:World) (Y:Kd.C aN w A0 E.length E) (av:E.length<=c0) (hn:n<=12) (hq:q<n) (hs:jg.f k n E q=some 0)
  (aF:∀W,Below w.heap.size w W->Calls Tryz.prog 99 #[.agg #[.int .i64 n,.slice A0 E.length c0],.int .i64 q] W fun e w'=>∃v,e= .returned v/\Kd.N (Kd.slice 3 (Kd.int .i64)) 25 w' W.heap.size (fun k=>W.heap.size<=k) v C/\Below W.heap.size W w')
  (cl:C.length<=100000) (Z:∀c∈C,c.length=n) (aL:∀c∈C,nR k n E q a c)
  (hO:∀u v:Nat,u<v->v<((C.map (dj q)).filter a).length->eW.f k (((C.map (dj q)).filter a).getD u []) (((C.map (dj q)).filter a).getD v [])=some (-1)):
  Calls Tryz.prog 45 #[.agg #[.int .i64 n,.slice A0 E.length c0],.int .i64 q] w fun e w'=>∃v,e= .returned (.tuple #[v,.int .i64 0])/\Kd.N (Kd.slice 3 (Kd.int .i64)) 25 w' w.heap.size (fun k=>w.heap.size<=k) v ((C.map (dj q)).filter a)/\Below w.heap.size w w':=by
 have hu:=Tryz.underlying24;have HX:=zA (a7 w (.cells #[.int .i64 n,.slice A0 E.length c0] 24));have HS:=zA (jg.calls k n A0 c0 E q 0 (w.alloc (.cells #[.int .i64 n,.slice A0 E.length c0] 24)) (Kd.bz Y _) av hs);have bi:=zA aF;have bk:=zA Z;have bn:Aside0 (∀c∈C,∀W,Below w.heap.size w W->∀(O:Option Addr) (c1:Nat),n<=c1->Kd.C (Kd.int .i64) W O n (dj q c)->Calls Tryz.prog 101 #[.agg #[.int .i64 n,.slice A0 E.length c0],.slice O n c1] W fun e w'=>e= .returned (.bool (a (dj q c)))/\Below W.heap.size W w'):=⟨fun c hc W hW O c1 h1 h2=>by
  obtain⟨b,ws,e1,e2,e3⟩:=aL c hc;exact Fi k n A0 c0 E O c1 _ b _ ws W (Kd.ax Y hW) av h2 h1 (by rw[dj,List.length_set];exact Z c hc) (by omega) e1 e2 e3⟩
 have HO:=zA hO;have b0:(w.alloc (.cells #[.int .i64 n,.slice A0 E.length c0] 24)).cell? ⟨w.heap.size,0,none⟩=some (.int .i64 n):=(ah HX.out 0).trans rfl;clear Y hs aF Z aL hO;go_enter Tryz.func45,Tryz.ntmps45
 go_wp2_with (first
  |(go_at_call 98;refine HS.out.mono ?_;rintro e w1 ⟨rfl,hb⟩;have P:=zA (aW (ao (aq w.heap.size w) _) hb);have Q:=zA (aD HX.out hb);have D:w1.cell? ⟨w.heap.size,0,none⟩=some (.int .i64 n):=(ah Q.out 0).trans rfl;have F:w1.cell? ⟨w.heap.size,1,none⟩=some (.slice A0 E.length c0):=(ah Q.out 1).trans rfl;clear hb b0)
  |(go_at_call 99;refine(bi.out _ P.out).mono ?_;rintro e w2 ⟨vc,rfl,z,hb⟩;obtain⟨Ac,cc,b1, -⟩:=Kd.kG z;subst b1;have b2:=zA (Kd.kF z P.out.size);have a1:=zA (aW P.out hb);have b3:=zA (aD Q.out hb);clear hb z D F))
 go_loopg [7,9] (C.length) (fun kq ou i wr=>∃j:Nat,j<=C.length/\i= .int .i64 j/\Aside0 (Below w2.heap.size w2 wr)/\Aside0 (Kd.N (Kd.slice 3 (Kd.int .i64)) 25 wr w2.heap.size (fun k=>w.heap.size<=k) ou (((C.take j).map (dj q)).filter a))/\Aside0 (kq=C.length-j))
 case atStart=>exact⟨0,Nat.zero_le _,rfl,⟨aq _ _⟩,⟨Kd.fV _ _ _ _ _⟩,⟨rfl⟩⟩
 case round=>
  clear HS P Q;obtain⟨j,hj,rfl,G,g,HK⟩:=hrel;have o:=zA (a1.out.trans (G.out.mono a1.out.size));have HG:=zA (aD b3.out G.out);have cs:(0:Int)<=(j:Int):=by omega
  by_cases H:j<C.length
  ·have ct:(j:Int)<(C.length:Int):=by omega
   have aa:C.getD j []∈C:=by rw[aX,bB H];exact List.getElem_mem H
   have S:=bk.out _ aa;have m:=zA (show ((C.take (j+1)).map (dj q)).filter a=((C.take j).map (dj q)).filter a++(if a (dj q (C.getD j []))=true then[dj q (C.getD j [])] else[]) by
    rw[List.take_succ_eq_append_getElem H,List.map_append,List.filter_append,aX,bB H];congr 1
    by_cases h:a (dj q C[j])=true
    ·simp[h]
    ·simp[h])
   have a4:Aside0 (((((C.take j).map (dj q)).filter a).length+1)*24<=140737488355328):=⟨by have h1:=List.length_filter_le a ((C.take j).map (dj q));have h2:=List.length_take_le j C;rw[List.length_map] at h1;omega⟩;obtain⟨gl,Ap,cp,rfl,z1,z2,z3⟩:=j4 (Kd.dF b2.out G.out) j H;have I:=zA (bn.out _ aa);generalize ((C.take j).map (dj q)).filter a=NX at g m a4;generalize C.getD j []=p at S z1 z2 z3 m I;clear aa;have J:=zA (wJ Ap cp p q (-1) wr (Kd.fF z3) (by omega) (by omega));rw[show p.set q (wrap64 (rd p q+ -1))=dj q p from rfl] at J;have B:=zA (show (dj q p).length=n by rw[dj,List.length_set];exact S);rw[S] at z1 J;generalize dj q p=x at m I J B;obtain⟨r,hr⟩:∃r,r=a x:=⟨_,rfl⟩;rw[<-hr] at m I;clear z2 z3 S hr;obtain⟨T,U,ab, -⟩:=Kd.kG g.out;subst ab;have b':Aside0 (∀k,wr.heap.size<=k->w.heap.size<=k/\some k≠(Value.slice T NX.length U).ownBlock):=⟨fun k hk=>⟨Nat.le_trans o.out.size hk,fun e=>by have:=Kd.qC g.out k e.symm;omega⟩⟩;cases r with
   |false=>
    rw[if_neg (by decide),List.append_nil] at m;go_wp2_with (first
     |(go_at_call 100;refine J.out.mono ?_;rintro e K ⟨go,cg,rfl,s,hb⟩;have ag:=zA (Kd.qD (Kd.jP (Kd.a_ (ok':=fun k=>wr.heap.size<=k) (Kd.ef s) (fun k hk=>hk.2.1))));obtain⟨-,V,y⟩:=Kd.aH s;rw[B.out] at y;have ak:=zA y;have am:=zA (aW G.out hb);have L:=zA hb;have an:=zA (Kd.dF g.out hb);have M:=zA (aD HG.out hb);have D:K.cell? ⟨w.heap.size,0,none⟩=some (.int .i64 n):=(ah M.out 0).trans rfl;have F:K.cell? ⟨w.heap.size,1,none⟩=some (.slice A0 E.length c0):=(ah M.out 1).trans rfl;clear s hb y z1)
     |(go_at_call 101;refine(I.out _ (aW o.out L.out) _ _ V ak.out).mono ?_;rintro e w6 ⟨rfl,hb⟩;have be:=zA (Kd.kC ag.out hb);have X:=zA (aW am.out hb);have bf:=zA (aW L.out hb);have ap:=zA (Kd.dF an.out hb);clear hb D F))
    go_roundg (C.length- (j+1))
    case measure=>rw[HK.out];omega
    case rel=>exact⟨j+1,by omega,by go_num,X,⟨by rw[m.out];exact ap.out⟩,⟨rfl⟩⟩
   |true=>
    rw[if_pos rfl] at m;go_wp2_with (first
     |(go_at_call 100;refine J.out.mono ?_;rintro e K ⟨go,cg,rfl,s,hb⟩;have ag:=zA (Kd.qD (Kd.jP (Kd.a_ (ok':=fun k=>wr.heap.size<=k) (Kd.ef s) (fun k hk=>hk.2.1))));obtain⟨-,V,y⟩:=Kd.aH s;rw[B.out] at y;have ak:=zA y;have am:=zA (aW G.out hb);have L:=zA hb;have an:=zA (Kd.dF g.out hb);have M:=zA (aD HG.out hb);have D:K.cell? ⟨w.heap.size,0,none⟩=some (.int .i64 n):=(ah M.out 0).trans rfl;have F:K.cell? ⟨w.heap.size,1,none⟩=some (.slice A0 E.length c0):=(ah M.out 1).trans rfl;clear s hb y z1)
     |(go_at_call 101;refine(I.out _ (aW o.out L.out) _ _ V ak.out).mono ?_;rintro e w6 ⟨rfl,hb⟩;have be:=zA (Kd.kC ag.out hb);have X:=zA (aW am.out hb);have bf:=zA (aW L.out hb);have ap:=zA (Kd.dF an.out hb);clear hb D F)
     |(at_builtin;refine Kd.oN (Kd.slice 3 (Kd.int .i64)) (w0:=w2) w2.heap.size rfl (.tmp 35) (.tmp 37) 73 25 (.slice none 0 0) 24 rfl Tryz.underlying73 jU rfl (by decide) (by omega) (.slice T NX.length U) NX x [.slice (some ⟨go,0,none⟩) n cg] (fun k=>w.heap.size<=k) (fun k=>wr.heap.size<=k) rfl rfl (by have h:=Kd.oQ (e:=3) (c:=cg) (d:=Kd.int .i64) (W:=w6) (ok:=fun k=>wr.heap.size<=k) (A:=some ⟨go,0,none⟩) (l:=x) (by rw[B.out];exact V) (by rw[B.out];exact be.out);rw[B.out] at h;exact h) b'.out (fun k hk=>Nat.le_trans o.out.size (Nat.le_trans bf.out.size hk)) ap.out X.out X.out.size a4.out ?_;intro v3 w9 bg hb hg _;have cb:=zA bg;have cd:=zA hb;clear bg hb hg))
    go_roundg (C.length- (j+1))
    case measure=>rw[HK.out];omega
    case rel=>exact⟨j+1,by omega,by go_num,cd,⟨by rw[m.out];exact cb.out⟩,⟨rfl⟩⟩
  ·obtain rfl:j=C.length:=by omega
   rw[List.take_length] at g;generalize ar:(C.map (dj q)).filter a=R at g HO;obtain⟨T,U,ab, -⟩:=Kd.kG g.out;subst ab;have ce:R.length<=100000:=by rw[<-ar];have h1:=List.length_filter_le a (C.map (dj q));rw[List.length_map] at h1;omega
   have cf:=zA ar;clear ar;have ch:=zA (Fl k w.heap.size _ T U R wr g.out o.out.size HO.out ce);go_wp2_with (go_at_call 102;refine ch.out.mono ?_;rintro e w3 ⟨v3,rfl,z,hb⟩;have ci:=zA (Kd.kF z o.out.size);have cj:=zA (aW o.out hb);clear hb z)
   go_ret2;exact⟨_,rfl,by rw[cf.out];exact ci.out,cj.out⟩
def kV.f (k:Nat) (a:Int) (b:List (S83)) (e:Int) (a2:Int):Option (Bool):=if(b.length:Int)>40 then(some false) else((dq.f k a b).bind fun t119=>(if t119=0 then(if a<=e then((mw.f a b).bind fun t120=>(some (decide (t120<=a2)))) else(some false)) else(some true)))
theorem kV.calls (k:Nat) (j:Int) (m:Option Addr) (n:Nat) (b:List (S83)) (u:Int) (a2:Int) (r:Bool) (w:World) (B:Kd.C aN w m b.length b) (D:b.length<=n) (h:kV.f k j b u a2=some r):
  Calls Tryz.prog 97 #[.agg #[.int .i64 j,.slice m b.length n],.int .i64 u,.int .i64 a2] w fun e w'=>e= .returned (.bool r)/\Below w.heap.size w w':=by
 have L:=Tryz.underlying24;have q:=zA B;have s:=zA D;clear B D;have a:=zA (aq w.heap.size w);unfold kV.f at h;have H:=h;clear h;by_cases c4:(b.length:Int)>40
 ·rw[if_pos c4] at H
  have E:=ay c4;have F:decide (40<b.length)=true:=ay (by omega);clear c4;obtain rfl:=aQ H;go_enter Tryz.func97,Tryz.ntmps97
  go_wp2_with (first|((with_reducible refine aU (N:=3) rfl ?_);refine zX 3 #[.int .i64 j,.slice m b.length n] 24 ?_;intro v i M l hb;have g:=zA (l);have x:=zG a i;have y:=zG a i;replace a:=zS a hb;clear hb l i;obtain⟨O,P,Q,R⟩:=aA g))
  go_ret;exact⟨zE,zB⟩
 ·rw[if_neg c4] at H
  have E:=aZ c4;have F:decide (40<b.length)=false:=aZ (by omega);clear c4;obtain⟨t119,z,H⟩:=zo H;by_cases p:t119=0
  ·rw[if_pos p] at H
   obtain⟨G,I⟩:=bT p;clear p;by_cases o:j<=u
   ·rw[if_pos o] at H
    have J:=ay o;clear o;obtain⟨t120,K,H⟩:=zo H;obtain rfl:=aQ H;go_enter Tryz.func97,Tryz.ntmps97
    go_wp2_with (first|((with_reducible refine aU (N:=3) rfl ?_);refine zX 3 #[.int .i64 j,.slice m b.length n] 24 ?_;intro v i S l hb;have g:=zA (l);have x:=zG a i;have y:=zG a i;replace a:=zS a hb;clear hb l i;obtain⟨T,U,V,W⟩:=aA g)|((with_reducible refine aJ (f:=103) rfl ?_);refine zL (some 12) Tryz.func103 #[.agg #[.int .i64 j,.slice m b.length n]] ?_;(with_reducible refine(dq.calls k j _ _ b t119 _ ?al ?aj z.out).mono ?_);(case al=>exact Kd.ax q.out zB);(case aj=>exact s.out);rintro e X ⟨rfl,hb⟩;refine⟨_,rfl,?_⟩;replace g:=zb g hb;replace a:=zS a hb;(try clear hb);obtain⟨Y,Z,aa,ab⟩:=aA g)|(go_at_call 73;(with_reducible refine(mw.calls j _ _ b t120 _ ?al ?aj K.out).mono ?_);(case al=>exact Kd.ax q.out zB);(case aj=>exact s.out);rintro e ad ⟨rfl,hb⟩;replace g:=zb g hb;replace a:=zS a hb;(try clear hb)))
    go_ret;exact⟨zE,zB⟩
   ·rw[if_neg o] at H
    have J:=aZ o;clear o;obtain rfl:=aQ H;go_enter Tryz.func97,Tryz.ntmps97
    go_wp2_with (first|((with_reducible refine aU (N:=3) rfl ?_);refine zX 3 #[.int .i64 j,.slice m b.length n] 24 ?_;intro v i ag l hb;have g:=zA (l);have x:=zG a i;have y:=zG a i;replace a:=zS a hb;clear hb l i;obtain⟨ak,am,an,ap⟩:=aA g)|((with_reducible refine aJ (f:=103) rfl ?_);refine zL (some 12) Tryz.func103 #[.agg #[.int .i64 j,.slice m b.length n]] ?_;(with_reducible refine(dq.calls k j _ _ b t119 _ ?al ?aj z.out).mono ?_);(case al=>exact Kd.ax q.out zB);(case aj=>exact s.out);rintro e ar ⟨rfl,hb⟩;refine⟨_,rfl,?_⟩;replace g:=zb g hb;replace a:=zS a hb;(try clear hb);obtain⟨av,aB,aF,aL⟩:=aA g))
    go_ret;exact⟨zE,zB⟩
  ·rw[if_neg p] at H
   obtain⟨G,I⟩:=bU p;obtain rfl:=aQ H;go_enter Tryz.func97,Tryz.ntmps97
   go_wp2_with (first|((with_reducible refine aU (N:=3) rfl ?_);refine zX 3 #[.int .i64 j,.slice m b.length n] 24 ?_;intro v i aO l hb;have g:=zA (l);have x:=zG a i;have y:=zG a i;replace a:=zS a hb;clear hb l i;obtain⟨aP,aR,aS,a0⟩:=aA g)|((with_reducible refine aJ (f:=103) rfl ?_);refine zL (some 12) Tryz.func103 #[.agg #[.int .i64 j,.slice m b.length n]] ?_;(with_reducible refine(dq.calls k j _ _ b t119 _ ?al ?aj z.out).mono ?_);(case al=>exact Kd.ax q.out zB);(case aj=>exact s.out);rintro e a3 ⟨rfl,hb⟩;refine⟨_,rfl,?_⟩;replace g:=zb g hb;replace a:=zS a hb;(try clear hb)))
   go_ret;exact⟨zE,zB⟩
def ix.f (k:Nat) (a:Int) (b:List (S83)):Option (Bool):=(kV.f k a b 5 7).bind fun t122=>(some t122)
theorem ix.calls (k:Nat) (b:Int) (i:Option Addr) (j:Nat) (a:List (S83)) (r:Bool) (w:World) (n:Kd.C aN w i a.length a) (o:a.length<=j) (h:ix.f k b a=some r):
  Calls Tryz.prog 44 #[.agg #[.int .i64 b,.slice i a.length j]] w fun e w'=>e= .returned (.bool r)/\Below w.heap.size w w':=by
 have v:=Tryz.underlying24;have q:=zA n;have s:=zA o;clear n o;have g:=zA (aq w.heap.size w);have H:((kV.f k b a 5 7).bind fun t122=>(some t122))=some r:=h;clear h;obtain⟨t122,u,H⟩:=zo H;obtain rfl:=aQ H;go_enter Tryz.func44,Tryz.ntmps44
 go_wp2_with (first|((with_reducible refine aU (N:=1) rfl ?_);refine zX 1 #[.int .i64 b,.slice i a.length j] 24 ?_;intro x l w3 p hb;have m:=zA (p);have y:=zG g l;have z:=zG g l;replace g:=zS g hb;clear hb p l;obtain⟨B,D,E,F⟩:=aA m)|((with_reducible refine aJ (f:=97) rfl ?_);refine zL (some 4) Tryz.func97 #[.agg #[.int .i64 b,.slice i a.length j],.int .i64 5,.int .i64 7] ?_;(with_reducible refine(kV.calls k b _ _ a 5 7 t122 _ ?al ?aj u.out).mono ?_);(case al=>exact Kd.ax q.out zB);(case aj=>exact s.out);rintro e G ⟨rfl,hb⟩;refine⟨_,rfl,?_⟩;replace m:=zb m hb;replace g:=zS g hb;(try clear hb)))
 go_ret;exact⟨zE,zB⟩
end Go.Proofs.YtffdiakgjakngaaGreat.P


namespace Go.Proofs.YtffdiakgjakngaaGreat.P
open Go.RowKit Go.Proofs.YtffdiakgjakngaaGreatW.PrintWords Go.Proofs.YtffdiakgjakngaaGreatW.PrintLast Go.Proofs.YtffdiakgjakngaaGreatW.PrintMore
set_option linter.unusedVariables false
set_option linter.unusedSimpArgs false
set_option maxHeartbeats 8000000
set_option maxRecDepth 100000
theorem Fp (k:Nat) (A B:Option Addr) (c d:Nat) (a lb:List Int) (r:Bool) (W:World) (b:(Kd.int .i64).C W A a.length a) (g:a.length<=c) (hb:(Kd.int .i64).C W B lb.length lb) (i:lb.length<=d) (h:bt.f k a lb=some r):
  Calls Tryz.prog 47 #[.slice A a.length c,.slice B lb.length d] W fun e w'=>e= .returned (.bool r)/\az W w':=by
 have H:=zA (bt.calls k A c a B d lb r W b g hb i h);clear h b hb;go_enter Tryz.func47,Tryz.ntmps47
 go_wp2_with (go_at_call 33;refine H.out.mono ?_;rintro e w' ⟨rfl,hd⟩;have j:=zA hd;clear hd)
 go_ret;exact⟨rfl,j.out⟩
theorem Fq (k s u:Nat) (ok1 ok2:Nat->Prop) (A B:Option Addr) (c d:Nat) (L:List (List Int)) (w:World) (n:Kd.N (Kd.slice 3 (Kd.int .i64)) 26 w s ok1 (.slice A L.length c) L) (o:Kd.N (Kd.slice 3 (Kd.int .i64)) 25 w u ok2 (.slice B L.length d) L) (p:∀x∈L,bt.f k x x=some true) (J:L.length<=1000000):
  Calls Tryz.prog 46 #[.slice A L.length c,.slice B L.length d,.func (.func 47) #[] #[]] w fun e w'=>e= .returned (.bool true)/\az w w':=by
 have y:=zA n;have z:=zA o;have C:=zA p;clear n o p;go_enter Tryz.func46,Tryz.ntmps46
 go_wp2;go_loopg [17] (L.length) (fun D i wr=>∃v:Nat,v<=L.length/\i= .int .i64 v/\Aside0 (∃m,wr=w.drewN m)/\Aside0 (D=L.length-v))
 case atStart=>exact⟨0,Nat.zero_le _,rfl,⟨⟨0,rfl⟩⟩,⟨rfl⟩⟩
 case round=>
  obtain⟨v,K,rfl,q,E⟩:=hrel;obtain⟨m,rfl⟩:=q.out;clear q;by_cases a:v<L.length
  ·have M:(0:Int)<=(v:Int):=by omega
   have O:(v:Int)<(L.length:Int):=by omega
   have b:=bN (aq w.heap.size w) m;obtain⟨g,F,cc,rfl,G,h,j⟩:=j4 (Kd.dF y.out b) v a;obtain⟨g2,H,cd,rfl,z1,z2,z3⟩:=j4 (Kd.dF z.out b) v a;have r:L.getD v []∈L:=by rw[aX,bB a];exact List.getElem_mem a
   have l:=zA (C.out _ r);clear r b;generalize L.getD v []=x at G h j z1 z2 z3 l;have I:=zA (Fp k F H cc cd x x true (w.drewN m) (Kd.fF j) h (Kd.fF z3) z2 l.out);clear h j z2 z3 l;go_wp2_with (go_at_call 47;refine I.out.mono ?_;rintro e w1 ⟨rfl,⟨m1,rfl⟩⟩)
   go_roundg (L.length- (v+1))
   case measure=>rw[E.out];omega
   case rel=>exact⟨v+1,by omega,by go_num,⟨⟨m+m1,by simp[World.drewN]⟩⟩,⟨rfl⟩⟩
  ·obtain rfl:v=L.length:=by omega
   go_wp2;go_ret;exact⟨rfl,⟨m,rfl⟩⟩
theorem Fs (k:Nat) (N:Int) (A0:Option Addr) (c0:Nat) (E:List S83) (q:Int) (w:World) (b:Kd.C aN w A0 E.length E) (g:E.length<=c0) (hf:ix.f k N E=some false) (a:∀w,Calls Tryz.prog 26 #[] w fun e w'=>e= .returned (.bool true)/\Below w.heap.size w w'):
  Calls Tryz.prog 9 #[.agg #[.int .i64 N,.slice A0 E.length c0],.int .i64 q] w fun e w'=>e= .returned (.bool true)/\Below w.heap.size w w':=by
 have hu:=Tryz.underlying24;have h:=zA hf;have i:=zA a;clear hf a;have m:(w.alloc (.cells #[.int .i64 N,.slice A0 E.length c0] 24)).cell? ⟨w.heap.size,0,none⟩=some (.int .i64 N):=(ah (a7 _ _) 0).trans rfl;go_enter Tryz.func9,Tryz.ntmps9
 go_wp2_with (first|(go_at_call 44;refine(ix.calls k N A0 c0 E false _ (Kd.bz b _) g h.out).mono ?_;rintro e w1 ⟨rfl,hb⟩;have j:=zA (aW (ao (aq w.heap.size w) _) hb);clear hb)|(go_at_call 26;refine(i.out _).mono ?_;rintro e w2 ⟨rfl,hb⟩;have l:=zA (aW j.out hb);clear hb))
 go_ret;exact⟨rfl,l.out⟩
theorem wO (k:Nat) (N:Int) (A0:Option Addr) (c0:Nat) (E:List S83) (q:Int) (l:List (List Int)) (e:Int) (w:World) (h:Kd.C aN w A0 E.length E) (i:E.length<=c0) (hf:ix.f k N E=some true) (hu:bK.f k N E q=some (l,e)) (j:∀W,Below w.heap.size w W->Calls Tryz.prog 45 #[.agg #[.int .i64 N,.slice A0 E.length c0],.int .i64 q] W fun x w'=>∃v,x= .returned (.tuple #[v,.int .i64 e])/\Kd.N (Kd.slice 3 (Kd.int .i64)) 25 w' W.heap.size (fun k=>W.heap.size<=k) v l/\Below W.heap.size W w') (m:∀x∈l,bt.f k x x=some true) (r:l.length<=1000000)
  (n:∀w,Calls Tryz.prog 26 #[] w fun e w'=>e= .returned (.bool true)/\Below w.heap.size w w'):
  Calls Tryz.prog 9 #[.agg #[.int .i64 N,.slice A0 E.length c0],.int .i64 q] w fun e w'=>e= .returned (.bool true)/\Below w.heap.size w w':=by
 have L:=Tryz.underlying24;have s:=zA hf;have u:=zA n;have y:=zA hu;have z:=zA j;have B:=zA m;clear hf n hu j m;have D:(w.alloc (.cells #[.int .i64 N,.slice A0 E.length c0] 24)).cell? ⟨w.heap.size,0,none⟩=some (.int .i64 N):=(ah (a7 _ _) 0).trans rfl;go_enter Tryz.func9,Tryz.ntmps9
 go_wp2_with (first|(go_at_call 44;refine(ix.calls k N A0 c0 E true _ (Kd.bz h _) i s.out).mono ?_;rintro e w1 ⟨rfl,hb⟩;have a:=zA (aW (ao (aq w.heap.size w) _) hb);have g:=zA (aD (a7 w (.cells #[.int .i64 N,.slice A0 E.length c0] 24)) hb);have o:w1.cell? ⟨w.heap.size,0,none⟩=some (.int .i64 N):=(ah g.out 0).trans rfl;have p:w1.cell? ⟨w.heap.size,1,none⟩=some (.slice A0 E.length c0):=(ah g.out 1).trans rfl;clear hb D)|(go_at_call 15;refine(bK.calls k N A0 c0 E q l e _ (Kd.ax h a.out) i y.out).mono ?_;rintro e2 w2 ⟨vl,rfl,b,hb⟩;obtain⟨M,cl,F, -⟩:=Kd.kG b;subst F;have G:=zA b;replace a:=zA (aW a.out hb);replace g:=zA (aD g.out hb);replace o:w2.cell? ⟨w.heap.size,0,none⟩=some (.int .i64 N):=(ah g.out 0).trans rfl;replace p:w2.cell? ⟨w.heap.size,1,none⟩=some (.slice A0 E.length c0):=(ah g.out 1).trans rfl;clear b hb)|(go_at_call 45;refine(z.out _ a.out).mono ?_;rintro O w3 ⟨P,rfl,b,hb⟩;obtain⟨Q,cr,H, -⟩:=Kd.kG b;subst H;have I:=zA b;have J:=zA (Kd.dF G.out hb);replace a:=zA (aW a.out hb);clear b hb o p)|(go_at_call 46;refine(Fq k _ _ _ _ _ _ _ _ l _ J.out I.out B.out r).mono ?_;rintro R S ⟨rfl,⟨m4,rfl⟩⟩)|(go_at_call 26;refine(u.out _).mono ?_;rintro T U ⟨rfl,hb⟩;have K:=zA (aW (bN a.out m4) hb);clear hb))
 go_ret;exact⟨rfl,K.out⟩
def ff.f (k:Nat) (a:Int) (b:List (S83)):Option (List Int×Int):=(dH.f k a b).bind fun t231=>(if t231=0 then((jA.f k a b).bind fun t232=>(some (t232,0))) else(some (([]:List Int),t231)))
theorem ff.mono:∀a0 a k,ai (ff.f k a0 a) (ff.f (k+1) a0 a):=by
 intro a0 a k;unfold ff.f;with_reducible repeat' first|exact jA.mono _ _ _|exact dH.mono _ _ _|exact ai.refl _|exact ai.none _|refine ai.ite ?_ ?_|refine ai.bind ?_ (fun _=>?_)
theorem ff.calls (k:Nat) (g:Int) (j:Option Addr) (l:Nat) (b:List (S83)) (q:List Int) (r:Int) (w:World) (s:Kd.C aN w j b.length b) (u:b.length<=l) (h:ff.f k g b=some (q,r)):
  Calls Tryz.prog 35 #[.agg #[.int .i64 g,.slice j b.length l]] w fun e w'=>∃v:Value,e= .returned (.tuple #[v,.int .i64 r])/\Kd.R (Kd.int .i64) 3 w' w.heap.size (fun _=>True) v q/\Below w.heap.size w w':=by
 have J:=Tryz.underlying24;have o:=zA s;have p:=zA u;clear s u;have a:=zA (aq w.heap.size w);unfold ff.f at h;have H:=h;clear h;obtain⟨t231,x,H⟩:=zo H;by_cases c3:t231=0
 ·rw[if_pos c3] at H
  obtain⟨z,B⟩:=bT c3;clear c3;obtain⟨t232,D,H⟩:=zo H;simp only[Option.some.injEq,Prod.mk.injEq] at H;obtain⟨rfl,rfl⟩:=H;go_enter Tryz.func35,Tryz.ntmps35
  go_wp2_with (first|((with_reducible refine aU (N:=1) rfl ?_);refine zX 1 #[.int .i64 g,.slice j b.length l] 24 ?_;intro E m K n hb;have i:=zA (n);have F:=zG a m;have G:=zG a m;replace a:=zS a hb;clear hb n m;obtain⟨L,M,O,P⟩:=aA i)|((with_reducible refine aJ (f:=55) rfl ?_);refine zL (some 6) Tryz.func55 #[.agg #[.int .i64 g,.slice j b.length l]] ?_;(with_reducible refine(dH.calls k g _ _ b t231 _ ?al ?aj x.out).mono ?_);(case al=>exact Kd.ax o.out zB);(case aj=>exact p.out);rintro e Q ⟨rfl,hb⟩;refine⟨_,rfl,?_⟩;replace i:=zb i hb;replace a:=zS a hb;(try clear hb);obtain⟨S,T,U,V⟩:=aA i)|((with_reducible refine aJ (f:=89) rfl ?_);refine zL (some 11) Tryz.func89 #[.agg #[.int .i64 g,.slice j b.length l]] ?_;(with_reducible refine(jA.calls k g _ _ b t232 _ ?al ?aj D.out).mono ?_);(case al=>exact Kd.ax o.out zB);(case aj=>exact p.out);rintro e W ⟨v233,rfl,y,hb⟩;refine⟨_,rfl,?_⟩;have I:=zA (Kd.bd y (bH zB));replace i:=zb i hb;replace a:=zS a hb;(try clear hb);(try clear y)))
  go_ret2;exact⟨_,zE,by(with_reducible repeat(first|apply Kd.aM|apply Kd.bs|apply Kd.bj));exact I.out,zB⟩
 ·rw[if_neg c3] at H
  obtain⟨z,B⟩:=bU c3;simp only[Option.some.injEq,Prod.mk.injEq] at H;obtain⟨rfl,rfl⟩:=H;go_enter Tryz.func35,Tryz.ntmps35
  go_wp2_with (first|((with_reducible refine aU (N:=1) rfl ?_);refine zX 1 #[.int .i64 g,.slice j b.length l] 24 ?_;intro E m X n hb;have i:=zA (n);have F:=zG a m;have G:=zG a m;replace a:=zS a hb;clear hb n m;obtain⟨Y,Z,aa,ab⟩:=aA i)|((with_reducible refine aJ (f:=55) rfl ?_);refine zL (some 6) Tryz.func55 #[.agg #[.int .i64 g,.slice j b.length l]] ?_;(with_reducible refine(dH.calls k g _ _ b t231 _ ?al ?aj x.out).mono ?_);(case al=>exact Kd.ax o.out zB);(case aj=>exact p.out);rintro e ad ⟨rfl,hb⟩;refine⟨_,rfl,?_⟩;replace i:=zb i hb;replace a:=zS a hb;(try clear hb)))
  go_ret2;exact⟨_,zE,by first|exact Kd.dm _ _ _ _ _|exact Kd.fV _ _ _ _ _|exact Kd.V_nil _ _ _ _ _|exact Kd.Q_nil _ _ _ _ _|exact Kd.ic _ _ _ _ _,zB⟩
def cS (x:Int):Bool:=decide (-1048576<=x/\x<=1048576)
def lU (l:List Int) (n:Int):Int:=if n<1\/n>12 then 2 else if(l.length:Int)≠n then 8 else if l.all cS=true then 0 else 2
theorem wP (x:Int):ij.f x=some (cS x):=by
 unfold ij.f cS;by_cases h1:x>= -1048576
 ·by_cases a:x<=1048576
  ·simp[h1,a]
  ·simp[h1,a]
 ·simp[h1]
theorem Ft {l:List Int} {i:Nat} (h:i<l.length):l.drop i=rd l i::l.drop (i+1):=by
 rw[List.drop_eq_getElem_cons h];simp[rd,aX,bB h]
theorem wQ (l:List Int) (a:l.length<=1000000):∀(m i:Nat),i+m=l.length->Ev (fun k=>bq.l0 k l l.length i) (if(l.drop i).all cS=true then 0 else 2)
 |0,i,hi=>by
  refine Ev.of_succ ?_;simp only[bq.l0,if_neg (show ¬((i:Int)<(l.length:Int)) by omega)];rw[List.drop_eq_nil_of_le (by omega)];exact Ev.const _
 |m+1,i,hi=>by
  have b:=wQ l a m (i+1) (by omega);refine Ev.of_succ ?_;simp only[bq.l0,if_pos (show (i:Int)<(l.length:Int) by omega),if_pos (show (0:Int)<=(i:Int) by omega),eA (show i<=1000000 by omega),wP,Option.bind_some];rw[Ft (show i<l.length by omega),List.all_cons];cases hb:cS (rd l i) with
  |true=>simp only[if_true,Bool.true_and];exact b
  |false=>simp;exact Ev.const _
theorem pK (l:List Int) (n:Int) (b:l.length<=1000000):Ev (fun k=>bq.f k l n) (lU l n):=by
 unfold bq.f lU;have e:jy.f n=some (if n<1\/n>12 then 2 else 0):=by
  unfold jy.f;by_cases h1:n<1
  ·simp[h1]
  ·by_cases a:n>12
   ·simp[h1,a]
   ·simp[h1,a]
 rw[e];simp only[Option.bind_some];by_cases h:n<1\/n>12
 ·simp only[if_pos h];exact Ev.const _
 ·simp only[if_neg h,if_true]
  by_cases hn:(l.length:Int)=n
  ·rw[if_neg (by simpa using hn)]
   simp only[if_pos hn];have:=wQ l b l.length 0 (by omega);simpa using this
  ·rw[if_pos hn]
   simp only[if_neg hn];exact Ev.const _
theorem rU {l:List Int} {n:Int}:lU l n=0↔1<=n/\n<=12/\(l.length:Int)=n/\∀v:Nat,v<l.length-> -1048576<=rd l v/\rd l v<=1048576:=by
 unfold lU;have g:l.all cS=true↔∀v:Nat,v<l.length-> -1048576<=rd l v/\rd l v<=1048576:=by
  rw[List.all_eq_true];constructor
  ·intro h v a
   have:=h l[v] (List.getElem_mem a);rw[show rd l (v:Int)=l[v] by simp[rd,aX,bB a]];simpa [cS] using this
  ·intro h x i
   obtain⟨v,a,rfl⟩:=List.getElem_of_mem i;have:=h v a;rw[show rd l (v:Int)=l[v] by simp[rd,aX,bB a]] at this;simpa [cS] using this
 by_cases h:n<1\/n>12
 ·rw[if_pos h];constructor
  ·intro h;cases h
  ·intro b;omega
 ·rw[if_neg h]
  by_cases hn:(l.length:Int)=n
  ·rw[if_neg (by simpa using hn)]
   by_cases e:l.all cS=true
   ·rw[if_pos e];exact⟨fun _=>⟨by omega,by omega,hn,g.1 e⟩,fun _=>rfl⟩
   ·rw[if_neg e];constructor
    ·intro h;cases h
    ·intro b;exact absurd (g.2 b.2.2.2) e
  ·rw[if_pos hn];constructor
   ·intro h;cases h
   ·intro b;exact absurd b.2.2.1 hn
theorem wR (A0:Option Addr) (c0 n:Nat) (l:List Int) (w:World) (m:Nat) (b:l.length=n) (h1:1<=n) (hn:n<=12) (hb:∀v:Nat,v<n-> -1048576<=rd l v/\rd l v<=1048576) (g:Kd.C (Kd.int .i64) (w.drewN m) A0 l.length l) (h:l.length<=c0):
  Calls Tryz.prog 87 #[.slice A0 n c0,.int .i64 n] (w.drewN m) fun e i=>e= .returned (.int .i64 0)/\∃a,i=w.drewN a:=by
 subst b;obtain⟨k,hk⟩:=(pK l l.length (by omega)).get;rw[rU.2 ⟨by omega,by omega,rfl,hb⟩] at hk;refine(bq.calls k A0 c0 l l.length 0 _ g h hk).mono ?_;rintro e w' ⟨rfl,⟨a,rfl⟩⟩;exact⟨rfl,m+a,by rw[World.drewN_drewN]⟩
mutual
def b9.l0:Nat->List (List Int)->List (List Int)->Int->Int->Option (Int)
 |0,_,_,_,_=>none
 |k+1,b,e,g,a=>if a<g then(if 0<=a then(if a<(e.length:Int) then((bq.f k (a6 e a) ((a6 e a).length:Int)).bind fun t194=>(if t194=0 then(b9.l0 k b e g (wrap64 (a+1))) else(some t194))) else(none)) else(none)) else(b9.l1 k b b (b.length:Int) 0)
def b9.l1:Nat->List (List Int)->List (List Int)->Int->Int->Option (Int)
 |0,_,_,_,_=>none
 |k+1,b,e,g,a=>if a<g then(if 0<=a then(if a<(e.length:Int) then(if 0<(b.length:Int) then(if((a6 e a).length:Int)=((a6 b 0).length:Int) then(b9.l1 k b e g (wrap64 (a+1))) else(some 8)) else(none)) else(none)) else(none)) else(some 0)
end
def b9.f (k:Nat) (l0:List (List Int)):Option (Int):=b9.l0 k l0 l0 (l0.length:Int) 0
theorem b9.cD:∀k,(∀a b e g,ai (b9.l0 k a b e g) (b9.l0 (k+1) a b e g))/\(∀a b e g,ai (b9.l1 k a b e g) (b9.l1 (k+1) a b e g))
 |0=>⟨fun _ _ _ _ r h=>by simp[b9.l0] at h,fun _ _ _ _ r h=>by simp[b9.l1] at h⟩
 |k+1=>by
  obtain⟨i,j⟩:=b9.cD k;refine⟨?_,?_⟩
  ·intro a b e g
   unfold b9.l0;with_reducible repeat' first|exact i _ _ _ _|exact j _ _ _ _|exact bq.mono _ _ _|exact ai.refl _|exact ai.none _|refine ai.ite ?_ ?_|refine ai.bind ?_ (fun _=>?_)
  ·intro a b e g
   unfold b9.l1;with_reducible repeat' first|exact i _ _ _ _|exact j _ _ _ _|exact bq.mono _ _ _|exact ai.refl _|exact ai.none _|refine ai.ite ?_ ?_|refine ai.bind ?_ (fun _=>?_)
theorem b9.mono:∀a0 k,ai (b9.f k a0) (b9.f (k+1) a0):=by
 intro a0 k;obtain⟨a,b⟩:=b9.cD k;unfold b9.f;with_reducible repeat' first|exact a _ _ _ _|exact b _ _ _ _|exact bq.mono _ _ _|exact ai.refl _|exact ai.none _|refine ai.ite ?_ ?_|refine ai.bind ?_ (fun _=>?_)
theorem b9.calls (k:Nat) (A0:Option Addr) (c0:Nat) (l0:List (List Int)) (r:Int) (w:World) (W:Kd.C (Kd.slice 3 (Kd.int .i64)) w A0 l0.length l0) (X:l0.length<=c0) (h:b9.f k l0=some r):
  Calls Tryz.prog 118 #[.slice A0 l0.length c0] w fun e w'=>e= .returned (.int .i64 r)/\az w w':=by
 have s:=zA W;have a4:=zA X;clear W X;have H:(b9.l0 k l0 l0 (l0.length:Int) 0)=some r:=h;clear h;have g:=zA H;clear H;go_enter Tryz.func118,Tryz.ntmps118
 go_wp2;go_loopg [10] k (fun v v10 w'=>∃(a:Int),v10= .int .i64 a/\Aside0 (b9.l0 v l0 l0 (l0.length:Int) a=some r)/\Aside0 (v<=k)/\az w w')
 case atStart=>exact⟨(0),zT,g,⟨aI _⟩,by repeat(first|exact az.refl _|apply az.step)⟩
 case round=>
  clear g;obtain⟨a,rfl,j,J,⟨m1,rfl⟩⟩:=hrel;cases gk with
  |zero=>exact absurd j.out (by simp[b9.l0])
  |succ x=>
   have H:=j.out;clear j;simp only[b9.l0] at H;by_cases c2:a<(l0.length:Int)
   ·rw[if_pos c2] at H
    have Y:=ay c2;clear c2;by_cases c3:0<=a
    ·rw[if_pos c3] at H
     have a5:=ay c3;clear c3;by_cases c4:a<(l0.length:Int)
     ·rw[if_pos c4] at H
      have a9:=ay c4;clear c4;obtain⟨t194,Z,H⟩:=zo H;by_cases y:t194=0
      ·rw[if_pos y] at H
       obtain⟨ab,ad⟩:=bT y;clear y;have g:=zA H;clear H;have l:0<=(a:Int):=aw ‹_›;have m:a<(l0.length:Int):=aw ‹_›;obtain⟨ag,N,O,P,ak,z,B⟩:=gQ s.out a l m;cases P;have Q:=zA B;have R:=zA z;clear B z;replace l:=eq_true l;replace m:=eq_true m;go_wp2_with (first|((with_reducible refine aJ (f:=87) rfl ?_);refine zL (some 17) Tryz.func87 #[.slice N (a6 l0 a).length O,.int .i64 ((a6 l0 a).length:Int)] ?_;(with_reducible refine(bq.calls x _ _ (a6 l0 a) ((a6 l0 a).length:Int) t194 _ ?al ?aj Z.out).mono ?_);(case al=>repeat(first|exact Q.out|(with_reducible refine Kd.bz ?_ _)|(with_reducible refine Kd.gy ?_ _)|(with_reducible refine Kd.fD ?_)));(case aj=>exact R.out);rintro e w' ⟨rfl,⟨nd,rfl⟩⟩;refine⟨_,rfl,?_⟩))
       go_roundg x
       case measure=>have:=J.out;omega
       case rel=>exact⟨(wrap64 (a+1)),zT,g,⟨by have:=J.out;omega⟩,by repeat(first|exact az.refl _|apply az.step)⟩
      ·rw[if_neg y] at H
       obtain⟨ab,ad⟩:=bU y;obtain rfl:=aQ H;have l:0<=(a:Int):=aw ‹_›;have m:a<(l0.length:Int):=aw ‹_›;obtain⟨ag,N,O,P,ak,z,B⟩:=gQ s.out a l m;cases P;have Q:=zA B;have R:=zA z;clear B z;replace l:=eq_true l;replace m:=eq_true m;go_wp2_with (first|((with_reducible refine aJ (f:=87) rfl ?_);refine zL (some 17) Tryz.func87 #[.slice N (a6 l0 a).length O,.int .i64 ((a6 l0 a).length:Int)] ?_;(with_reducible refine(bq.calls x _ _ (a6 l0 a) ((a6 l0 a).length:Int) t194 _ ?al ?aj Z.out).mono ?_);(case al=>repeat(first|exact Q.out|(with_reducible refine Kd.bz ?_ _)|(with_reducible refine Kd.gy ?_ _)|(with_reducible refine Kd.fD ?_)));(case aj=>exact R.out);rintro e w' ⟨rfl,⟨nd,rfl⟩⟩;refine⟨_,rfl,?_⟩))
       go_ret;exact⟨zT,by repeat(first|exact az.refl _|apply az.step)⟩
     ·rw[if_neg c4] at H
      exact absurd H (by simp)
    ·rw[if_neg c3] at H
     exact absurd H (by simp)
   ·rw[if_neg c2] at H
    have Y:=aZ c2;clear c2;have g:=zA H;clear H;go_wp2;go_loopg [24] x (fun v v24 w'=>∃(b:Int),v24= .int .i64 b/\Aside0 (b9.l1 v l0 l0 (l0.length:Int) b=some r)/\Aside0 (v<=x)/\az w w')
    case atStart=>exact⟨(0),zT,g,⟨aI _⟩,by repeat(first|exact az.refl _|apply az.step)⟩
    case round=>
     clear g;clear Y;obtain⟨b,rfl,j,aa,⟨m2,rfl⟩⟩:=hrel;cases gk with
     |zero=>exact absurd j.out (by simp[b9.l1])
     |succ k2=>
      have H:=j.out;clear j;simp only[b9.l1] at H;by_cases u:b<(l0.length:Int)
      ·rw[if_pos u] at H
       have ap:=ay u;clear u;by_cases K:0<=b
       ·rw[if_pos K] at H
        have be:=ay K;clear K;by_cases L:b<(l0.length:Int)
        ·rw[if_pos L] at H
         have bf:=ay L;clear L;by_cases M:0<(l0.length:Int)
         ·rw[if_pos M] at H
          have bg:=ay M;have bi:decide (0<l0.length)=true:=ay (by omega);clear M;by_cases i:((a6 l0 b).length:Int)=((a6 l0 0).length:Int)
          ·rw[if_pos i] at H
           obtain⟨ar,av⟩:=bT i;have aB:((a6 l0 b).length==(a6 l0 0).length)=true:=by first|simpa using i|(simp at i⊢;omega)
           clear i;have g:=zA H;clear H;have n:0<=(b:Int):=aw ‹_›;have o:b<(l0.length:Int):=aw ‹_›;obtain⟨S,aF,aL,T,aO,D,E⟩:=gQ s.out b n o;cases T;have aP:=zA E;have aR:=zA D;clear E D;replace n:=eq_true n;replace o:=eq_true o;have p:0<=(0:Int):=(by omega);have q:0<(l0.length:Int):=aw ‹_›;obtain⟨U,aS,a0,V,F,G,I⟩:=gQ s.out 0 p q;obtain rfl:S=U:=(by injection V);have a1:(0<l0.length)=True:=eq_true (by omega)
           (try rw[show ((0:Int)).toNat=0 from rfl] at F)
           (try rw[Addr.add_zero'] at F)
           have a2:=zA I;have a3:=zA G;clear I G;replace p:=eq_true p;replace q:=eq_true q;go_wp2;go_roundg k2
           case measure=>have:=J.out;have:=aa.out;omega
           case rel=>exact⟨(wrap64 (b+1)),zT,g,⟨by have:=J.out;have:=aa.out;omega⟩,by repeat(first|exact az.refl _|apply az.step)⟩
          ·rw[if_neg i] at H
           obtain⟨ar,av⟩:=bU i;have aB:((a6 l0 b).length==(a6 l0 0).length)=false:=by first|simpa using i|(simp at i⊢;omega)
           obtain rfl:=aQ H;have n:0<=(b:Int):=aw ‹_›;have o:b<(l0.length:Int):=aw ‹_›;obtain⟨S,aF,aL,T,aO,D,E⟩:=gQ s.out b n o;cases T;have aP:=zA E;have aR:=zA D;clear E D;replace n:=eq_true n;replace o:=eq_true o;have p:0<=(0:Int):=(by omega);have q:0<(l0.length:Int):=aw ‹_›;obtain⟨U,aS,a0,V,F,G,I⟩:=gQ s.out 0 p q;obtain rfl:S=U:=(by injection V);have a1:(0<l0.length)=True:=eq_true (by omega)
           (try rw[show ((0:Int)).toNat=0 from rfl] at F)
           (try rw[Addr.add_zero'] at F)
           have a2:=zA I;have a3:=zA G;clear I G;replace p:=eq_true p;replace q:=eq_true q;go_wp2;go_ret;exact⟨zT,by repeat(first|exact az.refl _|apply az.step)⟩
         ·rw[if_neg M] at H
          exact absurd H (by simp)
        ·rw[if_neg L] at H
         exact absurd H (by simp)
       ·rw[if_neg K] at H
        exact absurd H (by simp)
      ·rw[if_neg u] at H
       have ap:=aZ u;clear u;obtain rfl:=aQ H;go_wp2;go_ret;exact⟨zT,by repeat(first|exact az.refl _|apply az.step)⟩
section
attribute [local go_sem] Oper.semAt_some
theorem wS (W:World) (t:TypeId) {A B:Option Addr} {a b:List Int} {e cb:Nat} (h:Kd.C (Kd.int .i64) W A a.length a) (k:a.length<=e) (hb:Kd.C (Kd.int .i64) W B b.length b) (l:b.length<=cb):
  Kd.C (Kd.slice 3 (Kd.int .i64)) (W.alloc (.cells #[.slice A a.length e,.slice B b.length cb] t)) (some ⟨W.heap.size,0,none⟩) [a,b].length [a,b]:=by
 have g:=a7 W (.cells #[.slice A a.length e,.slice B b.length cb] t);refine⟨rfl,by simp,fun _=>⟨_,rfl,fun j p hp=>?_⟩⟩;match j,hp with
 |0,hp=>
  obtain rfl:a=p:=by simpa using hp
  refine⟨[.slice A a.length e],rfl,⟨A,e,rfl,k,Kd.bz h _⟩,fun i u hu=>?_⟩;match i,hu with
  |0,hu=>
   obtain rfl:Value.slice A a.length e=u:=by simpa using hu
   rw[add_plain];exact(ah g 0).trans rfl
  |i+1,hu=>simp at hu
 |1,hp=>
  obtain rfl:b=p:=by simpa using hp
  refine⟨[.slice B b.length cb],rfl,⟨B,cb,rfl,l,Kd.bz hb _⟩,fun i u hu=>?_⟩;match i,hu with
  |0,hu=>
   obtain rfl:Value.slice B b.length cb=u:=by simpa using hu
   rw[add_plain];exact(ah g 1).trans rfl
  |i+1,hu=>simp at hu
 |j+2,hp=>simp at hp
theorem rV (W:World) (t:TypeId) {A:Option Addr} {a:List Int} {b:Nat} (e:Kd.C (Kd.int .i64) W A a.length a) (g:a.length<=b):
  Kd.C (Kd.slice 3 (Kd.int .i64)) (W.alloc (.cells #[.slice A a.length b] t)) (some ⟨W.heap.size,0,none⟩) [a].length [a]:=by
 have h:=a7 W (.cells #[.slice A a.length b] t);refine⟨rfl,by simp,fun _=>⟨_,rfl,fun j p hp=>?_⟩⟩;match j,hp with
 |0,hp=>
  obtain rfl:a=p:=by simpa using hp
  refine⟨[.slice A a.length b],rfl,⟨A,b,rfl,g,Kd.bz e _⟩,fun i u hu=>?_⟩;match i,hu with
  |0,hu=>
   obtain rfl:Value.slice A a.length b=u:=by simpa using hu
   rw[add_plain];exact(ah h 0).trans rfl
  |i+1,hu=>simp at hu
 |j+1,hp=>simp at hp
def iN (a b:List Int) (k:Nat):List Int:=(List.range a.length).map fun v=>if v<k then rd a (v:Nat)-rd b (v:Nat) else 0
def fP (a b:List Int):List Int:=iN a b a.length
def rW (a b:List Int):Bool:=decide (a.length=b.length/\1<=a.length/\a.length<=12)&&a.all cS&&b.all cS
def jF.f (k:Nat) (a b:List Int):Option (List Int×Int):=
 (b9.f k [a,b]).bind fun e=>if e=0 then(if rW a b=true then(if(fP a b).all cS=true then some (fP a b,0) else some ([],11)) else none) else some ([],e)
theorem jF.mono:∀l0 l1 k,ai (jF.f k l0 l1) (jF.f (k+1) l0 l1):=by
 intro a b k;unfold jF.f;exact ai.bind (b9.mono _ _) (fun _=>ai.refl _)
theorem Fu (x y:Int) (w:World) (a: -1048576<=x/\x<=1048576) (b: -1048576<=y/\y<=1048576):Calls Tryz.prog 59 #[.int .i64 x,.int .i64 y] w fun e w'=>e= .returned (.int .i64 (x-y))/\w'=w:=by
 obtain⟨h1,g⟩:=a;obtain⟨h,i⟩:=b;go_enter Tryz.func59,Tryz.ntmps59
 go_wp2;go_ret;exact⟨rfl,rfl⟩
theorem wT (a b:List Int) (k:Nat):(iN a b k).length=a.length:=by simp[iN]
theorem Fv {a b:List Int} {v:Nat} (g:v<a.length):(iN a b v).set v (rd a v-rd b v)=iN a b (v+1):=by
 unfold iN;refine List.ext_getElem (by simp) fun i h1 j=>?_
 rw[List.getElem_set];simp only[List.getElem_map,List.getElem_range];by_cases e:v=i
 ·subst e;simp
 ·rw[if_neg e]
  by_cases h:i<v
  ·rw[if_pos h,if_pos (by omega)]
  ·rw[if_neg h,if_neg (by omega)]
theorem wU {a b:List Int} {v:Nat} (e:v<a.length):rd (fP a b) v=rd a v-rd b v:=by
 rw[show rd (fP a b) (v:Int)=(fP a b).getD v 0 by simp[rd],fP,iN,aX,List.getElem?_map,List.getElem?_range e];simp[e]
theorem Fw (k:Nat) (A0:Option Addr) (c0:Nat) (a:List Int) (g:Option Addr) (c1:Nat) (b:List Int) (t:Int) (n:Value) (w:World) (h:Kd.C (Kd.int .i64) w A0 a.length a) (o:a.length<=c0) (i:Kd.C (Kd.int .i64) w g b.length b) (p:b.length<=c1)
  (j:b9.f k [a,b]=some t) (l:t≠0):
  Calls Tryz.prog 58 #[.slice A0 a.length c0,.slice g b.length c1,n] w fun e w'=>e= .returned (.tuple #[.slice none 0 0,.int .i64 t])/\Below w.heap.size w w':=by
 have q:=zA j;have r:=zA (wS w 26 h o i p);have s:(t != 0)=true:=by simpa using l
 clear j l h i;go_enter Tryz.func58,Tryz.ntmps58
 go_wp2_with (go_at_call 118;refine(b9.calls k (some ⟨w.heap.size,0,none⟩) 2 [a,b] t _ r.out (by simp) q.out).mono ?_;rintro e w1 ⟨rfl,⟨m,rfl⟩⟩)
 go_ret2;exact⟨rfl,bN (ao (aq _ _) _) m⟩
def jh (n:Nat) (a b:List Int) (base:Nat) (e:Ending) (w':World):Prop:=if(fP a b).all cS=true then ∃go co,e= .returned (.tuple #[.slice (some ⟨go,0,none⟩) n co,.int .i64 0])/\(Kd.int .i64).R 3 w' base (fun _=>True) (.slice (some ⟨go,0,none⟩) n co) (fP a b) else e= .returned (.tuple #[.slice none 0 0,.int .i64 11])
theorem jh.bad {n:Nat} {a b:List Int} {base:Nat} {w':World} {v:Nat} (e:v<a.length) (h:cS (rd a v-rd b v)=false):jh n a b base (.returned (.tuple #[.slice none 0 0,.int .i64 11])) w':=by
 unfold jh;rw[if_neg];intro g;rw[List.all_eq_true] at g;have i:v<(fP a b).length:=by simpa [fP,wT] using e
 have h1:=g (fP a b)[v] (List.getElem_mem i);have j:=wU (b:=b) e;rw[show rd (fP a b) (v:Int)=(fP a b)[v] by simp[rd,aX,bB i]] at j;rw[j,h] at h1;cases h1
theorem Fx (k n:Nat) (A0:Option Addr) (c0:Nat) (a:List Int) (S:Option Addr) (c1:Nat) (b:List Int) (w:World) (E:Kd.C (Kd.int .i64) w A0 a.length a) (an:a.length<=c0) (F:Kd.C (Kd.int .i64) w S b.length b) (ap:b.length<=c1)
  (T:b9.f k [a,b]=some 0) (G:a.length=n) (H:b.length=n) (bv:1<=n) (hn:n<=12) (U:∀v:Nat,v<n-> -1048576<=rd a v/\rd a v<=1048576) (hb:∀v:Nat,v<n-> -1048576<=rd b v/\rd b v<=1048576):
  Calls Tryz.prog 58 #[.slice A0 n c0,.slice S n c1,.func (.func 59) #[] #[]] w fun e w'=>jh n a b w.heap.size e w'/\Below w.heap.size w w':=by
 have HG:=zA T;have I:=wS w 26 E an F ap;rw[G,H] at I;have HC:=zA I;have aB:=zA E;have aF:=zA F;have HA:=zA U;have HB:=zA hb;have q:=zA G;have aP:=zA H;have aR:(0:Int)<=(n:Int):=by omega
 clear T E F U hb I G H;go_enter Tryz.func58,Tryz.ntmps58
 go_wp2_with (first|(go_at_call 118;refine(b9.calls k (some ⟨w.heap.size,0,none⟩) 2 [a,b] 0 _ HC.out (by simp) HG.out).mono ?_;rintro e w1 ⟨rfl,⟨m,rfl⟩⟩)|((with_reducible refine aU (N:=20) rfl ?_);refine Kd.ky (Kd.int .i64) (w0:=w) w.heap.size 3 rfl (N:=20) rfl 26 _ _ rfl (n:Int) rfl rfl Tryz.underlying26 (.int .i64 0) 8 gz rfl (by decide) (by omega) 0 (ok:=fun _=>True) (okp:=fun _=>True) rfl (fun _ hk=>hk) trivial aR (by simp;omega) (bN (ao (aq _ _) _) m) (by simp) ?_;intro v1 w5 r hb a0 a1;rw[aG] at r;obtain⟨go,co,J,a2,bw, -⟩:=Kd.fE r (by rw[List.length_replicate];omega);rw[List.length_replicate] at J;subst J;have V:=zA r;have W:=zA hb;clear r hb a0 a1))
 have X:Aside0 ((Kd.int .i64).R 3 w5 w.heap.size (fun _=>True) (.slice (some ⟨go,0,none⟩) n co) (iN a b 0)):=⟨by
  have h:=V.out;rw[show List.replicate n (0:Int)=iN a b 0 from by
   rw[<-q.out];unfold iN;refine List.ext_getElem (by simp) fun i h1 h2=>?_
   simp] at h
  exact h⟩
 clear V;go_loopg [23] (n) (fun kq vv wr=>∃v:Nat,v<=n/\vv= .int .i64 v/\Aside0 ((Kd.int .i64).R 3 wr w.heap.size (fun _=>True) (.slice (some ⟨go,0,none⟩) n co) (iN a b v))/\Aside0 (Below w.heap.size w wr)/\Aside0 (∀u:Nat,u<v->cS (rd a u-rd b u)=true)/\Aside0 (kq=n-v))
 case atStart=>exact⟨0,by omega,rfl,X,W,⟨fun u hu=>by omega⟩,⟨rfl⟩⟩
 case round=>
  clear X W;obtain⟨v,J,rfl,s,l,Y,HK⟩:=hrel;by_cases Z:v<n
  ·have b0:(0:Int)<=(v:Int):=by omega
   have b1:(v:Int)<(n:Int):=by omega
   have ad:=q.out;have a9:=aP.out;obtain⟨aa,ea,K⟩:=Kd.bJ (Kd.ax aB.out l.out) (v:Int) (by omega) (by omega);obtain⟨ab,eb,L⟩:=Kd.bJ (Kd.ax aF.out l.out) (v:Int) (by omega) (by omega);subst ea eb;rw[aG] at K L;obtain⟨g,hf⟩:=Kd.bO 0 s.out (v:Int) (by omega) (by omega);rw[aG] at g hf;generalize bM 0 (iN a b v) (v:Int)=z at g;replace g:wr.cell? ⟨go,v,none⟩=some (.int .i64 z):=g;have ag:=HA.out v Z;have ak:=HB.out v Z;have M:=Kd.dh (Kd.bj s.out) (v:Int) (rd a v-rd b v);rw[aG,Fv (show v<a.length by omega)] at M;have B:=zA M.1;have o:=zA (Below.setCell (p:=⟨go,v,none⟩) (bR l.out) a2 (.int .i64 (rd a v-rd b v)));have O:=zA (show cS (rd a v-rd b v)=true->∀u:Nat,u<v+1->cS (rd a u-rd b u)=true from fun h u hu=>by
    by_cases e:u=v
    ·subst e;exact h
    ·exact Y.out u (by omega))
   have P:Aside0 (cS (rd a v-rd b v)=false->∀w',jh n a b w.heap.size (.returned (.tuple #[.slice none 0 0,.int .i64 11])) w'):=⟨fun h w'=>jh.bad (by omega) h⟩;have b4:=zA ad;clear M s l ad a9;generalize rd a v=x at K ag B o O P;generalize rd b v=y at L ak B o O P;go_wp2_with fail
   refine wp_region_still_tail 13 (by kernel_rfl) (by kernel_rfl) ?_;simp only[List.take_succ_cons,List.take_zero,List.drop_succ_cons,List.drop_zero];repeat(first|still_step|still_call (Fu x y _ ag ak))
   refine wpStill_nil ?_;change wpList _ _ _ _ _ wr.drew
   have bg:wr.drew.cell? ⟨go,v,none⟩=some (.int .i64 z):=g;have bi:wr.drew.frozen? ⟨go,v,none⟩=false:=hf;clear g hf K L;generalize wr.drew=W2 at B o bg bi⊢;have D:=zA (wP (x-y));cases j:cS (x-y) with
   |true=>
    have Q:=zA j;rw[j] at D;clear j;go_wp2_with (go_at_call 119;refine(ij.calls (x-y) true _ D.out).mono ?_;rintro e w8 ⟨rfl,⟨m8,rfl⟩⟩)
    go_roundg (n- (v+1))
    case measure=>rw[HK.out];omega
    case rel=>exact⟨v+1,by omega,by go_num,⟨Kd.bs B.out _⟩,⟨bN o.out _⟩,⟨O.out Q.out⟩,⟨rfl⟩⟩
   |false=>
    have Q:=zA j;rw[j] at D;clear j;go_wp2_with (go_at_call 119;refine(ij.calls (x-y) false _ D.out).mono ?_;rintro e w8 ⟨rfl,⟨m8,rfl⟩⟩)
    go_ret2;exact⟨P.out Q.out _,bN o.out _⟩
  ·obtain rfl:n=v:=by omega
   go_wp2;go_ret2;have bn:(fP a b).all cS=true:=by
    rw[List.all_eq_true];intro x hx;obtain⟨u,hu,rfl⟩:=List.getElem_of_mem hx;have am:u<a.length:=by simpa [fP,wT] using hu
    have:=Y.out u (by rw[<-q.out];exact am);rw[<-wU am] at this;simpa [rd,aX,bB hu] using this
   refine⟨?_,l.out⟩;unfold jh;rw[if_pos bn];refine⟨go,co,rfl,?_⟩;have h:=s.out;unfold fP;rw[q.out];exact h
theorem wV {l:List Int}:l.all cS=true↔∀v:Nat,v<l.length-> -1048576<=rd l v/\rd l v<=1048576:=by
 have e:∀(v:Nat) (a:v<l.length),rd l (v:Int)=l[v]:=fun v a=>by simp[rd,aX,bB a]
 rw[List.all_eq_true];constructor
 ·intro h v a
  rw[e v a];simpa [cS] using h l[v] (List.getElem_mem a)
 ·intro h x b
  obtain⟨v,a,rfl⟩:=List.getElem_of_mem b;have:=h v a;rw[e v a] at this;simpa [cS] using this
theorem Fy (k:Nat) (A0:Option Addr) (c0:Nat) (a:List Int) (g:Option Addr) (c1:Nat) (b:List Int) (t:Int) (w:World) (h:Kd.C (Kd.int .i64) w A0 a.length a) (i:a.length<=c0) (j:Kd.C (Kd.int .i64) w g b.length b) (l:b.length<=c1)
  (m:b9.f k [a,b]=some t) (n:t≠0):
  Calls Tryz.prog 16 #[.slice A0 a.length c0,.slice g b.length c1] w fun e w'=>e= .returned (.tuple #[.slice none 0 0,.int .i64 t])/\Below w.heap.size w w':=by
 have o:=zA (Fw k A0 c0 a g c1 b t (.func (.func 59) #[] #[]) w h i j l m n);clear h i j l m n;go_enter Tryz.func16,Tryz.ntmps16
 go_wp2_with (go_at_call 58;refine o.out.mono ?_;rintro e w1 ⟨rfl,hb⟩;have p:=zA hb;clear hb)
 go_ret2;exact⟨rfl,p.out⟩
theorem Fz (k n:Nat) (A0:Option Addr) (c0:Nat) (a:List Int) (g:Option Addr) (c1:Nat) (b:List Int) (w:World) (m:Kd.C (Kd.int .i64) w A0 a.length a) (o:a.length<=c0) (p:Kd.C (Kd.int .i64) w g b.length b) (q:b.length<=c1)
  (r:b9.f k [a,b]=some 0) (i:a.length=n) (j:b.length=n) (z:1<=n) (hn:n<=12) (s:∀v:Nat,v<n-> -1048576<=rd a v/\rd a v<=1048576) (hb:∀v:Nat,v<n-> -1048576<=rd b v/\rd b v<=1048576):
  Calls Tryz.prog 16 #[.slice A0 a.length c0,.slice g b.length c1] w fun e w'=>jh n a b w.heap.size e w'/\Below w.heap.size w w':=by
 have B:=zA (Fx k n A0 c0 a g c1 b w m o p q r i j z hn s hb);rw[i,j];clear m o p q r s hb i j;have u:=zA (show ∀e w',jh n a b w.heap.size e w'->(∃go co,e= .returned (.tuple #[.slice (some ⟨go,0,none⟩) n co,.int .i64 0]))\/e= .returned (.tuple #[.slice none 0 0,.int .i64 11]) from fun e w' h=>by
  unfold jh at h;split at h
  ·obtain⟨go,co,he, -⟩:=h;exact .inl ⟨go,co,he⟩
  ·exact .inr h)
 go_enter Tryz.func16,Tryz.ntmps16
 go_wp2_with fail
 refine B.out.mono ?_;rintro e w1 ⟨l,hb⟩;have x:=zA l;have y:=zA hb;have hp:=u.out e w1 l;clear l hb u;rcases hp with⟨go,co,rfl⟩|rfl
 ·go_wp2
  go_ret2;exact⟨x.out,y.out⟩
 ·go_wp2
  go_ret2;exact⟨x.out,y.out⟩
theorem jF.calls (k:Nat) (A0:Option Addr) (c0:Nat) (l0:List Int) (g:Option Addr) (c1:Nat) (l1:List Int) (j:List Int) (l:Int) (w:World) (m:Kd.C (Kd.int .i64) w A0 l0.length l0) (n:l0.length<=c0) (o:Kd.C (Kd.int .i64) w g l1.length l1) (p:l1.length<=c1) (h:jF.f k l0 l1=some (j,l)):
  Calls Tryz.prog 16 #[.slice A0 l0.length c0,.slice g l1.length c1] w fun e w'=>∃q:Value,e= .returned (.tuple #[q,.int .i64 l])/\Kd.R (Kd.int .i64) 3 w' w.heap.size (fun _=>True) q j/\Below w.heap.size w w':=by
 unfold jF.f at h;obtain⟨e,he,r⟩:=Option.bind_eq_some_iff.1 h;clear h;have h:=r;clear r;by_cases i:e=0
 ·subst i
  rw[if_pos rfl] at h;by_cases a:rW l0 l1=true
  ·rw[if_pos a] at h
   unfold rW at a;simp only[Bool.and_eq_true,decide_eq_true_eq] at a;obtain⟨⟨⟨h1,u,x⟩,y⟩,z⟩:=a;refine(Fz k l0.length A0 c0 l0 g c1 l1 w m n o p he rfl h1.symm u x (wV.1 y) (fun v D=>wV.1 z v (by omega))).mono ?_;rintro e w' ⟨b,hb⟩;unfold jh at b;by_cases s:(fP l0 l1).all cS=true
   ·rw[if_pos s] at b h
    obtain⟨go,co,rfl,B⟩:=b;simp only[Option.some.injEq,Prod.mk.injEq] at h;obtain⟨rfl,rfl⟩:=h;exact⟨_,rfl,B,hb⟩
   ·rw[if_neg s] at b h
    simp only[Option.some.injEq,Prod.mk.injEq] at h;obtain⟨rfl,rfl⟩:=h;exact⟨_,b,Kd.dm _ _ _ _ _,hb⟩
  ·rw[if_neg a] at h;cases h
 ·rw[if_neg i] at h
  simp only[Option.some.injEq,Prod.mk.injEq] at h;obtain⟨rfl,rfl⟩:=h;refine(Fy k A0 c0 l0 g c1 l1 e w m n o p he i).mono ?_;rintro e' w' ⟨rfl,hb⟩;exact⟨_,rfl,Kd.dm _ _ _ _ _,hb⟩
end
def eX.f (k:Nat) (b:Int) (g:List (S83)) (l1:List Int):Option (List Int×Int):=(ff.f k b g).bind fun a=>(if a.2=0 then((bq.f k l1 b).bind fun t240=>(if t240=0 then((jF.f k a.1 l1).bind fun e=>(some (e.1,e.2))) else(some (([]:List Int),t240)))) else(some (([]:List Int),a.2)))
theorem eX.mono:∀a0 a a2 k,ai (eX.f k a0 a a2) (eX.f (k+1) a0 a a2):=by
 intro a0 a a2 k;unfold eX.f;with_reducible repeat' first|exact bq.mono _ _ _|exact jF.mono _ _ _|exact ff.mono _ _ _|exact ai.refl _|exact ai.none _|refine ai.ite ?_ ?_|refine ai.bind ?_ (fun _=>?_)
theorem eX.calls (k:Nat) (b:Int) (m:Option Addr) (n:Nat) (i:List (S83)) (q:Option Addr) (c1:Nat) (l1:List Int) (z:List Int) (B:Int) (w:World) (D:Kd.C aN w m i.length i) (E:i.length<=n) (F:Kd.C (Kd.int .i64) w q l1.length l1) (G:l1.length<=c1) (h:eX.f k b i l1=some (z,B)):
  Calls Tryz.prog 32 #[.agg #[.int .i64 b,.slice m i.length n],.slice q l1.length c1] w fun e w'=>∃I:Value,e= .returned (.tuple #[I,.int .i64 B])/\Kd.R (Kd.int .i64) 3 w' w.heap.size (fun _=>True) I z/\Below w.heap.size w w':=by
 have aa:=Tryz.underlying24;have s:=zA D;have u:=zA E;clear D E;have v:=zA F;have x:=zA G;clear F G;have a:=zA (aq w.heap.size w);unfold eX.f at h;have H:=h;clear h;obtain⟨⟨t236,t239⟩,y,H⟩:=zo H;dsimp only at H;by_cases c4:t239=0
 ·rw[if_pos c4] at H
  obtain⟨P,Q⟩:=bT c4;clear c4;obtain⟨t240,J,H⟩:=zo H;by_cases r:t240=0
  ·rw[if_pos r] at H
   obtain⟨S,T⟩:=bT r;clear r;obtain⟨⟨t241,t242⟩,U,H⟩:=zo H;dsimp only at H;simp only[Option.some.injEq,Prod.mk.injEq] at H;obtain⟨rfl,rfl⟩:=H;go_enter Tryz.func32,Tryz.ntmps32
   go_wp2_with (first|((with_reducible refine aU (N:=2) rfl ?_);refine zX 2 #[.int .i64 b,.slice m i.length n] 24 ?_;intro K l w8 o hb;have g:=zA (o);have L:=zG a l;have M:=zG a l;replace a:=zS a hb;clear hb o l;obtain⟨ad,ag,ak,am⟩:=aA g)|((with_reducible refine aJ (f:=35) rfl ?_);refine zL (some 11) Tryz.func35 #[.agg #[.int .i64 b,.slice m i.length n]] ?_;(with_reducible refine(ff.calls k b _ _ i t236 t239 _ ?al ?aj y.out).mono ?_);(case al=>exact Kd.ax s.out zB);(case aj=>exact u.out);rintro e an ⟨O,rfl,j,hb⟩;refine⟨_,rfl,?_⟩;have p:=zA (Kd.bd j (bH zB));replace g:=zb g hb;replace a:=zS a hb;(try clear hb);(try clear j);obtain⟨ap,ar,av,aB⟩:=aA g)|((with_reducible refine aJ (f:=87) rfl ?_);refine zL (some 20) Tryz.func87 #[.slice q l1.length c1,.int .i64 b] ?_;(with_reducible refine(bq.calls k _ _ l1 b t240 _ ?al ?aj J.out).mono ?_);(case al=>exact Kd.ax v.out zB);(case aj=>exact x.out);rintro e w' ⟨rfl,⟨V,rfl⟩⟩;refine⟨_,rfl,?_⟩;obtain⟨W,X,Y⟩:=Kd.bh p.out;subst Y)|((with_reducible refine aJ (f:=16) rfl ?_);refine zL (some 26) Tryz.func16 #[.slice W t236.length X,.slice q l1.length c1] ?_;(with_reducible refine(jF.calls k _ _ t236 _ _ l1 t241 t242 _ ?al ?aj ?bl ?bm U.out).mono ?_);(case al=>exact zC (Kd.aH p.out).2.2);(case aj=>exact(Kd.aH p.out).2.1);(case bl=>exact Kd.ax v.out zB);(case bm=>exact x.out);rintro e aF ⟨aL,rfl,j,hb⟩;refine⟨_,rfl,?_⟩;have Z:=zA (Kd.bd (Kd.bQ j (Kd.ba (zR p))) (bH zB));replace p:=bS p j hb;replace g:=zb g hb;replace a:=zS a hb;(try clear hb);(try clear j)))
   go_ret2;exact⟨_,zE,by(with_reducible repeat(first|apply Kd.aM|apply Kd.bs|apply Kd.bj));exact Kd.a_ Z.out (fun _ hk=>trivial),zB⟩
  ·rw[if_neg r] at H
   obtain⟨S,T⟩:=bU r;simp only[Option.some.injEq,Prod.mk.injEq] at H;obtain⟨rfl,rfl⟩:=H;go_enter Tryz.func32,Tryz.ntmps32
   go_wp2_with (first|((with_reducible refine aU (N:=2) rfl ?_);refine zX 2 #[.int .i64 b,.slice m i.length n] 24 ?_;intro K l aO o hb;have g:=zA (o);have L:=zG a l;have M:=zG a l;replace a:=zS a hb;clear hb o l;obtain⟨aP,aR,aS,a0⟩:=aA g)|((with_reducible refine aJ (f:=35) rfl ?_);refine zL (some 11) Tryz.func35 #[.agg #[.int .i64 b,.slice m i.length n]] ?_;(with_reducible refine(ff.calls k b _ _ i t236 t239 _ ?al ?aj y.out).mono ?_);(case al=>exact Kd.ax s.out zB);(case aj=>exact u.out);rintro e a1 ⟨O,rfl,j,hb⟩;refine⟨_,rfl,?_⟩;have p:=zA (Kd.bd j (bH zB));replace g:=zb g hb;replace a:=zS a hb;(try clear hb);(try clear j);obtain⟨a2,a3,a4,a5⟩:=aA g)|((with_reducible refine aJ (f:=87) rfl ?_);refine zL (some 20) Tryz.func87 #[.slice q l1.length c1,.int .i64 b] ?_;(with_reducible refine(bq.calls k _ _ l1 b t240 _ ?al ?aj J.out).mono ?_);(case al=>exact Kd.ax v.out zB);(case aj=>exact x.out);rintro e w' ⟨rfl,⟨V,rfl⟩⟩;refine⟨_,rfl,?_⟩))
   go_ret2;exact⟨_,zE,by first|exact Kd.dm _ _ _ _ _|exact Kd.fV _ _ _ _ _|exact Kd.V_nil _ _ _ _ _|exact Kd.Q_nil _ _ _ _ _|exact Kd.ic _ _ _ _ _,zB⟩
 ·rw[if_neg c4] at H
  obtain⟨P,Q⟩:=bU c4;simp only[Option.some.injEq,Prod.mk.injEq] at H;obtain⟨rfl,rfl⟩:=H;go_enter Tryz.func32,Tryz.ntmps32
  go_wp2_with (first|((with_reducible refine aU (N:=2) rfl ?_);refine zX 2 #[.int .i64 b,.slice m i.length n] 24 ?_;intro K l a9 o hb;have g:=zA (o);have L:=zG a l;have M:=zG a l;replace a:=zS a hb;clear hb o l;obtain⟨be,bf,bg,bi⟩:=aA g)|((with_reducible refine aJ (f:=35) rfl ?_);refine zL (some 11) Tryz.func35 #[.agg #[.int .i64 b,.slice m i.length n]] ?_;(with_reducible refine(ff.calls k b _ _ i t236 t239 _ ?al ?aj y.out).mono ?_);(case al=>exact Kd.ax s.out zB);(case aj=>exact u.out);rintro e bk ⟨O,rfl,j,hb⟩;refine⟨_,rfl,?_⟩;have p:=zA (Kd.bd j (bH zB));replace g:=zb g hb;replace a:=zS a hb;(try clear hb);(try clear j)))
  go_ret2;exact⟨_,zE,by first|exact Kd.dm _ _ _ _ _|exact Kd.fV _ _ _ _ _|exact Kd.V_nil _ _ _ _ _|exact Kd.Q_nil _ _ _ _ _|exact Kd.ic _ _ _ _ _,zB⟩
theorem rX:wrap64 (0+1)=1:=by unfold wrap64;omega
def rY (a:List Int):Int:=lU a a.length
theorem rZ (a:List Int) (l:List (List Int)):a6 (a::l) 0=a:=by simp[a6]
theorem FA (a:List Int) (b:a.length<=1000000):Ev (fun k=>b9.f k [a]) (rY a):=by
 unfold b9.f rY;refine Ev.of_succ ?_;simp only[b9.l0,List.length_cons,List.length_nil,Nat.zero_add,Int.natCast_one,if_pos (show (0:Int)<1 by decide),if_pos (show (0:Int)<=0 by decide),rZ];refine Ev.bind (pK a a.length b) ?_;by_cases h:lU a a.length=0
 ·simp only[if_pos h,rX]
  rw[h];refine Ev.of_succ ?_;simp only[b9.l0,if_neg (show ¬(1:Int)<1 by decide)];refine Ev.of_succ ?_;simp only[b9.l1,List.length_cons,List.length_nil,Nat.zero_add,Int.natCast_one,if_pos (show (0:Int)<1 by decide),if_pos (show (0:Int)<=0 by decide),rZ,if_true,rX];refine Ev.of_succ ?_;simp only[b9.l1,if_neg (show ¬(1:Int)<1 by decide)];exact Ev.const _
 ·simp only[if_neg h]
  exact Ev.const _
section
attribute [local go_sem] Oper.semAt_some
def eY (d:List Int):Nat->Int
 |0=>0
 |k+1=>eY d k+rd d k
theorem r6 {d:List Int} {n:Nat} (hd:∀v:Nat,v<n-> -1048576<=rd d v/\rd d v<=1048576):∀k,k<=n-> -(k*1048576)<=eY d k/\eY d k<=k*1048576
 |0,_=>by simp[eY]
 |k+1,h=>by
  have h1:=r6 hd k (by omega);have a:=hd k (by omega);unfold eY;omega
theorem FB (A0:Option Addr) (c0 n:Nat) (d:List Int) (w:World) (b:Kd.C (Kd.int .i64) w A0 d.length d) (p:d.length<=c0) (a:d.length=n) (K:1<=n) (hn:n<=12) (hd:∀v:Nat,v<n-> -1048576<=rd d v/\rd d v<=1048576):
  Calls Tryz.prog 148 #[.slice A0 n c0] w fun e w'=>e= .returned (.tuple #[.int .i64 (eY d n),.int .i64 0])/\Below w.heap.size w w':=by
 obtain⟨k,hk⟩:=(FA d (by omega)).get;rw[show rY d=0 from rU.2 ⟨by omega,by omega,rfl,fun v l=>hd v (by omega)⟩] at hk;have q:=zA hk;have g:=rV w 26 b p;rw[a] at g;have r:=zA g;have s:=zA b;have u:=zA hd;have z:=zA a;have B:=zA (r6 hd);clear hk b hd g a;go_enter Tryz.func148,Tryz.ntmps148
 go_wp2_with (go_at_call 118;refine(b9.calls k (some ⟨w.heap.size,0,none⟩) 1 [d] 0 _ r.out (by simp) q.out).mono ?_;rintro e w1 ⟨rfl,⟨m,rfl⟩⟩)
 have h:=zA (bN (ao (aq w.heap.size w) (.cells #[.slice A0 n c0] 26)) m);generalize (w.alloc (.cells #[.slice A0 n c0] 26)).drewN m=W1 at h⊢;go_loopg [5,16] (n) (fun D E F wr=>∃v:Nat,v<=n/\F= .int .i64 v/\E= .int .i64 (eY d v)/\Aside0 (Below w.heap.size w wr)/\Aside0 (D=n-v))
 case atStart=>exact⟨0,by omega,rfl,rfl,h,⟨rfl⟩⟩
 case round=>
  clear h;obtain⟨v,l,rfl,rfl,i,G⟩:=hrel;by_cases H:v<n
  ·have L:(0:Int)<=(v:Int):=by omega
   have M:(v:Int)<(n:Int):=by omega
   have a:=z.out;obtain⟨N,I,o⟩:=Kd.bJ (Kd.ax s.out i.out) (v:Int) (by omega) (by omega);subst I;rw[aG] at o;have h1:=u.out v H;have J:=B.out v l;have j:=zA (show eY d (v+1)=eY d v+rd d v from rfl);clear a;generalize rd d v=x at o h1 j;generalize eY d v=y at J j⊢;go_wp2;go_roundg (n- (v+1))
   case measure=>rw[G.out];omega
   case rel=>exact⟨v+1,by omega,by go_num,by rw[j.out],i,⟨rfl⟩⟩
  ·obtain rfl:n=v:=by omega
   go_wp2;go_ret2;exact⟨rfl,i.out⟩
end
end Go.Proofs.YtffdiakgjakngaaGreat.P
namespace Go.Proofs.YtffdiakgjakngaaGreat.P
open Go.RowKit Go.Maps Go.Proofs.YtffdiakgjakngaaGreatW.PrintWords Go.Proofs.YtffdiakgjakngaaGreatW.PrintLast Go.Proofs.YtffdiakgjakngaaGreatW.PrintMore
set_option linter.unusedVariables false
set_option linter.unusedSimpArgs false
set_option maxHeartbeats 8000000
set_option maxRecDepth 100000
section
theorem wW {α:Type} (f:α->α):∀(l:List α) (j:Nat) (e:α),l[j]? =some e->l.modify j f=l.set j (f e)
 |[],j,e,h=>by simp at h
 |x::l,0,e,h=>by
  obtain rfl:x=e:=by simpa using h
  rfl
 |x::l,j+1,e,h=>by
  have:=wW f l j e (by simpa using h);simp[this]
def ep (l:List Int):Value:=.agg (l.map (Value.int .i64)).toArray
def mN (l:List Int):Prop:=l.length=12/\∀x∈l, -1000000<=x/\x<=1000000
theorem kX:WideMaps.KeyLaw Tryz.prog 172:=deep_law (m:=2) (by decide) (by kernel_rfl) (by kernel_rfl) (by kernel_rfl)
theorem mapM_some {α β:Type} {f:α->Option β}:∀{l:List α},(∀x∈l,∃y,f x=some y)->∃ys,l.mapM f=some ys
 |[],_=>⟨[],rfl⟩
 |x::l,h=>by
  obtain⟨y,a⟩:=h x (List.mem_cons_self ..);obtain⟨ys,b⟩:=mapM_some (l:=l) (fun z e=>h z (List.mem_cons_of_mem _ e));exact⟨y::ys,by rw[List.mapM_cons,a,b];rfl⟩
theorem r7:Tryz.prog.underlying 172=some (.array 12 3):=by kernel_rfl
theorem wX:Tryz.prog.cellsOf 172=12:=by kernel_rfl
theorem FC:Tryz.prog.cellsOf 3=1:=by kernel_rfl
theorem FD:Tryz.prog.keyType 172=true:=by kernel_rfl
theorem FE:∃m,Tryz.prog.types.size=m+1:=⟨Tryz.prog.types.size-1,by
 have h:decide (0<Tryz.prog.types.size)=true:=by kernel_rfl
 have a:=aw h;omega⟩
theorem pL {l:List Int} (h:mN l):∃s,keyOf Tryz.prog 172 (ep l)=some s:=by
 unfold keyOf;rw[r7];have hf:(ep l).formed Tryz.prog 172=true:=by
  unfold ep Value.formed;rw[r7,wX];simp[h.1]
 simp only[FD,hf,Bool.and_self,if_true];obtain⟨m,hm⟩:=FE;rw[hm];unfold Program.keyLits;rw[r7];have b:(ep l).cells.toList=l.map (Value.int .i64):=by simp[ep,Value.cells]
 rw[b];dsimp only;rw[wX,FC];simp only[List.length_map,h.1,if_true];obtain⟨ys,g⟩:=mapM_some (f:=fun i=>Tryz.prog.keyLits (m+1) 3 (List.take 1 (List.drop (i*1) (l.map (Value.int .i64))))) (l:=List.range 12) (fun i hi=>by
  have hi:=List.mem_range.1 hi;have a:i<l.length:=by rw[h.1];exact hi
  have e:List.take 1 (List.drop (i*1) (l.map (Value.int .i64)))=[Value.int .i64 l[i]]:=by
   rw[Nat.mul_one,List.drop_eq_getElem_cons (by simpa using a)];simp
  have hb:=h.2 l[i] (List.getElem_mem a);refine⟨[.int .i64 l[i]],?_⟩;show Tryz.prog.keyLits (m+1) 3 (List.take 1 (List.drop (i*1) (l.map (Value.int .i64))))=_
  rw[e];unfold Program.keyLits;rw[Tryz.underlying3];simp only[true_and];rw[if_pos (WalkArith.wf_i64 (by omega))])
 rw[g];exact⟨_,rfl⟩
theorem FF {a b:List Int} (h:ep a=ep b):a=b:=by
 unfold ep at h;injection h with h
 have e:=congrArg Array.toList h;simp only at e;have key:∀a b:List Int,a.map (Value.int .i64)=b.map (Value.int .i64)->a=b:=by
  intro a;induction a with
  |nil=>intro b h;cases b with|nil=>rfl|cons y b=>simp at h
  |cons x a g=>
   intro b h;cases b with
   |nil=>simp at h
   |cons y b=>
    simp only[List.map_cons,List.cons.injEq,Value.int.injEq,true_and] at h;rw[h.1,g b h.2]
 exact key a b e
def ec (G:List Int->Int->Prop) (w:World) (b:Nat):Prop:=∃es clock,w.heap[b]? =some (.map es clock)/\(∀e∈es.toList,∃l x,e.key=ep l/\e.val= .int .i64 x/\mN l/\G l x)/\(es.toList.map fun e=>e.key).Pairwise (· ≠ ·)
namespace ec
variable {G:List Int->Int->Prop} {w w':World} {b:Nat}
theorem lt (h:ec G w b):b<w.heap.size:=by
 obtain⟨es,c,h, -⟩:=h;exact aC h
theorem iY (h:ec G w b) (hk:w'.heap[b]? =w.heap[b]?):ec G w' b:=by
 obtain⟨es,c,h1,a,e⟩:=h;exact⟨es,c,hk.trans h1,a,e⟩
theorem below (h:ec G w b) (hb:Below w.heap.size w w'):ec G w' b:=h.iY (hb.block b h.lt)
theorem alloc (h:ec G w b) (o:Obj):ec G (w.alloc o) b:=h.below (ao (aq _ _) o)
theorem iL (h:ec G w b) (p:Addr) (v:Value) (hp:b≠p.block):ec G (w.setCell p v) b:=h.iY (Below.heap_setCell _ _ _ _ hp)
theorem made (w:World):ec G (w.alloc (.map #[] 0)) w.heap.size:=⟨#[],0,a7 w _,fun e he=>by simp at he,by simp⟩
theorem look (h:ec G w b) (y:∀w,(zeroValue 3).run Tryz.prog w= .ok (.int .i64 0) w) {l:List Int} (o:mN l):
  (∃x,G l x/\∀w':World,w'.heap[b]? =w.heap[b]? ->(Instr.lookup 169 (.map (some b)) (ep l) true).run Tryz.prog w'= .ok (.tuple #[.int .i64 x,.bool true]) w')\/(∀w':World,w'.heap[b]? =w.heap[b]? ->(Instr.lookup 169 (.map (some b)) (ep l) true).run Tryz.prog w'= .ok (.tuple #[.int .i64 0,.bool false]) w'):=by
 obtain⟨es,c,hb,r,p⟩:=h;have u:∀e∈es.toList,∃l,keyOf Tryz.prog 172 e.key=some l:=fun e he=>by
  obtain⟨l,x,hk, -,o, -⟩:=r e he;rw[hk];exact pL o
 obtain⟨s,n⟩:=pL o;by_cases hex:∃(j:Nat) (e:MapEntry),es.toList[j]? =some e/\e.key=ep l
 ·left
  obtain⟨j,e,i,hk⟩:=hex;obtain⟨l',x,a,z,D,B⟩:=r e (List.mem_of_getElem? i);obtain rfl:=FF (a.symm.trans hk);refine⟨x,B,fun w' q=>?_⟩;rcases kX.find w' n es.toList u with⟨h1,v⟩|⟨k,e',h1,g,a⟩
  ·exact absurd hk (v e (List.mem_of_getElem? i))
  ·have C:e'=e:=by
    have l1:=(List.getElem?_eq_some_iff.1 i).1;have l2:=(List.getElem?_eq_some_iff.1 g).1;have g1:=(List.getElem?_eq_some_iff.1 i).2;have g2:=(List.getElem?_eq_some_iff.1 g).2;rw[List.pairwise_iff_getElem] at p;rcases Nat.lt_trichotomy j k with m|m|m
    ·have:=p j k (by simpa using l1) (by simpa using l2) m
     simp only[List.getElem_map,g1,g2] at this;exact absurd (hk.trans a.symm) this
    ·subst m
     rw[i] at g;exact(aQ g).symm
    ·have:=p k j (by simpa using l2) (by simpa using l1) m
     simp only[List.getElem_map,g1,g2] at this;exact absurd (a.trans hk.symm) this
   subst C;simp[Instr.lookup,run_underlying Tryz.underlying169,MapKept.run_getObj_map (q.trans hb),kX.check w' _ n,h1,z,Result.andThen]
 ·right
  intro w' q;rcases kX.find w' n es.toList u with⟨h1,v⟩|⟨k,e',h1,g,a⟩
  ·simp[Instr.lookup,run_underlying Tryz.underlying169,MapKept.run_getObj_map (q.trans hb),kX.check w' _ n,h1,y,Result.andThen]
  ·exact absurd ⟨k,e',g,a⟩ hex
theorem store (h:ec G w b) {l:List Int} {x:Int} (a:mN l) (o:G l x):
  ∃w',(Instr.mapUpdate 169 (.map (some b)) (ep l) (.int .i64 x)).run Tryz.prog w= .ok () w'/\ec G w' b/\w.grownBy w' (some b):=by
 obtain⟨es,c,hb,n,p⟩:=h;have u:∀e∈es.toList,∃l,keyOf Tryz.prog 172 e.key=some l:=fun e he=>by
  obtain⟨l,x,hk, -,a, -⟩:=n e he;rw[hk];exact pL a
 obtain⟨s,g⟩:=pL a;have q:=aC hb;rcases kX.find w g es.toList u with⟨h1,v⟩|⟨j,e,h1,m,hk⟩
 ·refine⟨w.putObj b (.map (es.push ⟨ep l,.int .i64 x,c⟩) (c+1)),?_,⟨_,_,World.putObj_heap_same q,fun e he=>?_,?_⟩,?_⟩
  ·simp[Instr.mapUpdate,run_underlying Tryz.underlying169,MapKept.run_getObj_map hb,kX.check w _ g,h1,MapKept.run_setObj_map _ hb,Result.andThen,World.putObj]
  ·simp only[Array.toList_push,List.mem_append,List.mem_singleton] at he
   rcases he with he|rfl
   ·exact n e he
   ·exact⟨l,x,rfl,rfl,a,o⟩
  ·simp only[Array.toList_push,List.map_append,List.map_cons,List.map_nil]
   refine List.pairwise_append.2 ⟨p,by simp,fun k hk k' y=>?_⟩;obtain rfl:=List.mem_singleton.1 y;obtain⟨e,he,rfl⟩:=List.mem_map.1 hk;exact v e he
  ·exact grownBy_putObj' w b _
 ·have z:j<es.toList.length:=(List.getElem?_eq_some_iff.1 m).1
  have B:es[j]? =some e:=by simpa using m
  have r:(es.modify j (fun e'=>{e' with key:=ep l,val:=.int .i64 x})).toList=es.toList.set j {e with key:=ep l,val:=.int .i64 x}:=by rw[Array.toList_modify,wW _ _ _ _ m]
  refine⟨w.putObj b (.map (es.modify j (fun e'=>{e' with key:=ep l,val:=.int .i64 x})) c),?_,⟨_,_,World.putObj_heap_same q,fun e' he=>?_,?_⟩,?_⟩
  ·simp[Instr.mapUpdate,run_underlying Tryz.underlying169,MapKept.run_getObj_map hb,kX.check w _ g,h1,B,hk,kX.stays w g,MapKept.run_setObj_map _ hb,Result.andThen,World.putObj]
  ·rw[r] at he
   rcases List.mem_or_eq_of_mem_set he with he|rfl
   ·exact n e' he
   ·exact⟨l,x,rfl,rfl,a,o⟩
  ·rw[r]
   have:(es.toList.set j {e with key:=ep l,val:=.int .i64 x}).map (fun e=>e.key)=es.toList.map (fun e=>e.key):=by
    rw[List.map_set];refine List.ext_getElem (by simp) fun i D a2=>?_
    rw[List.getElem_set];split
    ·rename_i C
     subst C;have:es.toList[j]=e:=by
      have:=bB z;rw[m] at this;exact(aQ this).symm
     simp only[List.getElem_map,this];exact hk.symm
    ·rfl
   rw[this];exact p
  ·exact grownBy_putObj' w b _
theorem len (h:ec G w b) (ty:TypeId):∃m:Nat,(Builtin.len_ #[169] ty #[.map (some b)]).run Tryz.prog w= .ok (.int .i64 m) w/\∃a:List (List Int),a.length=m/\a.Pairwise (· ≠ ·)/\∀l∈a,∃x,G l x:=by
 obtain⟨es,c,hb,j,n⟩:=h;refine⟨es.size,by simp[Builtin.len_,run_underlying Tryz.underlying169,MapKept.run_getObj_map hb,goInt,Result.andThen],?_⟩;have key:∀L:List MapEntry,(∀e∈L,∃l x,e.key=ep l/\e.val= .int .i64 x/\mN l/\G l x)->(L.map fun e=>e.key).Pairwise (· ≠ ·)->∃a:List (List Int),a.length=L.length/\a.map ep=L.map (fun e=>e.key)/\a.Pairwise (· ≠ ·)/\∀l∈a,∃x,G l x:=by
  intro L;induction L with
  |nil=>intro _ _;exact⟨[],rfl,rfl,List.Pairwise.nil,fun l o=>by cases o⟩
  |cons e L p=>
   intro h i;obtain⟨l,x,hk, -, -,q⟩:=h e (List.mem_cons_self ..);rw[List.map_cons,List.pairwise_cons] at i;obtain⟨a,i1,i2,i3,i4⟩:=p (fun e he=>h e (List.mem_cons_of_mem _ he)) i.2;refine⟨l::a,by simp[i1],by simp[i2,hk],List.pairwise_cons.2 ⟨fun k g r=>?_,i3⟩,fun k g=>?_⟩
   ·subst r
    refine i.1 (ep l) ?_ hk;rw[<-i2];exact List.mem_map.2 ⟨l,g,rfl⟩
   ·rcases List.mem_cons.1 g with rfl|g
    ·exact⟨x,q⟩
    ·exact i4 k g
 obtain⟨a,i1, -,i3,i4⟩:=key es.toList j n;exact⟨a,by simpa using i1,i3,i4⟩
end ec
end
end Go.Proofs.YtffdiakgjakngaaGreat.P
namespace Go.Proofs.YtffdiakgjakngaaGreat.T
set_option linter.unusedVariables false
set_option linter.unusedSimpArgs false
set_option maxHeartbeats 8000000
set_option maxRecDepth 100000
theorem FG (B:Nat->Bool) (n:Nat) {v:Nat} (a:v<n) (b:B v=false):b7 B n<b7 (fun u=>decide (u=v)||B u) n:=
 pq (fun u _ h=>by simp[h]) a b (by simp)
theorem wY {n:Nat} {t:Nat->Nat->Int} (H:Wt n t) {q:Nat} (Y:q<n) {c:Nat->Int} (P:iK n t q c):
  ∃pos:Nat->Nat,iw n pos/\pos q=0/\∀v,v<n->v≠q->0<pos v/\c v<=nu n t pos v:=by
 have key:∀(m:Nat) (B:Nat->Bool) (pos:Nat->Nat) (k:Nat),n<=b7 B n+m->B q=true->pos q=0->0<k->(∀v,v<n->B v=true->pos v<k)->(∀u v,u<n->v<n->B u=true->B v=true->pos u=pos v->u=v)->
   (∀v,v<n->B v=true->v≠q->0<pos v/\c v<sN (fun u=>if B u=true/\pos u<pos v then t v u else 0) n)->
   ∃pos:Nat->Nat,iw n pos/\pos q=0/\∀v,v<n->v≠q->0<pos v/\c v<=nu n t pos v:=by
  intro m;induction m with
  |zero=>
   intro B pos k hm r C hk l D E;have o:=rC (S:=B) (n:=n) (by omega);refine⟨pos,fun u v hu g=>D u v hu g (o u hu) (o v g),C,fun v g s=>?_⟩;obtain⟨h1,i⟩:=E v g (o v g) s;refine⟨h1,?_⟩;unfold nu gh;have:sN (fun u=>if B u=true/\pos u<pos v then t v u else 0) n=sN (fun u=>if pos u<pos v then t v u else 0) n:=bL fun u hu=>by
    show (if B u=true/\pos u<pos v then t v u else 0)=(if pos u<pos v then t v u else 0)
    by_cases e:pos u<pos v
    ·rw[if_pos e,if_pos ⟨o u hu,e⟩]
    ·rw[if_neg e,if_neg (fun h=>e h.2)]
   omega
  |succ m I=>
   intro B pos k hm r C hk l D E;by_cases J:∃v,v<n/\B v=false
   ·obtain⟨w,hw,Q⟩:=J
    obtain⟨v,g,j,R⟩:=P (fun u=> !B u) ⟨w,hw,by simp[Q]⟩ (by simp[r]);have j:B v=false:=by simpa using j
    have s:v≠q:=fun h=>by subst h;rw[r] at j;cases j
    refine I (fun u=>decide (u=v)||B u) (fun u=>if u=v then k else pos u) (k+1) (by have:=FG B n g j;omega) (by simp[r]) (by show (if q=v then k else pos q)=0;rw[if_neg (fun h=>s h.symm)];exact C) (by omega) ?_ ?_ ?_
    ·intro u hu F
     show (if u=v then k else pos u)<k+1
     by_cases e:u=v
     ·rw[if_pos e];omega
     ·rw[if_neg e]
      have:=l u hu (by simpa [e] using F);omega
    ·intro a b K hb L M G
     by_cases p:a=v
     ·by_cases e2:b=v
      ·rw[p,e2]
      ·exfalso
       have h1:=l b hb (by simpa [e2] using M);have i:(if a=v then k else pos a)=(if b=v then k else pos b):=G;rw[if_pos p,if_neg e2] at i;omega
     ·by_cases e2:b=v
      ·exfalso
       have h1:=l a K (by simpa [p] using L);have i:(if a=v then k else pos a)=(if b=v then k else pos b):=G;rw[if_neg p,if_pos e2] at i;omega
      ·have i:(if a=v then k else pos a)=(if b=v then k else pos b):=G
       rw[if_neg p,if_neg e2] at i;exact D a b K hb (by simpa [p] using L) (by simpa [e2] using M) i
    ·intro u hu F U
     by_cases e:u=v
     ·subst e
      show 0<(if u=u then k else pos u)/\_
      rw[if_pos rfl];refine⟨hk,Int.lt_of_lt_of_le R (cW fun x N=>?_)⟩;show (if(!B x)=false then t u x else 0)<=(if(decide (x=u)||B x)=true/\(if x=u then k else pos x)<k then t u x else 0)
      cases O:B x with
      |false=>
       rw[if_neg (by simp)];have:=H.pos u x;by_cases y:(decide (x=u)||false)=true/\(if x=u then k else pos x)<k
       ·rw[if_pos y];exact this
       ·rw[if_neg y];exact Int.le_refl _
      |true=>
       have V:x≠u:=fun h=>by subst h;rw[O] at j;cases j
       rw[if_pos (by simp),if_pos (by simp[V];exact l x N O)];exact Int.le_refl _
     ·have W:B u=true:=by simpa [e] using F
      obtain⟨h1,i⟩:=E u hu W U;show 0<(if u=v then k else pos u)/\_
      rw[if_neg e];refine⟨h1,Int.lt_of_lt_of_le i (cW fun x N=>?_)⟩;show (if B x=true/\pos x<pos u then t u x else 0)<=(if(decide (x=v)||B x)=true/\(if x=v then k else pos x)<pos u then t u x else 0)
      by_cases z:B x=true/\pos x<pos u
      ·have X:x≠v:=fun h=>by subst h;rw[j] at z;cases z.1
       rw[if_pos z,if_pos (by simp[X,z])];exact Int.le_refl _
      ·rw[if_neg z]
       have:=H.pos u x;by_cases y:(decide (x=v)||B x)=true/\(if x=v then k else pos x)<pos u
       ·rw[if_pos y];exact this
       ·rw[if_neg y];exact Int.le_refl _
   ·have o:∀v,v<n->B v=true:=fun v g=>by
     cases h:B v with
     |true=>rfl
     |false=>exact absurd ⟨v,g,h⟩ J
    have Z:n<=b7 B n:=by
     have i:=rD n;have:=nH (S:=fun _=>true) (T:=B) (n:=n) (fun v g _=>o v g);omega
    exact I B pos k (by omega) r C hk l D E
 refine key n (fun v=>decide (v=q)) (fun _=>0) 1 (by omega) (by simp) rfl (by omega) (fun _ _ _=>by omega) (fun u v _ _ hu g _=>?_) (fun v _ g s=>absurd (of_decide_eq_true g) s);have h1:u=q:=of_decide_eq_true hu;have i:v=q:=of_decide_eq_true g;rw[h1,i]
theorem wZ {n:Nat} {t:Nat->Nat->Int} {pos:Nat->Nat} {q:Nat} (h:pos q=0):nu n t pos q= -1:=by
 unfold nu gh;rw[iu fun u _=>by rw[if_neg (by omega)]];rfl
theorem w_ {n:Nat} {t:Nat->Nat->Int} (h:Wt n t) {q:Nat} (i:q<n) {c:Nat->Int} (j:iK n t q c) (hd:c q<0):∃pos:Nat->Nat,iw n pos/\pos q=0/\(∀v,v<n->v≠q->0<pos v)/\∀v,v<n->c v<=nu n t pos v:=by
 obtain⟨pos,h1,b,g⟩:=wY h i j;refine⟨pos,h1,b,fun v a k=>(g v a k).1,fun v a=>?_⟩;by_cases e:v=q
 ·subst e;rw[wZ b];omega
 ·exact(g v a e).2
theorem nS {n:Nat} {t:Nat->Nat->Int} (a:Wt n t) {q:Nat} (g:q<n) {c:Nat->Int} (b:kP n t q c):bP n t c↔0<=c q:=by
 constructor
 ·intro hw
  refine Classical.byContradiction fun hd=>?_
  obtain⟨pos, -, -, -,h⟩:=w_ a g b.2 (by omega);exact rB a (by omega) pos (hw.mono h)
 ·intro h
  exact bP.rA fun v i=>by
   by_cases e:v=q
   ·subst e;exact h
   ·exact b.1 v i e
theorem xc {n:Nat} {t:Nat->Nat->Int} (a:Wt n t) (e:dB n t) (hn:0<n) (D:Nat->Int):¬bP n t D↔∃pos:Nat->Nat,iw n pos/\bP n t (fun v=>nu n t pos v-D v):=by
 constructor
 ·intro h
  obtain⟨c,h1,b⟩:=vP a e hn D;have g:c 0<0:=by
   refine Classical.byContradiction fun o=>h ?_
   rw[DH h1];exact(nS a hn b).2 (by omega)
  obtain⟨pos,i, -, -,j⟩:=w_ a hn b.2 g;refine⟨pos,i,?_⟩;have k:bX n t (fun v=>nu n t pos v+ -c v) (fun v=>nu n t pos v+ -D v):=(bX.refl _ _ _).add h1.symm.neg;exact bP.gG k (bP.rA fun v l=>by have:=j v l;show 0<=nu n t pos v+ -c v;omega)
 ·rintro⟨pos, -,hw⟩ m
  refine rB a hn pos ((hw.add m).mono fun v _=>?_);show nu n t pos v-D v+D v<=_
  omega
def fQ (n:Nat) (t:Nat->Nat->Int) (D:Nat->Int) (k:Int):Prop:=∀F:Nat->Int,po n F->sN F n=k->bP n t (fun v=>D v-F v)
def cm (n:Nat) (t:Nat->Nat->Int) (D:Nat->Int) (r:Int):Prop:= -1<=r/\(∀k,0<=k->k<=r->fQ n t D k)/\¬fQ n t D (r+1)
theorem fQ.down {n:Nat} {t:Nat->Nat->Int} (hn:0<n) {D:Nat->Int} {k j:Int} (h:fQ n t D k) (e:j<=k):fQ n t D j:=by
 intro F hF b;have h1:=h (fun v=>F v+(k-j)*one 0 v) (fun v a=>by
  have:=hF v a;show 0<=F v+(k-j)*one 0 v
  unfold one;split
  ·rw[Int.mul_one];omega
  ·rw[Int.mul_zero];omega) (by rw[dE,eR,fa hn,b];omega)
 refine h1.mono fun v a=>?_
 show D v- (F v+(k-j)*one 0 v)<=D v-F v
 unfold one;split
 ·rw[Int.mul_one];omega
 ·rw[Int.mul_zero];omega
theorem cm.r8 {n:Nat} {t:Nat->Nat->Int} (hn:0<n) {D:Nat->Int} {r:Int} (h:cm n t D r) {k:Int} (hk:0<=k):fQ n t D k↔k<=r:=by
 constructor
 ·intro a
  refine Classical.byContradiction fun b=>h.2.2 (a.down hn (by omega))
 ·exact fun hle=>h.2.1 k hk hle
theorem cm.unique {n:Nat} {t:Nat->Nat->Int} (hn:0<n) {D:Nat->Int} {r a:Int} (h:cm n t D r) (b:cm n t D a):r=a:=by
 have h1:=h.1;have g:=b.1;rcases Int.lt_trichotomy r a with e|e|e
 ·exact absurd (b.2.1 (r+1) (by omega) (by omega)) h.2.2
 ·exact e
 ·exact absurd (h.2.1 (a+1) (by omega) (by omega)) b.2.2
theorem fQ.gG {n:Nat} {t:Nat->Nat->Int} {D D':Nat->Int} (he:bX n t D D') {k:Int} (h:fQ n t D k):fQ n t D' k:=fun F hF a=>by
 have b:bX n t (fun v=>D v+ -F v) (fun v=>D' v+ -F v):=he.add (bX.refl _ _ _);exact bP.gG b (h F hF a)
theorem cm.gG {n:Nat} {t:Nat->Nat->Int} {D D':Nat->Int} (he:bX n t D D') {r:Int} (h:cm n t D r):cm n t D' r:=
 ⟨h.1,fun k a hk=>(h.2.1 k a hk).gG he,fun b=>h.2.2 (b.gG he.symm)⟩
def up (x:Int):Int:=if 0<=x then x else 0
theorem FH (x:Int):0<=up x:=by unfold up;split<;>omega
theorem xd (x:Int):x<=up x:=by unfold up;split<;>omega
theorem r9 {n:Nat} {t:Nat->Nat->Int} (g:Wt n t) (i:dB n t) (hn:0<n) (D:Nat->Int) (k:Int) (hk:0<=k):fQ n t D k↔∀(D':Nat->Int) (pos:Nat->Nat),bX n t D D'->iw n pos->k<sN (fun v=>up (D' v-nu n t pos v)) n:=by
 constructor
 ·intro h D' pos he hi
  refine Classical.byContradiction fun hle=>?_
  have hle:sN (fun v=>up (D' v-nu n t pos v)) n<=k:=by omega
  have h1:=(h.down hn hle) (fun v=>up (D' v-nu n t pos v)) (fun v _=>FH _) rfl;have j:bX n t (fun v=>D v+ -up (D' v-nu n t pos v)) (fun v=>D' v+ -up (D' v-nu n t pos v)):=he.add (bX.refl _ _ _);have e:bP n t (fun v=>D' v+ -up (D' v-nu n t pos v)):=bP.gG j h1;exact rB g hn pos (e.mono fun v _=>by
   have:=xd (D' v-nu n t pos v);show D' v+ -up (D' v-nu n t pos v)<=nu n t pos v
   omega)
 ·intro h F hF m
  refine Classical.byContradiction fun l=>?_
  obtain⟨pos,hi,hw⟩:=(xc g i hn _).1 l;obtain⟨a,⟨s,h1⟩,e⟩:=hw;have he:bX n t D (fun v=>nu n t pos v+F v-a v):=⟨fun u=> -s u,fun v b=>by
   have o:a v=nu n t pos v- (D v-F v)-aV n t s v:=h1 v b;rw[lO];show nu n t pos v+F v-a v=_
   omega⟩
  have p:=h _ pos he hi;have q:sN (fun v=>up (nu n t pos v+F v-a v-nu n t pos v)) n<=sN F n:=cW fun v b=>by
   have:=e v b;have:=hF v b;show up (nu n t pos v+F v-a v-nu n t pos v)<=F v
   unfold up;split<;>omega
  omega
def can (n:Nat) (t:Nat->Nat->Int) (v:Nat):Int:=val n t v-2
def ee (n:Nat) (t:Nat->Nat->Int) (g:Int):Prop:=sN (can n t) n=2*g-2
theorem pM {n:Nat} {t:Nat->Nat->Int} (a:Wt n t) {g:Int} (b:ee n t g) {pos:Nat->Nat} (hi:iw n pos):sN (nu n t pos) n=g-1:=by
 have h1:=DM a hi;have e:=DN (n:=n) (t:=t) pos;have h:sN (can n t) n=sN (val n t) n-n*2:=by
  have:sN (can n t) n=sN (fun v=>val n t v- (fun _=>(2:Int)) v) n:=rfl;rw[this,dA,jd]
 unfold ee at b;omega
theorem FJ {n:Nat} {t:Nat->Nat->Int} (a:Wt n t) (e:dB n t) (hn:0<n) {g:Int} (b:ee n t g) {D:Nat->Int} {k:Int} (hk:0<=k) (j:0<=k- (sN D n+1-g)) (h:fQ n t D k):fQ n t (fun v=>can n t v-D v) (k- (sN D n+1-g)):=by
 rw[r9 a e hn _ _ j];rw[r9 a e hn _ _ hk] at h;intro D' pos he hi;obtain⟨pos',i⟩:=vN n pos;have hi':=DK hi i;have l:bX n t D (fun v=>can n t v-D' v):=by
  have h1:bX n t (fun v=>can n t v+ -(can n t v-D v)) (fun v=>can n t v+ -D' v):=(bX.refl _ _ _).add he.neg;exact(bX.of_eq (D:=D) (D':=fun v=>can n t v+ -(can n t v-D v)) fun v _=>by show can n t v+ -(can n t v-D v)=D v;omega).trans (h1.trans (bX.of_eq fun v _=>by show can n t v-D' v=can n t v+ -D' v;omega))
 have h1:=h _ pos' l hi';have m:sN (fun v=>up (can n t v-D' v-nu n t pos' v)) n=sN (fun v=>up (D' v-nu n t pos v)) n-sN (fun v=>D' v-nu n t pos v) n:=by
  rw[<-dA];refine bL fun v o=>?_
  have p:=DO a hi i o;show up (can n t v-D' v-nu n t pos' v)=up (D' v-nu n t pos v)- (D' v-nu n t pos v)
  unfold can up;rw[<-p];split<;>split<;>omega
 rw[m,dA,he.bb a,pM a b hi,dA] at h1;unfold ee at b;rw[b] at h1;omega
theorem cm.r_ {n:Nat} {t:Nat->Nat->Int} (b:Wt n t) (hn:0<n) {D:Nat->Int} {r:Int} (h:cm n t D r) (a:0<=r):r<=sN D n:=by
 have h1:=h.2.1 r a (Int.le_refl _) (fun v=>r*one 0 v) (fun v _=>Int.mul_nonneg a (by unfold one;split<;>omega)) (by rw[eR,fa hn,Int.mul_one]);have:=h1.bb b;rw[dA,eR,fa hn] at this;omega
theorem cm.mO {n:Nat} {t:Nat->Nat->Int} {D:Nat->Int} {r:Int} (hn:0<n) (h:cm n t D r):r= -1↔¬bP n t D:=by
 have key:fQ n t D 0↔bP n t D:=by
  constructor
  ·intro b
   exact(b (fun _=>0) (fun _ _=>Int.le_refl _) (j5 n)).mono fun v _=>by show D v-0<=D v;omega
  ·intro hw F hF i
   have e:∀v,v<n->F v=0:=fun v a=>by
    have h1:=fL a hF;have:=hF v a;omega
   exact hw.mono fun v a=>by show D v<=D v-F v;rw[e v a];omega
 have h1:=h.1;have g:=h.r8 hn (Int.le_refl 0);rw[<-key,g];omega
theorem ke {n:Nat} {t:Nat->Nat->Int} (a:Wt n t) (hn:0<n) (D:Nat->Int):∃r,cm n t D r:=by
 have key:∃k:Nat,¬fQ n t D k:=by
  refine⟨(sN D n).toNat+1,fun h=>?_⟩;have h1:=h (fun v=>(((sN D n).toNat+1:Nat):Int)*one 0 v) (fun v _=>Int.mul_nonneg (by omega) (by unfold one;split<;>omega)) (by rw[eR,fa hn,Int.mul_one]);have:=h1.bb a;rw[dA,eR,fa hn] at this;omega
 obtain⟨k,hk,b⟩:=DF key;refine⟨(k:Int)-1,by omega,fun j e l=>?_,by rw[show (k:Int)-1+1=k by omega];exact hk⟩;refine Classical.byContradiction fun g=>?_
 obtain⟨i,rfl⟩:=Int.eq_ofNat_of_zero_le e;have:=b i g;omega
theorem xe {n:Nat} {t:Nat->Nat->Int} (j:Wt n t) (l:dB n t) (hn:0<n) {g:Int} (b:ee n t g) {D:Nat->Int} {r a:Int} (h:cm n t D r) (e:cm n t (fun v=>can n t v-D v) a):r-a=sN D n+1-g:=by
 have key:∀{D D':Nat->Int} {r a:Int},(∀v,v<n->D' v=can n t v-D v)->cm n t D r->cm n t D' a->r- (sN D n+1-g)<=a:=by
  intro D D' r a m h e;refine Classical.byContradiction fun s=>?_
  have h1:=h.1;have u:=e.1;have w:sN D' n=2*g-2-sN D n:=by
   rw[bL m,dA];unfold ee at b;rw[b]
  by_cases o:0<=r
  ·have i:=FJ j l hn b o (by omega) (h.2.1 r o (Int.le_refl _))
   have k:fQ n t D' (r- (sN D n+1-g)):=i.gG (bX.of_eq m);have p:=(e.r8 hn (by omega)).1 k;omega
  ·
   have x:r= -1:=by omega
   have q:0<=a+1:=by omega
   have i:¬fQ n t D' (a+1):=e.2.2;rw[r9 j l hn _ _ q] at i;refine i fun F pos he hi=>?_
   have k:sN (fun v=>F v-nu n t pos v) n<=sN (fun v=>up (F v-nu n t pos v)) n:=cW fun v _=>xd _
   have p:sN (fun v=>F v-nu n t pos v) n=sN D' n- (g-1):=by rw[dA,he.bb j,pM j b hi]
   omega
 have h1:=key (fun v _=>rfl) h e;have i:=key (D:=fun v=>can n t v-D v) (D':=D) (fun v _=>by show D v=can n t v- (can n t v-D v);omega) e h;have k:sN (fun v=>can n t v-D v) n=2*g-2-sN D n:=by
  rw[dA];unfold ee at b;rw[b]
 omega
theorem FL {n:Nat} {t:Nat->Nat->Int} (q:Wt n t) (hn:0<n) {D:Nat->Int} (hw:bP n t D) {r:Int} (h:cm n t D r):(∀v,v<n->∀k,cm n t (fun u=>D u-one v u) k->r<=k+1)/\∃v,v<n/\∀k,cm n t (fun u=>D u-one v u) k->r=k+1:=by
 have j:0<=r:=by
  have h1:=h.1;have:=(h.mO hn).1;refine Classical.byContradiction fun g=>this (by omega) hw
 have i:∀v,v<n->∀k,cm n t (fun u=>D u-one v u) k->r<=k+1:=by
  intro v a k hk;have s:=hk.1;refine Classical.byContradiction fun w=>hk.2.2 fun F hF b=>?_
  have h1:=h.2.1 (k+2) (by omega) (by omega) (fun u=>F u+one v u) (fun u hu=>by have:=hF u hu;show 0<=F u+one v u;unfold one;split<;>omega) (by rw[dE,fa a,b];omega);exact h1.mono fun u _=>by show D u- (F u+one v u)<=D u-one v u-F u;omega
 refine⟨i,?_⟩;obtain⟨F,hF,b,l⟩:∃F,po n F/\sN F n=r+1/\¬bP n t (fun v=>D v-F v):=by
  refine Classical.byContradiction fun g=>h.2.2 fun F hF b=>?_
  exact Classical.byContradiction fun hw=>g ⟨F,hF,b,hw⟩
 obtain⟨v,a,x⟩:∃v,v<n/\1<=F v:=by
  refine Classical.byContradiction fun g=>?_
  have:sN F n=0:=iu fun v a=>by
   have:=hF v a;refine Classical.byContradiction fun y=>g ⟨v,a,by omega⟩
  omega
 refine⟨v,a,fun k hk=>?_⟩;have h1:=i v a k hk;have m:¬fQ n t (fun u=>D u-one v u) r:=fun o=>by
  have p:=o (fun u=>F u-one v u) (fun u hu=>by
   have:=hF u hu;show 0<=F u-one v u
   unfold one;by_cases e:u=v
   ·subst e;rw[if_pos rfl];omega
   ·rw[if_neg e];omega) (by rw[dA,fa a,b];omega)
  exact l (p.mono fun u _=>by show D u-one v u- (F u-one v u)<=D u-F u;omega)
 have:=hk.r8 hn j;have:¬r<=k:=fun hle=>m (this.2 hle)
 omega
theorem FM {n:Nat} {t:Nat->Nat->Int} (a:Wt n t) (i:dB n t) (hn:0<n) {g:Int} (b:ee n t g) {D:Nat->Int} (hd:2*g-2<sN D n) {r:Int} (h:cm n t D r):r=sN D n-g:=by
 obtain⟨k,e⟩:=ke a hn (fun v=>can n t v-D v);have h1:=xe a i hn b h e;have j:¬bP n t (fun v=>can n t v-D v):=fun hw=>by
  have:=hw.bb a;rw[dA] at this;unfold ee at b;omega
 have:=(e.mO hn).2 j;omega
end Go.Proofs.YtffdiakgjakngaaGreat.T
namespace Go.Proofs.YtffdiakgjakngaaGreat.P
open Go.RowKit Go.Proofs.YtffdiakgjakngaaGreatW.PrintWords Go.Proofs.YtffdiakgjakngaaGreatW.PrintLast Go.Proofs.YtffdiakgjakngaaGreatW.PrintMore
set_option linter.unusedVariables false
set_option linter.unusedSimpArgs false
set_option maxHeartbeats 8000000
set_option maxRecDepth 100000
theorem xf (N:Int) (E:List S83) (a b:Int) (j:E.length<=1000):∀(m i:Nat),i+m=E.length->Ev (fun k=>cT.l0 k a b i N E) (df (E.drop i) a b)
 |0,i,hi=>by
  refine Ev.of_succ ?_;simp only[cT.l0,if_neg (show ¬((i:Int)<(E.length:Int)) by omega)];rw[List.drop_eq_nil_of_le (by omega)];exact Ev.const _
 |m+1,i,hi=>by
  have g:=xf N E a b j m (i+1) (by omega);refine Ev.of_succ ?_;simp only[cT.l0,if_pos (show (i:Int)<(E.length:Int) by omega),if_pos (show (0:Int)<=(i:Int) by omega),eA (show i<=1000000 by omega)];rw[rz (by omega),vI];rw[show mn a b=min a b from by unfold mn;omega,show mx a b=max a b from by unfold mx;omega];by_cases e:(af E i).f0=min a b
  ·simp only[if_pos e]
   by_cases h1:(af E i).f1=max a b
   ·simp only[if_pos h1];rw[if_pos ⟨e,h1⟩];exact Ev.const _
   ·simp only[if_neg h1];rw[if_neg (fun h=>h1 h.2)];exact g
  ·simp only[if_neg e];rw[if_neg (fun h=>e h.1)];exact g
theorem pN (N:Int) (E:List S83) (a b:Int) (e:E.length<=1000):Ev (fun k=>cT.f k N E a b) (df E a b):=by
 unfold cT.f;have:=xf N E a b e E.length 0 (by omega);simpa using this
end Go.Proofs.YtffdiakgjakngaaGreat.P


