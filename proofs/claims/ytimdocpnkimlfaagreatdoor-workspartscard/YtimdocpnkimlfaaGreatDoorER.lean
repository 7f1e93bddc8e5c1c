/- Chapter 10, plain. -/
import Derived.Test.YtimdocpnkimlfaaGreatDoorCM
import Derived.Test.YtimdocpnkimlfaaGreatDoorWSJ
import Derived.Test.YtimdocpnkimlfaaGreatDoorEF
set_option linter.unusedVariables false
set_option linter.unusedSimpArgs false
set_option maxRecDepth 100000
open List renaming mem_cons_of_mem→I,mem_cons_self→En
namespace Go.Z
open Go Go.Abs Go.W
theorem q0t:FG (qe .i64):=fun n h1 h2=>by
 obtain⟨k,rfl⟩:=Int.eq_ofNat_of_zero_le h1
 cases k with
 |zero=>rfl
 |succ m=>
  show qe .i64 ((m:Int)+1)=((m+1:Nat):Int)
  exact yh (by omega)
def nT (M:List (List UInt8×Int))(l:List bq):List (List UInt8×Int):=l.foldl (fun M x=>yg M x.k (qe .i64 (jn (0:Int) M x.k+x.n))) M
theorem qsy:∀ {l:List bq} {M:List (List UInt8×Int)},(∀k,0≤jn (0:Int) M k)→(∀k,jn (0:Int) M k+fD k l≤1000000)→(∀x∈l,1≤x.n)→∀k,jn (0:Int) (nT M l) k=jn (0:Int) M k+fD k l
 | [],M,_,_,_,k=>by simp[nT,fD]
 |x::l,M,h0,hb,hp,k=>by
  have h1:=hp x (En ..)
  have ht:∀k,0≤fD k l:=fun k=>FH k (fun y hy=>hp y (I _ hy))
  have kC:=hb x.k
  simp only[fD,if_true]at kC
  have hx:=ht x.k
  have hx0:=h0 x.k
  have hw:qe .i64 (jn (0:Int) M x.k+x.n)=jn (0:Int) M x.k+x.n:=q0t _ (by omega) (by omega)
  have hg:∀q,jn (0:Int) (yg M x.k (jn (0:Int) M x.k+x.n)) q=jn (0:Int) M q+(if x.k=q then x.n else 0):=fun q=>by
   rw[B5]
   by_cases e:q=x.k
   ·rw[if_pos e,if_pos e.symm,e]
   ·rw[if_neg e,if_neg (fun h=>e h.symm)];omega
  show jn (0:Int) (nT (yg M x.k (qe .i64 (jn (0:Int) M x.k+x.n))) l) k=_
  rw[hw,qsy (fun q=>?_) (fun q=>?_) (fun y hy=>hp y (I _ hy)) k,hg]
  ·simp only[fD];omega
  ·rw[hg];have:=h0 q;split<;>omega
  ·rw[hg]
   have:=hb q
   simp only[fD]at this
   omega
def ng (M:List (List UInt8×Int))(l:List aW):List (List UInt8×Int):=l.foldl (fun M u=>nT M u.uses) M
theorem qu2:∀ {l:List aW} {M:List (List UInt8×Int)},(∀k,0≤jn (0:Int) M k)→(∀k,jn (0:Int) M k+eT k l≤1000000)→(∀u∈l,∀x∈u.uses,1≤x.n)→∀k,jn (0:Int) (ng M l) k=jn (0:Int) M k+eT k l
 | [],M,_,_,_,k=>by simp[ng,eT]
 |u::l,M,h0,hb,hp,k=>by
  have ht:∀k,0≤eT k l:=fun k=>JJ k (fun y hy=>hp y (I _ hy))
  have hu:=hp u (En ..)
  have hg:=qsy h0 (fun q=>by have:=hb q;have:=ht q;simp only[eT]at *;omega) hu
  show jn (0:Int) (ng (nT M u.uses) l) k=_
  rw[qu2 (fun q=>?_) (fun q=>?_) (fun y hy=>hp y (I _ hy)) k,hg]
  ·simp only[eT];omega
  ·rw[hg];have:=h0 q;have:=FH q hu;omega
  ·rw[hg];have:=hb q;simp only[eT]at this;omega
theorem jps {j:Nat}{S:ju}(w:WF S)(w3:fY j S)(k:List UInt8):eT k S.units≤10000:=by
 cases h:zt S k with
 |none=>
  rw[Yp _ fun u hu x hx e=>by
   have:=(w.uses u hu).2 x hx
   rw[e,h]at this;cases this]
  decide
 |some i=>
  obtain⟨x,h1,h2,_⟩:=bg h
  have h2:x.name=k:=by simpa using h2
  have:=w3.lots i x h1
  rw[h2]at this
  omega
theorem jm5 {j:Nat}{S:ju}(w:WF S)(w3:fY j S)(k:List UInt8):jn (0:Int) (ng [] S.units) k=eT k S.units:=by
 have:=qu2 (l:=S.units) (M:=[]) (fun _=>Int.le_refl _) (fun q=>by have:=jps w w3 q;show 0+eT q S.units≤_;omega) w3.uses k
 rw[this]
 show 0+_=_
 omega
def y9 (M:List (List UInt8×ay))(l:List ay):List (List UInt8×ay):=l.foldl (fun M u=>if u.partner=[]then M else yg M u.partner u) M
theorem qo1 {k:List UInt8}(hk:k≠[]):∀ {l:List ay} {M:List (List UInt8×ay)},(∃v∈l,v.partner=k∧jn dl (y9 M l) k=v)∨((∀v∈l,v.partner≠k)∧jn dl (y9 M l) k=jn dl M k)
 | [],M=>.inr ⟨by simp,rfl⟩
 |u::l,M=>by
  show(∃v∈u::l,v.partner=k∧jn dl (y9 (if u.partner=[]then M else yg M u.partner u) l) k=v)∨_
  rcases qo1 hk (l:=l) (M:=if u.partner=[]then M else yg M u.partner u)with⟨v,h1,h2,h3⟩|⟨h1,h2⟩
  ·exact .inl ⟨v,I _ h1,h2,h3⟩
  ·by_cases hu:u.partner=k
   ·refine .inl ⟨u,En ..,hu,?_⟩
    rw[h2,if_neg (by rw[hu];exact hk),B5,if_pos hu.symm]
   ·refine .inr ⟨fun v hv=>?_,?_⟩
    ·rcases List.mem_cons.1 hv with rfl|hv
     ·exact hu
     ·exact h1 v hv
    ·show jn dl (y9 (if u.partner=[]then M else yg M u.partner u) l) k=_
     rw[h2]
     split
     ·rfl
     ·rw[B5,if_neg (fun h=>hu h.symm)]
theorem jqt {l:List ay}{S:ju}(w:eX S)(hS:S.units=l.map ay.er){u:ay}(hu:u∈l):(jn dl (y9 [] l) u.name).name=u.partner∧((jn dl (y9 [] l) u.name).name≠[]→(jn dl (y9 [] l) u.name).product=u.product):=by
 have hm:∀v∈l,v.er∈S.units:=fun v hv=>by rw[hS];exact List.mem_map_of_mem hv
 have hn:u.name≠[]:=w.named u.er (hm u hu)
 rcases qo1 hn (l:=l) (M:=[])with⟨v,h1,h2,h3⟩|⟨h1,h2⟩
 ·rw[h3]
  have:=jg2 w (u:=u.er) (v:=v.er) (hm u hu) (hm v h1) h2
  exact⟨this.1,fun _=>this.2⟩
 ·rw[h2]
  refine⟨?_,fun h=>absurd rfl h⟩
  show []=u.partner
  by_cases hp:u.partner=[]
  ·exact hp.symm
  ·obtain⟨v,v0,v1,v2⟩:=jgu w (u:=u.er) (hm u hu) hp
   rw[hS]at v0
   obtain⟨y,y1,rfl⟩:=List.mem_map.1 v0
   exact absurd v2 (h1 y y1)
def kf (M:List (List UInt8×Int))(l:List jd):List (List UInt8×Int):=l.foldl (fun M x=>if x.held then M else yg M x.kind (qe .i64 (jn (0:Int) M x.kind+x.left))) M
theorem qoy {k:List UInt8}:∀ {l:List jd} {M:List (List UInt8×Int)},jn (0:Int) (kf M l) k=l.foldl (fun n x=>if decide (x.kind=k)&&!x.held then qe .i64 (n+x.left)else n) (jn (0:Int) M k)
 | [],M=>rfl
 |x::l,M=>by
  show jn (0:Int) (kf (if x.held then M else yg M x.kind (qe .i64 (jn (0:Int) M x.kind+x.left))) l) k=_
  rw[qoy,List.foldl_cons]
  congr 1
  cases hh:x.held with
  |true=>simp
  |false=>
   rw[if_neg (by simp),B5]
   by_cases hk:k=x.kind
   ·subst hk;simp
   ·rw[if_neg hk,decide_eq_false (fun h=>hk h.symm)];rfl
end Go.Z
