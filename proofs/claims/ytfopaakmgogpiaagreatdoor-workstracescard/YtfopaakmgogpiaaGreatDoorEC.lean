/- Chapter 10, plain. -/
import Derived.Test.YtfopaakmgogpiaaGreatDoorEA
import Derived.Test.YtfopaakmgogpiaaGreatDoorW14
set_option linter.unusedVariables false
set_option linter.unusedSimpArgs false
set_option maxRecDepth 100000
set_option maxHeartbeats 4000000
open Bool renaming false→I,false_and→Eo,true_and→Ev,true→E5,or_false→E6,false_or→E7,and_true→Ga,true_or→Gb,and_false→Gc,false_eq_true→Gh,or_true→Gi
open Ne renaming symm→El
open Option renaming some→En
namespace Go.Z
open Go Go.Abs Go.W
variable {r:qc}{e:ql}
def zcr (v0:Int):ou→ou
 | .error k=>.error k
 | .ok s=>.ok { s with day:=v0 }
theorem nR {v0:Int}{x:Option (qc×Int)}{y:ou}(h:gm x y):gm (jx x fun v=>En (⟨v0,v.1.aq,v.1.ae,v.1.units⟩,v.2)) (zcr v0 y):=by
 obtain⟨r',c,rfl,h2⟩:=h
 cases y with
 |error k=>exact⟨_,_,rfl,h2⟩
 |ok s=>exact⟨_,_,rfl,h2.1,by rw[←h2.2];rfl⟩
theorem jr6 (b:GB r)(w:WF r.er)(hc:kg e.er=0)(hu:e.kind≠ol)(iJ:∀v∈e.values.getD [],0≤v):gm (f69 r e) (after (j9 .i64) r.er e.er):=by
 obtain⟨_,f,h1,gO,n6⟩:=NH hc
 have hm:(e.kind,f.1,f.2)∈cW:=by
  unfold fP at h1
  cases hf:cW.find? (fun x=>decide (x.1=e.er.kind))with
  |none=>rw[hf]at h1;cases h1
  |some x=>
   rw[hf]at h1
   have h2:=List.find?_some hf
   have h3:=List.mem_of_find?_eq_some hf
   have h4:x.1=e.kind:=of_decide_eq_true h2
   have h5:x.2=f:=by simpa using h1
   rw[←h4,←h5];exact h3
 have gR:∃v0 t,e.values.getD []=v0::t:=by
  have:(e.values.getD []).length=f.2:=n6
  cases hv:e.values.getD []with
  |cons v t=>exact⟨v,t,rfl⟩
  |nil=>
   rw[hv]at this
   simp only[cW,List.mem_cons,Prod.mk.injEq,List.not_mem_nil,or_false]at hm
   simp only[List.length_nil]at this
   rcases hm with h|h|h|h|h|h|h|h|h|h|h|h|h|h|h<;>first|(exfalso;omega)|exact absurd h.1 hu
 obtain⟨v0,t,hv⟩:=gR
 unfold f69 after
 rw[gI hv,vl0 hv]
 simp only[jx]
 by_cases hd:v0<r.day
 ·rw[dT hd,if_pos (show v0<r.er.day from hd)]
  exact⟨_,_,rfl,rfl,by decide⟩
 rw[dF hd,if_neg (show ¬v0<r.er.day from hd)]
 have Eh:e.kind∈cW.map (·.1):=List.mem_map_of_mem (f:=(·.1)) hm
 simp only[cW,List.map_cons,List.map_nil,List.mem_cons,List.mem_singleton,List.not_mem_nil,or_false]at Eh
 have nk:∀ {k k':List UInt8},e.kind=k→decide (k=k')=I→decide (e.kind=k')=I:=by
  intro k k' h h2;rw[h];exact h2
 have yk:∀ {k:List UInt8},e.kind=k→decide (e.kind=k)=E5:=fun h=>dT h
 simp only[cond_false]
 rcases Eh with h|h|h|h|h|h|h|h|h|h|h|h|h|h|h
 ·have q:=nR (v0:=v0) (jxe b h hc)
  rw[show decide (e.kind=([108,111,116]:List UInt8))=E5 from yk h]
  exact q
 ·have q:=nR (v0:=v0) (jah b h hc)
  rw[show decide (e.kind=([108,111,116]:List UInt8))=I from nk h rfl,show decide (e.kind=([112,114,111,100,117,99,116]:List UInt8))=E5 from yk h]
  exact q
 ·have q:=nR (v0:=v0) (Vo b w (.inl rfl) h hc iJ)
  rw[show decide (e.kind=([108,111,116]:List UInt8))=I from nk h rfl,show decide (e.kind=([112,114,111,100,117,99,116]:List UInt8))=I from nk h rfl,show decide (e.kind=([98,117,105,108,100]:List UInt8))=I from nk h rfl,show decide (e.kind=([110,101,101,100]:List UInt8))=E5 from yk h]
  exact q
 ·have q:=nR (v0:=v0) (Vo b w (.inr (.inl rfl)) h hc iJ)
  rw[show decide (e.kind=([108,111,116]:List UInt8))=I from nk h rfl,show decide (e.kind=([112,114,111,100,117,99,116]:List UInt8))=I from nk h rfl,show decide (e.kind=([98,117,105,108,100]:List UInt8))=I from nk h rfl,show decide (e.kind=([110,101,101,100]:List UInt8))=I from nk h rfl,show decide (e.kind=([116,101,115,116]:List UInt8))=E5 from yk h]
  exact q
 ·have q:=nR (v0:=v0) (Vo b w (.inr (.inr rfl)) h hc iJ)
  rw[show decide (e.kind=([108,111,116]:List UInt8))=I from nk h rfl,show decide (e.kind=([112,114,111,100,117,99,116]:List UInt8))=I from nk h rfl,show decide (e.kind=([98,117,105,108,100]:List UInt8))=I from nk h rfl,show decide (e.kind=([110,101,101,100]:List UInt8))=I from nk h rfl,show decide (e.kind=([116,101,115,116]:List UInt8))=I from nk h rfl,show decide (e.kind=([105,115,115,117,101]:List UInt8))=E5 from yk h]
  exact q
 ·have q:=nR (v0:=v0) (jll b h hc)
  rw[show decide (e.kind=([108,111,116]:List UInt8))=I from nk h rfl,show decide (e.kind=([112,114,111,100,117,99,116]:List UInt8))=I from nk h rfl,show decide (e.kind=([98,117,105,108,100]:List UInt8))=E5 from yk h]
  exact q
 all_goals try rw[show decide (e.kind=([108,111,116]:List UInt8))=I from nk h rfl,show decide (e.kind=([112,114,111,100,117,99,116]:List UInt8))=I from nk h rfl,show decide (e.kind=([98,117,105,108,100]:List UInt8))=I from nk h rfl,show decide (e.kind=([110,101,101,100]:List UInt8))=I from nk h rfl,show decide (e.kind=([116,101,115,116]:List UInt8))=I from nk h rfl,show decide (e.kind=([105,115,115,117,101]:List UInt8))=I from nk h rfl]
 ·rw[show decide (e.kind=([104,111,108,100]:List UInt8))=I from nk h rfl,show decide (e.kind=([102,114,101,101]:List UInt8))=I from nk h rfl]
  exact nR (v0:=v0) (Eg b w (by simp) h hc)
 ·rw[show decide (e.kind=([104,111,108,100]:List UInt8))=I from nk h rfl,show decide (e.kind=([102,114,101,101]:List UInt8))=I from nk h rfl]
  exact nR (v0:=v0) (Eg b w (by simp) h hc)
 ·rw[show decide (e.kind=([104,111,108,100]:List UInt8))=I from nk h rfl,show decide (e.kind=([102,114,101,101]:List UInt8))=I from nk h rfl]
  exact nR (v0:=v0) (Eg b w (by simp) h hc)
 ·rw[show decide (e.kind=([104,111,108,100]:List UInt8))=I from nk h rfl,show decide (e.kind=([102,114,101,101]:List UInt8))=I from nk h rfl]
  exact nR (v0:=v0) (Eg b w (by simp) h hc)
 ·rw[show decide (e.kind=([104,111,108,100]:List UInt8))=E5 from yk h]
  exact nR (v0:=v0) (jbq b E5 h hc)
 ·rw[show decide (e.kind=([104,111,108,100]:List UInt8))=I from nk h rfl,show decide (e.kind=([102,114,101,101]:List UInt8))=E5 from yk h]
  exact nR (v0:=v0) (jbq b I h hc)
 ·rw[show decide (e.kind=([104,111,108,100]:List UInt8))=I from nk h rfl,show decide (e.kind=([102,114,101,101]:List UInt8))=I from nk h rfl]
  exact nR (v0:=v0) (Eg b w (by simp) h hc)
 ·rw[show decide (e.kind=([104,111,108,100]:List UInt8))=I from nk h rfl,show decide (e.kind=([102,114,101,101]:List UInt8))=I from nk h rfl]
  exact nR (v0:=v0) (Eg b w (by simp) h hc)
 ·exact absurd h hu
end Go.Z
namespace Go.Z
open Go Go.Abs Go.W
def Hw (s:List UInt8):Bool:=decide (s≠[])&&decide (s.length≤24)&&uY 0 s
theorem qqg {s:List UInt8}{i:Nat}{c:UInt8}(hc:s[i]?=En c):uY i (s.drop i)=(oy i c.toNat&&uY (i+1) (s.drop (i+1))):=by
 rw[uP hc];rfl
theorem jsl {s:List UInt8}:f26 s=En (Hw s):=by
 unfold f26 Hw
 by_cases h0:s=[]
 ·subst h0;rfl
 have hl:¬((s.length:Int)=0):=by
  intro h
  exact h0 (List.eq_nil_of_length_eq_zero (by omega))
 by_cases h1:(24:Int)<s.length
 ·have h2:¬s.length≤24:=by omega
  simp[hl,h0,h1,h2]
 ·have h2:s.length≤24:=by omega
  obtain⟨d,g1,g2⟩:=GX s.length (fun i=>(i:Int)) (x5 s) (fun d=>match d with | .inl _=>I | .inr _=>E5) (fun i=>uY i (s.drop i)) ⟨.inr _,by unfold x5;rw[fU];rfl,by rw[List.drop_eq_nil_of_le (Nat.le_refl _)];rfl⟩ (fun i hi=>by
   obtain⟨c,hc⟩:∃c,s[i]?=En c:=⟨_,List.getElem?_eq_getElem hi⟩
   unfold x5
   rw[qqg hc,gH hi,cT,yb hc,Vv]
   simp only[jab hi (show s.length≤9223372036854775807 by omega)]
   unfold oy
   have hx:0≤(c.toNat:Int):=by omega
   generalize (c.toNat:Int)=x at hx ⊢
   by_cases z:i=0
   ·subst z
    rcases kinds x with h|h|h|h|h|h|h|h|h <;>
     simp (disch:=omega) only[dT,dF,cT,cond_false,E6,E7,Gb,Ga,Ev,Eo] <;>
     first
      |exact .inl ⟨trivial,trivial⟩
      |exact .inl ⟨rfl,trivial⟩
      |exact .inl ⟨rfl,rfl⟩
      |exact .inr ⟨_,rfl,rfl⟩
   ·rcases kinds x with h|h|h|h|h|h|h|h|h <;>
     simp (disch:=omega) only[dT,dF,cT,cond_false,E6,Gi,E7,Gb,Ga,Ev,Eo] <;>
     first
      |exact .inl ⟨trivial,trivial⟩
      |exact .inl ⟨rfl,trivial⟩
      |exact .inl ⟨rfl,rfl⟩
      |exact .inr ⟨_,rfl,rfl⟩)
  have g1:bj (x5 s) 0=En d:=g1
  rw[dF hl,cond_false,dF h1,cond_false,g1,Vv]
  simp only[h0,h2,ne_eq,not_false_eq_true,decide_true,Ev]
  rw[List.drop_zero]at g2
  rw[←g2]
  cases d<;>rfl
theorem qu7 {s:List UInt8}{i:Nat}{c:UInt8}(hc:s[i]?=En c):(c.toNat<128∧zf s i=(c.toNat,1))∨(128≤c.toNat∧128≤(zf s i).1):=by
 by_cases h:c.toNat<128
 ·exact .inl ⟨h,jav hc h⟩
 ·exact .inr ⟨by omega,jaw hc h⟩
theorem qz4 {i:Nat}{x:Int}(h:128≤x):oy i x=I:=by
 unfold oy
 simp (disch:=omega) only[dF,Bool.or_self,Gc]
def zer:Nat→Option Nat
 |0=>none
 |i+1=>En (i+1)
theorem jbp {s:List UInt8}:f56 s=En (Hw s):=by
 unfold f56
 obtain⟨d,g1,g2⟩:=GX s.length zer (Hx s) (fun d=>match d with | .inl _=>I | .inr _=>E5) (fun i=>uY i (s.drop i)) (by
   rw[List.drop_eq_nil_of_le (Nat.le_refl _)]
   cases hn:s.length with
   |zero=>
    refine⟨.inr 0,?_,rfl⟩
    show x6 s=_
    unfold x6
    rw[hn];rfl
   |succ n=>
    refine⟨.inr (n+1),?_,rfl⟩
    show x9 s (n+1)=_
    unfold x9
    rw[hn,dF (by omega)];rfl) (fun i hi=>by
   obtain⟨c,hc⟩:∃c,s[i]?=En c:=⟨_,List.getElem?_eq_getElem hi⟩
   rw[qqg hc]
   cases i with
   |zero=>
    show(x6 s=_∧_)∨(∃d,x6 s=_∧_)
    unfold x6
    rw[dT hi,cT]
    rcases qu7 hc with⟨aY,he⟩|⟨ur,hr⟩
    ·rw[he]
     simp only[]
     have hx:0≤(c.toNat:Int):=by omega
     unfold oy
     generalize (c.toNat:Int)=x at hx ⊢
     rcases kinds x with h|h|h|h|h|h|h|h|h <;>
      simp (disch:=omega) only[dT,dF,cT,cond_false,E6,E7,Gb,Ga,Ev,Eo] <;>
      first
       |exact .inl ⟨trivial,trivial⟩
       |exact .inl ⟨rfl,trivial⟩
       |exact .inl ⟨rfl,rfl⟩
       |exact .inr ⟨_,rfl,rfl⟩
    ·rw[qz4 (by omega)]
     generalize hd:zf s 0=dd at hr ⊢
     have jE:(128:Int)≤(dd.1:Int):=by omega
     generalize (dd.1:Int)=x at jE ⊢
     simp (disch:=omega) only[dT,dF,cT,cond_false,Eo]
     exact .inr ⟨_,rfl,rfl⟩
   |succ i=>
    show(x9 s (i+1)=_∧_)∨(∃d,x9 s (i+1)=_∧_)
    unfold x9
    rw[dT hi,cT]
    rcases qu7 hc with⟨aY,he⟩|⟨ur,hr⟩
    ·rw[he]
     simp only[]
     have hx:0≤(c.toNat:Int):=by omega
     unfold oy
     generalize (c.toNat:Int)=x at hx ⊢
     have e0:decide (((i+1:Nat):Int)=0)=I:=dF (by omega)
     rcases kinds x with h|h|h|h|h|h|h|h|h <;>
      simp (disch:=omega) only[e0,dT,dF,cT,cond_false,E6,Gi,E7,Gb,Ga,Ev,Eo] <;>
      first
       |exact .inl ⟨trivial,trivial⟩
       |exact .inl ⟨rfl,trivial⟩
       |exact .inl ⟨rfl,rfl⟩
       |exact .inr ⟨_,rfl,rfl⟩
    ·rw[qz4 (by omega)]
     generalize hd:zf s (i+1)=dd at hr ⊢
     have jE:(128:Int)≤(dd.1:Int):=by omega
     have e0:decide (((i+1:Nat):Int)=0)=I:=dF (by omega)
     generalize (dd.1:Int)=x at jE ⊢
     simp (disch:=omega) only[e0,dT,dF,cT,cond_false,Eo]
     exact .inr ⟨_,rfl,rfl⟩)
 have g1:bj (Hx s) none=En d:=g1
 rw[g1,Vv]
 unfold Hw
 rw[List.drop_zero]at g2
 cases d with
 |inl d=>simp only[]at g2;rw[←g2];simp
 |inr d=>
  simp only[]at g2
  rw[←g2]
  by_cases h0:s=[]
  ·subst h0;rfl
  ·have e:decide ((s.length:Int)≤24)=decide (s.length≤24):=by by_cases h:s.length≤24<;>simp[h]<;>omega
   rw[e]
   simp[h0]
theorem q55 {c:UInt8}:oy 0 (c.toNat:Int)=uZ c:=by
 unfold oy uZ
 have h:∀a b:Nat,(decide ((a:Int)≤(c.toNat:Int)∧(c.toNat:Int)≤(b:Int)))=(decide (a≤c.toNat)&&decide (c.toNat≤b)):=by
  intro a b
  by_cases h1:a≤c.toNat<;>by_cases h2:c.toNat≤b<;>simp[h1,h2]<;>omega
 rw[show(65:Int)=((65:Nat):Int)from rfl,show(90:Int)=((90:Nat):Int)from rfl,show(97:Int)=((97:Nat):Int)from rfl,show(122:Int)=((122:Nat):Int)from rfl,h,h]
 simp
theorem jq3 {c:UInt8}{i:Nat}:oy (i+1) (c.toNat:Int)=(uZ c||Ei c):=by
 rw[←q55]
 unfold oy Ei
 have h:(decide ((48:Int)≤(c.toNat:Int)∧(c.toNat:Int)≤(57:Int)))=(decide (48≤c.toNat)&&decide (c.toNat≤57)):=by
  by_cases h1:48≤c.toNat<;>by_cases h2:c.toNat≤57<;>simp[h1,h2]<;>omega
 have h3:decide ((c.toNat:Int)=95)=decide (c.toNat=95):=by
  by_cases h1:c.toNat=95
  ·rw[dT h1];exact dT (by omega)
  ·rw[dF h1];exact dF (by omega)
 rw[h,h3]
 simp
theorem q37:∀ (s:List UInt8) (i:Nat),uY (i+1) s=s.all fun c=>uZ c||Ei c
 | [],_=>rfl
 |c::s,i=>by
  show(oy (i+1) c.toNat&&uY (i+1+1) s)=_
  rw[jq3,q37 s (i+1)];rfl
theorem Vw {s:List UInt8}:Hw s=Go.W.cj s:=by
 cases s with
 |nil=>rfl
 |cons c t=>
  show(decide (c::t≠[])&&decide ((c::t).length≤24)&&(oy 0 c.toNat&&uY 1 t))=(uZ c&&t.all (fun c=>uZ c||Ei c)&&decide ((c::t).length≤24))
  rw[q55,q37 t 0,show decide (c::t≠[])=E5 from dT (by simp)]
  cases uZ c<;>cases t.all (fun c=>uZ c||Ei c)<;>cases decide ((c::t).length≤24)<;>rfl
variable {e:ql}
theorem jou {s:List UInt8}:Ej s=En (if Go.W.cj s then 0 else 8):=by
 unfold Ej
 rw[jbp,Vw]
 simp only[jx,iN]
 cases Go.W.cj s<;>rfl
theorem Vx {α:Type}{p:α→Bool}{c:Int}(hc:c≠0):∀l:List α,eN (l.map fun x=>if p x then 0 else c)=if l.all p then 0 else c
 | []=>rfl
 |x::l=>by
  rw[List.map_cons,List.all_cons]
  cases p x with
  |true=>simp only[if_true,eN,Ev];exact Vx hc l
  |false=>simp[eN,hc]
theorem q5v {o:Option (List Int)}(hl:(o.getD []).length≤SM):f51 o=En (eN (o.getD [])):=by
 cases o with
 |none=>exact iw (l:=[]) (Nat.zero_le _)
 |some l=>exact iw hl
theorem jti {o:Option (List (List UInt8))}(hl:(o.getD []).length≤SM):∃w,f54 o=En (yg ((o.getD []).map fun s=>if Go.W.cj s then 0 else 8),w):=by
 unfold f54
 rw[G6 (f:=Hy o) (l:=o.getD []) (g:=fun s=>if Go.W.cj s then(0:Int)else 8) (q:=Ej) hl (fun x _=>jou) (fun s=>rfl)]
 exact⟨_,rfl⟩
def qW (n:Int):Bool:=decide (0≤n)&&decide (n≤999999999)
theorem jo4 {n:Int}:Ek n=En (if qW n then 0 else 3):=by
 unfold Ek
 rw[NB]
 simp only[jx]
 unfold qW
 by_cases h1:n<0
 ·rw[if_pos (Or.inl h1),dF (by omega)];rfl
 ·by_cases h2:999999999<n
  ·rw[if_pos (Or.inr h2),dT (by omega),dF (by omega)];rfl
  ·rw[if_neg (by omega),dT (by omega),dT (by omega)];rfl
theorem jr1 {o:Option (List Int)}(hl:(o.getD []).length≤SM):∃w,f57 o=En (yg ((o.getD []).map fun s=>if qW s then 0 else 3),w):=by
 unfold f57
 rw[G6 (f:=Hz o) (l:=o.getD []) (g:=fun s=>if qW s then(0:Int)else 3) (q:=Ek) hl (fun x _=>jo4) (fun s=>rfl)]
 exact⟨_,rfl⟩
theorem q7h:∀ (k:List UInt8),oo k=none∧fP k=none∨∃f,oo k=En f∧fP k=En (f.2.1.length,f.2.2.1.toNat)∧0≤f.2.2.1:=by
 intro k
 unfold oo fP iu cW
 simp only[List.find?_cons,List.find?_nil,eq_comm (a:=k)]
 by_cases h1:lY=k
 ·simp[h1]
 by_cases h2:mR=k
 ·simp[h1,h2]
 by_cases h3:lZ=k
 ·simp[h1,h2,h3]
 by_cases h4:mS=k
 ·simp[h1,h2,h3,h4]
 by_cases h5:pj=k
 ·simp[h1,h2,h3,h4,h5]
 by_cases h6:l0=k
 ·simp[h1,h2,h3,h4,h5,h6]
 by_cases h7:l3=k
 ·simp[h1,h2,h3,h4,h5,h6,h7]
 by_cases h8:oj=k
 ·simp[h1,h2,h3,h4,h5,h6,h7,h8]
 by_cases h9:pk=k
 ·simp[h1,h2,h3,h4,h5,h6,h7,h8,h9]
 by_cases kJ:mT=k
 ·simp[h1,h2,h3,h4,h5,h6,h7,h8,h9,kJ]
 by_cases nS:nG=k
 ·simp[h1,h2,h3,h4,h5,h6,h7,h8,h9,kJ,nS]
 by_cases lH:qR=k
 ·simp[h1,h2,h3,h4,h5,h6,h7,h8,h9,kJ,nS,lH]
 by_cases u0:kH=k
 ·simp[h1,h2,h3,h4,h5,h6,h7,h8,h9,kJ,nS,lH,u0]
 by_cases oz:xM=k
 ·simp[h1,h2,h3,h4,h5,h6,h7,h8,h9,kJ,nS,lH,u0,oz]
 by_cases ym:ol=k
 ·simp[h1,h2,h3,h4,h5,h6,h7,h8,h9,kJ,nS,lH,u0,oz,ym]
 ·simp[h1,h2,h3,h4,h5,h6,h7,h8,h9,kJ,nS,lH,u0,oz,ym]
theorem jp2 (h1:(e.names.getD []).length≤SM)(h2:(e.values.getD []).length≤SM):f11 e=En (kg e.er):=by
 obtain⟨w1,g1⟩:=jti h1
 obtain⟨w2,g2⟩:=jr1 h2
 have q1:f51 (yg ((e.names.getD []).map fun s=>if Go.W.cj s then(0:Int)else 8))=En (if(e.names.getD []).all Go.W.cj then 0 else 8):=by
  rw[q5v (by rw[yq,List.length_map];exact h1),yq,Vx (by decide)]
 have q2:f51 (yg ((e.values.getD []).map fun s=>if qW s then(0:Int)else 3))=En (if(e.values.getD []).all qW then 0 else 3):=by
  rw[q5v (by rw[yq,List.length_map];exact h2),yq,Vx (by decide)]
 unfold f11
 simp only[NB,iN,jx,g1,g2,q1,q2]
 rw[iw (by simp[SM])]
 simp only[]
 rw[iw (by simp[SM])]
 unfold kg
 rw[show e.er.number=e.number from rfl,show e.er.kind=e.kind from rfl,show e.er.names=e.names.getD []from rfl,show e.er.values=e.values.getD []from rfl,show e.er.text=e.text from rfl,show(fun n=>decide (0≤n)&&decide (n≤999999999))=qW from rfl]
 by_cases c1:e.number<1∨1000<e.number
 ·rw[if_pos c1,if_pos c1];rfl
 rw[if_neg c1,if_neg c1]
 rcases q7h e.kind with⟨c2,c3⟩|⟨f,c2,c3,c4⟩
 ·rw[c3]
  simp only[DZ,yu,mU,c2]
  simp[eN]
 rw[c3]
 simp only[DZ,yu,mU,c2,Option.isSome_some,Bool.not_true,Gh,if_false]
 by_cases c5:(e.names.getD []).length≠f.2.1.length∨(e.values.getD []).length≠f.2.2.1.toNat
 ·have:(!(decide (((e.names.getD []).length:Int)=(f.2.1.length:Int))&&decide (((e.values.getD []).length:Int)=f.2.2.1)))=E5:=by
   rcases c5 with c5|c5
   ·rw[dF (by omega)];rfl
   ·rw[dF (p:=((e.values.getD []).length:Int)=f.2.2.1) (by omega),Gc];rfl
  rw[this,if_pos c5]
  rfl
 ·have:(!(decide (((e.names.getD []).length:Int)=(f.2.1.length:Int))&&decide (((e.values.getD []).length:Int)=f.2.2.1)))=I:=by
   rw[dT (by omega),dT (p:=((e.values.getD []).length:Int)=f.2.2.1) (by omega)];rfl
  rw[this,if_neg c5]
  simp only[eN,Gh,if_false,if_true,decide_true,cT]
  cases (e.names.getD []).all Go.W.cj<;>cases (e.values.getD []).all qW<;>by_cases c6:e.text=[]<;>simp[c6]
end Go.Z
namespace Go.Z
open Go Go.Abs Go.W
variable {e:ql}
theorem joi:∀ (k:List UInt8),(f60 k=En ⟨0,0,I⟩∧fP k=none)∨∃a b:Nat,f60 k=En ⟨(a:Int),(b:Int),E5⟩∧fP k=En (a,b):=by
 intro k
 by_cases h1:k=lY
 ·subst h1;exact .inr ⟨2,2,rfl,rfl⟩
 by_cases h2:k=mR
 ·subst h2;exact .inr ⟨1,1,rfl,rfl⟩
 by_cases h3:k=pj
 ·subst h3;exact .inr ⟨1,1,rfl,rfl⟩
 by_cases h4:k=pk
 ·subst h4;exact .inr ⟨1,1,rfl,rfl⟩
 by_cases h5:k=nG
 ·subst h5;exact .inr ⟨1,1,rfl,rfl⟩
 by_cases h6:k=qR
 ·subst h6;exact .inr ⟨1,1,rfl,rfl⟩
 by_cases h7:k=kH
 ·subst h7;exact .inr ⟨1,1,rfl,rfl⟩
 by_cases h8:k=xM
 ·subst h8;exact .inr ⟨1,1,rfl,rfl⟩
 by_cases h9:k=lZ
 ·subst h9;exact .inr ⟨2,2,rfl,rfl⟩
 by_cases kJ:k=l3
 ·subst kJ;exact .inr ⟨2,2,rfl,rfl⟩
 by_cases nS:k=oj
 ·subst nS;exact .inr ⟨2,2,rfl,rfl⟩
 by_cases lH:k=mS
 ·subst lH;exact .inr ⟨2,3,rfl,rfl⟩
 by_cases u0:k=l0
 ·subst u0;exact .inr ⟨2,1,rfl,rfl⟩
 by_cases oz:k=mT
 ·subst oz;exact .inr ⟨2,1,rfl,rfl⟩
 by_cases ym:k=ol
 ·subst ym;exact .inr ⟨0,0,rfl,rfl⟩
 refine .inl ⟨?_,?_⟩
 ·unfold f60
  simp only[dF (p:=k=([108,111,116]:List UInt8)) h1,dF (p:=k=([112,114,111,100,117,99,116]:List UInt8)) h2,dF (p:=k=([105,115,115,117,101]:List UInt8)) h3,dF (p:=k=([117,112,100,97,116,101]:List UInt8)) h4,dF (p:=k=([104,111,108,100]:List UInt8)) h5,dF (p:=k=([102,114,101,101]:List UInt8)) h6,dF (p:=k=([115,104,105,112]:List UInt8)) h7,dF (p:=k=([99,111,109,112,108,97,105,110]:List UInt8)) h8,dF (p:=k=([110,101,101,100]:List UInt8)) h9,dF (p:=k=([117,115,101]:List UInt8)) kJ,dF (p:=k=([109,101,97,115,117,114,101]:List UInt8)) nS,dF (p:=k=([116,101,115,116]:List UInt8)) lH,dF (p:=k=([98,117,105,108,100]:List UInt8)) u0,dF (p:=k=([112,97,105,114]:List UInt8)) oz,dF (p:=k=([117,110,100,111]:List UInt8)) ym,cond_false]
 ·unfold fP cW
  simp[List.find?_cons,El h1,El h2,El h3,El h4,El h5,El h6,El h7,El h8,El h9,El kJ,El nS,El lH,El u0,El oz,El ym]
theorem NJ {s:List UInt8}:f26 s=En (Go.W.cj s):=by rw[jsl,Vw]
theorem q3r {α:Type}{l:List α}{p:α→Bool}{f:Int→Option (Int⊕(Unit⊕Int))}{n:Int}(hn:n=(l.length:Int))(hl:l.length≤SM)
  (cN:f n=En (.inr (.inr n))) (hf:∀(i:Nat) x,l[i]?=En x→i<l.length→f (i:Int)=En (if p x then .inl (j9 .i64 ((i:Int)+1))else .inr (.inl ()))):
  ∃d,bj f 0=En d∧(match d with | .inl _=>I | .inr _=>E5)=l.all p:=by
 subst hn
 obtain⟨d,h1,h2⟩:=Nt l f p (fun d=>match d with | .inl _=>I | .inr _=>E5) ⟨_,cN,rfl⟩ (fun i x hx hi=>by
  have h3:=hf i x hx hi
  cases hp:p x with
  |true=>rw[hp,gj (by unfold SM at hl;omega)]at h3;exact .inl ⟨rfl,h3⟩
  |false=>rw[hp]at h3;exact .inr ⟨rfl,_,h3,rfl⟩)
 exact⟨d,h1,h2⟩
theorem jnn (h1:(e.names.getD []).length≤SM)(h2:(e.values.getD []).length≤SM):f12 e=En (kg e.er):=by
 unfold f12 kg
 rw[Vn]
 simp only[jx]
 rw[show e.er.number=e.number from rfl,show e.er.kind=e.kind from rfl,show e.er.names=e.names.getD []from rfl,show e.er.values=e.values.getD []from rfl,show e.er.text=e.text from rfl,show(fun n=>decide (0≤n)&&decide (n≤999999999))=qW from rfl]
 by_cases c1:e.number<1∨1000<e.number
 ·rw[dT c1,if_pos c1];rfl
 rw[dF c1,if_neg c1]
 simp only[cond_false]
 rcases joi e.kind with⟨c2,c3⟩|⟨a,b,c2,c3⟩
 ·rw[c2,c3];rfl
 rw[c2,c3]
 simp only[cT]
 by_cases c5:(e.names.getD []).length=a
 case neg=>rw[dF (by omega),if_pos (.inl c5)];rfl
 by_cases c6:(e.values.getD []).length=b
 case neg=>rw[dT (by omega),dF (p:=((e.values.getD []).length:Int)=(b:Int)) (by omega),if_pos (.inr c6)];rfl
 rw[dT (by omega),dT (p:=((e.values.getD []).length:Int)=(b:Int)) (by omega),if_neg (by omega)]
 simp only[cT]
 obtain⟨d,g1,g2⟩:=q3r (l:=e.names.getD []) (p:=Go.W.cj) (f:=A2 e ⟨(a:Int),(b:Int),E5⟩) (n:=(a:Int)) (by omega) h1 (by unfold A2;simp only[fU];rfl) (fun i x hx hi=>by
  unfold A2
  simp only[show decide ((i:Int)<(a:Int))=E5 from dT (by omega),cT,jx,yb hx,NJ]
  cases Go.W.cj x<;>rfl)
 obtain⟨d2,g3,g4⟩:=q3r (l:=e.values.getD []) (p:=qW) (f:=A3 e ⟨(a:Int),(b:Int),E5⟩) (n:=(b:Int)) (by omega) h2 (by unfold A3;simp only[fU];rfl) (fun i x hx hi=>by
  unfold A3
  simp only[show decide ((i:Int)<(b:Int))=E5 from dT (by omega),cT,jx,yb hx,Vn]
  unfold qW
  by_cases k1:x<0
  ·rw[dT (Or.inl k1),dF (p:=0≤x) (by omega)];rfl
  ·by_cases k2:999999999<x
   ·rw[dT (Or.inr k2),dF (p:=x≤999999999) (by omega),Gc];rfl
   ·rw[dF (p:=x<0∨999999999<x) (by omega),dT (p:=0≤x) (by omega),dT (p:=x≤999999999) (by omega)];rfl)
 rw[g1,←g2,←g4]
 cases d with
 |inl d=>rfl
 |inr d=>
  simp only[]
  rw[g3]
  cases d2 with
  |inl d2=>rfl
  |inr d2=>
   by_cases c7:e.text=[]
   ·rw[dT c7];simp[c7]
   ·rw[dF c7];simp[c7]
end Go.Z
