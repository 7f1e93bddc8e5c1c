/- Chapter 10, plain. -/
import Derived.Test.YtfopaakmgogpiaaGreatDoorEA
import Derived.Test.YtfopaakmgogpiaaGreatDoorW14
import Derived.Test.YtfopaakmgogpiaaGreatDoorL1
set_option linter.unusedVariables false
set_option linter.unusedSimpArgs false
set_option maxRecDepth 100000
set_option maxHeartbeats 4000000
open Bool renaming false→I,false_and→E0,true_and→E1,true→E3,or_false→E4,false_or→E6,and_true→E7,true_or→E9,and_false→Ga,false_eq_true→Gb,or_true→Gc
open Ne renaming symm→Ef
open Option renaming some→En
namespace Go.Z
open Go Go.Abs Go.W
variable {r:qc}{e:ql}
def zcf (v0:Int):oz→oz
 | .error k=>.error k
 | .ok s=>.ok { s with day:=v0 }
theorem nU {v0:Int}{x:Option (qc×Int)}{y:oz}(h:gk x y):gk (jw x fun v=>En (⟨v0,v.1.au,v.1.ae,v.1.units⟩,v.2)) (zcf v0 y):=by
 obtain⟨r',c,rfl,h2⟩:=h
 cases y with
 |error k=>exact⟨_,_,rfl,h2⟩
 |ok s=>exact⟨_,_,rfl,h2.1,by rw[←h2.2];rfl⟩
theorem jrk (b:GB r)(w:WF r.er)(hc:yt e.er=0)(hu:e.kind≠ou)(iO:∀v∈e.values.getD [],0≤v):gk (f69 r e) (after (j6 .i64) r.er e.er):=by
 obtain⟨_,f,h1,gL,n9⟩:=Vs hc
 have hm:(e.kind,f.1,f.2)∈cX:=by
  unfold fS at h1
  cases hf:cX.find? (fun x=>decide (x.1=e.er.kind))with
  |none=>rw[hf]at h1;cases h1
  |some x=>
   rw[hf]at h1
   have h2:=List.find?_some hf
   have h3:=List.mem_of_find?_eq_some hf
   have h4:x.1=e.kind:=of_decide_eq_true h2
   have h5:x.2=f:=by simpa using h1
   rw[←h4,←h5];exact h3
 have gO:∃v0 t,e.values.getD []=v0::t:=by
  have:(e.values.getD []).length=f.2:=n9
  cases hv:e.values.getD []with
  |cons v t=>exact⟨v,t,rfl⟩
  |nil=>
   rw[hv]at this
   simp only[cX,List.mem_cons,Prod.mk.injEq,List.not_mem_nil,or_false]at hm
   simp only[List.length_nil]at this
   rcases hm with h|h|h|h|h|h|h|h|h|h|h|h|h|h|h<;>first|(exfalso;omega)|exact absurd h.1 hu
 obtain⟨v0,t,hv⟩:=gO
 unfold f69 after
 rw[gF hv,vl0 hv]
 simp only[jw]
 by_cases hd:v0<r.day
 ·rw[dT hd,if_pos (show v0<r.er.day from hd)]
  exact⟨_,_,rfl,rfl,by decide⟩
 rw[dF hd,if_neg (show ¬v0<r.er.day from hd)]
 have xR:e.kind∈cX.map (·.1):=List.mem_map_of_mem (f:=(·.1)) hm
 simp only[cX,List.map_cons,List.map_nil,List.mem_cons,List.mem_singleton,List.not_mem_nil,or_false]at xR
 have nk:∀ {k k':List UInt8},e.kind=k→decide (k=k')=I→decide (e.kind=k')=I:=by
  intro k k' h h2;rw[h];exact h2
 have yk:∀ {k:List UInt8},e.kind=k→decide (e.kind=k)=E3:=fun h=>dT h
 simp only[cond_false]
 rcases xR with h|h|h|h|h|h|h|h|h|h|h|h|h|h|h
 ·have q:=nU (v0:=v0) (jw7 b h hc)
  rw[show decide (e.kind=([108,111,116]:List UInt8))=E3 from yk h]
  exact q
 ·have q:=nU (v0:=v0) (jb1 b h hc)
  rw[show decide (e.kind=([108,111,116]:List UInt8))=I from nk h rfl,show decide (e.kind=([112,114,111,100,117,99,116]:List UInt8))=E3 from yk h]
  exact q
 ·have q:=nU (v0:=v0) (Vu b w (.inl rfl) h hc iO)
  rw[show decide (e.kind=([108,111,116]:List UInt8))=I from nk h rfl,show decide (e.kind=([112,114,111,100,117,99,116]:List UInt8))=I from nk h rfl,show decide (e.kind=([98,117,105,108,100]:List UInt8))=I from nk h rfl,show decide (e.kind=([110,101,101,100]:List UInt8))=E3 from yk h]
  exact q
 ·have q:=nU (v0:=v0) (Vu b w (.inr (.inl rfl)) h hc iO)
  rw[show decide (e.kind=([108,111,116]:List UInt8))=I from nk h rfl,show decide (e.kind=([112,114,111,100,117,99,116]:List UInt8))=I from nk h rfl,show decide (e.kind=([98,117,105,108,100]:List UInt8))=I from nk h rfl,show decide (e.kind=([110,101,101,100]:List UInt8))=I from nk h rfl,show decide (e.kind=([116,101,115,116]:List UInt8))=E3 from yk h]
  exact q
 ·have q:=nU (v0:=v0) (Vu b w (.inr (.inr rfl)) h hc iO)
  rw[show decide (e.kind=([108,111,116]:List UInt8))=I from nk h rfl,show decide (e.kind=([112,114,111,100,117,99,116]:List UInt8))=I from nk h rfl,show decide (e.kind=([98,117,105,108,100]:List UInt8))=I from nk h rfl,show decide (e.kind=([110,101,101,100]:List UInt8))=I from nk h rfl,show decide (e.kind=([116,101,115,116]:List UInt8))=I from nk h rfl,show decide (e.kind=([105,115,115,117,101]:List UInt8))=E3 from yk h]
  exact q
 ·have q:=nU (v0:=v0) (jmj b h hc)
  rw[show decide (e.kind=([108,111,116]:List UInt8))=I from nk h rfl,show decide (e.kind=([112,114,111,100,117,99,116]:List UInt8))=I from nk h rfl,show decide (e.kind=([98,117,105,108,100]:List UInt8))=E3 from yk h]
  exact q
 all_goals try rw[show decide (e.kind=([108,111,116]:List UInt8))=I from nk h rfl,show decide (e.kind=([112,114,111,100,117,99,116]:List UInt8))=I from nk h rfl,show decide (e.kind=([98,117,105,108,100]:List UInt8))=I from nk h rfl,show decide (e.kind=([110,101,101,100]:List UInt8))=I from nk h rfl,show decide (e.kind=([116,101,115,116]:List UInt8))=I from nk h rfl,show decide (e.kind=([105,115,115,117,101]:List UInt8))=I from nk h rfl]
 ·rw[show decide (e.kind=([104,111,108,100]:List UInt8))=I from nk h rfl,show decide (e.kind=([102,114,101,101]:List UInt8))=I from nk h rfl]
  exact nU (v0:=v0) (Eb b w (by simp) h hc)
 ·rw[show decide (e.kind=([104,111,108,100]:List UInt8))=I from nk h rfl,show decide (e.kind=([102,114,101,101]:List UInt8))=I from nk h rfl]
  exact nU (v0:=v0) (Eb b w (by simp) h hc)
 ·rw[show decide (e.kind=([104,111,108,100]:List UInt8))=I from nk h rfl,show decide (e.kind=([102,114,101,101]:List UInt8))=I from nk h rfl]
  exact nU (v0:=v0) (Eb b w (by simp) h hc)
 ·rw[show decide (e.kind=([104,111,108,100]:List UInt8))=I from nk h rfl,show decide (e.kind=([102,114,101,101]:List UInt8))=I from nk h rfl]
  exact nU (v0:=v0) (Eb b w (by simp) h hc)
 ·rw[show decide (e.kind=([104,111,108,100]:List UInt8))=E3 from yk h]
  exact nU (v0:=v0) (jbx b E3 h hc)
 ·rw[show decide (e.kind=([104,111,108,100]:List UInt8))=I from nk h rfl,show decide (e.kind=([102,114,101,101]:List UInt8))=E3 from yk h]
  exact nU (v0:=v0) (jbx b I h hc)
 ·rw[show decide (e.kind=([104,111,108,100]:List UInt8))=I from nk h rfl,show decide (e.kind=([102,114,101,101]:List UInt8))=I from nk h rfl]
  exact nU (v0:=v0) (Eb b w (by simp) h hc)
 ·rw[show decide (e.kind=([104,111,108,100]:List UInt8))=I from nk h rfl,show decide (e.kind=([102,114,101,101]:List UInt8))=I from nk h rfl]
  exact nU (v0:=v0) (Eb b w (by simp) h hc)
 ·exact absurd h hu
end Go.Z
namespace Go.Z
open Go Go.Abs Go.W
def Hk (s:List UInt8):Bool:=decide (s≠[])&&decide (s.length≤24)&&uO 0 s
theorem qqs {s:List UInt8}{i:Nat}{c:UInt8}(hc:s[i]?=En c):uO i (s.drop i)=(oD i c.toNat&&uO (i+1) (s.drop (i+1))):=by
 rw[qN hc];rfl
theorem jrf {s:List UInt8}:f26 s=En (Hk s):=by
 unfold f26 Hk
 by_cases h0:s=[]
 ·subst h0;rfl
 have hl:¬((s.length:Int)=0):=by
  intro h
  exact h0 (List.eq_nil_of_length_eq_zero (by omega))
 by_cases h1:(24:Int)<s.length
 ·have h2:¬s.length≤24:=by omega
  simp[hl,h0,h1,h2]
 ·have h2:s.length≤24:=by omega
  obtain⟨d,g1,g2⟩:=GJ s.length (fun i=>(i:Int)) (xS s) (fun d=>match d with | .inl _=>I | .inr _=>E3) (fun i=>uO i (s.drop i)) ⟨.inr _,by unfold xS;rw[kw];rfl,by rw[List.drop_eq_nil_of_le (Nat.le_refl _)];rfl⟩ (fun i hi=>by
   obtain⟨c,hc⟩:∃c,s[i]?=En c:=⟨_,List.getElem?_eq_getElem hi⟩
   unfold xS
   rw[qqs hc,fA hi,cT,z6 hc,VB]
   simp only[ja6 hi (show s.length≤9223372036854775807 by omega)]
   unfold oD
   have hx:0≤(c.toNat:Int):=by omega
   generalize (c.toNat:Int)=x at hx ⊢
   by_cases z:i=0
   ·subst z
    rcases kinds x with h|h|h|h|h|h|h|h|h <;>
     simp (disch:=omega) only[dT,dF,cT,cond_false,E4,E6,E9,E7,E1,E0] <;>
     first
      |exact .inl ⟨trivial,trivial⟩
      |exact .inl ⟨rfl,trivial⟩
      |exact .inl ⟨rfl,rfl⟩
      |exact .inr ⟨_,rfl,rfl⟩
   ·rcases kinds x with h|h|h|h|h|h|h|h|h <;>
     simp (disch:=omega) only[dT,dF,cT,cond_false,E4,Gc,E6,E9,E7,E1,E0] <;>
     first
      |exact .inl ⟨trivial,trivial⟩
      |exact .inl ⟨rfl,trivial⟩
      |exact .inl ⟨rfl,rfl⟩
      |exact .inr ⟨_,rfl,rfl⟩)
  have g1:bf (xS s) 0=En d:=g1
  rw[dF hl,cond_false,dF h1,cond_false,g1,VB]
  simp only[h0,h2,ne_eq,not_false_eq_true,decide_true,E1]
  rw[List.drop_zero]at g2
  rw[←g2]
  cases d<;>rfl
theorem qv3 {s:List UInt8}{i:Nat}{c:UInt8}(hc:s[i]?=En c):(c.toNat<128∧zg s i=(c.toNat,1))∨(128≤c.toNat∧128≤(zg s i).1):=by
 by_cases h:c.toNat<128
 ·exact .inl ⟨h,jcp hc h⟩
 ·exact .inr ⟨by omega,jcc hc h⟩
theorem q0g {i:Nat}{x:Int}(h:128≤x):oD i x=I:=by
 unfold oD
 simp (disch:=omega) only[dF,Bool.or_self,Ga]
def zfm:Nat→Option Nat
 |0=>none
 |i+1=>En (i+1)
theorem jqy {s:List UInt8}:f56 s=En (Hk s):=by
 unfold f56
 obtain⟨d,g1,g2⟩:=GJ s.length zfm (Hl s) (fun d=>match d with | .inl _=>I | .inr _=>E3) (fun i=>uO i (s.drop i)) (by
   rw[List.drop_eq_nil_of_le (Nat.le_refl _)]
   cases hn:s.length with
   |zero=>
    refine⟨.inr 0,?_,rfl⟩
    show xT s=_
    unfold xT
    rw[hn];rfl
   |succ n=>
    refine⟨.inr (n+1),?_,rfl⟩
    show xU s (n+1)=_
    unfold xU
    rw[hn,dF (by omega)];rfl) (fun i hi=>by
   obtain⟨c,hc⟩:∃c,s[i]?=En c:=⟨_,List.getElem?_eq_getElem hi⟩
   rw[qqs hc]
   cases i with
   |zero=>
    show(xT s=_∧_)∨(∃d,xT s=_∧_)
    unfold xT
    rw[dT hi,cT]
    rcases qv3 hc with⟨aY,he⟩|⟨uh,hr⟩
    ·rw[he]
     simp only[]
     have hx:0≤(c.toNat:Int):=by omega
     unfold oD
     generalize (c.toNat:Int)=x at hx ⊢
     rcases kinds x with h|h|h|h|h|h|h|h|h <;>
      simp (disch:=omega) only[dT,dF,cT,cond_false,E4,E6,E9,E7,E1,E0] <;>
      first
       |exact .inl ⟨trivial,trivial⟩
       |exact .inl ⟨rfl,trivial⟩
       |exact .inl ⟨rfl,rfl⟩
       |exact .inr ⟨_,rfl,rfl⟩
    ·rw[q0g (by omega)]
     generalize hd:zg s 0=dd at hr ⊢
     have jD:(128:Int)≤(dd.1:Int):=by omega
     generalize (dd.1:Int)=x at jD ⊢
     simp (disch:=omega) only[dT,dF,cT,cond_false,E0]
     exact .inr ⟨_,rfl,rfl⟩
   |succ i=>
    show(xU s (i+1)=_∧_)∨(∃d,xU s (i+1)=_∧_)
    unfold xU
    rw[dT hi,cT]
    rcases qv3 hc with⟨aY,he⟩|⟨uh,hr⟩
    ·rw[he]
     simp only[]
     have hx:0≤(c.toNat:Int):=by omega
     unfold oD
     generalize (c.toNat:Int)=x at hx ⊢
     have e0:decide (((i+1:Nat):Int)=0)=I:=dF (by omega)
     rcases kinds x with h|h|h|h|h|h|h|h|h <;>
      simp (disch:=omega) only[e0,dT,dF,cT,cond_false,E4,Gc,E6,E9,E7,E1,E0] <;>
      first
       |exact .inl ⟨trivial,trivial⟩
       |exact .inl ⟨rfl,trivial⟩
       |exact .inl ⟨rfl,rfl⟩
       |exact .inr ⟨_,rfl,rfl⟩
    ·rw[q0g (by omega)]
     generalize hd:zg s (i+1)=dd at hr ⊢
     have jD:(128:Int)≤(dd.1:Int):=by omega
     have e0:decide (((i+1:Nat):Int)=0)=I:=dF (by omega)
     generalize (dd.1:Int)=x at jD ⊢
     simp (disch:=omega) only[e0,dT,dF,cT,cond_false,E0]
     exact .inr ⟨_,rfl,rfl⟩)
 have g1:bf (Hl s) none=En d:=g1
 rw[g1,VB]
 unfold Hk
 rw[List.drop_zero]at g2
 cases d with
 |inl d=>simp only[]at g2;rw[←g2];simp
 |inr d=>
  simp only[]at g2
  rw[←g2]
  by_cases h0:s=[]
  ·subst h0;rfl
  ·have e:decide ((s.length:Int)≤24)=decide (s.length≤24):=by by_cases h:s.length≤24<;>simp[h]<;>omega
   rw[e]
   simp[h0]
theorem q7c {c:UInt8}:oD 0 (c.toNat:Int)=uP c:=by
 unfold oD uP
 have h:∀a b:Nat,(decide ((a:Int)≤(c.toNat:Int)∧(c.toNat:Int)≤(b:Int)))=(decide (a≤c.toNat)&&decide (c.toNat≤b)):=by
  intro a b
  by_cases h1:a≤c.toNat<;>by_cases h2:c.toNat≤b<;>simp[h1,h2]<;>omega
 rw[show(65:Int)=((65:Nat):Int)from rfl,show(90:Int)=((90:Nat):Int)from rfl,show(97:Int)=((97:Nat):Int)from rfl,show(122:Int)=((122:Nat):Int)from rfl,h,h]
 simp
theorem jsl {c:UInt8}{i:Nat}:oD (i+1) (c.toNat:Int)=(uP c||Ec c):=by
 rw[←q7c]
 unfold oD Ec
 have h:(decide ((48:Int)≤(c.toNat:Int)∧(c.toNat:Int)≤(57:Int)))=(decide (48≤c.toNat)&&decide (c.toNat≤57)):=by
  by_cases h1:48≤c.toNat<;>by_cases h2:c.toNat≤57<;>simp[h1,h2]<;>omega
 have h3:decide ((c.toNat:Int)=95)=decide (c.toNat=95):=by
  by_cases h1:c.toNat=95
  ·rw[dT h1];exact dT (by omega)
  ·rw[dF h1];exact dF (by omega)
 rw[h,h3]
 simp
theorem q25:∀ (s:List UInt8) (i:Nat),uO (i+1) s=s.all fun c=>uP c||Ec c
 | [],_=>rfl
 |c::s,i=>by
  show(oD (i+1) c.toNat&&uO (i+1+1) s)=_
  rw[jsl,q25 s (i+1)];rfl
theorem qvw {s:List UInt8}:Hk s=Go.W.cP s:=by
 cases s with
 |nil=>rfl
 |cons c t=>
  show(decide (c::t≠[])&&decide ((c::t).length≤24)&&(oD 0 c.toNat&&uO 1 t))=(uP c&&t.all (fun c=>uP c||Ec c)&&decide ((c::t).length≤24))
  rw[q7c,q25 t 0,show decide (c::t≠[])=E3 from dT (by simp)]
  cases uP c<;>cases t.all (fun c=>uP c||Ec c)<;>cases decide ((c::t).length≤24)<;>rfl
variable {e:ql}
theorem jt3 {s:List UInt8}:Ed s=En (if Go.W.cP s then 0 else 8):=by
 unfold Ed
 rw[jqy,qvw]
 simp only[jw,kU]
 cases Go.W.cP s<;>rfl
theorem VC {α:Type}{p:α→Bool}{c:Int}(hc:c≠0):∀l:List α,eW (l.map fun x=>if p x then 0 else c)=if l.all p then 0 else c
 | []=>rfl
 |x::l=>by
  rw[List.map_cons,List.all_cons]
  cases p x with
  |true=>simp only[if_true,eW,E1];exact VC hc l
  |false=>simp[eW,hc]
theorem q6q {o:Option (List Int)}(hl:(o.getD []).length≤SM):f51 o=En (eW (o.getD [])):=by
 cases o with
 |none=>exact iG (l:=[]) (Nat.zero_le _)
 |some l=>exact iG hl
theorem js9 {o:Option (List (List UInt8))}(hl:(o.getD []).length≤SM):∃w,f54 o=En (yq ((o.getD []).map fun s=>if Go.W.cP s then 0 else 8),w):=by
 unfold f54
 rw[Vb (f:=Hm o) (l:=o.getD []) (g:=fun s=>if Go.W.cP s then(0:Int)else 8) (q:=Ed) hl (fun x _=>jt3) (fun s=>rfl)]
 exact⟨_,rfl⟩
def qR (n:Int):Bool:=decide (0≤n)&&decide (n≤999999999)
theorem juv {n:Int}:Ee n=En (if qR n then 0 else 3):=by
 unfold Ee
 rw[Ns]
 simp only[jw]
 unfold qR
 by_cases h1:n<0
 ·rw[if_pos (Or.inl h1),dF (by omega)];rfl
 ·by_cases h2:999999999<n
  ·rw[if_pos (Or.inr h2),dT (by omega),dF (by omega)];rfl
  ·rw[if_neg (by omega),dT (by omega),dT (by omega)];rfl
theorem jp0 {o:Option (List Int)}(hl:(o.getD []).length≤SM):∃w,f57 o=En (yq ((o.getD []).map fun s=>if qR s then 0 else 3),w):=by
 unfold f57
 rw[Vb (f:=Hn o) (l:=o.getD []) (g:=fun s=>if qR s then(0:Int)else 3) (q:=Ee) hl (fun x _=>juv) (fun s=>rfl)]
 exact⟨_,rfl⟩
theorem q8k:∀ (k:List UInt8),ov k=none∧fS k=none∨∃f,ov k=En f∧fS k=En (f.2.1.length,f.2.2.1.toNat)∧0≤f.2.2.1:=by
 intro k
 unfold ov fS ik cX
 simp only[List.find?_cons,List.find?_nil,eq_comm (a:=k)]
 by_cases h1:l5=k
 ·simp[h1]
 by_cases h2:mR=k
 ·simp[h1,h2]
 by_cases h3:l6=k
 ·simp[h1,h2,h3]
 by_cases h4:mS=k
 ·simp[h1,h2,h3,h4]
 by_cases h5:po=k
 ·simp[h1,h2,h3,h4,h5]
 by_cases h6:oq=k
 ·simp[h1,h2,h3,h4,h5,h6]
 by_cases h7:l7=k
 ·simp[h1,h2,h3,h4,h5,h6,h7]
 by_cases h8:ot=k
 ·simp[h1,h2,h3,h4,h5,h6,h7,h8]
 by_cases h9:pq=k
 ·simp[h1,h2,h3,h4,h5,h6,h7,h8,h9]
 by_cases iW:mT=k
 ·simp[h1,h2,h3,h4,h5,h6,h7,h8,h9,iW]
 by_cases nW:nM=k
 ·simp[h1,h2,h3,h4,h5,h6,h7,h8,h9,iW,nW]
 by_cases lK:qO=k
 ·simp[h1,h2,h3,h4,h5,h6,h7,h8,h9,iW,nW,lK]
 by_cases px:kE=k
 ·simp[h1,h2,h3,h4,h5,h6,h7,h8,h9,iW,nW,lK,px]
 by_cases mZ:xy=k
 ·simp[h1,h2,h3,h4,h5,h6,h7,h8,h9,iW,nW,lK,px,mZ]
 by_cases uQ:ou=k
 ·simp[h1,h2,h3,h4,h5,h6,h7,h8,h9,iW,nW,lK,px,mZ,uQ]
 ·simp[h1,h2,h3,h4,h5,h6,h7,h8,h9,iW,nW,lK,px,mZ,uQ]
theorem VD (h1:(e.names.getD []).length≤SM)(h2:(e.values.getD []).length≤SM):f11 e=En (yt e.er):=by
 obtain⟨w1,g1⟩:=js9 h1
 obtain⟨w2,g2⟩:=jp0 h2
 have q1:f51 (yq ((e.names.getD []).map fun s=>if Go.W.cP s then(0:Int)else 8))=En (if(e.names.getD []).all Go.W.cP then 0 else 8):=by
  rw[q6q (by rw[kn,List.length_map];exact h1),kn,VC (by decide)]
 have q2:f51 (yq ((e.values.getD []).map fun s=>if qR s then(0:Int)else 3))=En (if(e.values.getD []).all qR then 0 else 3):=by
  rw[q6q (by rw[kn,List.length_map];exact h2),kn,VC (by decide)]
 unfold f11
 simp only[Ns,kU,jw,g1,g2,q1,q2]
 rw[iG (by simp[SM])]
 simp only[]
 rw[iG (by simp[SM])]
 unfold yt
 rw[show e.er.number=e.number from rfl,show e.er.kind=e.kind from rfl,show e.er.names=e.names.getD []from rfl,show e.er.values=e.values.getD []from rfl,show e.er.text=e.text from rfl,show(fun n=>decide (0≤n)&&decide (n≤999999999))=qR from rfl]
 by_cases c1:e.number<1∨1000<e.number
 ·rw[if_pos c1,if_pos c1];rfl
 rw[if_neg c1,if_neg c1]
 rcases q8k e.kind with⟨c2,c3⟩|⟨f,c2,c3,c4⟩
 ·rw[c3]
  simp only[DT,yu,mU,c2]
  simp[eW]
 rw[c3]
 simp only[DT,yu,mU,c2,Option.isSome_some,Bool.not_true,Gb,if_false]
 by_cases c5:(e.names.getD []).length≠f.2.1.length∨(e.values.getD []).length≠f.2.2.1.toNat
 ·have:(!(decide (((e.names.getD []).length:Int)=(f.2.1.length:Int))&&decide (((e.values.getD []).length:Int)=f.2.2.1)))=E3:=by
   rcases c5 with c5|c5
   ·rw[dF (by omega)];rfl
   ·rw[dF (p:=((e.values.getD []).length:Int)=f.2.2.1) (by omega),Ga];rfl
  rw[this,if_pos c5]
  rfl
 ·have:(!(decide (((e.names.getD []).length:Int)=(f.2.1.length:Int))&&decide (((e.values.getD []).length:Int)=f.2.2.1)))=I:=by
   rw[dT (by omega),dT (p:=((e.values.getD []).length:Int)=f.2.2.1) (by omega)];rfl
  rw[this,if_neg c5]
  simp only[eW,Gb,if_false,if_true,decide_true,cT]
  cases (e.names.getD []).all Go.W.cP<;>cases (e.values.getD []).all qR<;>by_cases c6:e.text=[]<;>simp[c6]
end Go.Z
namespace Go.Z
open Go Go.Abs Go.W
variable {e:ql}
theorem jpf:∀ (k:List UInt8),(f60 k=En ⟨0,0,I⟩∧fS k=none)∨∃a b:Nat,f60 k=En ⟨(a:Int),(b:Int),E3⟩∧fS k=En (a,b):=by
 intro k
 by_cases h1:k=l5
 ·subst h1;exact .inr ⟨2,2,rfl,rfl⟩
 by_cases h2:k=mR
 ·subst h2;exact .inr ⟨1,1,rfl,rfl⟩
 by_cases h3:k=po
 ·subst h3;exact .inr ⟨1,1,rfl,rfl⟩
 by_cases h4:k=pq
 ·subst h4;exact .inr ⟨1,1,rfl,rfl⟩
 by_cases h5:k=nM
 ·subst h5;exact .inr ⟨1,1,rfl,rfl⟩
 by_cases h6:k=qO
 ·subst h6;exact .inr ⟨1,1,rfl,rfl⟩
 by_cases h7:k=kE
 ·subst h7;exact .inr ⟨1,1,rfl,rfl⟩
 by_cases h8:k=xy
 ·subst h8;exact .inr ⟨1,1,rfl,rfl⟩
 by_cases h9:k=l6
 ·subst h9;exact .inr ⟨2,2,rfl,rfl⟩
 by_cases iW:k=l7
 ·subst iW;exact .inr ⟨2,2,rfl,rfl⟩
 by_cases nW:k=ot
 ·subst nW;exact .inr ⟨2,2,rfl,rfl⟩
 by_cases lK:k=mS
 ·subst lK;exact .inr ⟨2,3,rfl,rfl⟩
 by_cases px:k=oq
 ·subst px;exact .inr ⟨2,1,rfl,rfl⟩
 by_cases mZ:k=mT
 ·subst mZ;exact .inr ⟨2,1,rfl,rfl⟩
 by_cases uQ:k=ou
 ·subst uQ;exact .inr ⟨0,0,rfl,rfl⟩
 refine .inl ⟨?_,?_⟩
 ·unfold f60
  simp only[dF (p:=k=([108,111,116]:List UInt8)) h1,dF (p:=k=([112,114,111,100,117,99,116]:List UInt8)) h2,dF (p:=k=([105,115,115,117,101]:List UInt8)) h3,dF (p:=k=([117,112,100,97,116,101]:List UInt8)) h4,dF (p:=k=([104,111,108,100]:List UInt8)) h5,dF (p:=k=([102,114,101,101]:List UInt8)) h6,dF (p:=k=([115,104,105,112]:List UInt8)) h7,dF (p:=k=([99,111,109,112,108,97,105,110]:List UInt8)) h8,dF (p:=k=([110,101,101,100]:List UInt8)) h9,dF (p:=k=([117,115,101]:List UInt8)) iW,dF (p:=k=([109,101,97,115,117,114,101]:List UInt8)) nW,dF (p:=k=([116,101,115,116]:List UInt8)) lK,dF (p:=k=([98,117,105,108,100]:List UInt8)) px,dF (p:=k=([112,97,105,114]:List UInt8)) mZ,dF (p:=k=([117,110,100,111]:List UInt8)) uQ,cond_false]
 ·unfold fS cX
  simp[List.find?_cons,Ef h1,Ef h2,Ef h3,Ef h4,Ef h5,Ef h6,Ef h7,Ef h8,Ef h9,Ef iW,Ef nW,Ef lK,Ef px,Ef mZ,Ef uQ]
theorem jl8 {s:List UInt8}:f26 s=En (Go.W.cP s):=by rw[jrf,qvw]
theorem q15 {α:Type}{l:List α}{p:α→Bool}{f:Int→Option (Int⊕(Unit⊕Int))}{n:Int}(hn:n=(l.length:Int))(hl:l.length≤SM)
  (cN:f n=En (.inr (.inr n))) (hf:∀(i:Nat) x,l[i]?=En x→i<l.length→f (i:Int)=En (if p x then .inl (j6 .i64 ((i:Int)+1))else .inr (.inl ()))):
  ∃d,bf f 0=En d∧(match d with | .inl _=>I | .inr _=>E3)=l.all p:=by
 subst hn
 obtain⟨d,h1,h2⟩:=U1 l f p (fun d=>match d with | .inl _=>I | .inr _=>E3) ⟨_,cN,rfl⟩ (fun i x hx hi=>by
  have h3:=hf i x hx hi
  cases hp:p x with
  |true=>rw[hp,il (by unfold SM at hl;omega)]at h3;exact .inl ⟨rfl,h3⟩
  |false=>rw[hp]at h3;exact .inr ⟨rfl,_,h3,rfl⟩)
 exact⟨d,h1,h2⟩
theorem VE (h1:(e.names.getD []).length≤SM)(h2:(e.values.getD []).length≤SM):f12 e=En (yt e.er):=by
 unfold f12 yt
 rw[Vt]
 simp only[jw]
 rw[show e.er.number=e.number from rfl,show e.er.kind=e.kind from rfl,show e.er.names=e.names.getD []from rfl,show e.er.values=e.values.getD []from rfl,show e.er.text=e.text from rfl,show(fun n=>decide (0≤n)&&decide (n≤999999999))=qR from rfl]
 by_cases c1:e.number<1∨1000<e.number
 ·rw[dT c1,if_pos c1];rfl
 rw[dF c1,if_neg c1]
 simp only[cond_false]
 rcases jpf e.kind with⟨c2,c3⟩|⟨a,b,c2,c3⟩
 ·rw[c2,c3];rfl
 rw[c2,c3]
 simp only[cT]
 by_cases c5:(e.names.getD []).length=a
 case neg=>rw[dF (by omega),if_pos (.inl c5)];rfl
 by_cases c6:(e.values.getD []).length=b
 case neg=>rw[dT (by omega),dF (p:=((e.values.getD []).length:Int)=(b:Int)) (by omega),if_pos (.inr c6)];rfl
 rw[dT (by omega),dT (p:=((e.values.getD []).length:Int)=(b:Int)) (by omega),if_neg (by omega)]
 simp only[cT]
 obtain⟨d,g1,g2⟩:=q15 (l:=e.names.getD []) (p:=Go.W.cP) (f:=AW e ⟨(a:Int),(b:Int),E3⟩) (n:=(a:Int)) (by omega) h1 (by unfold AW;simp only[kw];rfl) (fun i x hx hi=>by
  unfold AW
  simp only[show decide ((i:Int)<(a:Int))=E3 from dT (by omega),cT,jw,z6 hx,jl8]
  cases Go.W.cP x<;>rfl)
 obtain⟨d2,g3,g4⟩:=q15 (l:=e.values.getD []) (p:=qR) (f:=AX e ⟨(a:Int),(b:Int),E3⟩) (n:=(b:Int)) (by omega) h2 (by unfold AX;simp only[kw];rfl) (fun i x hx hi=>by
  unfold AX
  simp only[show decide ((i:Int)<(b:Int))=E3 from dT (by omega),cT,jw,z6 hx,Vt]
  unfold qR
  by_cases k1:x<0
  ·rw[dT (Or.inl k1),dF (p:=0≤x) (by omega)];rfl
  ·by_cases k2:999999999<x
   ·rw[dT (Or.inr k2),dF (p:=x≤999999999) (by omega),Ga];rfl
   ·rw[dF (p:=x<0∨999999999<x) (by omega),dT (p:=0≤x) (by omega),dT (p:=x≤999999999) (by omega)];rfl)
 rw[g1,←g2,←g4]
 cases d with
 |inl d=>rfl
 |inr d=>
  simp only[]
  rw[g3]
  cases d2 with
  |inl d2=>rfl
  |inr d2=>
   by_cases c7:e.text=[]
   ·rw[dT c7];simp[c7]
   ·rw[dF c7];simp[c7]
end Go.Z
