/- Chapter 10, plain. -/
import Derived.Test.YtfopaakmgogpiaaGreatDoorEA
import Derived.Test.YtfopaakmgogpiaaGreatDoorW14
set_option linter.unusedVariables false
set_option linter.unusedSimpArgs false
set_option maxRecDepth 100000
set_option maxHeartbeats 4000000
open Bool renaming false→I,false_and→En,true_and→Eo,true→Ep,or_false→Eu,false_or→Ev,and_true→Ga,true_or→Gb,and_false→Gc,false_eq_true→Ge,or_true→Gf
open Ne renaming symm→Eh
open Option renaming some→Ek
namespace Go.Z
open Go Go.Abs Go.W
variable {r:qc}{e:ql}
def zjm (v0:Int):pJ→pJ
 | .error k=>.error k
 | .ok s=>.ok { s with day:=v0 }
theorem oi {v0 x y}(h:gj x y):gj (jw x fun v=>Ek (⟨v0,v.1.ar,v.1.ae,v.1.units⟩,v.2)) (zjm v0 y):=by
 obtain⟨r',c,rfl,h2⟩:=h
 cases y with
 |error k=>exact⟨_,_,rfl,h2⟩
 |ok s=>exact⟨_,_,rfl,h2.1,by rw[←h2.2];rfl⟩
theorem jt6 (b:GB r)(w:WF r.er)(hc:ki e.er=0)(hu:e.kind≠oH)(iK:∀v∈e.values.getD [],0≤v):gj (f69 r e) (after (j6 .i64) r.er e.er):=by
 obtain⟨_,f,h1,gK,ov⟩:=O8 hc
 have hm:(e.kind,f.1,f.2)∈cW:=by
  unfold fR at h1
  cases hf:cW.find? (fun x=>decide (x.1=e.er.kind))with
  |none=>rw[hf]at h1;cases h1
  |some x=>
   rw[hf]at h1
   have h2:=List.find?_some hf
   have h3:=List.mem_of_find?_eq_some hf
   have h4:x.1=e.kind:=of_decide_eq_true h2
   have h5:x.2=f:=by simpa using h1
   rw[←h4,←h5];exact h3
 have gN:∃v0 t,e.values.getD []=v0::t:=by
  have:(e.values.getD []).length=f.2:=ov
  cases hv:e.values.getD []with
  |cons v t=>exact⟨v,t,rfl⟩
  |nil=>
   rw[hv]at this
   simp only[cW,List.mem_cons,Prod.mk.injEq,List.not_mem_nil,or_false]at hm
   simp only[List.length_nil]at this
   rcases hm with h|h|h|h|h|h|h|h|h|h|h|h|h|h|h<;>first|(exfalso;omega)|exact absurd h.1 hu
 obtain⟨v0,t,hv⟩:=gN
 unfold f69 after
 rw[gE hv,vl0 hv]
 simp only[jw]
 by_cases hd:v0<r.day
 ·rw[dT hd,if_pos (show v0<r.er.day from hd)]
  exact⟨_,_,rfl,rfl,by decide⟩
 rw[dF hd,if_neg (show ¬v0<r.er.day from hd)]
 have yK:e.kind∈cW.map (·.1):=List.mem_map_of_mem (f:=(·.1)) hm
 simp only[cW,List.map_cons,List.map_nil,List.mem_cons,List.mem_singleton,List.not_mem_nil,or_false]at yK
 have nk:∀ {k k':List UInt8},e.kind=k→decide (k=k')=I→decide (e.kind=k')=I:=by
  intro k k' h h2;rw[h];exact h2
 have yk:∀ {k:List UInt8},e.kind=k→decide (e.kind=k)=Ep:=fun h=>dT h
 simp only[cond_false]
 rcases yK with h|h|h|h|h|h|h|h|h|h|h|h|h|h|h
 ·have q:=oi (v0:=v0) (jy5 b h hc)
  rw[show decide (e.kind=([108,111,116]:List UInt8))=Ep from yk h]
  exact q
 ·have q:=oi (v0:=v0) (jee b h hc)
  rw[show decide (e.kind=([108,111,116]:List UInt8))=I from nk h rfl,show decide (e.kind=([112,114,111,100,117,99,116]:List UInt8))=Ep from yk h]
  exact q
 ·have q:=oi (v0:=v0) (W0 b w (.inl rfl) h hc iK)
  rw[show decide (e.kind=([108,111,116]:List UInt8))=I from nk h rfl,show decide (e.kind=([112,114,111,100,117,99,116]:List UInt8))=I from nk h rfl,show decide (e.kind=([98,117,105,108,100]:List UInt8))=I from nk h rfl,show decide (e.kind=([110,101,101,100]:List UInt8))=Ep from yk h]
  exact q
 ·have q:=oi (v0:=v0) (W0 b w (.inr (.inl rfl)) h hc iK)
  rw[show decide (e.kind=([108,111,116]:List UInt8))=I from nk h rfl,show decide (e.kind=([112,114,111,100,117,99,116]:List UInt8))=I from nk h rfl,show decide (e.kind=([98,117,105,108,100]:List UInt8))=I from nk h rfl,show decide (e.kind=([110,101,101,100]:List UInt8))=I from nk h rfl,show decide (e.kind=([116,101,115,116]:List UInt8))=Ep from yk h]
  exact q
 ·have q:=oi (v0:=v0) (W0 b w (.inr (.inr rfl)) h hc iK)
  rw[show decide (e.kind=([108,111,116]:List UInt8))=I from nk h rfl,show decide (e.kind=([112,114,111,100,117,99,116]:List UInt8))=I from nk h rfl,show decide (e.kind=([98,117,105,108,100]:List UInt8))=I from nk h rfl,show decide (e.kind=([110,101,101,100]:List UInt8))=I from nk h rfl,show decide (e.kind=([116,101,115,116]:List UInt8))=I from nk h rfl,show decide (e.kind=([105,115,115,117,101]:List UInt8))=Ep from yk h]
  exact q
 ·have q:=oi (v0:=v0) (jof b h hc)
  rw[show decide (e.kind=([108,111,116]:List UInt8))=I from nk h rfl,show decide (e.kind=([112,114,111,100,117,99,116]:List UInt8))=I from nk h rfl,show decide (e.kind=([98,117,105,108,100]:List UInt8))=Ep from yk h]
  exact q
 all_goals try rw[show decide (e.kind=([108,111,116]:List UInt8))=I from nk h rfl,show decide (e.kind=([112,114,111,100,117,99,116]:List UInt8))=I from nk h rfl,show decide (e.kind=([98,117,105,108,100]:List UInt8))=I from nk h rfl,show decide (e.kind=([110,101,101,100]:List UInt8))=I from nk h rfl,show decide (e.kind=([116,101,115,116]:List UInt8))=I from nk h rfl,show decide (e.kind=([105,115,115,117,101]:List UInt8))=I from nk h rfl]
 ·rw[show decide (e.kind=([104,111,108,100]:List UInt8))=I from nk h rfl,show decide (e.kind=([102,114,101,101]:List UInt8))=I from nk h rfl]
  exact oi (v0:=v0) (Ff b w (by simp) h hc)
 ·rw[show decide (e.kind=([104,111,108,100]:List UInt8))=I from nk h rfl,show decide (e.kind=([102,114,101,101]:List UInt8))=I from nk h rfl]
  exact oi (v0:=v0) (Ff b w (by simp) h hc)
 ·rw[show decide (e.kind=([104,111,108,100]:List UInt8))=I from nk h rfl,show decide (e.kind=([102,114,101,101]:List UInt8))=I from nk h rfl]
  exact oi (v0:=v0) (Ff b w (by simp) h hc)
 ·rw[show decide (e.kind=([104,111,108,100]:List UInt8))=I from nk h rfl,show decide (e.kind=([102,114,101,101]:List UInt8))=I from nk h rfl]
  exact oi (v0:=v0) (Ff b w (by simp) h hc)
 ·rw[show decide (e.kind=([104,111,108,100]:List UInt8))=Ep from yk h]
  exact oi (v0:=v0) (jb4 b Ep h hc)
 ·rw[show decide (e.kind=([104,111,108,100]:List UInt8))=I from nk h rfl,show decide (e.kind=([102,114,101,101]:List UInt8))=Ep from yk h]
  exact oi (v0:=v0) (jb4 b I h hc)
 ·rw[show decide (e.kind=([104,111,108,100]:List UInt8))=I from nk h rfl,show decide (e.kind=([102,114,101,101]:List UInt8))=I from nk h rfl]
  exact oi (v0:=v0) (Ff b w (by simp) h hc)
 ·rw[show decide (e.kind=([104,111,108,100]:List UInt8))=I from nk h rfl,show decide (e.kind=([102,114,101,101]:List UInt8))=I from nk h rfl]
  exact oi (v0:=v0) (Ff b w (by simp) h hc)
 ·exact absurd h hu
end Go.Z
namespace Go.Z
open Go Go.Abs Go.W
def IF (s:List UInt8):Bool:=decide (s≠[])&&decide (s.length≤24)&&vt 0 s
theorem qsm {s:List UInt8}{i c}(hc:s[i]?=Ek c):vt i (s.drop i)=(oN i c.toNat&&vt (i+1) (s.drop (i+1))):=by
 rw[pF hc];rfl
theorem jtk {s:List UInt8}:f26 s=Ek (IF s):=by
 unfold f26 IF
 by_cases h0:s=[]
 ·subst h0;rfl
 have hl:¬((s.length:Int)=0):=by
  intro h
  exact h0 (List.eq_nil_of_length_eq_zero (by omega))
 by_cases h1:(24:Int)<s.length
 ·have h2:¬s.length≤24:=by omega
  simp[hl,h0,h1,h2]
 ·have h2:s.length≤24:=by omega
  obtain⟨d,g1,g2⟩:=A8 s.length (fun i=>(i:Int)) (yL s) (fun d=>match d with | .inl _=>I | .inr _=>Ep) (fun i=>vt i (s.drop i)) ⟨.inr _,by unfold yL;rw[ky];rfl,by rw[List.drop_eq_nil_of_le (Nat.le_refl _)];rfl⟩ (fun i hi=>by
   obtain⟨c,hc⟩:∃c,s[i]?=Ek c:=⟨_,List.getElem?_eq_getElem hi⟩
   unfold yL
   rw[qsm hc,eR hi,cT,zy hc,Xa]
   simp only[jcc hi (show s.length≤9223372036854775807 by omega)]
   unfold oN
   have hx:0≤(c.toNat:Int):=by omega
   generalize (c.toNat:Int)=x at hx ⊢
   by_cases z:i=0
   ·subst z
    rcases kinds x with h|h|h|h|h|h|h|h|h <;>
     simp (disch:=omega) only[dT,dF,cT,cond_false,Eu,Ev,Gb,Ga,Eo,En] <;>
     first
      |exact .inl ⟨trivial,trivial⟩
      |exact .inl ⟨rfl,trivial⟩
      |exact .inl ⟨rfl,rfl⟩
      |exact .inr ⟨_,rfl,rfl⟩
   ·rcases kinds x with h|h|h|h|h|h|h|h|h <;>
     simp (disch:=omega) only[dT,dF,cT,cond_false,Eu,Gf,Ev,Gb,Ga,Eo,En] <;>
     first
      |exact .inl ⟨trivial,trivial⟩
      |exact .inl ⟨rfl,trivial⟩
      |exact .inl ⟨rfl,rfl⟩
      |exact .inr ⟨_,rfl,rfl⟩)
  have g1:aY (yL s) 0=Ek d:=g1
  rw[dF hl,cond_false,dF h1,cond_false,g1,Xa]
  simp only[h0,h2,ne_eq,not_false_eq_true,decide_true,Eo]
  rw[List.drop_zero]at g2
  rw[←g2]
  cases d<;>rfl
theorem qv9 {s i c}(hc:s[i]?=Ek c):(c.toNat<128∧zg s i=(c.toNat,1))∨(128≤c.toNat∧128≤(zg s i).1):=by
 by_cases h:c.toNat<128
 ·exact .inl ⟨h,jcu hc h⟩
 ·exact .inr ⟨by omega,jcm hc h⟩
theorem q0u {i x}(h:128≤x):oN i x=I:=by
 unfold oN
 simp (disch:=omega) only[dF,Bool.or_self,Gc]
def zig:Nat→Option Nat
 |0=>none
 |i+1=>Ek (i+1)
theorem jt2 {s:List UInt8}:f56 s=Ek (IF s):=by
 unfold f56
 obtain⟨d,g1,g2⟩:=A8 s.length zig (IG s) (fun d=>match d with | .inl _=>I | .inr _=>Ep) (fun i=>vt i (s.drop i)) (by
   rw[List.drop_eq_nil_of_le (Nat.le_refl _)]
   cases hn:s.length with
   |zero=>
    refine⟨.inr 0,?_,rfl⟩
    show yM s=_
    unfold yM
    rw[hn];rfl
   |succ n=>
    refine⟨.inr (n+1),?_,rfl⟩
    show yN s (n+1)=_
    unfold yN
    rw[hn,dF (by omega)];rfl) (fun i hi=>by
   obtain⟨c,hc⟩:∃c,s[i]?=Ek c:=⟨_,List.getElem?_eq_getElem hi⟩
   rw[qsm hc]
   cases i with
   |zero=>
    show(yM s=_∧_)∨(∃d,yM s=_∧_)
    unfold yM
    rw[dT hi,cT]
    rcases qv9 hc with⟨bh,he⟩|⟨uN,hr⟩
    ·rw[he]
     simp only[]
     have hx:0≤(c.toNat:Int):=by omega
     unfold oN
     generalize (c.toNat:Int)=x at hx ⊢
     rcases kinds x with h|h|h|h|h|h|h|h|h <;>
      simp (disch:=omega) only[dT,dF,cT,cond_false,Eu,Ev,Gb,Ga,Eo,En] <;>
      first
       |exact .inl ⟨trivial,trivial⟩
       |exact .inl ⟨rfl,trivial⟩
       |exact .inl ⟨rfl,rfl⟩
       |exact .inr ⟨_,rfl,rfl⟩
    ·rw[q0u (by omega)]
     generalize hd:zg s 0=dd at hr ⊢
     have jL:(128:Int)≤(dd.1:Int):=by omega
     generalize (dd.1:Int)=x at jL ⊢
     simp (disch:=omega) only[dT,dF,cT,cond_false,En]
     exact .inr ⟨_,rfl,rfl⟩
   |succ i=>
    show(yN s (i+1)=_∧_)∨(∃d,yN s (i+1)=_∧_)
    unfold yN
    rw[dT hi,cT]
    rcases qv9 hc with⟨bh,he⟩|⟨uN,hr⟩
    ·rw[he]
     simp only[]
     have hx:0≤(c.toNat:Int):=by omega
     unfold oN
     generalize (c.toNat:Int)=x at hx ⊢
     have e0:decide (((i+1:Nat):Int)=0)=I:=dF (by omega)
     rcases kinds x with h|h|h|h|h|h|h|h|h <;>
      simp (disch:=omega) only[e0,dT,dF,cT,cond_false,Eu,Gf,Ev,Gb,Ga,Eo,En] <;>
      first
       |exact .inl ⟨trivial,trivial⟩
       |exact .inl ⟨rfl,trivial⟩
       |exact .inl ⟨rfl,rfl⟩
       |exact .inr ⟨_,rfl,rfl⟩
    ·rw[q0u (by omega)]
     generalize hd:zg s (i+1)=dd at hr ⊢
     have jL:(128:Int)≤(dd.1:Int):=by omega
     have e0:decide (((i+1:Nat):Int)=0)=I:=dF (by omega)
     generalize (dd.1:Int)=x at jL ⊢
     simp (disch:=omega) only[e0,dT,dF,cT,cond_false,En]
     exact .inr ⟨_,rfl,rfl⟩)
 have g1:aY (IG s) none=Ek d:=g1
 rw[g1,Xa]
 unfold IF
 rw[List.drop_zero]at g2
 cases d with
 |inl d=>simp only[]at g2;rw[←g2];simp
 |inr d=>
  simp only[]at g2
  rw[←g2]
  by_cases h0:s=[]
  ·subst h0;rfl
  ·have e:decide ((s.length:Int)≤24)=decide (s.length≤24):=by by_cases h:s.length≤24<;>simp[h]<;>omega
   rw[e]
   simp[h0]
theorem q7r {c}:oN 0 (c.toNat:Int)=vu c:=by
 unfold oN vu
 have h:∀a b:Nat,(decide ((a:Int)≤(c.toNat:Int)∧(c.toNat:Int)≤(b:Int)))=(decide (a≤c.toNat)&&decide (c.toNat≤b)):=by
  intro a b
  by_cases h1:a≤c.toNat<;>by_cases h2:c.toNat≤b<;>simp[h1,h2]<;>omega
 rw[show(65:Int)=((65:Nat):Int)from rfl,show(90:Int)=((90:Nat):Int)from rfl,show(97:Int)=((97:Nat):Int)from rfl,show(122:Int)=((122:Nat):Int)from rfl,h,h]
 simp
theorem jpv {c i}:oN (i+1) (c.toNat:Int)=(vu c||Fg c):=by
 rw[←q7r]
 unfold oN Fg
 have h:(decide ((48:Int)≤(c.toNat:Int)∧(c.toNat:Int)≤(57:Int)))=(decide (48≤c.toNat)&&decide (c.toNat≤57)):=by
  by_cases h1:48≤c.toNat<;>by_cases h2:c.toNat≤57<;>simp[h1,h2]<;>omega
 have h3:decide ((c.toNat:Int)=95)=decide (c.toNat=95):=by
  by_cases h1:c.toNat=95
  ·rw[dT h1];exact dT (by omega)
  ·rw[dF h1];exact dF (by omega)
 rw[h,h3]
 simp
theorem q43:∀ (s:List UInt8) (i:Nat),vt (i+1) s=s.all fun c=>vu c||Fg c
 | [],_=>rfl
 |c::s,i=>by
  show(oN (i+1) c.toNat&&vt (i+1+1) s)=_
  rw[jpv,q43 s (i+1)];rfl
theorem qww {s}:IF s=Go.W.cO s:=by
 cases s with
 |nil=>rfl
 |cons c t=>
  show(decide (c::t≠[])&&decide ((c::t).length≤24)&&(oN 0 c.toNat&&vt 1 t))=(vu c&&t.all (fun c=>vu c||Fg c)&&decide ((c::t).length≤24))
  rw[q7r,q43 t 0,show decide (c::t≠[])=Ep from dT (by simp)]
  cases vu c<;>cases t.all (fun c=>vu c||Fg c)<;>cases decide ((c::t).length≤24)<;>rfl
variable {e:ql}
theorem jtv {s}:Fh s=Ek (if Go.W.cO s then 0 else 8):=by
 unfold Fh
 rw[jt2,qww]
 simp only[jw,iO]
 cases Go.W.cO s<;>rfl
theorem Xb {α:Type}{p c}(hc:c≠0):∀l:List α,dp (l.map fun x=>if p x then 0 else c)=if l.all p then 0 else c
 | []=>rfl
 |x::l=>by
  rw[List.map_cons,List.all_cons]
  cases p x with
  |true=>simp only[if_true,dp,Eo];exact Xb hc l
  |false=>simp[dp,hc]
theorem q79 {o}(hl:(o.getD []).length≤SM):f51 o=Ek (dp (o.getD [])):=by
 cases o with
 |none=>exact hM (l:=[]) (Nat.zero_le _)
 |some l=>exact hM hl
theorem jqu {o}(hl:(o.getD []).length≤SM):∃w,f54 o=Ek (yi ((o.getD []).map fun s=>if Go.W.cO s then 0 else 8),w):=by
 unfold f54
 rw[Ia (f:=IH o) (l:=o.getD []) (g:=fun s=>if Go.W.cO s then(0:Int)else 8) (q:=Fh) hl (fun x _=>jtv) (fun s=>rfl)]
 exact⟨_,rfl⟩
def rJ (n:Int):Bool:=decide (0≤n)&&decide (n≤999999999)
theorem jrd {n}:Fi n=Ek (if rJ n then 0 else 3):=by
 unfold Fi
 rw[O2]
 simp only[jw]
 unfold rJ
 by_cases h1:n<0
 ·rw[if_pos (Or.inl h1),dF (by omega)];rfl
 ·by_cases h2:999999999<n
  ·rw[if_pos (Or.inr h2),dT (by omega),dF (by omega)];rfl
  ·rw[if_neg (by omega),dT (by omega),dT (by omega)];rfl
theorem jql {o}(hl:(o.getD []).length≤SM):∃w,f57 o=Ek (yi ((o.getD []).map fun s=>if rJ s then 0 else 3),w):=by
 unfold f57
 rw[Ia (f:=II o) (l:=o.getD []) (g:=fun s=>if rJ s then(0:Int)else 3) (q:=Fi) hl (fun x _=>jrd) (fun s=>rfl)]
 exact⟨_,rfl⟩
theorem q8b:∀ (k:List UInt8),oI k=none∧fR k=none∨∃f,oI k=Ek f∧fR k=Ek (f.2.1.length,f.2.2.1.toNat)∧0≤f.2.2.1:=by
 intro k
 unfold oI fR il cW
 simp only[List.find?_cons,List.find?_nil,eq_comm (a:=k)]
 by_cases h1:mf=k
 ·simp[h1]
 by_cases h2:ng=k
 ·simp[h1,h2]
 by_cases h3:mg=k
 ·simp[h1,h2,h3]
 by_cases h4:nh=k
 ·simp[h1,h2,h3,h4]
 by_cases h5:pG=k
 ·simp[h1,h2,h3,h4,h5]
 by_cases h6:mr=k
 ·simp[h1,h2,h3,h4,h5,h6]
 by_cases h7:mA=k
 ·simp[h1,h2,h3,h4,h5,h6,h7]
 by_cases h8:oG=k
 ·simp[h1,h2,h3,h4,h5,h6,h7,h8]
 by_cases h9:pH=k
 ·simp[h1,h2,h3,h4,h5,h6,h7,h8,h9]
 by_cases jG:ni=k
 ·simp[h1,h2,h3,h4,h5,h6,h7,h8,h9,jG]
 by_cases ll:nZ=k
 ·simp[h1,h2,h3,h4,h5,h6,h7,h8,h9,jG,ll]
 by_cases lS:rF=k
 ·simp[h1,h2,h3,h4,h5,h6,h7,h8,h9,jG,ll,lS]
 by_cases pL:kP=k
 ·simp[h1,h2,h3,h4,h5,h6,h7,h8,h9,jG,ll,lS,pL]
 by_cases oO:x9=k
 ·simp[h1,h2,h3,h4,h5,h6,h7,h8,h9,jG,ll,lS,pL,oO]
 by_cases yO:oH=k
 ·simp[h1,h2,h3,h4,h5,h6,h7,h8,h9,jG,ll,lS,pL,oO,yO]
 ·simp[h1,h2,h3,h4,h5,h6,h7,h8,h9,jG,ll,lS,pL,oO,yO]
theorem jwg (h1:(e.names.getD []).length≤SM)(h2:(e.values.getD []).length≤SM):f11 e=Ek (ki e.er):=by
 obtain⟨w1,g1⟩:=jqu h1
 obtain⟨w2,g2⟩:=jql h2
 have q1:f51 (yi ((e.names.getD []).map fun s=>if Go.W.cO s then(0:Int)else 8))=Ek (if(e.names.getD []).all Go.W.cO then 0 else 8):=by
  rw[q79 (by rw[yp,List.length_map];exact h1),yp,Xb (by decide)]
 have q2:f51 (yi ((e.values.getD []).map fun s=>if rJ s then(0:Int)else 3))=Ek (if(e.values.getD []).all rJ then 0 else 3):=by
  rw[q79 (by rw[yp,List.length_map];exact h2),yp,Xb (by decide)]
 unfold f11
 simp only[O2,iO,jw,g1,g2,q1,q2]
 rw[hM (by simp[SM])]
 simp only[]
 rw[hM (by simp[SM])]
 unfold ki
 rw[show e.er.number=e.number from rfl,show e.er.kind=e.kind from rfl,show e.er.names=e.names.getD []from rfl,show e.er.values=e.values.getD []from rfl,show e.er.text=e.text from rfl,show(fun n=>decide (0≤n)&&decide (n≤999999999))=rJ from rfl]
 by_cases c1:e.number<1∨1000<e.number
 ·rw[if_pos c1,if_pos c1];rfl
 rw[if_neg c1,if_neg c1]
 rcases q8b e.kind with⟨c2,c3⟩|⟨f,c2,c3,c4⟩
 ·rw[c3]
  simp only[ET,yu,nj,c2]
  simp[dp]
 rw[c3]
 simp only[ET,yu,nj,c2,Option.isSome_some,Bool.not_true,Ge,if_false]
 by_cases c5:(e.names.getD []).length≠f.2.1.length∨(e.values.getD []).length≠f.2.2.1.toNat
 ·have:(!(decide (((e.names.getD []).length:Int)=(f.2.1.length:Int))&&decide (((e.values.getD []).length:Int)=f.2.2.1)))=Ep:=by
   rcases c5 with c5|c5
   ·rw[dF (by omega)];rfl
   ·rw[dF (p:=((e.values.getD []).length:Int)=f.2.2.1) (by omega),Gc];rfl
  rw[this,if_pos c5]
  rfl
 ·have:(!(decide (((e.names.getD []).length:Int)=(f.2.1.length:Int))&&decide (((e.values.getD []).length:Int)=f.2.2.1)))=I:=by
   rw[dT (by omega),dT (p:=((e.values.getD []).length:Int)=f.2.2.1) (by omega)];rfl
  rw[this,if_neg c5]
  simp only[dp,Ge,if_false,if_true,decide_true,cT]
  cases (e.names.getD []).all Go.W.cO<;>cases (e.values.getD []).all rJ<;>by_cases c6:e.text=[]<;>simp[c6]
end Go.Z
namespace Go.Z
open Go Go.Abs Go.W
variable {e:ql}
theorem jst:∀ (k:List UInt8),(f60 k=Ek ⟨0,0,I⟩∧fR k=none)∨∃a b:Nat,f60 k=Ek ⟨(a:Int),(b:Int),Ep⟩∧fR k=Ek (a,b):=by
 intro k
 by_cases h1:k=mf
 ·subst h1;exact .inr ⟨2,2,rfl,rfl⟩
 by_cases h2:k=ng
 ·subst h2;exact .inr ⟨1,1,rfl,rfl⟩
 by_cases h3:k=pG
 ·subst h3;exact .inr ⟨1,1,rfl,rfl⟩
 by_cases h4:k=pH
 ·subst h4;exact .inr ⟨1,1,rfl,rfl⟩
 by_cases h5:k=nZ
 ·subst h5;exact .inr ⟨1,1,rfl,rfl⟩
 by_cases h6:k=rF
 ·subst h6;exact .inr ⟨1,1,rfl,rfl⟩
 by_cases h7:k=kP
 ·subst h7;exact .inr ⟨1,1,rfl,rfl⟩
 by_cases h8:k=x9
 ·subst h8;exact .inr ⟨1,1,rfl,rfl⟩
 by_cases h9:k=mg
 ·subst h9;exact .inr ⟨2,2,rfl,rfl⟩
 by_cases jG:k=mA
 ·subst jG;exact .inr ⟨2,2,rfl,rfl⟩
 by_cases ll:k=oG
 ·subst ll;exact .inr ⟨2,2,rfl,rfl⟩
 by_cases lS:k=nh
 ·subst lS;exact .inr ⟨2,3,rfl,rfl⟩
 by_cases pL:k=mr
 ·subst pL;exact .inr ⟨2,1,rfl,rfl⟩
 by_cases oO:k=ni
 ·subst oO;exact .inr ⟨2,1,rfl,rfl⟩
 by_cases yO:k=oH
 ·subst yO;exact .inr ⟨0,0,rfl,rfl⟩
 refine .inl ⟨?_,?_⟩
 ·unfold f60
  simp only[dF (p:=k=([108,111,116]:List UInt8)) h1,dF (p:=k=([112,114,111,100,117,99,116]:List UInt8)) h2,dF (p:=k=([105,115,115,117,101]:List UInt8)) h3,dF (p:=k=([117,112,100,97,116,101]:List UInt8)) h4,dF (p:=k=([104,111,108,100]:List UInt8)) h5,dF (p:=k=([102,114,101,101]:List UInt8)) h6,dF (p:=k=([115,104,105,112]:List UInt8)) h7,dF (p:=k=([99,111,109,112,108,97,105,110]:List UInt8)) h8,dF (p:=k=([110,101,101,100]:List UInt8)) h9,dF (p:=k=([117,115,101]:List UInt8)) jG,dF (p:=k=([109,101,97,115,117,114,101]:List UInt8)) ll,dF (p:=k=([116,101,115,116]:List UInt8)) lS,dF (p:=k=([98,117,105,108,100]:List UInt8)) pL,dF (p:=k=([112,97,105,114]:List UInt8)) oO,dF (p:=k=([117,110,100,111]:List UInt8)) yO,cond_false]
 ·unfold fR cW
  simp[List.find?_cons,Eh h1,Eh h2,Eh h3,Eh h4,Eh h5,Eh h6,Eh h7,Eh h8,Eh h9,Eh jG,Eh ll,Eh lS,Eh pL,Eh oO,Eh yO]
theorem jnl {s}:f26 s=Ek (Go.W.cO s):=by rw[jtk,qww]
theorem q31 {α:Type}{l:List α}{p:α→Bool}{f:Int→Option (Int⊕(Unit⊕Int))}{n}(hn:n=(l.length:Int))(hl:l.length≤SM)
  (cM:f n=Ek (.inr (.inr n))) (hf:∀(i:Nat) x,l[i]?=Ek x→i<l.length→f (i:Int)=Ek (if p x then .inl (j6 .i64 ((i:Int)+1))else .inr (.inl ()))):
  ∃d,aY f 0=Ek d∧(match d with | .inl _=>I | .inr _=>Ep)=l.all p:=by
 subst hn
 obtain⟨d,h1,h2⟩:=OV l f p (fun d=>match d with | .inl _=>I | .inr _=>Ep) ⟨_,cM,rfl⟩ (fun i x hx hi=>by
  have h3:=hf i x hx hi
  cases hp:p x with
  |true=>rw[hp,kl (by unfold SM at hl;omega)]at h3;exact .inl ⟨rfl,h3⟩
  |false=>rw[hp]at h3;exact .inr ⟨rfl,_,h3,rfl⟩)
 exact⟨d,h1,h2⟩
theorem jp2 (h1:(e.names.getD []).length≤SM)(h2:(e.values.getD []).length≤SM):f12 e=Ek (ki e.er):=by
 unfold f12 ki
 rw[WZ]
 simp only[jw]
 rw[show e.er.number=e.number from rfl,show e.er.kind=e.kind from rfl,show e.er.names=e.names.getD []from rfl,show e.er.values=e.values.getD []from rfl,show e.er.text=e.text from rfl,show(fun n=>decide (0≤n)&&decide (n≤999999999))=rJ from rfl]
 by_cases c1:e.number<1∨1000<e.number
 ·rw[dT c1,if_pos c1];rfl
 rw[dF c1,if_neg c1]
 simp only[cond_false]
 rcases jst e.kind with⟨c2,c3⟩|⟨a,b,c2,c3⟩
 ·rw[c2,c3];rfl
 rw[c2,c3]
 simp only[cT]
 by_cases c5:(e.names.getD []).length=a
 case neg=>rw[dF (by omega),if_pos (.inl c5)];rfl
 by_cases c6:(e.values.getD []).length=b
 case neg=>rw[dT (by omega),dF (p:=((e.values.getD []).length:Int)=(b:Int)) (by omega),if_pos (.inr c6)];rfl
 rw[dT (by omega),dT (p:=((e.values.getD []).length:Int)=(b:Int)) (by omega),if_neg (by omega)]
 simp only[cT]
 obtain⟨d,g1,g2⟩:=q31 (l:=e.names.getD []) (p:=Go.W.cO) (f:=Bw e ⟨(a:Int),(b:Int),Ep⟩) (n:=(a:Int)) (by omega) h1 (by unfold Bw;simp only[ky];rfl) (fun i x hx hi=>by
  unfold Bw
  simp only[show decide ((i:Int)<(a:Int))=Ep from dT (by omega),cT,jw,zy hx,jnl]
  cases Go.W.cO x<;>rfl)
 obtain⟨d2,g3,g4⟩:=q31 (l:=e.values.getD []) (p:=rJ) (f:=Bx e ⟨(a:Int),(b:Int),Ep⟩) (n:=(b:Int)) (by omega) h2 (by unfold Bx;simp only[ky];rfl) (fun i x hx hi=>by
  unfold Bx
  simp only[show decide ((i:Int)<(b:Int))=Ep from dT (by omega),cT,jw,zy hx,WZ]
  unfold rJ
  by_cases k1:x<0
  ·rw[dT (Or.inl k1),dF (p:=0≤x) (by omega)];rfl
  ·by_cases k2:999999999<x
   ·rw[dT (Or.inr k2),dF (p:=x≤999999999) (by omega),Gc];rfl
   ·rw[dF (p:=x<0∨999999999<x) (by omega),dT (p:=0≤x) (by omega),dT (p:=x≤999999999) (by omega)];rfl)
 rw[g1,←g2,←g4]
 cases d with
 |inl d=>rfl
 |inr d=>
  simp only[]
  rw[g3]
  cases d2 with
  |inl d2=>rfl
  |inr d2=>
   by_cases c7:e.text=[]
   ·rw[dT c7];simp[c7]
   ·rw[dF c7];simp[c7]
end Go.Z
