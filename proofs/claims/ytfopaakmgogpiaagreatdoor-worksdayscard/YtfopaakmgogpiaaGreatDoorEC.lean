/- Chapter 10, plain. -/
import Derived.Test.YtfopaakmgogpiaaGreatDoorEA
import Derived.Test.YtfopaakmgogpiaaGreatDoorW14
set_option maxRecDepth 100000
set_option maxHeartbeats 4000000
open Bool renaming false→I,false_and→E2,true_and→E3,true→E4,or_false→E6,false_or→Gk,and_true→Gl,true_or→Gm,and_false→Gn,false_eq_true→Gp,or_true→Gq
open Ne renaming symm→En
open Option renaming some→E1
namespace Go.Z
open Go Go.Abs Go.W
variable {r:qc}{e:qm}
def zf8 (v0:Int):oh→oh
 | .error k=>.error k
 | .ok s=>.ok { s with day:=v0 }
theorem nL {v0:Int}{x:Option (qc×Int)}{y:oh}(h:gj x y):gj (jx x fun v=>E1 (⟨v0,v.1.au,v.1.ae,v.1.units⟩,v.2)) (zf8 v0 y):=by
 obtain⟨r',c,rfl,h2⟩:=h
 cases y with
 |error k=>exact⟨_,_,rfl,h2⟩
 |ok s=>exact⟨_,_,rfl,h2.1,by rw[←h2.2];rfl⟩
theorem jcb (b:GB r)(w:WF r.er)(hc:kc e.er=0)(hu:e.kind≠lX)(fF:∀v∈e.values.getD [],0≤v):gj (f69 r e) (after (j9 .i64) r.er e.er):=by
 obtain⟨_,f,h1,hZ,pC⟩:=NA hc
 have hm:(e.kind,f.1,f.2)∈cq:=by
  unfold fM at h1
  cases hf:cq.find? (fun x=>decide (x.1=e.er.kind))with
  |none=>rw[hf]at h1;cases h1
  |some x=>
   rw[hf]at h1
   have h2:=List.find?_some hf
   have h3:=List.mem_of_find?_eq_some hf
   have h4:x.1=e.kind:=of_decide_eq_true h2
   have h5:x.2=f:=by simpa using h1
   rw[←h4,←h5];exact h3
 have gL:∃v0 t,e.values.getD []=v0::t:=by
  have:(e.values.getD []).length=f.2:=pC
  cases hv:e.values.getD []with
  |cons v t=>exact⟨v,t,rfl⟩
  |nil=>
   rw[hv]at this
   simp only[cq,List.mem_cons,Prod.mk.injEq,List.not_mem_nil,or_false]at hm
   simp only[List.length_nil]at this
   rcases hm with h|h|h|h|h|h|h|h|h|h|h|h|h|h|h<;>first|(exfalso;omega)|exact absurd h.1 hu
 obtain⟨v0,t,hv⟩:=gL
 unfold f69 after
 rw[gh hv,Vf hv]
 simp only[jx]
 by_cases hd:v0<r.day
 ·rw[dT hd,if_pos (show v0<r.er.day from hd)]
  exact⟨_,_,rfl,rfl,by decide⟩
 rw[dF hd,if_neg (show ¬v0<r.er.day from hd)]
 have qK:e.kind∈cq.map (·.1):=List.mem_map_of_mem (f:=(·.1)) hm
 simp only[cq,List.map_cons,List.map_nil,List.mem_cons,List.mem_singleton,List.not_mem_nil,or_false]at qK
 have nk:∀ {k k':List UInt8},e.kind=k→decide (k=k')=I→decide (e.kind=k')=I:=by
  intro k k' h h2;rw[h];exact h2
 have yk:∀ {k:List UInt8},e.kind=k→decide (e.kind=k)=E4:=fun h=>dT h
 simp only[cond_false]
 rcases qK with h|h|h|h|h|h|h|h|h|h|h|h|h|h|h
 ·have q:=nL (v0:=v0) (j13 b h hc)
  rw[show decide (e.kind=([108,111,116]:List UInt8))=E4 from yk h]
  exact q
 ·have q:=nL (v0:=v0) (jbj b h hc)
  rw[show decide (e.kind=([108,111,116]:List UInt8))=I from nk h rfl,show decide (e.kind=([112,114,111,100,117,99,116]:List UInt8))=E4 from yk h]
  exact q
 ·have q:=nL (v0:=v0) (Vr b w (.inl rfl) h hc fF)
  rw[show decide (e.kind=([108,111,116]:List UInt8))=I from nk h rfl,show decide (e.kind=([112,114,111,100,117,99,116]:List UInt8))=I from nk h rfl,show decide (e.kind=([98,117,105,108,100]:List UInt8))=I from nk h rfl,show decide (e.kind=([110,101,101,100]:List UInt8))=E4 from yk h]
  exact q
 ·have q:=nL (v0:=v0) (Vr b w (.inr (.inl rfl)) h hc fF)
  rw[show decide (e.kind=([108,111,116]:List UInt8))=I from nk h rfl,show decide (e.kind=([112,114,111,100,117,99,116]:List UInt8))=I from nk h rfl,show decide (e.kind=([98,117,105,108,100]:List UInt8))=I from nk h rfl,show decide (e.kind=([110,101,101,100]:List UInt8))=I from nk h rfl,show decide (e.kind=([116,101,115,116]:List UInt8))=E4 from yk h]
  exact q
 ·have q:=nL (v0:=v0) (Vr b w (.inr (.inr rfl)) h hc fF)
  rw[show decide (e.kind=([108,111,116]:List UInt8))=I from nk h rfl,show decide (e.kind=([112,114,111,100,117,99,116]:List UInt8))=I from nk h rfl,show decide (e.kind=([98,117,105,108,100]:List UInt8))=I from nk h rfl,show decide (e.kind=([110,101,101,100]:List UInt8))=I from nk h rfl,show decide (e.kind=([116,101,115,116]:List UInt8))=I from nk h rfl,show decide (e.kind=([105,115,115,117,101]:List UInt8))=E4 from yk h]
  exact q
 ·have q:=nL (v0:=v0) (jnb b h hc)
  rw[show decide (e.kind=([108,111,116]:List UInt8))=I from nk h rfl,show decide (e.kind=([112,114,111,100,117,99,116]:List UInt8))=I from nk h rfl,show decide (e.kind=([98,117,105,108,100]:List UInt8))=E4 from yk h]
  exact q
 all_goals try rw[show decide (e.kind=([108,111,116]:List UInt8))=I from nk h rfl,show decide (e.kind=([112,114,111,100,117,99,116]:List UInt8))=I from nk h rfl,show decide (e.kind=([98,117,105,108,100]:List UInt8))=I from nk h rfl,show decide (e.kind=([110,101,101,100]:List UInt8))=I from nk h rfl,show decide (e.kind=([116,101,115,116]:List UInt8))=I from nk h rfl,show decide (e.kind=([105,115,115,117,101]:List UInt8))=I from nk h rfl]
 ·rw[show decide (e.kind=([104,111,108,100]:List UInt8))=I from nk h rfl,show decide (e.kind=([102,114,101,101]:List UInt8))=I from nk h rfl]
  exact nL (v0:=v0) (DY b w (by simp) h hc)
 ·rw[show decide (e.kind=([104,111,108,100]:List UInt8))=I from nk h rfl,show decide (e.kind=([102,114,101,101]:List UInt8))=I from nk h rfl]
  exact nL (v0:=v0) (DY b w (by simp) h hc)
 ·rw[show decide (e.kind=([104,111,108,100]:List UInt8))=I from nk h rfl,show decide (e.kind=([102,114,101,101]:List UInt8))=I from nk h rfl]
  exact nL (v0:=v0) (DY b w (by simp) h hc)
 ·rw[show decide (e.kind=([104,111,108,100]:List UInt8))=I from nk h rfl,show decide (e.kind=([102,114,101,101]:List UInt8))=I from nk h rfl]
  exact nL (v0:=v0) (DY b w (by simp) h hc)
 ·rw[show decide (e.kind=([104,111,108,100]:List UInt8))=E4 from yk h]
  exact nL (v0:=v0) (jci b E4 h hc)
 ·rw[show decide (e.kind=([104,111,108,100]:List UInt8))=I from nk h rfl,show decide (e.kind=([102,114,101,101]:List UInt8))=E4 from yk h]
  exact nL (v0:=v0) (jci b I h hc)
 ·rw[show decide (e.kind=([104,111,108,100]:List UInt8))=I from nk h rfl,show decide (e.kind=([102,114,101,101]:List UInt8))=I from nk h rfl]
  exact nL (v0:=v0) (DY b w (by simp) h hc)
 ·rw[show decide (e.kind=([104,111,108,100]:List UInt8))=I from nk h rfl,show decide (e.kind=([102,114,101,101]:List UInt8))=I from nk h rfl]
  exact nL (v0:=v0) (DY b w (by simp) h hc)
 ·exact absurd h hu
end Go.Z
namespace Go.Z
open Go Go.Abs Go.W
def G4 (s:List UInt8):Bool:=decide (s≠[])&&decide (s.length≤24)&&uI 0 s
theorem qsh {s:List UInt8}{i:Nat}{c:UInt8}(hc:s[i]?=E1 c):uI i (s.drop i)=(oq i c.toNat&&uI (i+1) (s.drop (i+1))):=by
 rw[oW hc];rfl
theorem jq8 {s:List UInt8}:f26 s=E1 (G4 s):=by
 unfold f26 G4
 by_cases h0:s=[]
 ·subst h0;rfl
 have hl:¬((s.length:Int)=0):=by
  intro h
  exact h0 (List.eq_nil_of_length_eq_zero (by omega))
 by_cases h1:(24:Int)<s.length
 ·have h2:¬s.length≤24:=by omega
  simp[hl,h0,h1,h2]
 ·have h2:s.length≤24:=by omega
  obtain⟨d,g1,g2⟩:=Gs s.length (fun i=>(i:Int)) (xE s) (fun d=>match d with | .inl _=>I | .inr _=>E4) (fun i=>uI i (s.drop i)) ⟨.inr _,by unfold xE;rw[kr];rfl,by rw[List.drop_eq_nil_of_le (Nat.le_refl _)];rfl⟩ (fun i hi=>by
   obtain⟨c,hc⟩:∃c,s[i]?=E1 c:=⟨_,List.getElem?_eq_getElem hi⟩
   unfold xE
   rw[qsh hc,eV hi,cT,z7 hc,Vy]
   simp only[jcl hi (show s.length≤9223372036854775807 by omega)]
   unfold oq
   have hx:0≤(c.toNat:Int):=by omega
   generalize (c.toNat:Int)=x at hx ⊢
   by_cases z:i=0
   ·subst z
    rcases kinds x with h|h|h|h|h|h|h|h|h <;>
     simp (disch:=omega) only[dT,dF,cT,cond_false,E6,Gk,Gm,Gl,E3,E2] <;>
     first
      |exact .inl ⟨trivial,trivial⟩
      |exact .inl ⟨rfl,trivial⟩
      |exact .inl ⟨rfl,rfl⟩
      |exact .inr ⟨_,rfl,rfl⟩
   ·rcases kinds x with h|h|h|h|h|h|h|h|h <;>
     simp (disch:=omega) only[dT,dF,cT,cond_false,E6,Gq,Gk,Gm,Gl,E3,E2] <;>
     first
      |exact .inl ⟨trivial,trivial⟩
      |exact .inl ⟨rfl,trivial⟩
      |exact .inl ⟨rfl,rfl⟩
      |exact .inr ⟨_,rfl,rfl⟩)
  have g1:bf (xE s) 0=E1 d:=g1
  rw[dF hl,cond_false,dF h1,cond_false,g1,Vy]
  simp only[h0,h2,ne_eq,not_false_eq_true,decide_true,E3]
  rw[List.drop_zero]at g2
  rw[←g2]
  cases d<;>rfl
theorem qxu {s:List UInt8}{i:Nat}{c:UInt8}(hc:s[i]?=E1 c):(c.toNat<128∧zf s i=(c.toNat,1))∨(128≤c.toNat∧128≤(zf s i).1):=by
 by_cases h:c.toNat<128
 ·exact .inl ⟨h,ja3 hc h⟩
 ·exact .inr ⟨by omega,jc6 hc h⟩
theorem qz5 {i:Nat}{x:Int}(h:128≤x):oq i x=I:=by
 unfold oq
 simp (disch:=omega) only[dF,Bool.or_self,Gn]
def zbo:Nat→Option Nat
 |0=>none
 |i+1=>E1 (i+1)
theorem jps {s:List UInt8}:f56 s=E1 (G4 s):=by
 unfold f56
 obtain⟨d,g1,g2⟩:=Gs s.length zbo (G5 s) (fun d=>match d with | .inl _=>I | .inr _=>E4) (fun i=>uI i (s.drop i)) (by
   rw[List.drop_eq_nil_of_le (Nat.le_refl _)]
   cases hn:s.length with
   |zero=>
    refine⟨.inr 0,?_,rfl⟩
    show xF s=_
    unfold xF
    rw[hn];rfl
   |succ n=>
    refine⟨.inr (n+1),?_,rfl⟩
    show xG s (n+1)=_
    unfold xG
    rw[hn,dF (by omega)];rfl) (fun i hi=>by
   obtain⟨c,hc⟩:∃c,s[i]?=E1 c:=⟨_,List.getElem?_eq_getElem hi⟩
   rw[qsh hc]
   cases i with
   |zero=>
    show(xF s=_∧_)∨(∃d,xF s=_∧_)
    unfold xF
    rw[dT hi,cT]
    rcases qxu hc with⟨aX,he⟩|⟨ub,hr⟩
    ·rw[he]
     simp only[]
     have hx:0≤(c.toNat:Int):=by omega
     unfold oq
     generalize (c.toNat:Int)=x at hx ⊢
     rcases kinds x with h|h|h|h|h|h|h|h|h <;>
      simp (disch:=omega) only[dT,dF,cT,cond_false,E6,Gk,Gm,Gl,E3,E2] <;>
      first
       |exact .inl ⟨trivial,trivial⟩
       |exact .inl ⟨rfl,trivial⟩
       |exact .inl ⟨rfl,rfl⟩
       |exact .inr ⟨_,rfl,rfl⟩
    ·rw[qz5 (by omega)]
     generalize hd:zf s 0=dd at hr ⊢
     have iW:(128:Int)≤(dd.1:Int):=by omega
     generalize (dd.1:Int)=x at iW ⊢
     simp (disch:=omega) only[dT,dF,cT,cond_false,E2]
     exact .inr ⟨_,rfl,rfl⟩
   |succ i=>
    show(xG s (i+1)=_∧_)∨(∃d,xG s (i+1)=_∧_)
    unfold xG
    rw[dT hi,cT]
    rcases qxu hc with⟨aX,he⟩|⟨ub,hr⟩
    ·rw[he]
     simp only[]
     have hx:0≤(c.toNat:Int):=by omega
     unfold oq
     generalize (c.toNat:Int)=x at hx ⊢
     have e0:decide (((i+1:Nat):Int)=0)=I:=dF (by omega)
     rcases kinds x with h|h|h|h|h|h|h|h|h <;>
      simp (disch:=omega) only[e0,dT,dF,cT,cond_false,E6,Gq,Gk,Gm,Gl,E3,E2] <;>
      first
       |exact .inl ⟨trivial,trivial⟩
       |exact .inl ⟨rfl,trivial⟩
       |exact .inl ⟨rfl,rfl⟩
       |exact .inr ⟨_,rfl,rfl⟩
    ·rw[qz5 (by omega)]
     generalize hd:zf s (i+1)=dd at hr ⊢
     have iW:(128:Int)≤(dd.1:Int):=by omega
     have e0:decide (((i+1:Nat):Int)=0)=I:=dF (by omega)
     generalize (dd.1:Int)=x at iW ⊢
     simp (disch:=omega) only[e0,dT,dF,cT,cond_false,E2]
     exact .inr ⟨_,rfl,rfl⟩)
 have g1:bf (G5 s) none=E1 d:=g1
 rw[g1,Vy]
 unfold G4
 rw[List.drop_zero]at g2
 cases d with
 |inl d=>simp only[]at g2;rw[←g2];simp
 |inr d=>
  simp only[]at g2
  rw[←g2]
  by_cases h0:s=[]
  ·subst h0;rfl
  ·have e:decide ((s.length:Int)≤24)=decide (s.length≤24):=by by_cases h:s.length≤24<;>simp[h]<;>omega
   rw[e]
   simp[h0]
theorem q6u {c:UInt8}:oq 0 (c.toNat:Int)=uJ c:=by
 unfold oq uJ
 have h:∀a b:Nat,(decide ((a:Int)≤(c.toNat:Int)∧(c.toNat:Int)≤(b:Int)))=(decide (a≤c.toNat)&&decide (c.toNat≤b)):=by
  intro a b
  by_cases h1:a≤c.toNat<;>by_cases h2:c.toNat≤b<;>simp[h1,h2]<;>omega
 rw[show(65:Int)=((65:Nat):Int)from rfl,show(90:Int)=((90:Nat):Int)from rfl,show(97:Int)=((97:Nat):Int)from rfl,show(122:Int)=((122:Nat):Int)from rfl,h,h]
 simp
theorem jtz {c:UInt8}{i:Nat}:oq (i+1) (c.toNat:Int)=(uJ c||DZ c):=by
 rw[←q6u]
 unfold oq DZ
 have h:(decide ((48:Int)≤(c.toNat:Int)∧(c.toNat:Int)≤(57:Int)))=(decide (48≤c.toNat)&&decide (c.toNat≤57)):=by
  by_cases h1:48≤c.toNat<;>by_cases h2:c.toNat≤57<;>simp[h1,h2]<;>omega
 have h3:decide ((c.toNat:Int)=95)=decide (c.toNat=95):=by
  by_cases h1:c.toNat=95
  ·rw[dT h1];exact dT (by omega)
  ·rw[dF h1];exact dF (by omega)
 rw[h,h3]
 simp
theorem q15:∀ (s:List UInt8) (i:Nat),uI (i+1) s=s.all fun c=>uJ c||DZ c
 | [],_=>rfl
 |c::s,i=>by
  show(oq (i+1) c.toNat&&uI (i+1+1) s)=_
  rw[jtz,q15 s (i+1)];rfl
theorem qx6 {s:List UInt8}:G4 s=Go.W.cO s:=by
 cases s with
 |nil=>rfl
 |cons c t=>
  show(decide (c::t≠[])&&decide ((c::t).length≤24)&&(oq 0 c.toNat&&uI 1 t))=(uJ c&&t.all (fun c=>uJ c||DZ c)&&decide ((c::t).length≤24))
  rw[q6u,q15 t 0,show decide (c::t≠[])=E4 from dT (by simp)]
  cases uJ c<;>cases t.all (fun c=>uJ c||DZ c)<;>cases decide ((c::t).length≤24)<;>rfl
variable {e:qm}
theorem jrj {s:List UInt8}:D0 s=E1 (if Go.W.cO s then 0 else 8):=by
 unfold D0
 rw[jps,qx6]
 simp only[jx,lA]
 cases Go.W.cO s<;>rfl
theorem Vz {α:Type}{p:α→Bool}{c:Int}(hc:c≠0):∀l:List α,fP (l.map fun x=>if p x then 0 else c)=if l.all p then 0 else c
 | []=>rfl
 |x::l=>by
  rw[List.map_cons,List.all_cons]
  cases p x with
  |true=>simp only[if_true,fP,E3];exact Vz hc l
  |false=>simp[fP,hc]
theorem q6h {o:Option (List Int)}(hl:(o.getD []).length≤SM):f51 o=E1 (fP (o.getD [])):=by
 cases o with
 |none=>exact iq (l:=[]) (Nat.zero_le _)
 |some l=>exact iq hl
theorem js3 {o:Option (List (List UInt8))}(hl:(o.getD []).length≤SM):∃w,f54 o=E1 (yp ((o.getD []).map fun s=>if Go.W.cO s then 0 else 8),w):=by
 unfold f54
 rw[U9 (f:=G6 o) (l:=o.getD []) (g:=fun s=>if Go.W.cO s then(0:Int)else 8) (q:=D0) hl (fun x _=>jrj) (fun s=>rfl)]
 exact⟨_,rfl⟩
def qL (n:Int):Bool:=decide (0≤n)&&decide (n≤999999999)
theorem jpk {n:Int}:D1 n=E1 (if qL n then 0 else 3):=by
 unfold D1
 rw[DP]
 simp only[jx]
 unfold qL
 by_cases h1:n<0
 ·rw[if_pos (Or.inl h1),dF (by omega)];rfl
 ·by_cases h2:999999999<n
  ·rw[if_pos (Or.inr h2),dT (by omega),dF (by omega)];rfl
  ·rw[if_neg (by omega),dT (by omega),dT (by omega)];rfl
theorem jqn {o:Option (List Int)}(hl:(o.getD []).length≤SM):∃w,f57 o=E1 (yp ((o.getD []).map fun s=>if qL s then 0 else 3),w):=by
 unfold f57
 rw[U9 (f:=G7 o) (l:=o.getD []) (g:=fun s=>if qL s then(0:Int)else 3) (q:=D1) hl (fun x _=>jpk) (fun s=>rfl)]
 exact⟨_,rfl⟩
theorem q9m:∀ (k:List UInt8),od k=none∧fM k=none∨∃f,od k=E1 f∧fM k=E1 (f.2.1.length,f.2.2.1.toNat)∧0≤f.2.2.1:=by
 intro k
 unfold od fM ik cq
 simp only[List.find?_cons,List.find?_nil,eq_comm (a:=k)]
 by_cases h1:lU=k
 ·simp[h1]
 by_cases h2:mM=k
 ·simp[h1,h2]
 by_cases h3:lV=k
 ·simp[h1,h2,h3]
 by_cases h4:mN=k
 ·simp[h1,h2,h3,h4]
 by_cases h5:oX=k
 ·simp[h1,h2,h3,h4,h5]
 by_cases h6:n9=k
 ·simp[h1,h2,h3,h4,h5,h6]
 by_cases h7:lW=k
 ·simp[h1,h2,h3,h4,h5,h6,h7]
 by_cases h8:oc=k
 ·simp[h1,h2,h3,h4,h5,h6,h7,h8]
 by_cases h9:oY=k
 ·simp[h1,h2,h3,h4,h5,h6,h7,h8,h9]
 by_cases lD:mO=k
 ·simp[h1,h2,h3,h4,h5,h6,h7,h8,h9,lD]
 by_cases nM:nE=k
 ·simp[h1,h2,h3,h4,h5,h6,h7,h8,h9,lD,nM]
 by_cases lE:qH=k
 ·simp[h1,h2,h3,h4,h5,h6,h7,h8,h9,lD,nM,lE]
 by_cases pf:jW=k
 ·simp[h1,h2,h3,h4,h5,h6,h7,h8,h9,lD,nM,lE,pf]
 by_cases mT:xi=k
 ·simp[h1,h2,h3,h4,h5,h6,h7,h8,h9,lD,nM,lE,pf,mT]
 by_cases xH:lX=k
 ·simp[h1,h2,h3,h4,h5,h6,h7,h8,h9,lD,nM,lE,pf,mT,xH]
 ·simp[h1,h2,h3,h4,h5,h6,h7,h8,h9,lD,nM,lE,pf,mT,xH]
theorem jtt (h1:(e.names.getD []).length≤SM)(h2:(e.values.getD []).length≤SM):f11 e=E1 (kc e.er):=by
 obtain⟨w1,g1⟩:=js3 h1
 obtain⟨w2,g2⟩:=jqn h2
 have q1:f51 (yp ((e.names.getD []).map fun s=>if Go.W.cO s then(0:Int)else 8))=E1 (if(e.names.getD []).all Go.W.cO then 0 else 8):=by
  rw[q6h (by rw[kj,List.length_map];exact h1),kj,Vz (by decide)]
 have q2:f51 (yp ((e.values.getD []).map fun s=>if qL s then(0:Int)else 3))=E1 (if(e.values.getD []).all qL then 0 else 3):=by
  rw[q6h (by rw[kj,List.length_map];exact h2),kj,Vz (by decide)]
 unfold f11
 simp only[DP,lA,jx,g1,g2,q1,q2]
 rw[iq (by simp[SM])]
 simp only[]
 rw[iq (by simp[SM])]
 unfold kc
 rw[show e.er.number=e.number from rfl,show e.er.kind=e.kind from rfl,show e.er.names=e.names.getD []from rfl,show e.er.values=e.values.getD []from rfl,show e.er.text=e.text from rfl,show(fun n=>decide (0≤n)&&decide (n≤999999999))=qL from rfl]
 by_cases c1:e.number<1∨1000<e.number
 ·rw[if_pos c1,if_pos c1];rfl
 rw[if_neg c1,if_neg c1]
 rcases q9m e.kind with⟨c2,c3⟩|⟨f,c2,c3,c4⟩
 ·rw[c3]
  simp only[DE,yt,mP,c2]
  simp[fP]
 rw[c3]
 simp only[DE,yt,mP,c2,Option.isSome_some,Bool.not_true,Gp,if_false]
 by_cases c5:(e.names.getD []).length≠f.2.1.length∨(e.values.getD []).length≠f.2.2.1.toNat
 ·have:(!(decide (((e.names.getD []).length:Int)=(f.2.1.length:Int))&&decide (((e.values.getD []).length:Int)=f.2.2.1)))=E4:=by
   rcases c5 with c5|c5
   ·rw[dF (by omega)];rfl
   ·rw[dF (p:=((e.values.getD []).length:Int)=f.2.2.1) (by omega),Gn];rfl
  rw[this,if_pos c5]
  rfl
 ·have:(!(decide (((e.names.getD []).length:Int)=(f.2.1.length:Int))&&decide (((e.values.getD []).length:Int)=f.2.2.1)))=I:=by
   rw[dT (by omega),dT (p:=((e.values.getD []).length:Int)=f.2.2.1) (by omega)];rfl
  rw[this,if_neg c5]
  simp only[fP,Gp,if_false,if_true,decide_true,cT]
  cases (e.names.getD []).all Go.W.cO<;>cases (e.values.getD []).all qL<;>by_cases c6:e.text=[]<;>simp[c6]
end Go.Z
namespace Go.Z
open Go Go.Abs Go.W
variable {e:qm}
theorem jpu:∀ (k:List UInt8),(f60 k=E1 ⟨0,0,I⟩∧fM k=none)∨∃a b:Nat,f60 k=E1 ⟨(a:Int),(b:Int),E4⟩∧fM k=E1 (a,b):=by
 intro k
 by_cases h1:k=lU
 ·subst h1;exact .inr ⟨2,2,rfl,rfl⟩
 by_cases h2:k=mM
 ·subst h2;exact .inr ⟨1,1,rfl,rfl⟩
 by_cases h3:k=oX
 ·subst h3;exact .inr ⟨1,1,rfl,rfl⟩
 by_cases h4:k=oY
 ·subst h4;exact .inr ⟨1,1,rfl,rfl⟩
 by_cases h5:k=nE
 ·subst h5;exact .inr ⟨1,1,rfl,rfl⟩
 by_cases h6:k=qH
 ·subst h6;exact .inr ⟨1,1,rfl,rfl⟩
 by_cases h7:k=jW
 ·subst h7;exact .inr ⟨1,1,rfl,rfl⟩
 by_cases h8:k=xi
 ·subst h8;exact .inr ⟨1,1,rfl,rfl⟩
 by_cases h9:k=lV
 ·subst h9;exact .inr ⟨2,2,rfl,rfl⟩
 by_cases lD:k=lW
 ·subst lD;exact .inr ⟨2,2,rfl,rfl⟩
 by_cases nM:k=oc
 ·subst nM;exact .inr ⟨2,2,rfl,rfl⟩
 by_cases lE:k=mN
 ·subst lE;exact .inr ⟨2,3,rfl,rfl⟩
 by_cases pf:k=n9
 ·subst pf;exact .inr ⟨2,1,rfl,rfl⟩
 by_cases mT:k=mO
 ·subst mT;exact .inr ⟨2,1,rfl,rfl⟩
 by_cases xH:k=lX
 ·subst xH;exact .inr ⟨0,0,rfl,rfl⟩
 refine .inl ⟨?_,?_⟩
 ·unfold f60
  simp only[dF (p:=k=([108,111,116]:List UInt8)) h1,dF (p:=k=([112,114,111,100,117,99,116]:List UInt8)) h2,dF (p:=k=([105,115,115,117,101]:List UInt8)) h3,dF (p:=k=([117,112,100,97,116,101]:List UInt8)) h4,dF (p:=k=([104,111,108,100]:List UInt8)) h5,dF (p:=k=([102,114,101,101]:List UInt8)) h6,dF (p:=k=([115,104,105,112]:List UInt8)) h7,dF (p:=k=([99,111,109,112,108,97,105,110]:List UInt8)) h8,dF (p:=k=([110,101,101,100]:List UInt8)) h9,dF (p:=k=([117,115,101]:List UInt8)) lD,dF (p:=k=([109,101,97,115,117,114,101]:List UInt8)) nM,dF (p:=k=([116,101,115,116]:List UInt8)) lE,dF (p:=k=([98,117,105,108,100]:List UInt8)) pf,dF (p:=k=([112,97,105,114]:List UInt8)) mT,dF (p:=k=([117,110,100,111]:List UInt8)) xH,cond_false]
 ·unfold fM cq
  simp[List.find?_cons,En h1,En h2,En h3,En h4,En h5,En h6,En h7,En h8,En h9,En lD,En nM,En lE,En pf,En mT,En xH]
theorem jl6 {s:List UInt8}:f26 s=E1 (Go.W.cO s):=by rw[jq8,qx6]
theorem q4b {α:Type}{l:List α}{p:α→Bool}{f:Int→Option (Int⊕(Unit⊕Int))}{n:Int}(hn:n=(l.length:Int))(hl:l.length≤SM)
  (cM:f n=E1 (.inr (.inr n))) (hf:∀(i:Nat) x,l[i]?=E1 x→i<l.length→f (i:Int)=E1 (if p x then .inl (j9 .i64 ((i:Int)+1))else .inr (.inl ()))):
  ∃d,bf f 0=E1 d∧(match d with | .inl _=>I | .inr _=>E4)=l.all p:=by
 subst hn
 obtain⟨d,h1,h2⟩:=U0 l f p (fun d=>match d with | .inl _=>I | .inr _=>E4) ⟨_,cM,rfl⟩ (fun i x hx hi=>by
  have h3:=hf i x hx hi
  cases hp:p x with
  |true=>rw[hp,il (by unfold SM at hl;omega)]at h3;exact .inl ⟨rfl,h3⟩
  |false=>rw[hp]at h3;exact .inr ⟨rfl,_,h3,rfl⟩)
 exact⟨d,h1,h2⟩
theorem jos (h1:(e.names.getD []).length≤SM)(h2:(e.values.getD []).length≤SM):f12 e=E1 (kc e.er):=by
 unfold f12 kc
 rw[NB]
 simp only[jx]
 rw[show e.er.number=e.number from rfl,show e.er.kind=e.kind from rfl,show e.er.names=e.names.getD []from rfl,show e.er.values=e.values.getD []from rfl,show e.er.text=e.text from rfl,show(fun n=>decide (0≤n)&&decide (n≤999999999))=qL from rfl]
 by_cases c1:e.number<1∨1000<e.number
 ·rw[dT c1,if_pos c1];rfl
 rw[dF c1,if_neg c1]
 simp only[cond_false]
 rcases jpu e.kind with⟨c2,c3⟩|⟨a,b,c2,c3⟩
 ·rw[c2,c3];rfl
 rw[c2,c3]
 simp only[cT]
 by_cases c5:(e.names.getD []).length=a
 case neg=>rw[dF (by omega),if_pos (.inl c5)];rfl
 by_cases c6:(e.values.getD []).length=b
 case neg=>rw[dT (by omega),dF (p:=((e.values.getD []).length:Int)=(b:Int)) (by omega),if_pos (.inr c6)];rfl
 rw[dT (by omega),dT (p:=((e.values.getD []).length:Int)=(b:Int)) (by omega),if_neg (by omega)]
 simp only[cT]
 obtain⟨d,g1,g2⟩:=q4b (l:=e.names.getD []) (p:=Go.W.cO) (f:=AA e ⟨(a:Int),(b:Int),E4⟩) (n:=(a:Int)) (by omega) h1 (by unfold AA;simp only[kr];rfl) (fun i x hx hi=>by
  unfold AA
  simp only[show decide ((i:Int)<(a:Int))=E4 from dT (by omega),cT,jx,z7 hx,jl6]
  cases Go.W.cO x<;>rfl)
 obtain⟨d2,g3,g4⟩:=q4b (l:=e.values.getD []) (p:=qL) (f:=AB e ⟨(a:Int),(b:Int),E4⟩) (n:=(b:Int)) (by omega) h2 (by unfold AB;simp only[kr];rfl) (fun i x hx hi=>by
  unfold AB
  simp only[show decide ((i:Int)<(b:Int))=E4 from dT (by omega),cT,jx,z7 hx,NB]
  unfold qL
  by_cases k1:x<0
  ·rw[dT (Or.inl k1),dF (p:=0≤x) (by omega)];rfl
  ·by_cases k2:999999999<x
   ·rw[dT (Or.inr k2),dF (p:=x≤999999999) (by omega),Gn];rfl
   ·rw[dF (p:=x<0∨999999999<x) (by omega),dT (p:=0≤x) (by omega),dT (p:=x≤999999999) (by omega)];rfl)
 rw[g1,←g2,←g4]
 cases d with
 |inl d=>rfl
 |inr d=>
  simp only[]
  rw[g3]
  cases d2 with
  |inl d2=>rfl
  |inr d2=>
   by_cases c7:e.text=[]
   ·rw[dT c7];simp[c7]
   ·rw[dF c7];simp[c7]
end Go.Z
