/- Chapter 10, plain. -/
import Derived.Test.YtfopaakmgogpiaaGreatDoorEA
import Derived.Test.YtfopaakmgogpiaaGreatDoorW14
import Derived.Test.YtfopaakmgogpiaaGreatDoorL1
set_option linter.unusedVariables false
set_option linter.unusedSimpArgs false
set_option maxRecDepth 100000
set_option maxHeartbeats 4000000
namespace Go.Z
open Go Go.Abs Go.W
variable {r:qc}{e:ql}
def zhn (v0:Int):Res→Res
 | .error k=>.error k
 | .ok s=>.ok { s with day:=v0 }
theorem qdr {v0:Int}{x:Option (qc×Int)}{y:Res}(h:qcg x y):qcg (jw x fun v=>some (⟨v0,v.1.lots,v.1.products,v.1.units⟩,v.2)) (zhn v0 y):=by
 obtain⟨r',c,rfl,h2⟩:=h
 cases y with
 |error k=>exact⟨_,_,rfl,h2⟩
 |ok s=>exact⟨_,_,rfl,h2.1,by rw[←h2.2];rfl⟩
theorem jsa (b:GB r)(w:WF r.er)(hc:yx e.er=0)(hu:e.kind≠qek)(hv0:∀v∈e.values.getD [],0≤v):qcg (f69 r e) (after (j6 .i64) r.er e.er):=by
 obtain⟨_,f,h1,hl1,hl2⟩:=checkE_names hc
 have hm:(e.kind,f.1,f.2)∈k_forms:=by
  unfold qax at h1
  cases hf:k_forms.find? (fun x=>decide (x.1=e.er.kind))with
  |none=>rw[hf]at h1;cases h1
  |some x=>
   rw[hf]at h1
   have h2:=List.find?_some hf
   have h3:=List.mem_of_find?_eq_some hf
   have h4:x.1=e.kind:=of_decide_eq_true h2
   have h5:x.2=f:=by simpa using h1
   rw[←h4,←h5];exact h3
 have hpos:∃v0 t,e.values.getD []=v0::t:=by
  have:(e.values.getD []).length=f.2:=hl2
  cases hv:e.values.getD []with
  |cons v t=>exact⟨v,t,rfl⟩
  |nil=>
   rw[hv]at this
   simp only[k_forms,List.mem_cons,Prod.mk.injEq,List.not_mem_nil,or_false]at hm
   simp only[List.length_nil]at this
   rcases hm with h|h|h|h|h|h|h|h|h|h|h|h|h|h|h<;>first|(exfalso;omega)|exact absurd h.1 hu
 obtain⟨v0,t,hv⟩:=hpos
 unfold f69 after
 rw[qcl hv,vl0 hv]
 simp only[jw]
 by_cases hd:v0<r.day
 ·rw[dT hd,if_pos (show v0<r.er.day from hd)]
  exact⟨_,_,rfl,rfl,by decide⟩
 rw[dF hd,if_neg (show ¬v0<r.er.day from hd)]
 have hm':e.kind∈k_forms.map (·.1):=List.mem_map_of_mem (f:=(·.1)) hm
 simp only[k_forms,List.map_cons,List.map_nil,List.mem_cons,List.mem_singleton,List.not_mem_nil,or_false]at hm'
 have nk:∀ {k k':List UInt8},e.kind=k→decide (k=k')=false→decide (e.kind=k')=false:=by
  intro k k' h h2;rw[h];exact h2
 have yk:∀ {k:List UInt8},e.kind=k→decide (e.kind=k)=true:=fun h=>dT h
 simp only[cond_false]
 rcases hm' with h|h|h|h|h|h|h|h|h|h|h|h|h|h|h
 ·have q:=qdr (v0:=v0) (jxq b h hc)
  rw[show decide (e.kind=([108,111,116]:List UInt8))=true from yk h]
  exact q
 ·have q:=qdr (v0:=v0) (jbe b h hc)
  rw[show decide (e.kind=([108,111,116]:List UInt8))=false from nk h rfl,show decide (e.kind=([112,114,111,100,117,99,116]:List UInt8))=true from yk h]
  exact q
 ·have q:=qdr (v0:=v0) (q2p b w (.inl rfl) h hc hv0)
  rw[show decide (e.kind=([108,111,116]:List UInt8))=false from nk h rfl,show decide (e.kind=([112,114,111,100,117,99,116]:List UInt8))=false from nk h rfl,show decide (e.kind=([98,117,105,108,100]:List UInt8))=false from nk h rfl,show decide (e.kind=([110,101,101,100]:List UInt8))=true from yk h]
  exact q
 ·have q:=qdr (v0:=v0) (q2p b w (.inr (.inl rfl)) h hc hv0)
  rw[show decide (e.kind=([108,111,116]:List UInt8))=false from nk h rfl,show decide (e.kind=([112,114,111,100,117,99,116]:List UInt8))=false from nk h rfl,show decide (e.kind=([98,117,105,108,100]:List UInt8))=false from nk h rfl,show decide (e.kind=([110,101,101,100]:List UInt8))=false from nk h rfl,show decide (e.kind=([116,101,115,116]:List UInt8))=true from yk h]
  exact q
 ·have q:=qdr (v0:=v0) (q2p b w (.inr (.inr rfl)) h hc hv0)
  rw[show decide (e.kind=([108,111,116]:List UInt8))=false from nk h rfl,show decide (e.kind=([112,114,111,100,117,99,116]:List UInt8))=false from nk h rfl,show decide (e.kind=([98,117,105,108,100]:List UInt8))=false from nk h rfl,show decide (e.kind=([110,101,101,100]:List UInt8))=false from nk h rfl,show decide (e.kind=([116,101,115,116]:List UInt8))=false from nk h rfl,show decide (e.kind=([105,115,115,117,101]:List UInt8))=true from yk h]
  exact q
 ·have q:=qdr (v0:=v0) (jll b h hc)
  rw[show decide (e.kind=([108,111,116]:List UInt8))=false from nk h rfl,show decide (e.kind=([112,114,111,100,117,99,116]:List UInt8))=false from nk h rfl,show decide (e.kind=([98,117,105,108,100]:List UInt8))=true from yk h]
  exact q
 all_goals try rw[show decide (e.kind=([108,111,116]:List UInt8))=false from nk h rfl,show decide (e.kind=([112,114,111,100,117,99,116]:List UInt8))=false from nk h rfl,show decide (e.kind=([98,117,105,108,100]:List UInt8))=false from nk h rfl,show decide (e.kind=([110,101,101,100]:List UInt8))=false from nk h rfl,show decide (e.kind=([116,101,115,116]:List UInt8))=false from nk h rfl,show decide (e.kind=([105,115,115,117,101]:List UInt8))=false from nk h rfl]
 ·rw[show decide (e.kind=([104,111,108,100]:List UInt8))=false from nk h rfl,show decide (e.kind=([102,114,101,101]:List UInt8))=false from nk h rfl]
  exact qdr (v0:=v0) (qm4 b w (by simp) h hc)
 ·rw[show decide (e.kind=([104,111,108,100]:List UInt8))=false from nk h rfl,show decide (e.kind=([102,114,101,101]:List UInt8))=false from nk h rfl]
  exact qdr (v0:=v0) (qm4 b w (by simp) h hc)
 ·rw[show decide (e.kind=([104,111,108,100]:List UInt8))=false from nk h rfl,show decide (e.kind=([102,114,101,101]:List UInt8))=false from nk h rfl]
  exact qdr (v0:=v0) (qm4 b w (by simp) h hc)
 ·rw[show decide (e.kind=([104,111,108,100]:List UInt8))=false from nk h rfl,show decide (e.kind=([102,114,101,101]:List UInt8))=false from nk h rfl]
  exact qdr (v0:=v0) (qm4 b w (by simp) h hc)
 ·rw[show decide (e.kind=([104,111,108,100]:List UInt8))=true from yk h]
  exact qdr (v0:=v0) (jan b true h hc)
 ·rw[show decide (e.kind=([104,111,108,100]:List UInt8))=false from nk h rfl,show decide (e.kind=([102,114,101,101]:List UInt8))=true from yk h]
  exact qdr (v0:=v0) (jan b false h hc)
 ·rw[show decide (e.kind=([104,111,108,100]:List UInt8))=false from nk h rfl,show decide (e.kind=([102,114,101,101]:List UInt8))=false from nk h rfl]
  exact qdr (v0:=v0) (qm4 b w (by simp) h hc)
 ·rw[show decide (e.kind=([104,111,108,100]:List UInt8))=false from nk h rfl,show decide (e.kind=([102,114,101,101]:List UInt8))=false from nk h rfl]
  exact qdr (v0:=v0) (qm4 b w (by simp) h hc)
 ·exact absurd h hu
end Go.Z
namespace Go.Z
open Go Go.Abs Go.W
def qnf (s:List UInt8):Bool:=decide (s≠[])&&decide (s.length≤24)&&qe9 0 s
theorem qsm {s:List UInt8}{i:Nat}{c:UInt8}(hc:s[i]?=some c):qe9 i (s.drop i)=(qf8 i c.toNat&&qe9 (i+1) (s.drop (i+1))):=by
 rw[qcp hc];rfl
theorem jtn {s:List UInt8}:f26 s=some (qnf s):=by
 unfold f26 qnf
 by_cases h0:s=[]
 ·subst h0;rfl
 have hl:¬((s.length:Int)=0):=by
  intro h
  exact h0 (List.eq_nil_of_length_eq_zero (by omega))
 by_cases h1:(24:Int)<s.length
 ·have h2:¬s.length≤24:=by omega
  simp[hl,h0,h1,h2]
 ·have h2:s.length≤24:=by omega
  obtain⟨d,g1,g2⟩:=qsb s.length (fun i=>(i:Int)) (qly s) (fun d=>match d with | .inl _=>false | .inr _=>true) (fun i=>qe9 i (s.drop i)) ⟨.inr _,by unfold qly;rw[ku];rfl,by rw[List.drop_eq_nil_of_le (Nat.le_refl _)];rfl⟩ (fun i hi=>by
   obtain⟨c,hc⟩:∃c,s[i]?=some c:=⟨_,List.getElem?_eq_getElem hi⟩
   unfold qly
   rw[qsm hc,qal hi,cT,z6 hc,quv]
   simp only[jcc hi (show s.length≤9223372036854775807 by omega)]
   unfold qf8
   have hx:0≤(c.toNat:Int):=by omega
   generalize (c.toNat:Int)=x at hx ⊢
   by_cases z:i=0
   ·subst z
    rcases kinds x with h|h|h|h|h|h|h|h|h <;>
     simp (disch:=omega) only[dT,dF,cT,cond_false,Bool.or_false,Bool.false_or,Bool.true_or,Bool.and_true,Bool.true_and,Bool.false_and] <;>
     first
      |exact .inl ⟨trivial,trivial⟩
      |exact .inl ⟨rfl,trivial⟩
      |exact .inl ⟨rfl,rfl⟩
      |exact .inr ⟨_,rfl,rfl⟩
   ·rcases kinds x with h|h|h|h|h|h|h|h|h <;>
     simp (disch:=omega) only[dT,dF,cT,cond_false,Bool.or_false,Bool.or_true,Bool.false_or,Bool.true_or,Bool.and_true,Bool.true_and,Bool.false_and] <;>
     first
      |exact .inl ⟨trivial,trivial⟩
      |exact .inl ⟨rfl,trivial⟩
      |exact .inl ⟨rfl,rfl⟩
      |exact .inr ⟨_,rfl,rfl⟩)
  have g1:itO (qly s) 0=some d:=g1
  rw[dF hl,cond_false,dF h1,cond_false,g1,quv]
  simp only[h0,h2,ne_eq,not_false_eq_true,decide_true,Bool.true_and]
  rw[List.drop_zero]at g2
  rw[←g2]
  cases d<;>rfl
theorem qwr {s:List UInt8}{i:Nat}{c:UInt8}(hc:s[i]?=some c):(c.toNat<128∧zg s i=(c.toNat,1))∨(128≤c.toNat∧128≤(zg s i).1):=by
 by_cases h:c.toNat<128
 ·exact .inl ⟨h,jbi hc h⟩
 ·exact .inr ⟨by omega,jbx hc h⟩
theorem qz0 {i:Nat}{x:Int}(h:128≤x):qf8 i x=false:=by
 unfold qf8
 simp (disch:=omega) only[dF,Bool.or_self,Bool.and_false]
def zex:Nat→Option Nat
 |0=>none
 |i+1=>some (i+1)
theorem jp0 {s:List UInt8}:f56 s=some (qnf s):=by
 unfold f56
 obtain⟨d,g1,g2⟩:=qsb s.length zex (qvc s) (fun d=>match d with | .inl _=>false | .inr _=>true) (fun i=>qe9 i (s.drop i)) (by
   rw[List.drop_eq_nil_of_le (Nat.le_refl _)]
   cases hn:s.length with
   |zero=>
    refine⟨.inr 0,?_,rfl⟩
    show qi8 s=_
    unfold qi8
    rw[hn];rfl
   |succ n=>
    refine⟨.inr (n+1),?_,rfl⟩
    show qi9 s (n+1)=_
    unfold qi9
    rw[hn,dF (by omega)];rfl) (fun i hi=>by
   obtain⟨c,hc⟩:∃c,s[i]?=some c:=⟨_,List.getElem?_eq_getElem hi⟩
   rw[qsm hc]
   cases i with
   |zero=>
    show(qi8 s=_∧_)∨(∃d,qi8 s=_∧_)
    unfold qi8
    rw[dT hi,cT]
    rcases qwr hc with⟨hlt,he⟩|⟨hge,hr⟩
    ·rw[he]
     simp only[]
     have hx:0≤(c.toNat:Int):=by omega
     unfold qf8
     generalize (c.toNat:Int)=x at hx ⊢
     rcases kinds x with h|h|h|h|h|h|h|h|h <;>
      simp (disch:=omega) only[dT,dF,cT,cond_false,Bool.or_false,Bool.false_or,Bool.true_or,Bool.and_true,Bool.true_and,Bool.false_and] <;>
      first
       |exact .inl ⟨trivial,trivial⟩
       |exact .inl ⟨rfl,trivial⟩
       |exact .inl ⟨rfl,rfl⟩
       |exact .inr ⟨_,rfl,rfl⟩
    ·rw[qz0 (by omega)]
     generalize hd:zg s 0=dd at hr ⊢
     have hr':(128:Int)≤(dd.1:Int):=by omega
     generalize (dd.1:Int)=x at hr' ⊢
     simp (disch:=omega) only[dT,dF,cT,cond_false,Bool.false_and]
     exact .inr ⟨_,rfl,rfl⟩
   |succ i=>
    show(qi9 s (i+1)=_∧_)∨(∃d,qi9 s (i+1)=_∧_)
    unfold qi9
    rw[dT hi,cT]
    rcases qwr hc with⟨hlt,he⟩|⟨hge,hr⟩
    ·rw[he]
     simp only[]
     have hx:0≤(c.toNat:Int):=by omega
     unfold qf8
     generalize (c.toNat:Int)=x at hx ⊢
     have e0:decide (((i+1:Nat):Int)=0)=false:=dF (by omega)
     rcases kinds x with h|h|h|h|h|h|h|h|h <;>
      simp (disch:=omega) only[e0,dT,dF,cT,cond_false,Bool.or_false,Bool.or_true,Bool.false_or,Bool.true_or,Bool.and_true,Bool.true_and,Bool.false_and] <;>
      first
       |exact .inl ⟨trivial,trivial⟩
       |exact .inl ⟨rfl,trivial⟩
       |exact .inl ⟨rfl,rfl⟩
       |exact .inr ⟨_,rfl,rfl⟩
    ·rw[qz0 (by omega)]
     generalize hd:zg s (i+1)=dd at hr ⊢
     have hr':(128:Int)≤(dd.1:Int):=by omega
     have e0:decide (((i+1:Nat):Int)=0)=false:=dF (by omega)
     generalize (dd.1:Int)=x at hr' ⊢
     simp (disch:=omega) only[e0,dT,dF,cT,cond_false,Bool.false_and]
     exact .inr ⟨_,rfl,rfl⟩)
 have g1:itO (qvc s) none=some d:=g1
 rw[g1,quv]
 unfold qnf
 rw[List.drop_zero]at g2
 cases d with
 |inl d=>simp only[]at g2;rw[←g2];simp
 |inr d=>
  simp only[]at g2
  rw[←g2]
  by_cases h0:s=[]
  ·subst h0;rfl
  ·have e:decide ((s.length:Int)≤24)=decide (s.length≤24):=by by_cases h:s.length≤24<;>simp[h]<;>omega
   rw[e]
   simp[h0]
theorem q6j {c:UInt8}:qf8 0 (c.toNat:Int)=qd1 c:=by
 unfold qf8 qd1
 have h:∀a b:Nat,(decide ((a:Int)≤(c.toNat:Int)∧(c.toNat:Int)≤(b:Int)))=(decide (a≤c.toNat)&&decide (c.toNat≤b)):=by
  intro a b
  by_cases h1:a≤c.toNat<;>by_cases h2:c.toNat≤b<;>simp[h1,h2]<;>omega
 rw[show(65:Int)=((65:Nat):Int)from rfl,show(90:Int)=((90:Nat):Int)from rfl,show(97:Int)=((97:Nat):Int)from rfl,show(122:Int)=((122:Nat):Int)from rfl,h,h]
 simp
theorem jsx {c:UInt8}{i:Nat}:qf8 (i+1) (c.toNat:Int)=(qd1 c||qj7 c):=by
 rw[←q6j]
 unfold qf8 qj7
 have h:(decide ((48:Int)≤(c.toNat:Int)∧(c.toNat:Int)≤(57:Int)))=(decide (48≤c.toNat)&&decide (c.toNat≤57)):=by
  by_cases h1:48≤c.toNat<;>by_cases h2:c.toNat≤57<;>simp[h1,h2]<;>omega
 have h3:decide ((c.toNat:Int)=95)=decide (c.toNat=95):=by
  by_cases h1:c.toNat=95
  ·rw[dT h1];exact dT (by omega)
  ·rw[dF h1];exact dF (by omega)
 rw[h,h3]
 simp
theorem q2d:∀ (s:List UInt8) (i:Nat),qe9 (i+1) s=s.all fun c=>qd1 c||qj7 c
 | [],_=>rfl
 |c::s,i=>by
  show(qf8 (i+1) c.toNat&&qe9 (i+1+1) s)=_
  rw[jsx,q2d s (i+1)];rfl
theorem qxn {s:List UInt8}:qnf s=Go.W.isName s:=by
 cases s with
 |nil=>rfl
 |cons c t=>
  show(decide (c::t≠[])&&decide ((c::t).length≤24)&&(qf8 0 c.toNat&&qe9 1 t))=(qd1 c&&t.all (fun c=>qd1 c||qj7 c)&&decide ((c::t).length≤24))
  rw[q6j,q2d t 0,show decide (c::t≠[])=true from dT (by simp)]
  cases qd1 c<;>cases t.all (fun c=>qd1 c||qj7 c)<;>cases decide ((c::t).length≤24)<;>rfl
variable {e:ql}
theorem jrx {s:List UInt8}:qyt s=some (if Go.W.isName s then 0 else 8):=by
 unfold qyt
 rw[jp0,qxn]
 simp only[jw,qca]
 cases Go.W.isName s<;>rfl
theorem qu6 {α:Type}{p:α→Bool}{c:Int}(hc:c≠0):∀l:List α,qbr (l.map fun x=>if p x then 0 else c)=if l.all p then 0 else c
 | []=>rfl
 |x::l=>by
  rw[List.map_cons,List.all_cons]
  cases p x with
  |true=>simp only[if_true,qbr,Bool.true_and];exact qu6 hc l
  |false=>simp[qbr,hc]
theorem q6h {o:Option (List Int)}(hl:(o.getD []).length≤SM):f51 o=some (qbr (o.getD [])):=by
 cases o with
 |none=>exact qbj (l:=[]) (Nat.zero_le _)
 |some l=>exact qbj hl
theorem juj {o:Option (List (List UInt8))}(hl:(o.getD []).length≤SM):∃w,f54 o=some (yr ((o.getD []).map fun s=>if Go.W.isName s then 0 else 8),w):=by
 unfold f54
 rw[qrb (f:=qv2 o) (l:=o.getD []) (g:=fun s=>if Go.W.isName s then(0:Int)else 8) (q:=qyt) hl (fun x _=>jrx) (fun s=>rfl)]
 exact⟨_,rfl⟩
def inR (n:Int):Bool:=decide (0≤n)&&decide (n≤999999999)
theorem jq5 {n:Int}:qzl n=some (if inR n then 0 else 3):=by
 unfold qzl
 rw[qv6]
 simp only[jw]
 unfold inR
 by_cases h1:n<0
 ·rw[if_pos (Or.inl h1),dF (by omega)];rfl
 ·by_cases h2:999999999<n
  ·rw[if_pos (Or.inr h2),dT (by omega),dF (by omega)];rfl
  ·rw[if_neg (by omega),dT (by omega),dT (by omega)];rfl
theorem jpg {o:Option (List Int)}(hl:(o.getD []).length≤SM):∃w,f57 o=some (yr ((o.getD []).map fun s=>if inR s then 0 else 3),w):=by
 unfold f57
 rw[qrb (f:=qxy o) (l:=o.getD []) (g:=fun s=>if inR s then(0:Int)else 3) (q:=qzl) hl (fun x _=>jq5) (fun s=>rfl)]
 exact⟨_,rfl⟩
theorem q7a:∀ (k:List UInt8),qee k=none∧qax k=none∨∃f,qee k=some f∧qax k=some (f.2.1.length,f.2.2.1.toNat)∧0≤f.2.2.1:=by
 intro k
 unfold qee qax formsL k_forms
 simp only[List.find?_cons,List.find?_nil,eq_comm (a:=k)]
 by_cases h1:qd8=k
 ·simp[h1]
 by_cases h2:qbd=k
 ·simp[h1,h2]
 by_cases h3:qc2=k
 ·simp[h1,h2,h3]
 by_cases h4:qc9=k
 ·simp[h1,h2,h3,h4]
 by_cases h5:qdh=k
 ·simp[h1,h2,h3,h4,h5]
 by_cases h6:qc7=k
 ·simp[h1,h2,h3,h4,h5,h6]
 by_cases h7:qd7=k
 ·simp[h1,h2,h3,h4,h5,h6,h7]
 by_cases h8:qbz=k
 ·simp[h1,h2,h3,h4,h5,h6,h7,h8]
 by_cases h9:qcw=k
 ·simp[h1,h2,h3,h4,h5,h6,h7,h8,h9]
 by_cases h10:qda=k
 ·simp[h1,h2,h3,h4,h5,h6,h7,h8,h9,h10]
 by_cases h11:qdw=k
 ·simp[h1,h2,h3,h4,h5,h6,h7,h8,h9,h10,h11]
 by_cases h12:qfg=k
 ·simp[h1,h2,h3,h4,h5,h6,h7,h8,h9,h10,h11,h12]
 by_cases h13:qb6=k
 ·simp[h1,h2,h3,h4,h5,h6,h7,h8,h9,h10,h11,h12,h13]
 by_cases h14:qdk=k
 ·simp[h1,h2,h3,h4,h5,h6,h7,h8,h9,h10,h11,h12,h13,h14]
 by_cases h15:qek=k
 ·simp[h1,h2,h3,h4,h5,h6,h7,h8,h9,h10,h11,h12,h13,h14,h15]
 ·simp[h1,h2,h3,h4,h5,h6,h7,h8,h9,h10,h11,h12,h13,h14,h15]
theorem q21 (h1:(e.names.getD []).length≤SM)(h2:(e.values.getD []).length≤SM):f11 e=some (yx e.er):=by
 obtain⟨w1,g1⟩:=juj h1
 obtain⟨w2,g2⟩:=jpg h2
 have q1:f51 (yr ((e.names.getD []).map fun s=>if Go.W.isName s then(0:Int)else 8))=some (if(e.names.getD []).all Go.W.isName then 0 else 8):=by
  rw[q6h (by rw[ko,List.length_map];exact h1),ko,qu6 (by decide)]
 have q2:f51 (yr ((e.values.getD []).map fun s=>if inR s then(0:Int)else 3))=some (if(e.values.getD []).all inR then 0 else 3):=by
  rw[q6h (by rw[ko,List.length_map];exact h2),ko,qu6 (by decide)]
 unfold f11
 simp only[qv6,qca,jw,g1,g2,q1,q2]
 rw[qbj (by simp[SM])]
 simp only[]
 rw[qbj (by simp[SM])]
 unfold yx
 rw[show e.er.number=e.number from rfl,show e.er.kind=e.kind from rfl,show e.er.names=e.names.getD []from rfl,show e.er.values=e.values.getD []from rfl,show e.er.text=e.text from rfl,show(fun n=>decide (0≤n)&&decide (n≤999999999))=inR from rfl]
 by_cases c1:e.number<1∨1000<e.number
 ·rw[if_pos c1,if_pos c1];rfl
 rw[if_neg c1,if_neg c1]
 rcases q7a e.kind with⟨c2,c3⟩|⟨f,c2,c3,c4⟩
 ·rw[c3]
  simp only[qoh,yu,qdb,c2]
  simp[qbr]
 rw[c3]
 simp only[qoh,yu,qdb,c2,Option.isSome_some,Bool.not_true,Bool.false_eq_true,if_false]
 by_cases c5:(e.names.getD []).length≠f.2.1.length∨(e.values.getD []).length≠f.2.2.1.toNat
 ·have:(!(decide (((e.names.getD []).length:Int)=(f.2.1.length:Int))&&decide (((e.values.getD []).length:Int)=f.2.2.1)))=true:=by
   rcases c5 with c5|c5
   ·rw[dF (by omega)];rfl
   ·rw[dF (p:=((e.values.getD []).length:Int)=f.2.2.1) (by omega),Bool.and_false];rfl
  rw[this,if_pos c5]
  rfl
 ·have:(!(decide (((e.names.getD []).length:Int)=(f.2.1.length:Int))&&decide (((e.values.getD []).length:Int)=f.2.2.1)))=false:=by
   rw[dT (by omega),dT (p:=((e.values.getD []).length:Int)=f.2.2.1) (by omega)];rfl
  rw[this,if_neg c5]
  simp only[qbr,Bool.false_eq_true,if_false,if_true,decide_true,cT]
  cases (e.names.getD []).all Go.W.isName<;>cases (e.values.getD []).all inR<;>by_cases c6:e.text=[]<;>simp[c6]
end Go.Z
namespace Go.Z
open Go Go.Abs Go.W
variable {e:ql}
theorem jt6:∀ (k:List UInt8),(f60 k=some ⟨0,0,false⟩∧qax k=none)∨∃a b:Nat,f60 k=some ⟨(a:Int),(b:Int),true⟩∧qax k=some (a,b):=by
 intro k
 by_cases h1:k=qd8
 ·subst h1;exact .inr ⟨2,2,rfl,rfl⟩
 by_cases h2:k=qbd
 ·subst h2;exact .inr ⟨1,1,rfl,rfl⟩
 by_cases h3:k=qdh
 ·subst h3;exact .inr ⟨1,1,rfl,rfl⟩
 by_cases h4:k=qcw
 ·subst h4;exact .inr ⟨1,1,rfl,rfl⟩
 by_cases h5:k=qdw
 ·subst h5;exact .inr ⟨1,1,rfl,rfl⟩
 by_cases h6:k=qfg
 ·subst h6;exact .inr ⟨1,1,rfl,rfl⟩
 by_cases h7:k=qb6
 ·subst h7;exact .inr ⟨1,1,rfl,rfl⟩
 by_cases h8:k=qdk
 ·subst h8;exact .inr ⟨1,1,rfl,rfl⟩
 by_cases h9:k=qc2
 ·subst h9;exact .inr ⟨2,2,rfl,rfl⟩
 by_cases h10:k=qd7
 ·subst h10;exact .inr ⟨2,2,rfl,rfl⟩
 by_cases h11:k=qbz
 ·subst h11;exact .inr ⟨2,2,rfl,rfl⟩
 by_cases h12:k=qc9
 ·subst h12;exact .inr ⟨2,3,rfl,rfl⟩
 by_cases h13:k=qc7
 ·subst h13;exact .inr ⟨2,1,rfl,rfl⟩
 by_cases h14:k=qda
 ·subst h14;exact .inr ⟨2,1,rfl,rfl⟩
 by_cases h15:k=qek
 ·subst h15;exact .inr ⟨0,0,rfl,rfl⟩
 refine .inl ⟨?_,?_⟩
 ·unfold f60
  simp only[dF (p:=k=([108,111,116]:List UInt8)) h1,dF (p:=k=([112,114,111,100,117,99,116]:List UInt8)) h2,dF (p:=k=([105,115,115,117,101]:List UInt8)) h3,dF (p:=k=([117,112,100,97,116,101]:List UInt8)) h4,dF (p:=k=([104,111,108,100]:List UInt8)) h5,dF (p:=k=([102,114,101,101]:List UInt8)) h6,dF (p:=k=([115,104,105,112]:List UInt8)) h7,dF (p:=k=([99,111,109,112,108,97,105,110]:List UInt8)) h8,dF (p:=k=([110,101,101,100]:List UInt8)) h9,dF (p:=k=([117,115,101]:List UInt8)) h10,dF (p:=k=([109,101,97,115,117,114,101]:List UInt8)) h11,dF (p:=k=([116,101,115,116]:List UInt8)) h12,dF (p:=k=([98,117,105,108,100]:List UInt8)) h13,dF (p:=k=([112,97,105,114]:List UInt8)) h14,dF (p:=k=([117,110,100,111]:List UInt8)) h15,cond_false]
 ·unfold qax k_forms
  simp[List.find?_cons,Ne.symm h1,Ne.symm h2,Ne.symm h3,Ne.symm h4,Ne.symm h5,Ne.symm h6,Ne.symm h7,Ne.symm h8,Ne.symm h9,Ne.symm h10,Ne.symm h11,Ne.symm h12,Ne.symm h13,Ne.symm h14,Ne.symm h15]
theorem jm6 {s:List UInt8}:f26 s=some (Go.W.isName s):=by rw[jtn,qxn]
theorem q4q {α:Type}{l:List α}{p:α→Bool}{f:Int→Option (Int⊕(Unit⊕Int))}{n:Int}(hn:n=(l.length:Int))(hl:l.length≤SM)
  (hend:f n=some (.inr (.inr n))) (hf:∀(i:Nat) x,l[i]?=some x→i<l.length→f (i:Int)=some (if p x then .inl (j6 .i64 ((i:Int)+1))else .inr (.inl ()))):
  ∃d,itO f 0=some d∧(match d with | .inl _=>false | .inr _=>true)=l.all p:=by
 subst hn
 obtain⟨d,h1,h2⟩:=qug l f p (fun d=>match d with | .inl _=>false | .inr _=>true) ⟨_,hend,rfl⟩ (fun i x hx hi=>by
  have h3:=hf i x hx hi
  cases hp:p x with
  |true=>rw[hp,qaj (by unfold SM at hl;omega)]at h3;exact .inl ⟨rfl,h3⟩
  |false=>rw[hp]at h3;exact .inr ⟨rfl,_,h3,rfl⟩)
 exact⟨d,h1,h2⟩
theorem q3g (h1:(e.names.getD []).length≤SM)(h2:(e.values.getD []).length≤SM):f12 e=some (yx e.er):=by
 unfold f12 yx
 rw[q3a]
 simp only[jw]
 rw[show e.er.number=e.number from rfl,show e.er.kind=e.kind from rfl,show e.er.names=e.names.getD []from rfl,show e.er.values=e.values.getD []from rfl,show e.er.text=e.text from rfl,show(fun n=>decide (0≤n)&&decide (n≤999999999))=inR from rfl]
 by_cases c1:e.number<1∨1000<e.number
 ·rw[dT c1,if_pos c1];rfl
 rw[dF c1,if_neg c1]
 simp only[cond_false]
 rcases jt6 e.kind with⟨c2,c3⟩|⟨a,b,c2,c3⟩
 ·rw[c2,c3];rfl
 rw[c2,c3]
 simp only[cT]
 by_cases c5:(e.names.getD []).length=a
 case neg=>rw[dF (by omega),if_pos (.inl c5)];rfl
 by_cases c6:(e.values.getD []).length=b
 case neg=>rw[dT (by omega),dF (p:=((e.values.getD []).length:Int)=(b:Int)) (by omega),if_pos (.inr c6)];rfl
 rw[dT (by omega),dT (p:=((e.values.getD []).length:Int)=(b:Int)) (by omega),if_neg (by omega)]
 simp only[cT]
 obtain⟨d,g1,g2⟩:=q4q (l:=e.names.getD []) (p:=Go.W.isName) (f:=qph e ⟨(a:Int),(b:Int),true⟩) (n:=(a:Int)) (by omega) h1 (by unfold qph;simp only[ku];rfl) (fun i x hx hi=>by
  unfold qph
  simp only[show decide ((i:Int)<(a:Int))=true from dT (by omega),cT,jw,z6 hx,jm6]
  cases Go.W.isName x<;>rfl)
 obtain⟨d2,g3,g4⟩:=q4q (l:=e.values.getD []) (p:=inR) (f:=qo1 e ⟨(a:Int),(b:Int),true⟩) (n:=(b:Int)) (by omega) h2 (by unfold qo1;simp only[ku];rfl) (fun i x hx hi=>by
  unfold qo1
  simp only[show decide ((i:Int)<(b:Int))=true from dT (by omega),cT,jw,z6 hx,q3a]
  unfold inR
  by_cases k1:x<0
  ·rw[dT (Or.inl k1),dF (p:=0≤x) (by omega)];rfl
  ·by_cases k2:999999999<x
   ·rw[dT (Or.inr k2),dF (p:=x≤999999999) (by omega),Bool.and_false];rfl
   ·rw[dF (p:=x<0∨999999999<x) (by omega),dT (p:=0≤x) (by omega),dT (p:=x≤999999999) (by omega)];rfl)
 rw[g1,←g2,←g4]
 cases d with
 |inl d=>rfl
 |inr d=>
  simp only[]
  rw[g3]
  cases d2 with
  |inl d2=>rfl
  |inr d2=>
   by_cases c7:e.text=[]
   ·rw[dT c7];simp[c7]
   ·rw[dF c7];simp[c7]
end Go.Z
