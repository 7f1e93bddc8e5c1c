/- Chapter 10, plain. -/
import Derived.Test.YtimdocpnkimlfaaGreatDoorEA
set_option linter.unusedVariables false
set_option linter.unusedSimpArgs false
set_option maxRecDepth 100000
set_option maxHeartbeats 4000000
open Bool renaming false→I,false_and→Gn,true_and→Gp,true→Gq,or_false→Gs,false_or→Gt,and_true→Gv,true_or→Gw,and_false→Gy,false_eq_true→Gz,or_true→G0
open Ne renaming symm→En
open Option renaming some→Ey
namespace Go.Z
open Go Go.Abs Go.W
variable {r:aj}{e:GEv}
def zcp (v0:Int):qA→qA
 | .error k=>.error k
 | .ok s=>.ok { s with day:=v0 }
theorem oI {v0 x y}(h:gV x y):gV (qa x fun v=>Ey (⟨v0,v.1.lots,v.1.ae,v.1.units⟩,v.2)) (zcp v0 y):=by
 obtain⟨r',c,rfl,h2⟩:=h
 cases y with
 |error k=>exact⟨_,_,rfl,h2⟩
 |ok s=>exact⟨_,_,rfl,h2.1,by rw[←h2.2];rfl⟩
theorem jqy (b:GB r)(w:WF r.er)(hc:zf e.er=0)(hu:e.kind≠mT)(jD:∀v∈e.values.getD [],0≤v):gV (Jt r e) (after (qe .i64) r.er e.er):=by
 obtain⟨_,f,h1,iy,oU⟩:=Js hc
 have hm:(e.kind,f.1,f.2)∈dB:=by
  unfold yt at h1
  cases hf:dB.find? (fun x=>decide (x.1=e.er.kind))with
  |none=>rw[hf]at h1;cases h1
  |some x=>
   rw[hf]at h1
   have h2:=List.find?_some hf
   have h3:=List.mem_of_find?_eq_some hf
   have h4:x.1=e.kind:=of_decide_eq_true h2
   have h5:x.2=f:=by simpa using h1
   rw[←h4,←h5];exact h3
 have gR:∃v0 t,e.values.getD []=v0::t:=by
  have:(e.values.getD []).length=f.2:=oU
  cases hv:e.values.getD []with
  |cons v t=>exact⟨v,t,rfl⟩
  |nil=>
   rw[hv]at this
   simp only[dB,List.mem_cons,Prod.mk.injEq,List.not_mem_nil,or_false]at hm
   simp only[List.length_nil]at this
   rcases hm with h|h|h|h|h|h|h|h|h|h|h|h|h|h|h<;>first|(exfalso;omega)|exact absurd h.1 hu
 obtain⟨v0,t,hv⟩:=gR
 unfold Jt after
 rw[ig hv,vl0 hv]
 simp only[qa]
 by_cases hd:v0<r.day
 ·rw[decide_eq_true hd,if_pos (show v0<r.er.day from hd)]
  exact⟨_,_,rfl,rfl,by decide⟩
 rw[decide_eq_false hd,if_neg (show ¬v0<r.er.day from hd)]
 have Af:e.kind∈dB.map (·.1):=List.mem_map_of_mem (f:=(·.1)) hm
 simp only[dB,List.map_cons,List.map_nil,List.mem_cons,List.mem_singleton,List.not_mem_nil,or_false]at Af
 have nk:∀ {k k':List UInt8},e.kind=k→decide (k=k')=I→decide (e.kind=k')=I:=by
  intro k k' h h2;rw[h];exact h2
 have yk:∀ {k:List UInt8},e.kind=k→decide (e.kind=k)=Gq:=fun h=>decide_eq_true h
 simp only[cond_false]
 rcases Af with h|h|h|h|h|h|h|h|h|h|h|h|h|h|h
 ·have q:=oI (v0:=v0) (j26 b h hc)
  rw[show decide (e.kind=([108,111,116]:List UInt8))=Gq from yk h]
  exact q
 ·have q:=oI (v0:=v0) (je8 b h hc)
  rw[show decide (e.kind=([108,111,116]:List UInt8))=I from nk h rfl,show decide (e.kind=([112,114,111,100,117,99,116]:List UInt8))=Gq from yk h]
  exact q
 ·have q:=oI (v0:=v0) (X2 b w (.inl rfl) h hc jD)
  rw[show decide (e.kind=([108,111,116]:List UInt8))=I from nk h rfl,show decide (e.kind=([112,114,111,100,117,99,116]:List UInt8))=I from nk h rfl,show decide (e.kind=([98,117,105,108,100]:List UInt8))=I from nk h rfl,show decide (e.kind=([110,101,101,100]:List UInt8))=Gq from yk h]
  exact q
 ·have q:=oI (v0:=v0) (X2 b w (.inr (.inl rfl)) h hc jD)
  rw[show decide (e.kind=([108,111,116]:List UInt8))=I from nk h rfl,show decide (e.kind=([112,114,111,100,117,99,116]:List UInt8))=I from nk h rfl,show decide (e.kind=([98,117,105,108,100]:List UInt8))=I from nk h rfl,show decide (e.kind=([110,101,101,100]:List UInt8))=I from nk h rfl,show decide (e.kind=([116,101,115,116]:List UInt8))=Gq from yk h]
  exact q
 ·have q:=oI (v0:=v0) (X2 b w (.inr (.inr rfl)) h hc jD)
  rw[show decide (e.kind=([108,111,116]:List UInt8))=I from nk h rfl,show decide (e.kind=([112,114,111,100,117,99,116]:List UInt8))=I from nk h rfl,show decide (e.kind=([98,117,105,108,100]:List UInt8))=I from nk h rfl,show decide (e.kind=([110,101,101,100]:List UInt8))=I from nk h rfl,show decide (e.kind=([116,101,115,116]:List UInt8))=I from nk h rfl,show decide (e.kind=([105,115,115,117,101]:List UInt8))=Gq from yk h]
  exact q
 ·have q:=oI (v0:=v0) (jpl b h hc)
  rw[show decide (e.kind=([108,111,116]:List UInt8))=I from nk h rfl,show decide (e.kind=([112,114,111,100,117,99,116]:List UInt8))=I from nk h rfl,show decide (e.kind=([98,117,105,108,100]:List UInt8))=Gq from yk h]
  exact q
 all_goals try rw[show decide (e.kind=([108,111,116]:List UInt8))=I from nk h rfl,show decide (e.kind=([112,114,111,100,117,99,116]:List UInt8))=I from nk h rfl,show decide (e.kind=([98,117,105,108,100]:List UInt8))=I from nk h rfl,show decide (e.kind=([110,101,101,100]:List UInt8))=I from nk h rfl,show decide (e.kind=([116,101,115,116]:List UInt8))=I from nk h rfl,show decide (e.kind=([105,115,115,117,101]:List UInt8))=I from nk h rfl]
 ·rw[show decide (e.kind=([104,111,108,100]:List UInt8))=I from nk h rfl,show decide (e.kind=([102,114,101,101]:List UInt8))=I from nk h rfl]
  exact oI (v0:=v0) (Fy b w (by simp) h hc)
 ·rw[show decide (e.kind=([104,111,108,100]:List UInt8))=I from nk h rfl,show decide (e.kind=([102,114,101,101]:List UInt8))=I from nk h rfl]
  exact oI (v0:=v0) (Fy b w (by simp) h hc)
 ·rw[show decide (e.kind=([104,111,108,100]:List UInt8))=I from nk h rfl,show decide (e.kind=([102,114,101,101]:List UInt8))=I from nk h rfl]
  exact oI (v0:=v0) (Fy b w (by simp) h hc)
 ·rw[show decide (e.kind=([104,111,108,100]:List UInt8))=I from nk h rfl,show decide (e.kind=([102,114,101,101]:List UInt8))=I from nk h rfl]
  exact oI (v0:=v0) (Fy b w (by simp) h hc)
 ·rw[show decide (e.kind=([104,111,108,100]:List UInt8))=Gq from yk h]
  exact oI (v0:=v0) (jf3 b Gq h hc)
 ·rw[show decide (e.kind=([104,111,108,100]:List UInt8))=I from nk h rfl,show decide (e.kind=([102,114,101,101]:List UInt8))=Gq from yk h]
  exact oI (v0:=v0) (jf3 b I h hc)
 ·rw[show decide (e.kind=([104,111,108,100]:List UInt8))=I from nk h rfl,show decide (e.kind=([102,114,101,101]:List UInt8))=I from nk h rfl]
  exact oI (v0:=v0) (Fy b w (by simp) h hc)
 ·rw[show decide (e.kind=([104,111,108,100]:List UInt8))=I from nk h rfl,show decide (e.kind=([102,114,101,101]:List UInt8))=I from nk h rfl]
  exact oI (v0:=v0) (Fy b w (by simp) h hc)
 ·exact absurd h hu
end Go.Z
namespace Go.Z
open Go Go.Abs Go.W
def Ju (s:List UInt8):Bool:=decide (s≠[])&&decide (s.length≤24)&&vX 0 s
theorem qpo {s:List UInt8}{i c}(hc:s[i]?=Ey c):vX i (s.drop i)=(pn i c.toNat&&vX (i+1) (s.drop (i+1))):=by
 rw[rW hc];rfl
theorem jw0 {s:List UInt8}:f90 s=Ey (Ju s):=by
 unfold f90 Ju
 by_cases h0:s=[]
 ·subst h0;rfl
 have hl:¬((s.length:Int)=0):=by
  intro h
  exact h0 (List.eq_nil_of_length_eq_zero (by omega))
 by_cases h1:(24:Int)<s.length
 ·have h2:¬s.length≤24:=by omega
  simp[hl,h0,h1,h2]
 ·have h2:s.length≤24:=by omega
  obtain⟨d,g1,g2⟩:=Ii s.length (fun i=>(i:Int)) (Ag s) (fun d=>match d with | .inl _=>I | .inr _=>Gq) (fun i=>vX i (s.drop i)) ⟨.inr _,by unfold Ag;rw[zr];rfl,by rw[List.drop_eq_nil_of_le (Nat.le_refl _)];rfl⟩ (fun i hi=>by
   obtain⟨c,hc⟩:∃c,s[i]?=Ey c:=⟨_,List.getElem?_eq_getElem hi⟩
   unfold Ag
   rw[qpo hc,ye hi,cond_true,jb hc,X9]
   simp only[jf4 hi (show s.length≤9223372036854775807 by omega)]
   unfold pn
   have hx:0≤(c.toNat:Int):=by omega
   generalize (c.toNat:Int)=x at hx ⊢
   by_cases z:i=0
   ·subst z
    rcases kinds x with h|h|h|h|h|h|h|h|h <;>
     simp (disch:=omega) only[decide_eq_true,decide_eq_false,cond_true,cond_false,Gs,Gt,Gw,Gv,Gp,Gn] <;>
     first
      |exact .inl ⟨trivial,trivial⟩
      |exact .inl ⟨rfl,trivial⟩
      |exact .inl ⟨rfl,rfl⟩
      |exact .inr ⟨_,rfl,rfl⟩
   ·rcases kinds x with h|h|h|h|h|h|h|h|h <;>
     simp (disch:=omega) only[decide_eq_true,decide_eq_false,cond_true,cond_false,Gs,G0,Gt,Gw,Gv,Gp,Gn] <;>
     first
      |exact .inl ⟨trivial,trivial⟩
      |exact .inl ⟨rfl,trivial⟩
      |exact .inl ⟨rfl,rfl⟩
      |exact .inr ⟨_,rfl,rfl⟩)
  have g1:bm (Ag s) 0=Ey d:=g1
  rw[decide_eq_false hl,cond_false,decide_eq_false h1,cond_false,g1,X9]
  simp only[h0,h2,ne_eq,not_false_eq_true,decide_true,Gp]
  rw[List.drop_zero]at g2
  rw[←g2]
  cases d<;>rfl
theorem qun {s i c}(hc:s[i]?=Ey c):(c.toNat<128∧ql s i=(c.toNat,1))∨(128≤c.toNat∧128≤(ql s i).1):=by
 by_cases h:c.toNat<128
 ·exact .inl ⟨h,jgn hc h⟩
 ·exact .inr ⟨by omega,jel hc h⟩
theorem q0l {i x}(h:128≤x):pn i x=I:=by
 unfold pn
 simp (disch:=omega) only[decide_eq_false,Bool.or_self,Gy]
def zlx:Nat→Option Nat
 |0=>none
 |i+1=>Ey (i+1)
theorem jfk {s:List UInt8}:f81 s=Ey (Ju s):=by
 unfold f81
 obtain⟨d,g1,g2⟩:=Ii s.length zlx (Jv s) (fun d=>match d with | .inl _=>I | .inr _=>Gq) (fun i=>vX i (s.drop i)) (by
   rw[List.drop_eq_nil_of_le (Nat.le_refl _)]
   cases hn:s.length with
   |zero=>
    refine⟨.inr 0,?_,rfl⟩
    show Ah s=_
    unfold Ah
    rw[hn];rfl
   |succ n=>
    refine⟨.inr (n+1),?_,rfl⟩
    show Ai s (n+1)=_
    unfold Ai
    rw[hn,decide_eq_false (by omega)];rfl) (fun i hi=>by
   obtain⟨c,hc⟩:∃c,s[i]?=Ey c:=⟨_,List.getElem?_eq_getElem hi⟩
   rw[qpo hc]
   cases i with
   |zero=>
    show(Ah s=_∧_)∨(∃d,Ah s=_∧_)
    unfold Ah
    rw[decide_eq_true hi,cond_true]
    rcases qun hc with⟨br,he⟩|⟨vr,hr⟩
    ·rw[he]
     simp only[]
     have hx:0≤(c.toNat:Int):=by omega
     unfold pn
     generalize (c.toNat:Int)=x at hx ⊢
     rcases kinds x with h|h|h|h|h|h|h|h|h <;>
      simp (disch:=omega) only[decide_eq_true,decide_eq_false,cond_true,cond_false,Gs,Gt,Gw,Gv,Gp,Gn] <;>
      first
       |exact .inl ⟨trivial,trivial⟩
       |exact .inl ⟨rfl,trivial⟩
       |exact .inl ⟨rfl,rfl⟩
       |exact .inr ⟨_,rfl,rfl⟩
    ·rw[q0l (by omega)]
     generalize hd:ql s 0=dd at hr ⊢
     have jY:(128:Int)≤(dd.1:Int):=by omega
     generalize (dd.1:Int)=x at jY ⊢
     simp (disch:=omega) only[decide_eq_true,decide_eq_false,cond_true,cond_false,Gn]
     exact .inr ⟨_,rfl,rfl⟩
   |succ i=>
    show(Ai s (i+1)=_∧_)∨(∃d,Ai s (i+1)=_∧_)
    unfold Ai
    rw[decide_eq_true hi,cond_true]
    rcases qun hc with⟨br,he⟩|⟨vr,hr⟩
    ·rw[he]
     simp only[]
     have hx:0≤(c.toNat:Int):=by omega
     unfold pn
     generalize (c.toNat:Int)=x at hx ⊢
     have e0:decide (((i+1:Nat):Int)=0)=I:=decide_eq_false (by omega)
     rcases kinds x with h|h|h|h|h|h|h|h|h <;>
      simp (disch:=omega) only[e0,decide_eq_true,decide_eq_false,cond_true,cond_false,Gs,G0,Gt,Gw,Gv,Gp,Gn] <;>
      first
       |exact .inl ⟨trivial,trivial⟩
       |exact .inl ⟨rfl,trivial⟩
       |exact .inl ⟨rfl,rfl⟩
       |exact .inr ⟨_,rfl,rfl⟩
    ·rw[q0l (by omega)]
     generalize hd:ql s (i+1)=dd at hr ⊢
     have jY:(128:Int)≤(dd.1:Int):=by omega
     have e0:decide (((i+1:Nat):Int)=0)=I:=decide_eq_false (by omega)
     generalize (dd.1:Int)=x at jY ⊢
     simp (disch:=omega) only[e0,decide_eq_true,decide_eq_false,cond_true,cond_false,Gn]
     exact .inr ⟨_,rfl,rfl⟩)
 have g1:bm (Jv s) none=Ey d:=g1
 rw[g1,X9]
 unfold Ju
 rw[List.drop_zero]at g2
 cases d with
 |inl d=>simp only[]at g2;rw[←g2];simp
 |inr d=>
  simp only[]at g2
  rw[←g2]
  by_cases h0:s=[]
  ·subst h0;rfl
  ·have e:decide ((s.length:Int)≤24)=decide (s.length≤24):=by by_cases h:s.length≤24<;>simp[h]<;>omega
   rw[e]
   simp[h0]
theorem q9p {c}:pn 0 (c.toNat:Int)=vY c:=by
 unfold pn vY
 have h:∀a b:Nat,(decide ((a:Int)≤(c.toNat:Int)∧(c.toNat:Int)≤(b:Int)))=(decide (a≤c.toNat)&&decide (c.toNat≤b)):=by
  intro a b
  by_cases h1:a≤c.toNat<;>by_cases h2:c.toNat≤b<;>simp[h1,h2]<;>omega
 rw[show(65:Int)=((65:Nat):Int)from rfl,show(90:Int)=((90:Nat):Int)from rfl,show(97:Int)=((97:Nat):Int)from rfl,show(122:Int)=((122:Nat):Int)from rfl,h,h]
 simp
theorem jt3 {c i}:pn (i+1) (c.toNat:Int)=(vY c||FA c):=by
 rw[←q9p]
 unfold pn FA
 have h:(decide ((48:Int)≤(c.toNat:Int)∧(c.toNat:Int)≤(57:Int)))=(decide (48≤c.toNat)&&decide (c.toNat≤57)):=by
  by_cases h1:48≤c.toNat<;>by_cases h2:c.toNat≤57<;>simp[h1,h2]<;>omega
 have h3:decide ((c.toNat:Int)=95)=decide (c.toNat=95):=by
  by_cases h1:c.toNat=95
  ·rw[decide_eq_true h1];exact decide_eq_true (by omega)
  ·rw[decide_eq_false h1];exact decide_eq_false (by omega)
 rw[h,h3]
 simp
theorem q2z:∀ (s:List UInt8) (i:Nat),vX (i+1) s=s.all fun c=>vY c||FA c
 | [],_=>rfl
 |c::s,i=>by
  show(pn (i+1) c.toNat&&vX (i+1+1) s)=_
  rw[jt3,q2z s (i+1)];rfl
theorem Ya {s}:Ju s=Go.W.cG s:=by
 cases s with
 |nil=>rfl
 |cons c t=>
  show(decide (c::t≠[])&&decide ((c::t).length≤24)&&(pn 0 c.toNat&&vX 1 t))=(vY c&&t.all (fun c=>vY c||FA c)&&decide ((c::t).length≤24))
  rw[q9p,q2z t 0,show decide (c::t≠[])=Gq from decide_eq_true (by simp)]
  cases vY c<;>cases t.all (fun c=>vY c||FA c)<;>cases decide ((c::t).length≤24)<;>rfl
variable {e:GEv}
theorem jpy {s}:FB s=Ey (if Go.W.cG s then 0 else 8):=by
 unfold FB
 rw[jfk,Ya]
 simp only[qa,kI]
 cases Go.W.cG s<;>rfl
theorem Yb {α:Type}{p c}(hc:c≠0):∀l:List α,ie (l.map fun x=>if p x then 0 else c)=if l.all p then 0 else c
 | []=>rfl
 |x::l=>by
  rw[List.map_cons,List.all_cons]
  cases p x with
  |true=>simp only[if_true,ie,Gp];exact Yb hc l
  |false=>simp[ie,hc]
theorem q8l {o}(hl:(o.getD []).length≤SM):f46 o=Ey (ie (o.getD [])):=by
 cases o with
 |none=>exact jH (l:=[]) (Nat.zero_le _)
 |some l=>exact jH hl
theorem jrc {o}(hl:(o.getD []).length≤SM):∃w,Jw o=Ey (jl ((o.getD []).map fun s=>if Go.W.cG s then 0 else 8),w):=by
 unfold Jw
 rw[Iy (f:=Jx o) (l:=o.getD []) (g:=fun s=>if Go.W.cG s then(0:Int)else 8) (q:=FB) hl (fun x _=>jpy) (fun s=>rfl)]
 exact⟨_,rfl⟩
def sj (n:Int):Bool:=decide (0≤n)&&decide (n≤999999999)
theorem jrz {n}:FC n=Ey (if sj n then 0 else 3):=by
 unfold FC
 rw[Ny]
 simp only[qa]
 unfold sj
 by_cases h1:n<0
 ·rw[if_pos (Or.inl h1),decide_eq_false (by omega)];rfl
 ·by_cases h2:999999999<n
  ·rw[if_pos (Or.inr h2),decide_eq_true (by omega),decide_eq_false (by omega)];rfl
  ·rw[if_neg (by omega),decide_eq_true (by omega),decide_eq_true (by omega)];rfl
theorem jp8 {o}(hl:(o.getD []).length≤SM):∃w,Jy o=Ey (jl ((o.getD []).map fun s=>if sj s then 0 else 3),w):=by
 unfold Jy
 rw[Iy (f:=Jz o) (l:=o.getD []) (g:=fun s=>if sj s then(0:Int)else 3) (q:=FC) hl (fun x _=>jrz) (fun s=>rfl)]
 exact⟨_,rfl⟩
theorem jb5:∀ (k:List UInt8),ph k=none∧yt k=none∨∃f,ph k=Ey f∧yt k=Ey (f.2.1.length,f.2.2.1.toNat)∧0≤f.2.2.1:=by
 intro k
 unfold ph yt iV dB
 simp only[List.find?_cons,List.find?_nil,eq_comm (a:=k)]
 by_cases h1:kH=k
 ·simp[h1]
 by_cases h2:nL=k
 ·simp[h1,h2]
 by_cases h3:mQ=k
 ·simp[h1,h2,h3]
 by_cases h4:nM=k
 ·simp[h1,h2,h3,h4]
 by_cases h5:pW=k
 ·simp[h1,h2,h3,h4,h5]
 by_cases h6:mR=k
 ·simp[h1,h2,h3,h4,h5,h6]
 by_cases h7:mS=k
 ·simp[h1,h2,h3,h4,h5,h6,h7]
 by_cases h8:pg=k
 ·simp[h1,h2,h3,h4,h5,h6,h7,h8]
 by_cases h9:pX=k
 ·simp[h1,h2,h3,h4,h5,h6,h7,h8,h9]
 by_cases l8:nO=k
 ·simp[h1,h2,h3,h4,h5,h6,h7,h8,h9,l8]
 by_cases oJ:oB=k
 ·simp[h1,h2,h3,h4,h5,h6,h7,h8,h9,l8,oJ]
 by_cases l9:rX=k
 ·simp[h1,h2,h3,h4,h5,h6,h7,h8,h9,l8,oJ,l9]
 by_cases vZ:kw=k
 ·simp[h1,h2,h3,h4,h5,h6,h7,h8,h9,l8,oJ,l9,vZ]
 by_cases po:zQ=k
 ·simp[h1,h2,h3,h4,h5,h6,h7,h8,h9,l8,oJ,l9,vZ,po]
 by_cases wc:mT=k
 ·simp[h1,h2,h3,h4,h5,h6,h7,h8,h9,l8,oJ,l9,vZ,po,wc]
 ·simp[h1,h2,h3,h4,h5,h6,h7,h8,h9,l8,oJ,l9,vZ,po,wc]
theorem jxf (h1:(e.names.getD []).length≤SM)(h2:(e.values.getD []).length≤SM):f47 e=Ey (zf e.er):=by
 obtain⟨w1,g1⟩:=jrc h1
 obtain⟨w2,g2⟩:=jp8 h2
 have q1:f46 (jl ((e.names.getD []).map fun s=>if Go.W.cG s then(0:Int)else 8))=Ey (if(e.names.getD []).all Go.W.cG then 0 else 8):=by
  rw[q8l (by rw[j8,List.length_map];exact h1),j8,Yb (by decide)]
 have q2:f46 (jl ((e.values.getD []).map fun s=>if sj s then(0:Int)else 3))=Ey (if(e.values.getD []).all sj then 0 else 3):=by
  rw[q8l (by rw[j8,List.length_map];exact h2),j8,Yb (by decide)]
 unfold f47
 simp only[Ny,kI,qa,g1,g2,q1,q2]
 rw[jH (by simp[SM])]
 simp only[]
 rw[jH (by simp[SM])]
 unfold zf
 rw[show e.er.number=e.number from rfl,show e.er.kind=e.kind from rfl,show e.er.names=e.names.getD []from rfl,show e.er.values=e.values.getD []from rfl,show e.er.text=e.text from rfl,show(fun n=>decide (0≤n)&&decide (n≤999999999))=sj from rfl]
 by_cases c1:e.number<1∨1000<e.number
 ·rw[if_pos c1,if_pos c1];rfl
 rw[if_neg c1,if_neg c1]
 rcases jb5 e.kind with⟨c2,dj⟩|⟨f,c2,dj,fm⟩
 ·rw[dj]
  simp only[E7,zc,nP,c2]
  simp[ie]
 rw[dj]
 simp only[E7,zc,nP,c2,Option.isSome_some,Bool.not_true,Gz,if_false]
 by_cases dA:(e.names.getD []).length≠f.2.1.length∨(e.values.getD []).length≠f.2.2.1.toNat
 ·have:(!(decide (((e.names.getD []).length:Int)=(f.2.1.length:Int))&&decide (((e.values.getD []).length:Int)=f.2.2.1)))=Gq:=by
   rcases dA with dA|dA
   ·rw[decide_eq_false (by omega)];rfl
   ·rw[decide_eq_false (p:=((e.values.getD []).length:Int)=f.2.2.1) (by omega),Gy];rfl
  rw[this,if_pos dA]
  rfl
 ·have:(!(decide (((e.names.getD []).length:Int)=(f.2.1.length:Int))&&decide (((e.values.getD []).length:Int)=f.2.2.1)))=I:=by
   rw[decide_eq_true (by omega),decide_eq_true (p:=((e.values.getD []).length:Int)=f.2.2.1) (by omega)];rfl
  rw[this,if_neg dA]
  simp only[ie,Gz,if_false,if_true,decide_true,cond_true]
  cases (e.names.getD []).all Go.W.cG<;>cases (e.values.getD []).all sj<;>by_cases en:e.text=[]<;>simp[en]
end Go.Z
namespace Go.Z
open Go Go.Abs Go.W
variable {e:GEv}
theorem js4:∀ (k:List UInt8),(f89 k=Ey ⟨0,0,I⟩∧yt k=none)∨∃a b:Nat,f89 k=Ey ⟨(a:Int),(b:Int),Gq⟩∧yt k=Ey (a,b):=by
 intro k
 by_cases h1:k=kH
 ·subst h1;exact .inr ⟨2,2,rfl,rfl⟩
 by_cases h2:k=nL
 ·subst h2;exact .inr ⟨1,1,rfl,rfl⟩
 by_cases h3:k=pW
 ·subst h3;exact .inr ⟨1,1,rfl,rfl⟩
 by_cases h4:k=pX
 ·subst h4;exact .inr ⟨1,1,rfl,rfl⟩
 by_cases h5:k=oB
 ·subst h5;exact .inr ⟨1,1,rfl,rfl⟩
 by_cases h6:k=rX
 ·subst h6;exact .inr ⟨1,1,rfl,rfl⟩
 by_cases h7:k=kw
 ·subst h7;exact .inr ⟨1,1,rfl,rfl⟩
 by_cases h8:k=zQ
 ·subst h8;exact .inr ⟨1,1,rfl,rfl⟩
 by_cases h9:k=mQ
 ·subst h9;exact .inr ⟨2,2,rfl,rfl⟩
 by_cases l8:k=mS
 ·subst l8;exact .inr ⟨2,2,rfl,rfl⟩
 by_cases oJ:k=pg
 ·subst oJ;exact .inr ⟨2,2,rfl,rfl⟩
 by_cases l9:k=nM
 ·subst l9;exact .inr ⟨2,3,rfl,rfl⟩
 by_cases vZ:k=mR
 ·subst vZ;exact .inr ⟨2,1,rfl,rfl⟩
 by_cases po:k=nO
 ·subst po;exact .inr ⟨2,1,rfl,rfl⟩
 by_cases wc:k=mT
 ·subst wc;exact .inr ⟨0,0,rfl,rfl⟩
 refine .inl ⟨?_,?_⟩
 ·unfold f89
  simp only[decide_eq_false (p:=k=([108,111,116]:List UInt8)) h1,decide_eq_false (p:=k=([112,114,111,100,117,99,116]:List UInt8)) h2,decide_eq_false (p:=k=([105,115,115,117,101]:List UInt8)) h3,decide_eq_false (p:=k=([117,112,100,97,116,101]:List UInt8)) h4,decide_eq_false (p:=k=([104,111,108,100]:List UInt8)) h5,decide_eq_false (p:=k=([102,114,101,101]:List UInt8)) h6,decide_eq_false (p:=k=([115,104,105,112]:List UInt8)) h7,decide_eq_false (p:=k=([99,111,109,112,108,97,105,110]:List UInt8)) h8,decide_eq_false (p:=k=([110,101,101,100]:List UInt8)) h9,decide_eq_false (p:=k=([117,115,101]:List UInt8)) l8,decide_eq_false (p:=k=([109,101,97,115,117,114,101]:List UInt8)) oJ,decide_eq_false (p:=k=([116,101,115,116]:List UInt8)) l9,decide_eq_false (p:=k=([98,117,105,108,100]:List UInt8)) vZ,decide_eq_false (p:=k=([112,97,105,114]:List UInt8)) po,decide_eq_false (p:=k=([117,110,100,111]:List UInt8)) wc,cond_false]
 ·unfold yt dB
  simp[List.find?_cons,En h1,En h2,En h3,En h4,En h5,En h6,En h7,En h8,En h9,En l8,En oJ,En l9,En vZ,En po,En wc]
theorem jqr {s}:f90 s=Ey (Go.W.cG s):=by rw[jw0,Ya]
theorem q5g {α:Type}{l:List α}{p:α→Bool}{f:Int→Option (Int⊕(Unit⊕Int))}{n}(hn:n=(l.length:Int))(hl:l.length≤SM)
  (dD:f n=Ey (.inr (.inr n))) (hf:∀(i:Nat) x,l[i]?=Ey x→i<l.length→f (i:Int)=Ey (if p x then .inl (qe .i64 ((i:Int)+1))else .inr (.inl ()))):
  ∃d,bm f 0=Ey d∧(match d with | .inl _=>I | .inr _=>Gq)=l.all p:=by
 subst hn
 obtain⟨d,h1,h2⟩:=Xw l f p (fun d=>match d with | .inl _=>I | .inr _=>Gq) ⟨_,dD,rfl⟩ (fun i x hx hi=>by
  have h3:=hf i x hx hi
  cases hp:p x with
  |true=>rw[hp,yh (by unfold SM at hl;omega)]at h3;exact .inl ⟨rfl,h3⟩
  |false=>rw[hp]at h3;exact .inr ⟨rfl,_,h3,rfl⟩)
 exact⟨d,h1,h2⟩
theorem juh (h1:(e.names.getD []).length≤SM)(h2:(e.values.getD []).length≤SM):f33 e=Ey (zf e.er):=by
 unfold f33 zf
 rw[X0]
 simp only[qa]
 rw[show e.er.number=e.number from rfl,show e.er.kind=e.kind from rfl,show e.er.names=e.names.getD []from rfl,show e.er.values=e.values.getD []from rfl,show e.er.text=e.text from rfl,show(fun n=>decide (0≤n)&&decide (n≤999999999))=sj from rfl]
 by_cases c1:e.number<1∨1000<e.number
 ·rw[decide_eq_true c1,if_pos c1];rfl
 rw[decide_eq_false c1,if_neg c1]
 simp only[cond_false]
 rcases js4 e.kind with⟨c2,dj⟩|⟨a,b,c2,dj⟩
 ·rw[c2,dj];rfl
 rw[c2,dj]
 simp only[cond_true]
 by_cases dA:(e.names.getD []).length=a
 case neg=>rw[decide_eq_false (by omega),if_pos (.inl dA)];rfl
 by_cases en:(e.values.getD []).length=b
 case neg=>rw[decide_eq_true (by omega),decide_eq_false (p:=((e.values.getD []).length:Int)=(b:Int)) (by omega),if_pos (.inr en)];rfl
 rw[decide_eq_true (by omega),decide_eq_true (p:=((e.values.getD []).length:Int)=(b:Int)) (by omega),if_neg (by omega)]
 simp only[cond_true]
 obtain⟨d,g1,g2⟩:=q5g (l:=e.names.getD []) (p:=Go.W.cG) (f:=Ct e ⟨(a:Int),(b:Int),Gq⟩) (n:=(a:Int)) (by omega) h1 (by unfold Ct;simp only[zr];rfl) (fun i x hx hi=>by
  unfold Ct
  simp only[show decide ((i:Int)<(a:Int))=Gq from decide_eq_true (by omega),cond_true,qa,jb hx,jqr]
  cases Go.W.cG x<;>rfl)
 obtain⟨d2,g3,g4⟩:=q5g (l:=e.values.getD []) (p:=sj) (f:=Cu e ⟨(a:Int),(b:Int),Gq⟩) (n:=(b:Int)) (by omega) h2 (by unfold Cu;simp only[zr];rfl) (fun i x hx hi=>by
  unfold Cu
  simp only[show decide ((i:Int)<(b:Int))=Gq from decide_eq_true (by omega),cond_true,qa,jb hx,X0]
  unfold sj
  by_cases k1:x<0
  ·rw[decide_eq_true (Or.inl k1),decide_eq_false (p:=0≤x) (by omega)];rfl
  ·by_cases k2:999999999<x
   ·rw[decide_eq_true (Or.inr k2),decide_eq_false (p:=x≤999999999) (by omega),Gy];rfl
   ·rw[decide_eq_false (p:=x<0∨999999999<x) (by omega),decide_eq_true (p:=0≤x) (by omega),decide_eq_true (p:=x≤999999999) (by omega)];rfl)
 rw[g1,←g2,←g4]
 cases d with
 |inl d=>rfl
 |inr d=>
  simp only[]
  rw[g3]
  cases d2 with
  |inl d2=>rfl
  |inr d2=>
   by_cases nf:e.text=[]
   ·rw[decide_eq_true nf];simp[nf]
   ·rw[decide_eq_false nf];simp[nf]
end Go.Z
