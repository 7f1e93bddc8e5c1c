/- Chapter 10, plain. -/
import Derived.Test.YtfopaakmgogpiaaGreatDoorE1
import Derived.Test.YtfopaakmgogpiaaGreatDoorV8
set_option linter.unusedVariables false
set_option linter.unusedSimpArgs false
set_option maxRecDepth 100000
open Option renaming some→I,getD_some→El,isSome_iff_exists→E6,any_some→Hv
open Bool renaming false_eq_true→Eh,true_and→Eo,and_true→Ev,true→E5,false→E7,not_true→Gh,not_false→Gx,and_eq_true→Hb
open List renaming mem_of_getElem?→En,length_map→Ga,getElem?_map→Gb,map_cons→Gc,length_cons→Gi,map_nil→Gk,map_set→Gl,map_append→Gm,length_nil→Gn,length_singleton→Gp,mem_map_of_mem→Ha
namespace Go.Z
open Go Go.Abs Go.W
abbrev BB:Nat:=1000000
structure GB (r:qc):Prop where
 L:(r.aq.getD []).length≤BB
 P:(r.ae.getD []).length≤BB
 U:(r.units.getD []).length≤BB
 D:∀p∈r.ae.getD [],(p.aO.getD []).length≤BB∧(p.dn.getD []).length≤BB∧(p.dt.getD []).length≤BB∧∀d∈p.aO.getD [],(d.aF.getD []).length≤BB∧(d.aB.getD []).length≤BB
 N:∀u∈r.units.getD [],(u.uses.getD []).length≤BB∧(u.results.getD []).length≤BB
theorem z7 {n:Nat}(h:n≤BB):n≤SM:=by unfold BB at h;unfold SM;omega
theorem l7 {n:Nat}(h:n≤BB):n<SM:=by unfold BB at h;unfold SM;omega
def mV (x:Option (Int×qc))(y:ou):Prop:=∃c r',x=I (c,r')∧match y with
 | .error k=>c=k∧k≠0
 | .ok s=>c=0∧r'.er=s
variable {r:qc}{e:ql}
theorem NB {a lo hi:Int}:f52 a lo hi=I (if a<lo∨hi<a then 3 else 0):=by
 unfold f52
 by_cases h1:a<lo
 ·simp[h1,iN,jx]
 ·by_cases h2:hi<a<;>simp[h1,h2,iN,jx]
theorem jA {k:Nat}:dC (I k)=(k:Int):=rfl
theorem vW {o:Option Nat}:decide (0≤dC o)=o.isSome:=uR o
theorem Hq {n:List UInt8}{k:Nat}(h:y9 r.er n=I k):∃x,(r.aq.getD [])[k]?=I x∧x.name=n:=by
 obtain⟨x,h1,h2,_⟩:=bG h
 exact⟨x,h1,of_decide_eq_true h2⟩
theorem Ea {n:List UInt8}{k:Nat}(h:ku r.er n=I k):∃p,(r.ae.getD [])[k]?=I p∧p.name=n∧r.er.ae[k]?=I p.er:=by
 rw[Nx]at h
 obtain⟨x,h1,h2,_⟩:=bG h
 exact⟨x,h1,of_decide_eq_true h2,by rw[xO,Gb,h1];rfl⟩
theorem ov {n:List UInt8}{k:Nat}(h:kh r.er n=I k):∃u,(r.units.getD [])[k]?=I u∧u.name=n∧r.er.units[k]?=I u.er:=by
 rw[U3]at h
 obtain⟨x,h1,h2,_⟩:=bG h
 exact⟨x,h1,of_decide_eq_true h2,by rw[xP,Gb,h1];rfl⟩
theorem gI {α:Type}{l:List α}{a:α}{t:List α}(h:l=a::t):zq l 0=I a:=by subst h;rfl
theorem gk {α:Type}{l:List α}{a b:α}{t:List α}(h:l=a::b::t):zq l 1=I b:=by subst h;rfl
theorem jpz {α:Type}{l:List α}{a b c:α}{t:List α}(h:l=a::b::c::t):zq l 2=I c:=by subst h;rfl
theorem eH {a:List UInt8}{t:List (List UInt8)}(h:e.names.getD []=a::t):nm e.er 0=a:=by unfold nm;rw[show e.er.names=e.names.getD []from rfl,h];rfl
theorem lF {a b:List UInt8}{t:List (List UInt8)}(h:e.names.getD []=a::b::t):nm e.er 1=b:=by unfold nm;rw[show e.er.names=e.names.getD []from rfl,h];rfl
theorem vl0 {a:Int}{t:List Int}(h:e.values.getD []=a::t):vl e.er 0=a:=by unfold vl;rw[show e.er.values=e.values.getD []from rfl,h];rfl
theorem uS {a b:Int}{t:List Int}(h:e.values.getD []=a::b::t):vl e.er 1=b:=by unfold vl;rw[show e.er.values=e.values.getD []from rfl,h];rfl
theorem vl2 {a b c:Int}{t:List Int}(h:e.values.getD []=a::b::c::t):vl e.er 2=c:=by unfold vl;rw[show e.er.values=e.values.getD []from rfl,h];rfl
theorem vX:r.er.aq=r.aq.getD []:=rfl
theorem qc.eta (r:qc):(⟨r.day,r.aq,r.ae,r.units⟩:qc)=r:=rfl
theorem a105 (b:GB r){n0 n1:List UInt8}{v0 v1:Int}(hk:e.kind=lY)(hn:e.names.getD []=[n0,n1])(hv:e.values.getD []=[v0,v1]):
  mV (eS 105 r e) (apply (j9 .i64) r.er e.er):=by
 have hR:apply (j9 .i64) r.er e.er=nJ r.er e.er:=by unfold apply;rw[if_pos (.inl hk)]
 rw[hR]
 unfold nJ
 rw[if_pos (show e.er.kind=lY from hk),eH hn,lF hn,uS hv,vX]
 have hA:eS 105 r e=jx (f105 e r.day r.aq r.ae r.units) fun v=>I (v.1,{ r with aq:=v.2.1 }):=rfl
 rw[hA]
 unfold f105
 simp only[qc.eta,gI hn,gk hn,gk hv,jx,xN (z7 b.L),iN,NB,vW]
 rw[iw (by simp[SM])]
 simp only[jkd (l7 b.L)]
 cases (y9 r.er n0).isSome with
 |true=>exact⟨_,_,rfl,rfl,by decide⟩
 |false=>
  by_cases h1:v1<1∨10000<v1
  ·simp only[Eh,if_false,h1,if_true,eN]
   exact⟨_,_,rfl,rfl,by decide⟩
  ·by_cases h2:64≤(r.aq.getD []).length
   ·have oe:decide (64≤((r.aq.getD []).length:Int))=E5:=dT (by omega)
    simp only[Eh,if_false,h1,h2,oe,if_true,eN]
    exact⟨_,_,rfl,rfl,by decide⟩
   ·have oe:decide (64≤((r.aq.getD []).length:Int))=E7:=dF (by omega)
    simp only[Eh,if_false,h1,h2,oe,if_true,eN]
    exact⟨_,_,rfl,rfl,rfl⟩
theorem qwg {o:Option (List qn)}{p:qn}(h:o=I (r.ae.getD []++[p])):({ r with ae:=o }:qc).er={ r.er with ae:=r.er.ae++[p.er] }:=by
 subst h
 simp only[qc.er,El,Gm,Gc,Gk]
theorem qw0 {o:Option (List qe)}{p:qe}(h:o=I (r.units.getD []++[p])):({ r with units:=o }:qc).er={ r.er with units:=r.er.units++[p.er] }:=by
 subst h
 simp only[qc.er,El,Gm,Gc,Gk]
theorem Eb {o:Option (List qn)}{p:qn}{k:Nat}(h:o=I ((r.ae.getD []).set k p)):({ r with ae:=o }:qc).er=bA r.er k p.er:=by
 subst h
 simp only[qc.er,bA,El,Gl]
theorem xV {o:Option (List qe)}{p:qe}{k:Nat}(h:o=I ((r.units.getD []).set k p)):({ r with units:=o }:qc).er=aw r.er k p.er:=by
 subst h
 simp only[qc.er,aw,El,Gl]
theorem NC {o:Option (List qj)}{p:qj}{k:Nat}(h:o=I ((r.aq.getD []).set k p)):({ r with aq:=o }:qc).er=b6 r.er k p:=by
 subst h
 simp only[qc.er,b6,El]
theorem zfh (b:GB r){n0:List UInt8}{v0:Int}(hk:e.kind=mR)(hn:e.names.getD []=[n0])(hv:e.values.getD []=[v0]):
  mV (eS 106 r e) (apply (j9 .i64) r.er e.er):=by
 have hR:apply (j9 .i64) r.er e.er=nJ r.er e.er:=by unfold apply;rw[if_pos (.inr (.inl hk))]
 rw[hR]
 unfold nJ
 rw[if_neg (show ¬e.er.kind=lY from fun h=>by rw[show e.er.kind=e.kind from rfl,hk]at h;exact absurd h (by decide)),if_pos (show e.er.kind=mR from hk),eH hn]
 have hA:eS 106 r e=jx (f106 e r.day r.aq r.ae r.units) fun v=>I (v.1,{ r with ae:=v.2.1 }):=rfl
 rw[hA]
 unfold f106
 simp only[qc.eta,gI hn,jx,uQ (z7 b.P),iN,vW]
 rw[iw (by simp[SM])]
 simp only[jmb (l7 b.P)]
 have hl:r.er.ae.length=(r.ae.getD []).length:=by rw[xO,Ga]
 rw[hl]
 cases (ku r.er n0).isSome with
 |true=>exact⟨_,_,rfl,rfl,by decide⟩
 |false=>
  by_cases h2:16≤(r.ae.getD []).length
  ·have oe:decide (16≤((r.ae.getD []).length:Int))=E5:=dT (by omega)
   simp only[Eh,if_false,h2,oe,if_true,eN]
   exact⟨_,_,rfl,rfl,by decide⟩
  ·have oe:decide (16≤((r.ae.getD []).length:Int))=E7:=dF (by omega)
   simp only[Eh,if_false,h2,oe,if_true,eN]
   exact⟨_,_,rfl,rfl,qwg rfl⟩
theorem zga (b:GB r){n0 n1:List UInt8}{v0:Int}{k:Nat}(hk:e.kind=l0)(hn:e.names.getD []=[n0,n1])(hv:e.values.getD []=[v0])(hp:ku r.er n1=I k):
  mV (eS 110 r e) (apply (j9 .i64) r.er e.er):=by
 have hR:apply (j9 .i64) r.er e.er=nJ r.er e.er:=by unfold apply;rw[if_pos (.inr (.inr hk))]
 rw[hR]
 obtain⟨p,h1,_,h3⟩:=Ea hp
 have hpo:ia r.er n1=I p.er:=by unfold ia;rw[hp];exact h3
 unfold nJ
 rw[if_neg (show ¬e.er.kind=lY from fun h=>by rw[show e.er.kind=e.kind from rfl,hk]at h;exact absurd h (by decide)),if_neg (show ¬e.er.kind=mR from fun h=>by rw[show e.er.kind=e.kind from rfl,hk]at h;exact absurd h (by decide)),eH hn,lF hn,hpo]
 have hA:eS 110 r e=jx (f110 e r.day r.aq r.ae r.units) fun v=>I (v.1,{ r with units:=v.2.1 }):=rfl
 rw[hA]
 unfold f110 f182
 simp only[qc.eta,gI hn,gk hn,jx,uQ (z7 b.P),vT (z7 b.U),iN,vW,hp,jA,yb h1]
 rw[iw (by simp[SM])]
 simp only[jl1 (l7 b.U)]
 have hl:r.er.units.length=(r.units.getD []).length:=by rw[xP,Ga]
 have hd:p.er.aO.isEmpty=decide (((p.aO.getD []).length:Int)=0):=by
  show((p.aO.getD []).map qt.er).isEmpty=_
  cases p.aO.getD []with
  |nil=>rfl
  |cons x l=>simp;omega
 have oq:p.er.aO.length=(p.aO.getD []).length:=by show((p.aO.getD []).map qt.er).length=_;rw[Ga]
 simp only[hl,hd,oq]
 cases (kh r.er n0).isSome with
 |true=>exact⟨_,_,rfl,rfl,by decide⟩
 |false=>
  cases hz:decide (((p.aO.getD []).length:Int)=0)with
  |true=>exact⟨_,_,rfl,rfl,by decide⟩
  |false=>
   by_cases h2:256≤(r.units.getD []).length
   ·have oe:decide (256≤((r.units.getD []).length:Int))=E5:=dT (by omega)
    simp only[Eh,if_false,h2,oe,if_true,eN]
    exact⟨_,_,rfl,rfl,by decide⟩
   ·have oe:decide (256≤((r.units.getD []).length:Int))=E7:=dF (by omega)
    simp only[Eh,if_false,h2,oe,if_true,eN]
    exact⟨_,_,rfl,rfl,qw0 rfl⟩
theorem jm1 {p:qn}{c:Int}{n:List UInt8}(hl:(p.dn.getD []).length<SM):∃v,Hr c n n p=I { p with dn:=v }∧v.getD []=iZ (p.dn.getD []) n c:=by
 unfold Hr iZ
 by_cases h:c=0
 ·simp only[h,decide_true,cT,if_true,jm3 (Nat.le_of_lt hl),jx]
  exact⟨_,rfl,yq _⟩
 ·obtain⟨v,w,h1,h2⟩:=jl6 (x:=⟨n,c⟩) (k:=n) hl
  simp only[h,decide_false,cond_false,if_false,h1,jx]
  exact⟨_,rfl,h2⟩
theorem jde (b:GB r){n0 n1:List UInt8}{c:Int}{k:Nat}{p:qn}(hp:ku r.er n0=I k)(hx:(r.ae.getD [])[k]?=I p):∃v,AX n0 c n1 n1 r.day r.aq r.ae r.units=I (I ((r.ae.getD []).set k { p with dn:=v }))∧v.getD []=iZ (p.dn.getD []) n1 c:=by
 obtain⟨v,h1,h2⟩:=jm1 (c:=c) (n:=n1) (l7 (b.D p (En hx)).2.1)
 refine⟨v,?_,h2⟩
 unfold AX Vc
 simp only[qc.eta,uQ (z7 b.P),hp,jA,jx]
 rw[nI (z7 b.P) hx h1]
theorem jgg (b:GB r){n0:List UInt8}{t:qi}{k:Nat}{p:qn}(hp:ku r.er n0=I k)(hx:(r.ae.getD [])[k]?=I p):∃v,Ec n0 t t r.day r.aq r.ae r.units=I (I ((r.ae.getD []).set k { p with dt:=v }))∧v.getD []=eR (eg t.k) t (p.dt.getD []):=by
 obtain⟨v,w,h1,h2⟩:=jkq (x:=t) (s:=t) (o:=p.dt) (l7 (b.D p (En hx)).2.2.1)
 refine⟨v,?_,h2⟩
 unfold Ec Vd
 simp only[qc.eta,uQ (z7 b.P),hp,jA,jx]
 rw[nI (z7 b.P) hx (show Hs t t p=I { p with dt:=v } by unfold Hs;rw[h1];rfl)]
theorem ND {n0:List UInt8}{k:Nat}{p:qn}(hn:nm e.er 0=n0)(hp:ku r.er n0=I k)(h3:r.er.ae[k]?=I p.er):nK r.er e.er =
   if e.kind=lZ then
    (if vl e.er 1<0∨10000<vl e.er 1 then .error 3 else if 0<vl e.er 1∧!((p.dn.getD []).any (cO (nm e.er 1)))∧16≤(p.dn.getD []).length then .error 5 else
     .ok (bA r.er k { p.er with bJ:={ p.er.bJ with aF:=iZ (p.dn.getD []) (nm e.er 1) (vl e.er 1) } }))
   else if e.kind=mS then
    (if vl e.er 2<vl e.er 1 then .error 11 else if !((p.dt.getD []).any (eg (nm e.er 1)))∧16≤(p.dt.getD []).length then .error 5 else
     .ok (bA r.er k { p.er with bJ:={ p.er.bJ with aB:=eR (eg (nm e.er 1)) ⟨nm e.er 1,vl e.er 1,vl e.er 2⟩ (p.dt.getD []) } }))
   else(if(p.dn.getD []).isEmpty then .error 12 else if 100≤p.er.aO.length then .error 5 else .ok (bA r.er k { p.er with aO:=p.er.aO++[p.er.bJ] })):=by
 unfold nK
 rw[hn,hp]
 simp only[h3]
 rfl
theorem zc8 (b:GB r){n0 n1:List UInt8}{v0 v1:Int}{k:Nat}(hk:e.kind=lZ)(hn:e.names.getD []=[n0,n1])(hv:e.values.getD []=[v0,v1])(hp:ku r.er n0=I k):
  mV (eS 107 r e) (apply (j9 .i64) r.er e.er):=by
 have hR:apply (j9 .i64) r.er e.er=nK r.er e.er:=by
  unfold apply
  rw[show e.er.kind=lZ from hk,if_neg (by decide),if_pos (.inl rfl)]
 obtain⟨p,h1,_,h3⟩:=Ea hp
 rw[hR,ND (eH hn) hp h3,if_pos hk,lF hn,uS hv]
 have hA:eS 107 r e=jx (f107 e r.day r.aq r.ae r.units) fun v=>I (v.1,{ r with ae:=v.2 }):=rfl
 rw[hA]
 obtain⟨v,g1,g2⟩:=jde b (n1:=n1) (c:=v1) hp h1
 have zN:=(b.D p (En h1)).2.1
 have dh:({ r with ae:=I ((r.ae.getD []).set k { p with dn:=v }) }:qc).er=bA r.er k { p.er with bJ:={ p.er.bJ with aF:=iZ (p.dn.getD []) n1 v1 } }:=by
  rw[Eb rfl]
  congr 1
  simp only[qn.er,g2]
 unfold f107
 simp only[qc.eta,gI hn,gk hn,gk hv,jx,uQ (z7 b.P),hp,jA,yb h1,NB,iN,jhd (z7 zN),g1]
 by_cases hz:v1<0∨10000<v1
 ·simp only[hz,if_true,if_false,Eh]
  cases decide (0<v1)<;>cases (p.dn.getD []).any (cO n1)<;>(simp only[cT,cond_false];rw[iw (by simp[SM])];exact⟨_,_,rfl,rfl,by decide⟩)
 ·simp only[hz,if_false,if_true,Eh]
  by_cases h0:0<v1
  ·rw[dT h0]
   cases ha:(p.dn.getD []).any (cO n1)with
   |true=>
    simp only[cT,Gh,Eh,false_and,and_false,if_false]
    rw[iw (by simp[SM])]
    exact⟨_,_,rfl,rfl,dh⟩
   |false=>
    simp only[cT,cond_false,Gx,true_and,h0]
    rw[iw (by simp[SM])]
    by_cases h2:16≤(p.dn.getD []).length
    ·rw[show decide (16≤((p.dn.getD []).length:Int))=E5 from dT (by omega),if_pos h2]
     exact⟨_,_,rfl,rfl,by decide⟩
    ·rw[show decide (16≤((p.dn.getD []).length:Int))=E7 from dF (by omega),if_neg h2]
     exact⟨_,_,rfl,rfl,dh⟩
  ·rw[dF h0,if_neg (show ¬(0<v1∧(!(p.dn.getD []).any (cO n1))=E5∧16≤(p.dn.getD []).length)from fun h=>h0 h.1)]
   simp only[cond_false]
   rw[iw (by simp[SM])]
   exact⟨_,_,rfl,rfl,dh⟩
theorem zae (b:GB r){n0 n1:List UInt8}{v0 v1 v2:Int}{k:Nat}(hk:e.kind=mS)(hn:e.names.getD []=[n0,n1])(hv:e.values.getD []=[v0,v1,v2])(hp:ku r.er n0=I k):
  mV (eS 108 r e) (apply (j9 .i64) r.er e.er):=by
 have hR:apply (j9 .i64) r.er e.er=nK r.er e.er:=by
  unfold apply
  rw[show e.er.kind=mS from hk,if_neg (by decide),if_pos (.inr (.inl rfl))]
 obtain⟨p,h1,_,h3⟩:=Ea hp
 rw[hR,ND (eH hn) hp h3,if_neg (by rw[hk];decide),if_pos hk,lF hn,uS hv,vl2 hv]
 have hA:eS 108 r e=jx (f108 e r.day r.aq r.ae r.units) fun v=>I (v.1,{ r with ae:=v.2 }):=rfl
 rw[hA]
 obtain⟨v,g1,g2⟩:=jgg b (t:=⟨n1,v1,v2⟩) hp h1
 have zN:=(b.D p (En h1)).2.2.1
 have dh:({ r with ae:=I ((r.ae.getD []).set k { p with dt:=v }) }:qc).er=bA r.er k { p.er with bJ:={ p.er.bJ with aB:=eR (eg n1) ⟨n1,v1,v2⟩ (p.dt.getD []) } }:=by
  rw[Eb rfl]
  congr 1
  simp only[qn.er,g2]
 unfold f108
 simp only[qc.eta,gI hn,gk hn,gk hv,jpz hv,jx,uQ (z7 b.P),hp,jA,yb h1,iN,je3 (z7 zN),g1]
 by_cases hz:v2<v1
 ·rw[dT hz,if_pos hz]
  cases (p.dt.getD []).any (eg n1)<;>(simp only[cT,cond_false];rw[iw (by simp[SM])];exact⟨_,_,rfl,rfl,by decide⟩)
 ·rw[dF hz,if_neg hz]
  cases ha:(p.dt.getD []).any (eg n1)with
  |true=>
   simp only[cT,Gh,Eh,false_and,if_false]
   rw[iw (by simp[SM])]
   exact⟨_,_,rfl,rfl,dh⟩
  |false=>
   simp only[cond_false,Gx,true_and]
   rw[iw (by simp[SM])]
   by_cases h2:16≤(p.dt.getD []).length
   ·rw[show decide (16≤((p.dt.getD []).length:Int))=E5 from dT (by omega),if_pos h2]
    exact⟨_,_,rfl,rfl,by decide⟩
   ·rw[show decide (16≤((p.dt.getD []).length:Int))=E7 from dF (by omega),if_neg h2]
    exact⟨_,_,rfl,rfl,dh⟩
theorem q2t {α:Type}{o:Option (List α)}(h:(o.getD []).length≤SM):∃v w,(cond o.isNone (I (none,E7)) (jx (bp (I []) (o.getD [])) fun v=>I (v,E5)))=I (v,w)∧v.getD []=o.getD []:=by
 cases o with
 |none=>exact⟨none,E7,rfl,rfl⟩
 |some l=>
  have h':l.length≤SM:=h
  simp only[Option.isNone_some,cond_false,El]
  rw[AQ h']
  exact⟨_,_,rfl,rfl⟩
theorem jmp {d:qt}(h1:(d.aF.getD []).length≤SM)(h2:(d.aB.getD []).length≤SM):∃d',f181 d=I d'∧d'.er=d.er:=by
 obtain⟨v,w,g1,g2⟩:=q2t h1
 obtain⟨v',w',g3,g4⟩:=q2t h2
 unfold f181
 rw[show f245 d.aF=I (v,w)from g1,show f246 d.aB=I (v',w')from g3]
 exact⟨⟨v,v'⟩,rfl,by simp only[qt.er,g2,g4]⟩
theorem a109 (b:GB r){n0:List UInt8}{v0:Int}{k:Nat}(hk:e.kind=pj)(hn:e.names.getD []=[n0])(hv:e.values.getD []=[v0])(hp:ku r.er n0=I k):
  mV (eS 109 r e) (apply (j9 .i64) r.er e.er):=by
 have hR:apply (j9 .i64) r.er e.er=nK r.er e.er:=by
  unfold apply
  rw[show e.er.kind=pj from hk,if_neg (by decide),if_pos (.inr (.inr rfl))]
 obtain⟨p,h1,_,h3⟩:=Ea hp
 rw[hR,ND (eH hn) hp h3,if_neg (by rw[hk];decide),if_neg (by rw[hk];decide)]
 have hA:eS 109 r e=jx (f109 e r.day r.aq r.ae r.units) fun v=>I (v.1,{ r with ae:=v.2 }):=rfl
 rw[hA]
 have hD:=b.D p (En h1)
 obtain⟨d',g1,g2⟩:=jmp (d:=⟨p.dn,p.dt⟩) (z7 hD.2.1) (z7 hD.2.2.1)
 have g3:NE r.ae (k:Int)=I (I ((r.ae.getD []).set k { p with aO:=I (p.aO.getD []++[d']) })):=by
  unfold NE
  exact nI (z7 b.P) h1 (by unfold NF;rw[g1];simp only[jx];rw[jm0 (l7 hD.1)])
 have dh:({ r with ae:=I ((r.ae.getD []).set k { p with aO:=I (p.aO.getD []++[d']) }) }:qc).er=bA r.er k { p.er with aO:=p.er.aO++[p.er.bJ] }:=by
  rw[Eb rfl]
  congr 1
  simp only[qn.er,El,Gm,Gc,Gk,g2]
  rfl
 have oq:p.er.aO.length=(p.aO.getD []).length:=by show((p.aO.getD []).map qt.er).length=_;rw[Ga]
 have hd:(p.dn.getD []).isEmpty=decide (((p.dn.getD []).length:Int)=0):=by
  cases p.dn.getD []with
  |nil=>rfl
  |cons x l=>simp;omega
 unfold f109
 simp only[qc.eta,gI hn,jx,uQ (z7 b.P),hp,jA,yb h1,iN,g3,hd,oq]
 rw[iw (by simp[SM])]
 cases decide (((p.dn.getD []).length:Int)=0)with
 |true=>exact⟨_,_,rfl,rfl,by decide⟩
 |false=>
  by_cases h2:100≤(p.aO.getD []).length
  ·rw[show decide (100≤((p.aO.getD []).length:Int))=E5 from dT (by omega),if_pos h2]
   exact⟨_,_,rfl,rfl,by decide⟩
  ·rw[show decide (100≤((p.aO.getD []).length:Int))=E7 from dF (by omega),if_neg h2]
   exact⟨_,_,rfl,rfl,dh⟩
end Go.Z
namespace Go.Z
open Go Go.Abs Go.W
variable {r:qc}{e:ql}
theorem jP {k:List UInt8}(hk:e.kind=k)(h:¬(k=lY∨k=mR∨k=l0))(h2:¬(k=lZ∨k=mS∨k=pj)):apply (j9 .i64) r.er e.er=if k=nG∨k=qR then uT r.er e.er else nL (j9 .i64) r.er e.er:=by
 unfold apply
 rw[show e.er.kind=k from hk,if_neg h,if_neg h2]
theorem zgk (b:GB r){n0:List UInt8}{v0:Int}{k:Nat}(hk:e.kind=nG)(hn:e.names.getD []=[n0])(hv:e.values.getD []=[v0])(hp:y9 r.er n0=I k):
  mV (eS 115 r e) (apply (j9 .i64) r.er e.er):=by
 rw[jP hk (by decide) (by decide),if_pos (.inl rfl)]
 obtain⟨x,h1,_⟩:=Hq hp
 have hA:eS 115 r e=jx (f115 e r.day r.aq r.ae r.units) fun v=>I (v.1,{ r with aq:=v.2 }):=rfl
 rw[hA]
 have g1:Ve r.aq (k:Int)=I (I ((r.aq.getD []).set k { x with held:=E5 })):=nI (z7 b.L) h1 rfl
 unfold uT
 rw[eH hn,hp]
 simp only[vX,h1]
 rw[if_pos (show e.er.kind=nG from hk)]
 unfold f115
 simp only[qc.eta,gI hn,jx,xN (z7 b.L),hp,jA,yb h1,g1]
 cases x.held with
 |true=>exact⟨_,_,rfl,rfl,by decide⟩
 |false=>exact⟨_,_,rfl,rfl,NC rfl⟩
theorem zg0 (b:GB r){n0:List UInt8}{v0:Int}{k:Nat}(hk:e.kind=qR)(hn:e.names.getD []=[n0])(hv:e.values.getD []=[v0])(hp:y9 r.er n0=I k):
  mV (eS 116 r e) (apply (j9 .i64) r.er e.er):=by
 rw[jP hk (by decide) (by decide),if_pos (.inr rfl)]
 obtain⟨x,h1,_⟩:=Hq hp
 have hA:eS 116 r e=jx (f116 e r.day r.aq r.ae r.units) fun v=>I (v.1,{ r with aq:=v.2 }):=rfl
 rw[hA]
 have g1:Vf r.aq (k:Int)=I (I ((r.aq.getD []).set k { x with held:=E7 })):=nI (z7 b.L) h1 rfl
 unfold uT
 rw[eH hn,hp]
 simp only[vX,h1]
 rw[if_neg (show ¬e.er.kind=nG from fun h=>by rw[show e.er.kind=e.kind from rfl,hk]at h;exact absurd h (by decide))]
 unfold f116
 simp only[qc.eta,gI hn,jx,xN (z7 b.L),hp,jA,yb h1,g1]
 cases x.held with
 |true=>exact⟨_,_,rfl,rfl,NC rfl⟩
 |false=>exact⟨_,_,rfl,rfl,by decide⟩
structure jw (r:qc)(u:qe)(D:qt)(v:Int):Prop where
 doc:f134 r u=I D
 qV:f78 r u=I D
 uU:gX r.er u.er=I D.er
 new:pn r.er u.er=I v
 aF:(D.aF.getD []).length≤BB
 aB:(D.aB.getD []).length≤BB
 uses:(u.uses.getD []).length≤BB
 results:(u.results.getD []).length≤BB
 aq:∀x∈u.uses.getD [],(y9 r.er x.k).isSome=E5
 keyed:kx (·.k) (u.uses.getD [])
 bu:u.version≠-1
theorem jcp {u:qe}{d:jj}(h:gX r.er u.er=I d):∃(k:Nat) (p:qn),(r.ae.getD [])[k]?=I p∧1≤u.version∧∃D:qt,D∈p.aO.getD []∧D.er=d:=by
 unfold gX at h
 cases hp:ia r.er u.er.product with
 |none=>rw[hp]at h;cases h
 |some sp=>
  rw[hp]at h
  obtain⟨k,p,_,h2,rfl,_⟩:=U4 hp
  simp only[Option.bind_some,D2]at h
  split at h
  ·rename_i hv
   refine⟨k,p,h2,hv,?_⟩
   have h3:((p.aO.getD []).map qt.er)[(u.er.version-1).toNat]?=I d:=h
   rw[Gb]at h3
   cases hD:(p.aO.getD [])[(u.er.version-1).toNat]? with
   |none=>rw[hD]at h3;cases h3
   |some D=>rw[hD]at h3;exact⟨D,En hD,by simpa using h3⟩
  ·cases h
theorem xW (b:GB r)(w:WF r.er){i:Nat}{u:qe}(hu:(r.units.getD [])[i]?=I u):∃D v,jw r u D v:=by
 have hm:=En hu
 have Vg:u.er∈r.er.units:=by rw[xP];exact Ha hm
 obtain⟨d,hd⟩:=E6.1 (w.dJ _ Vg)
 obtain⟨D,g1,g2,rfl⟩:=jq8 (z7 b.P) (fun p hp=>z7 (b.D p hp).1) hd
 obtain⟨k,p,hp,hv,D',nM,he⟩:=jcp hd
 have hb:=(b.D p (En hp)).2.2.2 D' nM
 have h1:D.aF.getD []=D'.aF.getD []:=congrArg jj.aF he.symm
 have h2:D.aB.getD []=D'.aB.getD []:=congrArg jj.aB he.symm
 have cQ:(pn r.er u.er).isSome=E5:=by
  unfold pn
  unfold gX at hd
  cases hq:ia r.er u.er.product with
  |none=>rw[hq]at hd;cases hd
  |some sp=>rfl
 obtain⟨v,Tp⟩:=E6.1 cQ
 exact⟨D,v,g1,g2,hd,Tp,by rw[h1];exact hb.1,by rw[h2];exact hb.2,(b.N u hm).1,(b.N u hm).2,(w.uses _ Vg).2,(w.uses _ Vg).1,by omega⟩
theorem vY {n0:List UInt8}{k:Nat}{u:qe}(hn:nm e.er 0=n0)(hp:kh r.er n0=I k)(h3:r.er.units[k]?=I u.er):nL (j9 .i64) r.er e.er =
   if e.kind=l3 then vZ (j9 .i64) r.er k u.er e.er
   else if e.kind=mT then wc r.er k u.er e.er
   else if e.kind=oj then
    (if u.ar then .error 21 else if !((gX r.er u.er).any fun d=>d.aB.any (eg (nm e.er 1)))then .error 7 else if 64≤(u.results.getD []).length then .error 5 else
     .ok (aw r.er k { u.er with results:=u.results.getD []++[⟨nm e.er 1,u.version,vl e.er 1⟩] }))
   else if e.kind=pk then
    (if u.ar then .error 21 else match pn r.er u.er with
     |none=>.error 32
     |some v=>if u.version=v then .error 32 else .ok (aw r.er k { u.er with version:=v }))
   else if e.kind=kH then(if qU (j9 .i64) r.er u.er≠0 then .error (qU (j9 .i64) r.er u.er)else .ok (aw r.er k { u.er with ar:=E5 }))
   else(if !u.ar then .error 20 else .ok (aw r.er k { u.er with aj:=j9 .i64 (u.aj+1) })):=by
 unfold nL
 rw[hn,hp]
 simp only[h3]
 rfl
theorem j87 (b:GB r)(w:WF r.er){n0:List UInt8}{v0:Int}{k:Nat}(hk:e.kind=pk)(hn:e.names.getD []=[n0])(hv:e.values.getD []=[v0])(hp:kh r.er n0=I k):
  mV (eS 113 r e) (apply (j9 .i64) r.er e.er):=by
 rw[jP hk (by decide) (by decide),if_neg (by decide)]
 obtain⟨u,h1,_,h3⟩:=ov hp
 obtain⟨D,v,o⟩:=xW b w h1
 rw[vY (eH hn) hp h3,if_neg (by rw[hk];decide),if_neg (by rw[hk];decide),if_neg (by rw[hk];decide),if_pos hk,o.new]
 have hA:eS 113 r e=jx (f113 e r.day r.aq r.ae r.units) fun v=>I (v.1,{ r with units:=v.2 }):=rfl
 rw[hA]
 have g1:Vh r.units (k:Int) v=I (I ((r.units.getD []).set k { u with version:=v })):=nI (z7 b.U) h1 rfl
 generalize hU:({ u with version:=v }:qe)=U' at g1
 have dh:({ r with units:=I ((r.units.getD []).set k U') }:qc).er=aw r.er k { u.er with version:=v }:=by rw[xV rfl,←hU];rfl
 unfold f113
 simp only[qc.eta,gI hn,jx,vT (z7 b.U),hp,jA,yb h1,(Ny (z7 b.P) o.new).1,iN,g1]
 rw[iw (by simp[SM])]
 cases u.ar with
 |true=>exact⟨_,_,rfl,rfl,by decide⟩
 |false=>
  by_cases h:u.version=v
  ·rw[dT h,if_pos h];exact⟨_,_,rfl,rfl,by decide⟩
  ·rw[dF h,if_neg h];exact⟨_,_,rfl,rfl,dh⟩
theorem zfj (b:GB r)(w:WF r.er){n0:List UInt8}{v0:Int}{k:Nat}(hk:e.kind=kH)(hn:e.names.getD []=[n0])(hv:e.values.getD []=[v0])(hp:kh r.er n0=I k):
  mV (eS 117 r e) (apply (j9 .i64) r.er e.er):=by
 rw[jP hk (by decide) (by decide),if_neg (by decide)]
 obtain⟨u,h1,_,h3⟩:=ov hp
 obtain⟨D,v,o⟩:=xW b w h1
 rw[vY (eH hn) hp h3,if_neg (by rw[hk];decide),if_neg (by rw[hk];decide),if_neg (by rw[hk];decide),if_neg (by rw[hk];decide),if_pos hk]
 have hA:eS 117 r e=jx (f117 e r.day r.aq r.ae r.units) fun v=>I (v.1,{ r with units:=v.2 }):=rfl
 rw[hA]
 have g1:Vi r.units (k:Int)=I (I ((r.units.getD []).set k { u with ar:=E5 })):=nI (z7 b.U) h1 rfl
 have g2:=jap (z7 b.P) o.new (z7 b.L) (z7 o.uses) o.aq o.doc o.uU (z7 o.aF) (z7 o.results) (z7 o.aB) o.bu
 unfold f117
 simp only[qc.eta,gI hn,jx,vT (z7 b.U),hp,jA,yb h1,g2,g1]
 by_cases h:qU (j9 .i64) r.er u.er=0
 ·rw[dT h,if_neg (fun hh=>hh h)];exact⟨_,_,rfl,rfl,xV rfl⟩
 ·rw[dF h,if_pos h];exact⟨_,_,rfl,rfl,h⟩
theorem zfc (b:GB r){n0:List UInt8}{v0:Int}{k:Nat}(hk:e.kind=xM)(hn:e.names.getD []=[n0])(hv:e.values.getD []=[v0])(hp:kh r.er n0=I k):
  mV (eS 118 r e) (apply (j9 .i64) r.er e.er):=by
 rw[jP hk (by decide) (by decide),if_neg (by decide)]
 obtain⟨u,h1,_,h3⟩:=ov hp
 rw[vY (eH hn) hp h3,if_neg (by rw[hk];decide),if_neg (by rw[hk];decide),if_neg (by rw[hk];decide),if_neg (by rw[hk];decide),if_neg (by rw[hk];decide)]
 have hA:eS 118 r e=jx (f118 e r.day r.aq r.ae r.units) fun v=>I (v.1,{ r with units:=v.2 }):=rfl
 rw[hA]
 have g1:Vj r.units (k:Int)=I (I ((r.units.getD []).set k { u with aj:=j9 .i64 (u.aj+1) })):=nI (z7 b.U) h1 rfl
 generalize hU:({ u with aj:=j9 .i64 (u.aj+1) }:qe)=U' at g1
 have dh:({ r with units:=I ((r.units.getD []).set k U') }:qc).er=aw r.er k { u.er with aj:=j9 .i64 (u.aj+1) }:=by rw[xV rfl,←hU];rfl
 unfold f118
 simp only[qc.eta,gI hn,jx,vT (z7 b.U),hp,jA,yb h1,g1]
 cases u.ar with
 |true=>exact⟨_,_,rfl,rfl,dh⟩
 |false=>exact⟨_,_,rfl,rfl,by decide⟩
theorem za9 (b:GB r)(w:WF r.er){n0 n1:List UInt8}{v0 v1:Int}{k:Nat}(hk:e.kind=oj)(hn:e.names.getD []=[n0,n1])(hv:e.values.getD []=[v0,v1])(hp:kh r.er n0=I k):
  mV (eS 112 r e) (apply (j9 .i64) r.er e.er):=by
 rw[jP hk (by decide) (by decide),if_neg (by decide)]
 obtain⟨u,h1,_,h3⟩:=ov hp
 obtain⟨D,v,o⟩:=xW b w h1
 rw[vY (eH hn) hp h3,if_neg (by rw[hk];decide),if_neg (by rw[hk];decide),if_pos hk,lF hn,uS hv,o.uU]
 have hA:eS 112 r e=jx (f112 e r.day r.aq r.ae r.units) fun v=>I (v.1,{ r with units:=v.2 }):=rfl
 rw[hA]
 have g1:Vk r.units (k:Int) e=I (I ((r.units.getD []).set k { u with results:=I (u.results.getD []++[⟨n1,u.version,v1⟩]) })):=nI (z7 b.U) h1 (by
  unfold NG
  rw[gk hn,gk hv]
  simp only[jx]
  rw[jkh (l7 o.results)])
 generalize hU:({ u with results:=I (u.results.getD []++[⟨n1,u.version,v1⟩]) }:qe)=U' at g1
 have dh:({ r with units:=I ((r.units.getD []).set k U') }:qc).er=aw r.er k { u.er with results:=u.results.getD []++[⟨n1,u.version,v1⟩] }:=by rw[xV rfl,←hU];rfl
 unfold f112
 simp only[qc.eta,gI hn,jx,vT (z7 b.U),hp,jA,yb h1,o.doc,jfc (gk hn) (z7 o.aB),iN,g1,Hv]
 rw[iw (by simp[SM]),show D.er.aB=D.aB.getD []from rfl]
 cases u.ar with
 |true=>exact⟨_,_,rfl,rfl,by decide⟩
 |false=>
  cases (D.aB.getD []).any (eg n1)with
  |false=>exact⟨_,_,rfl,rfl,by decide⟩
  |true=>
   by_cases h2:64≤(u.results.getD []).length
   ·rw[show decide (64≤((u.results.getD []).length:Int))=E5 from dT (by omega),if_pos h2]
    exact⟨_,_,rfl,rfl,by decide⟩
   ·rw[show decide (64≤((u.results.getD []).length:Int))=E7 from dF (by omega),if_neg h2]
    exact⟨_,_,rfl,rfl,dh⟩
theorem zea (b:GB r)(w:WF r.er){n0 n1:List UInt8}{v0 v1:Int}{k j:Nat}(hk:e.kind=l3)(hn:e.names.getD []=[n0,n1])(hv:e.values.getD []=[v0,v1])(hp:kh r.er n0=I k)(hq:y9 r.er n1=I j):
  mV (eS 111 r e) (apply (j9 .i64) r.er e.er):=by
 rw[jP hk (by decide) (by decide),if_neg (by decide)]
 obtain⟨u,h1,_,h3⟩:=ov hp
 obtain⟨x,h4,DK⟩:=Hq hq
 obtain⟨D,v,o⟩:=xW b w h1
 rw[vY (eH hn) hp h3,if_pos hk]
 unfold vZ
 rw[lF hn,hq,uS hv,o.uU]
 simp only[vX,h4]
 have hA:eS 111 r e=jx (f111 e r.day r.aq r.ae r.units) fun v=>I (v.1,{ r with aq:=v.2.1,units:=v.2.2 }):=rfl
 rw[hA]
 have g1:Vl r.aq (j:Int) v1=I (I ((r.aq.getD []).set j { x with left:=j9 .i64 (x.left-v1) })):=nI (z7 b.L) h4 rfl
 unfold f111
 simp only[qc.eta,gI hn,gk hn,gk hv,jx,vT (z7 b.U),xN (z7 b.L),hp,hq,jA,yb h1,yb h4,o.doc,jf2 (z7 o.aF),iN,g1,jlx (z7 o.uses),Hv]
 rw[iw (by simp[SM])]
 have hdn:D.er.aF=D.aF.getD []:=rfl
 simp only[hdn]
 have lD:∀(s:qk),l6 (j9 .i64) (u.uses.getD []) x.name v1=eR (cO x.name) s (u.uses.getD [])→∃us,fO r.units (k:Int) (Ed s x)=I us∧({ r with aq:=I ((r.aq.getD []).set j { x with left:=j9 .i64 (x.left-v1) }),units:=us }:qc).er=aw (b6 r.er j { x with left:=j9 .i64 (x.left-v1) }) k { u.er with uses:=l6 (j9 .i64) u.er.uses x.name v1 }:=by
  intro s hs
  obtain⟨q,wq,q1,q2⟩:=jk5 (x:=s) (t:=x) (o:=u.uses) (l7 o.uses)
  refine⟨_,nI (y:={ u with uses:=q }) (z7 b.U) h1 (by unfold Ed;rw[q1];rfl),?_⟩
  simp only[qc.er,aw,b6,El,Gl]
  congr 2
  simp only[qe.er,q2,hs]
 by_cases hs:u.ar=E5
 ·simp only[if_pos hs,if_pos (show u.er.ar=E5 from hs)]
  exact⟨_,_,rfl,rfl,by decide⟩
 simp only[if_neg hs,if_neg (show ¬u.er.ar=E5 from hs)]
 by_cases hz:v1=0
 ·simp only[if_pos hz,dT hz,if_true]
  exact⟨_,_,rfl,rfl,by decide⟩
 simp only[if_neg hz,dF hz,Eh,if_false]
 by_cases hh:x.held=E5
 ·simp only[if_pos hh]
  exact⟨_,_,rfl,rfl,by decide⟩
 simp only[if_neg hh]
 cases (D.aF.getD []).any (cO x.kind)with
 |false=>exact⟨_,_,rfl,rfl,by decide⟩
 |true=>
 simp only[Gh,Eh,if_false]
 by_cases hl:x.left<v1
 ·simp only[if_pos hl,dT hl,if_true]
  exact⟨_,_,rfl,rfl,by decide⟩
 simp only[if_neg hl,dF hl,Eh,if_false]
 have Ht:∀ {α:Type} (A B:Option α),cond (decide (eN [0,0,0,0,0]=0)) A B=A:=fun A B=>rfl
 cases hi:(u.uses.getD []).findIdx? (cO x.name)with
 |none=>
  obtain⟨us,q1,q2⟩:=lD ⟨x.name,v1⟩ (by unfold l6 eR;rw[hi])
  rw[Ht]
  rw[show decide (0≤dC none)=E7 from rfl]
  simp only[cond_false,q1]
  exact⟨_,_,rfl,rfl,q2⟩
 |some i=>
  obtain⟨y,hy,_⟩:=bG hi
  obtain⟨us,q1,q2⟩:=lD ⟨x.name,j9 .i64 (v1+y.n)⟩ (by unfold l6 eR;rw[hi];simp only[hy])
  rw[Ht]
  rw[show decide (0≤dC (I i))=E5 from uR (I i)]
  simp only[cT,jA,yb hy,q1]
  exact⟨_,_,rfl,rfl,q2⟩
end Go.Z
set_option maxHeartbeats 4000000
namespace Go.Z
open Go Go.Abs Go.W
variable {r:qc}{e:ql}
theorem j2h {a b c d:Int}:f51 (I [a,b,c,d])=I (eN [a,b,c,d]):=iw (by simp[SM])
theorem zbs (b:GB r){n0 n1:List UInt8}{v0:Int}{k j:Nat}(hk:e.kind=mT)(hn:e.names.getD []=[n0,n1])(hv:e.values.getD []=[v0])(hp:kh r.er n0=I k)(hq:kh r.er n1=I j):
  mV (eS 114 r e) (apply (j9 .i64) r.er e.er):=by
 rw[jP hk (by decide) (by decide),if_neg (by decide)]
 obtain⟨u,h1,_,h3⟩:=ov hp
 obtain⟨v,h4,_,h5⟩:=ov hq
 rw[vY (eH hn) hp h3,if_neg (by rw[hk];decide),if_pos hk]
 unfold wc
 rw[lF hn,hq]
 simp only[h5]
 have hA:eS 114 r e=jx (f114 e r.day r.aq r.ae r.units) fun v=>I (v.1,{ r with units:=v.2 }):=rfl
 rw[hA]
 have g1:uV r.units (k:Int) v=I (I ((r.units.getD []).set k { u with partner:=v.name })):=nI (z7 b.U) h1 rfl
 have g2:k≠j→∀bb,uW (I ((r.units.getD []).set k { u with partner:=v.name })) (j:Int) ⟨u.name,u.product,u.version,u.uses,u.results,u.partner,bb,u.aj⟩=I (I (((r.units.getD []).set k { u with partner:=v.name }).set j { v with partner:=u.name })):=by
  intro hkj bb
  exact nI (x:=v) (by rw[El,List.length_set];exact z7 b.U) (by rw[El,List.getElem?_set_ne hkj];exact h4) rfl
 have dh:({ r with units:=I (((r.units.getD []).set k { u with partner:=v.name }).set j { v with partner:=u.name }) }:qc).er=aw (aw r.er k { u.er with partner:=v.er.name }) j { v.er with partner:=u.er.name }:=by
  simp only[qc.er,aw,El,Gl]
  rfl
 generalize hz:aw (aw r.er k { u.er with partner:=v.er.name }) j { v.er with partner:=u.er.name }=Z at dh ⊢
 generalize hX:I (I (((r.units.getD []).set k { u with partner:=v.name }).set j { v with partner:=u.name }))=X at g2
 generalize hY:I ((r.units.getD []).set k { u with partner:=v.name })=Y at g1 g2
 unfold f114
 simp only[qc.eta,gI hn,gk hn,jx,vT (z7 b.U),hp,hq,jA,yb h1,yb h4,iN,j2h,g1]
 have e1:decide ((k:Int)=(j:Int))=decide (k=j):=by
  by_cases h:k=j
  ·rw[dT h];exact dT (by omega)
  ·rw[dF h];exact dF (by omega)
 have e2:u.er.product=u.product:=rfl
 have e3:v.er.product=v.product:=rfl
 have e4:u.er.version=u.version:=rfl
 have e5:v.er.version=v.version:=rfl
 have e6:u.er.ar=u.ar:=rfl
 have e7:v.er.ar=v.ar:=rfl
 have e8:u.er.partner=u.partner:=rfl
 have e9:v.er.partner=v.partner:=rfl
 simp only[e1,e2,e3,e4,e5,e6,e7,e8,e9]
 by_cases c1:k=j<;>by_cases c2:u.product=v.product<;>by_cases c3:u.version=v.version<;>cases c4:u.ar<;>cases c5:v.ar<;>by_cases c6:u.partner=[]<;>by_cases c7:v.partner=[] <;>
  simp only[c1,c2,c3,c6,c7,decide_true,decide_false,cT,cond_false,Gh,Gx,if_true,if_false,Eh,ne_eq,not_true_eq_false,not_false_eq_true,or_true,true_or,or_false,false_or,or_self] <;>
  first
  |exact⟨_,_,rfl,rfl,by decide⟩
  |(have g3:=g2 c1 E7
    simp only[c2,c3,c6]at g3
    rw[g3,←hX]
    exact⟨_,_,rfl,rfl,dh⟩)
end Go.Z
namespace Go.Z
open Go Go.Abs Go.W
variable {r:qc}{e:ql}
def Ee (r:qu)(c:Int)(n:List UInt8):Bool:=if c=108 then(y9 r n).isSome else if c=112 then(ku r n).isSome else if c=117 then(kh r n).isSome else E5
theorem Vm (b:GB r){c:Int}{n:List UInt8}:f202 r c n=I (Ee r.er c n):=by
 unfold f202 Ee
 by_cases h1:c=108
 ·simp only[h1,decide_true,cT,if_true,xN (z7 b.L),jx,vW]
 ·by_cases h2:c=112
  ·simp only[h1,h2,decide_true,decide_false,cT,cond_false,if_true,if_false,uQ (z7 b.P),jx,vW];rfl
  ·by_cases h3:c=117
   ·simp only[h1,h2,h3,decide_true,decide_false,cT,cond_false,if_true,if_false,vT (z7 b.U),jx,vW];rfl
   ·simp only[h1,h2,h3,decide_false,cond_false,if_false]
def eO (r:qu)(c:UInt8)(n:List UInt8):Bool:=decide ((c.toNat:Int)=45)||Ee r (c.toNat:Int) n
theorem AY (b:GB r){a:UInt8}{n0:List UInt8}{t:List (List UInt8)}(hr:yu e.kind=[a])(hd:zf [a] 0=(a.toNat,1))(hn:e.names.getD []=n0::t):
  ∃d,bj (Ef r e) none=I (if eO r.er a n0 then .inr d else .inl d):=by
 have z:AZ r e=I (if eO r.er a n0 then .inl (I 1)else .inr (.inl 1)):=by
  unfold AZ eO
  simp only[hr,hd,jx,gI hn,Vm b]
  simp only[Gp,Nat.lt_irrefl,show decide (0<1)=E5 from rfl,cT]
  cases decide ((a.toNat:Int)=45)<;>cases Ee r.er (a.toNat:Int) n0<;>rfl
 cases hk:eO r.er a n0 with
 |true=>
  rw[hk]at z
  refine⟨1,?_⟩
  rw[pi (s':=I 1) z]
  refine jO (d:=(Sum.inr 1:Nat⊕Nat)) ?_
  show wh r e 1=_
  unfold wh
  simp only[hr,Gp]
  rfl
 |false=>
  rw[hk]at z
  exact⟨1,jO z⟩
theorem A0 (b:GB r){a c:UInt8}{n0 n1:List UInt8}{t:List (List UInt8)}(hr:yu e.kind=[a,c])(hd:zf [a,c] 0=(a.toNat,1))(hd1:zf [a,c] 1=(c.toNat,1))(hn:e.names.getD []=n0::n1::t):
  ∃d,bj (Ef r e) none=I (if eO r.er a n0&&eO r.er c n1 then .inr d else .inl d):=by
 have z:AZ r e=I (if eO r.er a n0 then .inl (I 1)else .inr (.inl 1)):=by
  unfold AZ eO
  simp only[hr,hd,jx,gI hn,Vm b]
  simp only[Gi,Gn,show decide (0<0+1+1)=E5 from rfl,cT]
  cases decide ((a.toNat:Int)=45)<;>cases Ee r.er (a.toNat:Int) n0<;>rfl
 have y:wh r e 1=I (if eO r.er c n1 then .inl (I 2)else .inr (.inl 2)):=by
  unfold wh eO
  simp only[hr,hd1,jx,show((1:Nat):Int)=1 from rfl,gk hn,Vm b]
  simp only[Gi,Gn,show decide (1<0+1+1)=E5 from rfl,cT]
  cases decide ((c.toNat:Int)=45)<;>cases Ee r.er (c.toNat:Int) n1<;>rfl
 cases hk:eO r.er a n0 with
 |false=>
  rw[hk]at z
  exact⟨1,jO z⟩
 |true=>
  rw[hk]at z
  cases cV:eO r.er c n1 with
  |false=>
   rw[cV]at y
   refine⟨2,?_⟩
   rw[pi (s':=I 1) z]
   exact jO (d:=(Sum.inl 2:Nat⊕Nat)) y
  |true=>
   rw[cV]at y
   refine⟨2,?_⟩
   rw[pi (s':=I 1) z,pi (s':=I 2) y]
   refine jO (d:=(Sum.inr 2:Nat⊕Nat)) ?_
   show wh r e 2=_
   unfold wh
   simp only[hr,Gi,Gn]
   rfl
def gm (x:Option (qc×Int))(y:ou):Prop:=∃r' c,x=I (r',c)∧match y with
 | .error k=>c=k∧k≠0
 | .ok s=>c=0∧r'.er=s
theorem nO {v0:Int}{t:List Int}{K:Bool}(hv:e.values.getD []=v0::t)(hl:∃d,bj (Ef r e) none=I (if K then .inr d else .inl d))(hK:K=E7→apply (j9 .i64) r.er e.er=.error 10)(hA:K=E5→mV (eS (Hu e.kind) r e) (apply (j9 .i64) r.er e.er)):
  gm (f121 r e) (after (j9 .i64) r.er e.er):=by
 unfold f121 after
 rw[gI hv,vl0 hv]
 simp only[jx]
 by_cases h:v0<r.day
 ·rw[dT h,if_pos (show v0<r.er.day from h)]
  exact⟨_,_,rfl,rfl,by decide⟩
 ·rw[dF h,if_neg (show ¬v0<r.er.day from h)]
  obtain⟨d,hd⟩:=hl
  rw[hd]
  cases K with
  |false=>
   rw[hK rfl]
   exact⟨_,_,rfl,rfl,by decide⟩
  |true=>
   obtain⟨c,r',h1,h2⟩:=hA rfl
   simp only[if_true,cond_false]
   rw[h1]
   simp only[]
   cases ha:apply (j9 .i64) r.er e.er with
   |error k=>
    rw[ha]at h2
    obtain⟨rfl,h3⟩:=h2
    rw[dF h3]
    exact⟨_,_,rfl,rfl,h3⟩
   |ok s=>
    rw[ha]at h2
    obtain⟨rfl,rfl⟩:=h2
    exact⟨_,_,rfl,rfl,rfl⟩
theorem nP {α:Type}{o:Option α}(h:o.isSome=E5):∃x,o=I x:=E6.1 h
theorem po {α:Type}{o:Option α}(h:o.isSome=E7):o=none:=by cases o<;>simp at h ⊢
theorem fa {k:List UInt8}{a c:Nat}(hk:e.kind=k)(hf:fP k=I (a,c))(hc:kg e.er=0):(e.names.getD []).length=a∧(e.values.getD []).length=c:=by
 obtain⟨_,f,h1,h2,h3⟩:=NH hc
 rw[show e.er.kind=k from hk,hf]at h1
 cases h1
 exact⟨h2,h3⟩
theorem iO {α:Type}{l:List α}(h:l.length=1):∃a,l=[a]:=List.length_eq_one_iff.1 h
theorem gp {α:Type}{l:List α}(h:l.length=2):∃a b,l=[a,b]:=by
 match l,h with
 | [a,b],_=>exact⟨a,b,rfl⟩
theorem jsd {α:Type}{l:List α}(h:l.length=3):∃a b c,l=[a,b,c]:=by
 match l,h with
 | [a,b,c],_=>exact⟨a,b,c,rfl⟩
theorem nQ {r:qu}{n:List UInt8}:eO r 45 n=E5:=rfl
theorem rl {r:qu}{n:List UInt8}:eO r 108 n=(y9 r n).isSome:=rfl
theorem rp {r:qu}{n:List UInt8}:eO r 112 n=(ku r n).isSome:=rfl
theorem ru {r:qu}{n:List UInt8}:eO r 117 n=(kh r n).isSome:=rfl
theorem jtv (b:GB r)(hk:e.kind=lY)(hc:kg e.er=0):gm (f121 r e) (after (j9 .i64) r.er e.er):=by
 obtain⟨h1,h2⟩:=fa hk (show fP lY=I (2,2)from rfl) hc
 obtain⟨n0,n1,hn⟩:=gp h1
 obtain⟨v0,v1,hv⟩:=gp h2
 refine nO (K:=true) hv (by have:=A0 (a:=45) (c:=45) b (by rw[hk];rfl) rfl rfl hn;simpa[nQ]using this) (fun h=>by cases h) (fun _=>?_)
 rw[hk]
 exact a105 b hk hn hv
theorem q7i (b:GB r)(hk:e.kind=mR)(hc:kg e.er=0):gm (f121 r e) (after (j9 .i64) r.er e.er):=by
 obtain⟨h1,h2⟩:=fa hk (show fP mR=I (1,1)from rfl) hc
 obtain⟨n0,hn⟩:=iO h1
 obtain⟨v0,hv⟩:=iO h2
 refine nO (K:=true) hv (by have:=AY (a:=45) b (by rw[hk];rfl) rfl hn;simpa[nQ]using this) (fun h=>by cases h) (fun _=>?_)
 rw[hk]
 exact zfh b hk hn hv
theorem jkf (b:GB r)(hk:e.kind=lZ)(hc:kg e.er=0):gm (f121 r e) (after (j9 .i64) r.er e.er):=by
 obtain⟨h1,h2⟩:=fa hk (show fP lZ=I (2,2)from rfl) hc
 obtain⟨n0,n1,hn⟩:=gp h1
 obtain⟨v0,v1,hv⟩:=gp h2
 refine nO (K:=(ku r.er n0).isSome) hv (by have:=A0 (a:=112) (c:=45) b (by rw[hk];rfl) rfl rfl hn;rw[show(eO r.er 112 n0&&eO r.er 45 n1)=((ku r.er n0).isSome)from by simp only[nQ,rl,rp,ru,Eo,Ev]]at this;exact this) (fun h=>?_) (fun h=>?_)
 ·have h:=po h
  unfold apply nK
  rw[show e.er.kind=lZ from hk,if_neg (by decide),if_pos (by decide),eH hn,h]
 ·obtain⟨k,hp⟩:=nP h
  rw[hk]
  exact zc8 b hk hn hv hp
theorem jmk (b:GB r)(hk:e.kind=mS)(hc:kg e.er=0):gm (f121 r e) (after (j9 .i64) r.er e.er):=by
 obtain⟨h1,h2⟩:=fa hk (show fP mS=I (2,3)from rfl) hc
 obtain⟨n0,n1,hn⟩:=gp h1
 obtain⟨v0,v1,v2,hv⟩:=jsd h2
 refine nO (K:=(ku r.er n0).isSome) hv (by have:=A0 (a:=112) (c:=45) b (by rw[hk];rfl) rfl rfl hn;rw[show(eO r.er 112 n0&&eO r.er 45 n1)=((ku r.er n0).isSome)from by simp only[nQ,rl,rp,ru,Eo,Ev]]at this;exact this) (fun h=>?_) (fun h=>?_)
 ·have h:=po h
  unfold apply nK
  rw[show e.er.kind=mS from hk,if_neg (by decide),if_pos (by decide),eH hn,h]
 ·obtain⟨k,hp⟩:=nP h
  rw[hk]
  exact zae b hk hn hv hp
theorem jey (b:GB r)(hk:e.kind=pj)(hc:kg e.er=0):gm (f121 r e) (after (j9 .i64) r.er e.er):=by
 obtain⟨h1,h2⟩:=fa hk (show fP pj=I (1,1)from rfl) hc
 obtain⟨n0,hn⟩:=iO h1
 obtain⟨v0,hv⟩:=iO h2
 refine nO (K:=(ku r.er n0).isSome) hv (by have:=AY (a:=112)  b (by rw[hk];rfl) rfl hn;rw[show(eO r.er 112 n0)=((ku r.er n0).isSome)from by simp only[nQ,rl,rp,ru,Eo,Ev]]at this;exact this) (fun h=>?_) (fun h=>?_)
 ·have h:=po h
  unfold apply nK
  rw[show e.er.kind=pj from hk,if_neg (by decide),if_pos (by decide),eH hn,h]
 ·obtain⟨k,hp⟩:=nP h
  rw[hk]
  exact a109 b hk hn hv hp
theorem jdp (b:GB r)(hk:e.kind=l0)(hc:kg e.er=0):gm (f121 r e) (after (j9 .i64) r.er e.er):=by
 obtain⟨h1,h2⟩:=fa hk (show fP l0=I (2,1)from rfl) hc
 obtain⟨n0,n1,hn⟩:=gp h1
 obtain⟨v0,hv⟩:=iO h2
 refine nO (K:=(ku r.er n1).isSome) hv (by have:=A0 (a:=45) (c:=112) b (by rw[hk];rfl) rfl rfl hn;rw[show(eO r.er 45 n0&&eO r.er 112 n1)=((ku r.er n1).isSome)from by simp only[nQ,rl,rp,ru,Eo,Ev]]at this;exact this) (fun h=>?_) (fun h=>?_)
 ·have h:=po h
  unfold apply nJ
  rw[show e.er.kind=l0 from hk,if_pos (by decide),if_neg (by decide),if_neg (by decide),lF hn]
  unfold ia
  rw[h];rfl
 ·obtain⟨k,hp⟩:=nP h
  rw[hk]
  exact zga b hk hn hv hp
theorem jn1 (b:GB r)(w:WF r.er)(hk:e.kind=l3)(hc:kg e.er=0):gm (f121 r e) (after (j9 .i64) r.er e.er):=by
 obtain⟨h1,h2⟩:=fa hk (show fP l3=I (2,2)from rfl) hc
 obtain⟨n0,n1,hn⟩:=gp h1
 obtain⟨v0,v1,hv⟩:=gp h2
 refine nO (K:=(kh r.er n0).isSome&&(y9 r.er n1).isSome) hv (by have:=A0 (a:=117) (c:=108) b (by rw[hk];rfl) rfl rfl hn;rw[show(eO r.er 117 n0&&eO r.er 108 n1)=((kh r.er n0).isSome&&(y9 r.er n1).isSome)from by simp only[nQ,rl,rp,ru,Eo,Ev]]at this;exact this) (fun h=>?_) (fun h=>?_)
 ·cases h1:kh r.er n0 with
  |none=>
   rw[jP hk (by decide) (by decide),if_neg (by decide)]
   unfold nL
   rw[eH hn,h1]
  |some k=>
   rw[h1]at h
   have h:=po (show(y9 r.er n1).isSome=E7 from h)
   obtain⟨u,g1,_,g3⟩:=ov h1
   rw[jP hk (by decide) (by decide),if_neg (by decide),vY (eH hn) h1 g3,if_pos hk]
   unfold vZ
   rw[lF hn,h]
 ·rw[Hb]at h
  obtain⟨k,hp⟩:=nP h.1
  obtain⟨j,hq⟩:=nP h.2
  rw[hk]
  exact zea b w hk hn hv hp hq
theorem q67 (b:GB r)(w:WF r.er)(hk:e.kind=oj)(hc:kg e.er=0):gm (f121 r e) (after (j9 .i64) r.er e.er):=by
 obtain⟨h1,h2⟩:=fa hk (show fP oj=I (2,2)from rfl) hc
 obtain⟨n0,n1,hn⟩:=gp h1
 obtain⟨v0,v1,hv⟩:=gp h2
 refine nO (K:=(kh r.er n0).isSome) hv (by have:=A0 (a:=117) (c:=45) b (by rw[hk];rfl) rfl rfl hn;rw[show(eO r.er 117 n0&&eO r.er 45 n1)=((kh r.er n0).isSome)from by simp only[nQ,rl,rp,ru,Eo,Ev]]at this;exact this) (fun h=>?_) (fun h=>?_)
 ·have h:=po h
  rw[jP hk (by decide) (by decide),if_neg (by decide)]
  unfold nL
  rw[eH hn,h]
 ·obtain⟨k,hp⟩:=nP h
  rw[hk]
  exact za9 b w hk hn hv hp
theorem jae (b:GB r)(w:WF r.er)(hk:e.kind=pk)(hc:kg e.er=0):gm (f121 r e) (after (j9 .i64) r.er e.er):=by
 obtain⟨h1,h2⟩:=fa hk (show fP pk=I (1,1)from rfl) hc
 obtain⟨n0,hn⟩:=iO h1
 obtain⟨v0,hv⟩:=iO h2
 refine nO (K:=(kh r.er n0).isSome) hv (by have:=AY (a:=117)  b (by rw[hk];rfl) rfl hn;rw[show(eO r.er 117 n0)=((kh r.er n0).isSome)from by simp only[nQ,rl,rp,ru,Eo,Ev]]at this;exact this) (fun h=>?_) (fun h=>?_)
 ·have h:=po h
  rw[jP hk (by decide) (by decide),if_neg (by decide)]
  unfold nL
  rw[eH hn,h]
 ·obtain⟨k,hp⟩:=nP h
  rw[hk]
  exact j87 b w hk hn hv hp
theorem jmn (b:GB r)(hk:e.kind=mT)(hc:kg e.er=0):gm (f121 r e) (after (j9 .i64) r.er e.er):=by
 obtain⟨h1,h2⟩:=fa hk (show fP mT=I (2,1)from rfl) hc
 obtain⟨n0,n1,hn⟩:=gp h1
 obtain⟨v0,hv⟩:=iO h2
 refine nO (K:=(kh r.er n0).isSome&&(kh r.er n1).isSome) hv (by have:=A0 (a:=117) (c:=117) b (by rw[hk];rfl) rfl rfl hn;rw[show(eO r.er 117 n0&&eO r.er 117 n1)=((kh r.er n0).isSome&&(kh r.er n1).isSome)from by simp only[nQ,rl,rp,ru,Eo,Ev]]at this;exact this) (fun h=>?_) (fun h=>?_)
 ·cases h1:kh r.er n0 with
  |none=>
   rw[jP hk (by decide) (by decide),if_neg (by decide)]
   unfold nL
   rw[eH hn,h1]
  |some k=>
   rw[h1]at h
   have h:=po (show(kh r.er n1).isSome=E7 from h)
   obtain⟨u,g1,_,g3⟩:=ov h1
   rw[jP hk (by decide) (by decide),if_neg (by decide),vY (eH hn) h1 g3,if_neg (by rw[hk];decide),if_pos hk]
   unfold wc
   rw[lF hn,h]
 ·rw[Hb]at h
  obtain⟨k,hp⟩:=nP h.1
  obtain⟨j,hq⟩:=nP h.2
  rw[hk]
  exact zbs b hk hn hv hp hq
theorem jle (b:GB r)(hk:e.kind=nG)(hc:kg e.er=0):gm (f121 r e) (after (j9 .i64) r.er e.er):=by
 obtain⟨h1,h2⟩:=fa hk (show fP nG=I (1,1)from rfl) hc
 obtain⟨n0,hn⟩:=iO h1
 obtain⟨v0,hv⟩:=iO h2
 refine nO (K:=(y9 r.er n0).isSome) hv (by have:=AY (a:=108)  b (by rw[hk];rfl) rfl hn;rw[show(eO r.er 108 n0)=((y9 r.er n0).isSome)from by simp only[nQ,rl,rp,ru,Eo,Ev]]at this;exact this) (fun h=>?_) (fun h=>?_)
 ·have h:=po h
  rw[jP hk (by decide) (by decide),if_pos (by decide)]
  unfold uT
  rw[eH hn,h]
 ·obtain⟨k,hp⟩:=nP h
  rw[hk]
  exact zgk b hk hn hv hp
theorem jmt (b:GB r)(hk:e.kind=qR)(hc:kg e.er=0):gm (f121 r e) (after (j9 .i64) r.er e.er):=by
 obtain⟨h1,h2⟩:=fa hk (show fP qR=I (1,1)from rfl) hc
 obtain⟨n0,hn⟩:=iO h1
 obtain⟨v0,hv⟩:=iO h2
 refine nO (K:=(y9 r.er n0).isSome) hv (by have:=AY (a:=108)  b (by rw[hk];rfl) rfl hn;rw[show(eO r.er 108 n0)=((y9 r.er n0).isSome)from by simp only[nQ,rl,rp,ru,Eo,Ev]]at this;exact this) (fun h=>?_) (fun h=>?_)
 ·have h:=po h
  rw[jP hk (by decide) (by decide),if_pos (by decide)]
  unfold uT
  rw[eH hn,h]
 ·obtain⟨k,hp⟩:=nP h
  rw[hk]
  exact zg0 b hk hn hv hp
theorem jmc (b:GB r)(w:WF r.er)(hk:e.kind=kH)(hc:kg e.er=0):gm (f121 r e) (after (j9 .i64) r.er e.er):=by
 obtain⟨h1,h2⟩:=fa hk (show fP kH=I (1,1)from rfl) hc
 obtain⟨n0,hn⟩:=iO h1
 obtain⟨v0,hv⟩:=iO h2
 refine nO (K:=(kh r.er n0).isSome) hv (by have:=AY (a:=117)  b (by rw[hk];rfl) rfl hn;rw[show(eO r.er 117 n0)=((kh r.er n0).isSome)from by simp only[nQ,rl,rp,ru,Eo,Ev]]at this;exact this) (fun h=>?_) (fun h=>?_)
 ·have h:=po h
  rw[jP hk (by decide) (by decide),if_neg (by decide)]
  unfold nL
  rw[eH hn,h]
 ·obtain⟨k,hp⟩:=nP h
  rw[hk]
  exact zfj b w hk hn hv hp
theorem q4s (b:GB r)(hk:e.kind=xM)(hc:kg e.er=0):gm (f121 r e) (after (j9 .i64) r.er e.er):=by
 obtain⟨h1,h2⟩:=fa hk (show fP xM=I (1,1)from rfl) hc
 obtain⟨n0,hn⟩:=iO h1
 obtain⟨v0,hv⟩:=iO h2
 refine nO (K:=(kh r.er n0).isSome) hv (by have:=AY (a:=117)  b (by rw[hk];rfl) rfl hn;rw[show(eO r.er 117 n0)=((kh r.er n0).isSome)from by simp only[nQ,rl,rp,ru,Eo,Ev]]at this;exact this) (fun h=>?_) (fun h=>?_)
 ·have h:=po h
  rw[jP hk (by decide) (by decide),if_neg (by decide)]
  unfold nL
  rw[eH hn,h]
 ·obtain⟨k,hp⟩:=nP h
  rw[hk]
  exact zfc b hk hn hv hp
theorem q5p (b:GB r)(w:WF r.er)(hc:kg e.er=0)(hu:e.kind≠ol):gm (f121 r e) (after (j9 .i64) r.er e.er):=by
 obtain⟨_,f,h1,_,_⟩:=NH hc
 have hm:e.kind∈cW.map (·.1):=by
  unfold fP at h1
  cases hf:cW.find? (fun x=>decide (x.1=e.er.kind))with
  |none=>rw[hf]at h1;cases h1
  |some x=>
   have h2:=List.find?_some hf
   have h3:=List.mem_of_find?_eq_some hf
   rw[show e.kind=x.1 from(of_decide_eq_true h2).symm]
   exact Ha h3
 simp only[cW,Gc,Gk,List.mem_cons,List.mem_singleton,List.not_mem_nil,or_false]at hm
 rcases hm with h|h|h|h|h|h|h|h|h|h|h|h|h|h|h
 ·exact jtv b h hc
 ·exact q7i b h hc
 ·exact jkf b h hc
 ·exact jmk b h hc
 ·exact jey b h hc
 ·exact jdp b h hc
 ·exact jn1 b w h hc
 ·exact q67 b w h hc
 ·exact jae b w h hc
 ·exact jmn b h hc
 ·exact jle b h hc
 ·exact jmt b h hc
 ·exact jmc b w h hc
 ·exact q4s b h hc
 ·exact absurd h hu
end Go.Z
