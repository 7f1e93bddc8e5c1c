/- Chapter 10, plain. -/
import Derived.Test.YtfopaakmgogpiaaGreatDoorE4
import Derived.Test.YtfopaakmgogpiaaGreatDoorV8
set_option linter.unusedVariables false
set_option linter.unusedSimpArgs false
set_option maxRecDepth 100000
namespace Go.Z
open Go Go.Abs Go.W
abbrev BB:Nat:=1000000
structure GB (r:qc):Prop where
 L:(r.lots.getD []).length≤BB
 P:(r.products.getD []).length≤BB
 U:(r.units.getD []).length≤BB
 D:∀p∈r.products.getD [],(p.docs.getD []).length≤BB∧(p.dn.getD []).length≤BB∧(p.dt.getD []).length≤BB∧∀d∈p.docs.getD [],(d.needs.getD []).length≤BB∧(d.tests.getD []).length≤BB
 N:∀u∈r.units.getD [],(u.uses.getD []).length≤BB∧(u.results.getD []).length≤BB
theorem yg {n:Nat}(h:n≤BB):n≤SM:=by unfold BB at h;unfold SM;omega
theorem qeb {n:Nat}(h:n≤BB):n<SM:=by unfold BB at h;unfold SM;omega
def qgx (x:Option (Int×qc))(y:Res):Prop:=∃c r',x=some (c,r')∧match y with
 | .error k=>c=k∧k≠0
 | .ok s=>c=0∧r'.er=s
variable {r:qc}{e:ql}
theorem qv6 {a lo hi:Int}:f52 a lo hi=some (if a<lo∨hi<a then 3 else 0):=by
 unfold f52
 by_cases h1:a<lo
 ·simp[h1,qca,jw]
 ·by_cases h2:hi<a<;>simp[h1,h2,qca,jw]
theorem qat {k:Nat}:ixI (some k)=(k:Int):=rfl
theorem qdu {o:Option Nat}:decide (0≤ixI o)=o.isSome:=qeq o
theorem qvi {n:List UInt8}{k:Nat}(h:kx r.er n=some k):∃x,(r.lots.getD [])[k]?=some x∧x.name=n:=by
 obtain⟨x,h1,h2,_⟩:=findIdx?_get h
 exact⟨x,h1,of_decide_eq_true h2⟩
theorem qm6 {n:List UInt8}{k:Nat}(h:ky r.er n=some k):∃p,(r.products.getD [])[k]?=some p∧p.name=n∧r.er.products[k]?=some p.er:=by
 rw[qlm]at h
 obtain⟨x,h1,h2,_⟩:=findIdx?_get h
 exact⟨x,h1,of_decide_eq_true h2,by rw[qfl,List.getElem?_map,h1];rfl⟩
theorem qfo {n:List UInt8}{k:Nat}(h:km r.er n=some k):∃u,(r.units.getD [])[k]?=some u∧u.name=n∧r.er.units[k]?=some u.er:=by
 rw[qrf]at h
 obtain⟨x,h1,h2,_⟩:=findIdx?_get h
 exact⟨x,h1,of_decide_eq_true h2,by rw[qgw,List.getElem?_map,h1];rfl⟩
theorem qcl {α:Type}{l:List α}{a:α}{t:List α}(h:l=a::t):zo l 0=some a:=by subst h;rfl
theorem qcc {α:Type}{l:List α}{a b:α}{t:List α}(h:l=a::b::t):zo l 1=some b:=by subst h;rfl
theorem jsd {α:Type}{l:List α}{a b c:α}{t:List α}(h:l=a::b::c::t):zo l 2=some c:=by subst h;rfl
theorem nm0 {a:List UInt8}{t:List (List UInt8)}(h:e.names.getD []=a::t):nm e.er 0=a:=by unfold nm;rw[show e.er.names=e.names.getD []from rfl,h];rfl
theorem nm1 {a b:List UInt8}{t:List (List UInt8)}(h:e.names.getD []=a::b::t):nm e.er 1=b:=by unfold nm;rw[show e.er.names=e.names.getD []from rfl,h];rfl
theorem vl0 {a:Int}{t:List Int}(h:e.values.getD []=a::t):vl e.er 0=a:=by unfold vl;rw[show e.er.values=e.values.getD []from rfl,h];rfl
theorem vl1 {a b:Int}{t:List Int}(h:e.values.getD []=a::b::t):vl e.er 1=b:=by unfold vl;rw[show e.er.values=e.values.getD []from rfl,h];rfl
theorem vl2 {a b c:Int}{t:List Int}(h:e.values.getD []=a::b::c::t):vl e.er 2=c:=by unfold vl;rw[show e.er.values=e.values.getD []from rfl,h];rfl
theorem qf7:r.er.lots=r.lots.getD []:=rfl
theorem qc.eta (r:qc):(⟨r.day,r.lots,r.products,r.units⟩:qc)=r:=rfl
theorem a105 (b:GB r){n0 n1:List UInt8}{v0 v1:Int}(hk:e.kind=qd8)(hn:e.names.getD []=[n0,n1])(hv:e.values.getD []=[v0,v1]):
  qgx (qbk 105 r e) (z8 (j6 .i64) r.er e.er):=by
 have hR:z8 (j6 .i64) r.er e.er=qgr r.er e.er:=by unfold z8;rw[if_pos (.inl hk)]
 rw[hR]
 unfold qgr
 rw[if_pos (show e.er.kind=qd8 from hk),nm0 hn,nm1 hn,vl1 hv,qf7]
 have hA:qbk 105 r e=jw (f105 e r.day r.lots r.products r.units) fun v=>some (v.1,{ r with lots:=v.2.1 }):=rfl
 rw[hA]
 unfold f105
 simp only[qc.eta,qcl hn,qcc hn,qcc hv,jw,qn7 (yg b.L),qca,qv6,qdu]
 rw[qbj (by simp[SM])]
 simp only[jlh (qeb b.L)]
 cases (kx r.er n0).isSome with
 |true=>exact⟨_,_,rfl,rfl,by decide⟩
 |false=>
  by_cases h1:v1<1∨10000<v1
  ·simp only[Bool.false_eq_true,if_false,h1,if_true,qbr]
   exact⟨_,_,rfl,rfl,by decide⟩
  ·by_cases h2:64≤(r.lots.getD []).length
   ·have h2':decide (64≤((r.lots.getD []).length:Int))=true:=dT (by omega)
    simp only[Bool.false_eq_true,if_false,h1,h2,h2',if_true,qbr]
    exact⟨_,_,rfl,rfl,by decide⟩
   ·have h2':decide (64≤((r.lots.getD []).length:Int))=false:=dF (by omega)
    simp only[Bool.false_eq_true,if_false,h1,h2,h2',if_true,qbr]
    exact⟨_,_,rfl,rfl,rfl⟩
theorem qwk {o:Option (List qi)}{p:qi}(h:o=some (r.products.getD []++[p])):({ r with products:=o }:qc).er={ r.er with products:=r.er.products++[p.er] }:=by
 subst h
 simp only[qc.er,Option.getD_some,List.map_append,List.map_cons,List.map_nil]
theorem qxz {o:Option (List qf)}{p:qf}(h:o=some (r.units.getD []++[p])):({ r with units:=o }:qc).er={ r.er with units:=r.er.units++[p.er] }:=by
 subst h
 simp only[qc.er,Option.getD_some,List.map_append,List.map_cons,List.map_nil]
theorem qga {o:Option (List qi)}{p:qi}{k:Nat}(h:o=some ((r.products.getD []).set k p)):({ r with products:=o }:qc).er=setProd r.er k p.er:=by
 subst h
 simp only[qc.er,setProd,Option.getD_some,List.map_set]
theorem qdl {o:Option (List qf)}{p:qf}{k:Nat}(h:o=some ((r.units.getD []).set k p)):({ r with units:=o }:qc).er=setUnit r.er k p.er:=by
 subst h
 simp only[qc.er,setUnit,Option.getD_some,List.map_set]
theorem qlt {o:Option (List qj)}{p:qj}{k:Nat}(h:o=some ((r.lots.getD []).set k p)):({ r with lots:=o }:qc).er=setLot r.er k p:=by
 subst h
 simp only[qc.er,setLot,Option.getD_some]
theorem zgz (b:GB r){n0:List UInt8}{v0:Int}(hk:e.kind=qbd)(hn:e.names.getD []=[n0])(hv:e.values.getD []=[v0]):
  qgx (qbk 106 r e) (z8 (j6 .i64) r.er e.er):=by
 have hR:z8 (j6 .i64) r.er e.er=qgr r.er e.er:=by unfold z8;rw[if_pos (.inr (.inl hk))]
 rw[hR]
 unfold qgr
 rw[if_neg (show ¬e.er.kind=qd8 from fun h=>by rw[show e.er.kind=e.kind from rfl,hk]at h;exact absurd h (by decide)),if_pos (show e.er.kind=qbd from hk),nm0 hn]
 have hA:qbk 106 r e=jw (f106 e r.day r.lots r.products r.units) fun v=>some (v.1,{ r with products:=v.2.1 }):=rfl
 rw[hA]
 unfold f106
 simp only[qc.eta,qcl hn,jw,qe6 (yg b.P),qca,qdu]
 rw[qbj (by simp[SM])]
 simp only[jle (qeb b.P)]
 have hl:r.er.products.length=(r.products.getD []).length:=by rw[qfl,List.length_map]
 rw[hl]
 cases (ky r.er n0).isSome with
 |true=>exact⟨_,_,rfl,rfl,by decide⟩
 |false=>
  by_cases h2:16≤(r.products.getD []).length
  ·have h2':decide (16≤((r.products.getD []).length:Int))=true:=dT (by omega)
   simp only[Bool.false_eq_true,if_false,h2,h2',if_true,qbr]
   exact⟨_,_,rfl,rfl,by decide⟩
  ·have h2':decide (16≤((r.products.getD []).length:Int))=false:=dF (by omega)
   simp only[Bool.false_eq_true,if_false,h2,h2',if_true,qbr]
   exact⟨_,_,rfl,rfl,qwk rfl⟩
theorem zfz (b:GB r){n0 n1:List UInt8}{v0:Int}{k:Nat}(hk:e.kind=qc7)(hn:e.names.getD []=[n0,n1])(hv:e.values.getD []=[v0])(hp:ky r.er n1=some k):
  qgx (qbk 110 r e) (z8 (j6 .i64) r.er e.er):=by
 have hR:z8 (j6 .i64) r.er e.er=qgr r.er e.er:=by unfold z8;rw[if_pos (.inr (.inr hk))]
 rw[hR]
 obtain⟨p,h1,_,h3⟩:=qm6 hp
 have hpo:qc0 r.er n1=some p.er:=by unfold qc0;rw[hp];exact h3
 unfold qgr
 rw[if_neg (show ¬e.er.kind=qd8 from fun h=>by rw[show e.er.kind=e.kind from rfl,hk]at h;exact absurd h (by decide)),if_neg (show ¬e.er.kind=qbd from fun h=>by rw[show e.er.kind=e.kind from rfl,hk]at h;exact absurd h (by decide)),nm0 hn,nm1 hn,hpo]
 have hA:qbk 110 r e=jw (f110 e r.day r.lots r.products r.units) fun v=>some (v.1,{ r with units:=v.2.1 }):=rfl
 rw[hA]
 unfold f110 f182
 simp only[qc.eta,qcl hn,qcc hn,jw,qe6 (yg b.P),qi6 (yg b.U),qca,qdu,hp,qat,z6 h1]
 rw[qbj (by simp[SM])]
 simp only[jlr (qeb b.U)]
 have hl:r.er.units.length=(r.units.getD []).length:=by rw[qgw,List.length_map]
 have hd:p.er.docs.isEmpty=decide (((p.docs.getD []).length:Int)=0):=by
  show((p.docs.getD []).map qr.er).isEmpty=_
  cases p.docs.getD []with
  |nil=>rfl
  |cons x l=>simp;omega
 have hd2:p.er.docs.length=(p.docs.getD []).length:=by show((p.docs.getD []).map qr.er).length=_;rw[List.length_map]
 simp only[hl,hd,hd2]
 cases (km r.er n0).isSome with
 |true=>exact⟨_,_,rfl,rfl,by decide⟩
 |false=>
  cases hz:decide (((p.docs.getD []).length:Int)=0)with
  |true=>exact⟨_,_,rfl,rfl,by decide⟩
  |false=>
   by_cases h2:256≤(r.units.getD []).length
   ·have h2':decide (256≤((r.units.getD []).length:Int))=true:=dT (by omega)
    simp only[Bool.false_eq_true,if_false,h2,h2',if_true,qbr]
    exact⟨_,_,rfl,rfl,by decide⟩
   ·have h2':decide (256≤((r.units.getD []).length:Int))=false:=dF (by omega)
    simp only[Bool.false_eq_true,if_false,h2,h2',if_true,qbr]
    exact⟨_,_,rfl,rfl,qxz rfl⟩
theorem jm7 {p:qi}{c:Int}{n:List UInt8}(hl:(p.dn.getD []).length<SM):∃v,q1t c n n p=some { p with dn:=v }∧v.getD []=qbn (p.dn.getD []) n c:=by
 unfold q1t qbn
 by_cases h:c=0
 ·simp only[h,decide_true,cT,if_true,jml (Nat.le_of_lt hl),jw]
  exact⟨_,rfl,ko _⟩
 ·obtain⟨v,w,h1,h2⟩:=jl3 (x:=⟨n,c⟩) (k:=n) hl
  simp only[h,decide_false,cond_false,if_false,h1,jw]
  exact⟨_,rfl,h2⟩
theorem jdi (b:GB r){n0 n1:List UInt8}{c:Int}{k:Nat}{p:qi}(hp:ky r.er n0=some k)(hx:(r.products.getD [])[k]?=some p):∃v,qom n0 c n1 n1 r.day r.lots r.products r.units=some (some ((r.products.getD []).set k { p with dn:=v }))∧v.getD []=qbn (p.dn.getD []) n1 c:=by
 obtain⟨v,h1,h2⟩:=jm7 (c:=c) (n:=n1) (qeb (b.D p (List.mem_of_getElem? hx)).2.1)
 refine⟨v,?_,h2⟩
 unfold qom jh8
 simp only[qc.eta,qe6 (yg b.P),hp,qat,jw]
 rw[qdt (yg b.P) hx h1]
theorem jf0 (b:GB r){n0:List UInt8}{t:qk}{k:Nat}{p:qi}(hp:ky r.er n0=some k)(hx:(r.products.getD [])[k]?=some p):∃v,qtk n0 t t r.day r.lots r.products r.units=some (some ((r.products.getD []).set k { p with dt:=v }))∧v.getD []=qbs (isT t.k) t (p.dt.getD []):=by
 obtain⟨v,w,h1,h2⟩:=jm5 (x:=t) (s:=t) (o:=p.dt) (qeb (b.D p (List.mem_of_getElem? hx)).2.2.1)
 refine⟨v,?_,h2⟩
 unfold qtk jh1
 simp only[qc.eta,qe6 (yg b.P),hp,qat,jw]
 rw[qdt (yg b.P) hx (show q4m t t p=some { p with dt:=v } by unfold q4m;rw[h1];rfl)]
theorem onP {n0:List UInt8}{k:Nat}{p:qi}(hn:nm e.er 0=n0)(hp:ky r.er n0=some k)(h3:r.er.products[k]?=some p.er):qb8 r.er e.er =
   if e.kind=qc2 then
    (if vl e.er 1<0∨10000<vl e.er 1 then .error 3 else if 0<vl e.er 1∧!((p.dn.getD []).any (isK (nm e.er 1)))∧16≤(p.dn.getD []).length then .error 5 else
     .ok (setProd r.er k { p.er with draft:={ p.er.draft with needs:=qbn (p.dn.getD []) (nm e.er 1) (vl e.er 1) } }))
   else if e.kind=qc9 then
    (if vl e.er 2<vl e.er 1 then .error 11 else if !((p.dt.getD []).any (isT (nm e.er 1)))∧16≤(p.dt.getD []).length then .error 5 else
     .ok (setProd r.er k { p.er with draft:={ p.er.draft with tests:=qbs (isT (nm e.er 1)) ⟨nm e.er 1,vl e.er 1,vl e.er 2⟩ (p.dt.getD []) } }))
   else(if(p.dn.getD []).isEmpty then .error 12 else if 100≤p.er.docs.length then .error 5 else .ok (setProd r.er k { p.er with docs:=p.er.docs++[p.er.draft] })):=by
 unfold qb8
 rw[hn,hp]
 simp only[h3]
 rfl
theorem zcz (b:GB r){n0 n1:List UInt8}{v0 v1:Int}{k:Nat}(hk:e.kind=qc2)(hn:e.names.getD []=[n0,n1])(hv:e.values.getD []=[v0,v1])(hp:ky r.er n0=some k):
  qgx (qbk 107 r e) (z8 (j6 .i64) r.er e.er):=by
 have hR:z8 (j6 .i64) r.er e.er=qb8 r.er e.er:=by
  unfold z8
  rw[show e.er.kind=qc2 from hk,if_neg (by decide),if_pos (.inl rfl)]
 obtain⟨p,h1,_,h3⟩:=qm6 hp
 rw[hR,onP (nm0 hn) hp h3,if_pos hk,nm1 hn,vl1 hv]
 have hA:qbk 107 r e=jw (f107 e r.day r.lots r.products r.units) fun v=>some (v.1,{ r with products:=v.2 }):=rfl
 rw[hA]
 obtain⟨v,g1,g2⟩:=jdi b (n1:=n1) (c:=v1) hp h1
 have hdl:=(b.D p (List.mem_of_getElem? h1)).2.1
 have hok:({ r with products:=some ((r.products.getD []).set k { p with dn:=v }) }:qc).er=setProd r.er k { p.er with draft:={ p.er.draft with needs:=qbn (p.dn.getD []) n1 v1 } }:=by
  rw[qga rfl]
  congr 1
  simp only[qi.er,g2]
 unfold f107
 simp only[qc.eta,qcl hn,qcc hn,qcc hv,jw,qe6 (yg b.P),hp,qat,z6 h1,qv6,qca,jhz (yg hdl),g1]
 by_cases hz:v1<0∨10000<v1
 ·simp only[hz,if_true,if_false,Bool.false_eq_true]
  cases decide (0<v1)<;>cases (p.dn.getD []).any (isK n1)<;>(simp only[cT,cond_false];rw[qbj (by simp[SM])];exact⟨_,_,rfl,rfl,by decide⟩)
 ·simp only[hz,if_false,if_true,Bool.false_eq_true]
  by_cases h0:0<v1
  ·rw[dT h0]
   cases ha:(p.dn.getD []).any (isK n1)with
   |true=>
    simp only[cT,Bool.not_true,Bool.false_eq_true,false_and,and_false,if_false]
    rw[qbj (by simp[SM])]
    exact⟨_,_,rfl,rfl,hok⟩
   |false=>
    simp only[cT,cond_false,Bool.not_false,true_and,h0]
    rw[qbj (by simp[SM])]
    by_cases h2:16≤(p.dn.getD []).length
    ·rw[show decide (16≤((p.dn.getD []).length:Int))=true from dT (by omega),if_pos h2]
     exact⟨_,_,rfl,rfl,by decide⟩
    ·rw[show decide (16≤((p.dn.getD []).length:Int))=false from dF (by omega),if_neg h2]
     exact⟨_,_,rfl,rfl,hok⟩
  ·rw[dF h0,if_neg (show ¬(0<v1∧(!(p.dn.getD []).any (isK n1))=true∧16≤(p.dn.getD []).length)from fun h=>h0 h.1)]
   simp only[cond_false]
   rw[qbj (by simp[SM])]
   exact⟨_,_,rfl,rfl,hok⟩
theorem zcq (b:GB r){n0 n1:List UInt8}{v0 v1 v2:Int}{k:Nat}(hk:e.kind=qc9)(hn:e.names.getD []=[n0,n1])(hv:e.values.getD []=[v0,v1,v2])(hp:ky r.er n0=some k):
  qgx (qbk 108 r e) (z8 (j6 .i64) r.er e.er):=by
 have hR:z8 (j6 .i64) r.er e.er=qb8 r.er e.er:=by
  unfold z8
  rw[show e.er.kind=qc9 from hk,if_neg (by decide),if_pos (.inr (.inl rfl))]
 obtain⟨p,h1,_,h3⟩:=qm6 hp
 rw[hR,onP (nm0 hn) hp h3,if_neg (by rw[hk];decide),if_pos hk,nm1 hn,vl1 hv,vl2 hv]
 have hA:qbk 108 r e=jw (f108 e r.day r.lots r.products r.units) fun v=>some (v.1,{ r with products:=v.2 }):=rfl
 rw[hA]
 obtain⟨v,g1,g2⟩:=jf0 b (t:=⟨n1,v1,v2⟩) hp h1
 have hdl:=(b.D p (List.mem_of_getElem? h1)).2.2.1
 have hok:({ r with products:=some ((r.products.getD []).set k { p with dt:=v }) }:qc).er=setProd r.er k { p.er with draft:={ p.er.draft with tests:=qbs (isT n1) ⟨n1,v1,v2⟩ (p.dt.getD []) } }:=by
  rw[qga rfl]
  congr 1
  simp only[qi.er,g2]
 unfold f108
 simp only[qc.eta,qcl hn,qcc hn,qcc hv,jsd hv,jw,qe6 (yg b.P),hp,qat,z6 h1,qca,jh7 (yg hdl),g1]
 by_cases hz:v2<v1
 ·rw[dT hz,if_pos hz]
  cases (p.dt.getD []).any (isT n1)<;>(simp only[cT,cond_false];rw[qbj (by simp[SM])];exact⟨_,_,rfl,rfl,by decide⟩)
 ·rw[dF hz,if_neg hz]
  cases ha:(p.dt.getD []).any (isT n1)with
  |true=>
   simp only[cT,Bool.not_true,Bool.false_eq_true,false_and,if_false]
   rw[qbj (by simp[SM])]
   exact⟨_,_,rfl,rfl,hok⟩
  |false=>
   simp only[cond_false,Bool.not_false,true_and]
   rw[qbj (by simp[SM])]
   by_cases h2:16≤(p.dt.getD []).length
   ·rw[show decide (16≤((p.dt.getD []).length:Int))=true from dT (by omega),if_pos h2]
    exact⟨_,_,rfl,rfl,by decide⟩
   ·rw[show decide (16≤((p.dt.getD []).length:Int))=false from dF (by omega),if_neg h2]
    exact⟨_,_,rfl,rfl,hok⟩
theorem q4l {α:Type}{o:Option (List α)}(h:(o.getD []).length≤SM):∃v w,(cond o.isNone (some (none,false)) (jw (apO (some []) (o.getD [])) fun v=>some (v,true)))=some (v,w)∧v.getD []=o.getD []:=by
 cases o with
 |none=>exact⟨none,false,rfl,rfl⟩
 |some l=>
  have h':l.length≤SM:=h
  simp only[Option.isNone_some,cond_false,Option.getD_some]
  rw[qfr h']
  exact⟨_,_,rfl,rfl⟩
theorem jk1 {d:qr}(h1:(d.needs.getD []).length≤SM)(h2:(d.tests.getD []).length≤SM):∃d',f181 d=some d'∧d'.er=d.er:=by
 obtain⟨v,w,g1,g2⟩:=q4l h1
 obtain⟨v',w',g3,g4⟩:=q4l h2
 unfold f181
 rw[show f245 d.needs=some (v,w)from g1,show f246 d.tests=some (v',w')from g3]
 exact⟨⟨v,v'⟩,rfl,by simp only[qr.er,g2,g4]⟩
theorem a109 (b:GB r){n0:List UInt8}{v0:Int}{k:Nat}(hk:e.kind=qdh)(hn:e.names.getD []=[n0])(hv:e.values.getD []=[v0])(hp:ky r.er n0=some k):
  qgx (qbk 109 r e) (z8 (j6 .i64) r.er e.er):=by
 have hR:z8 (j6 .i64) r.er e.er=qb8 r.er e.er:=by
  unfold z8
  rw[show e.er.kind=qdh from hk,if_neg (by decide),if_pos (.inr (.inr rfl))]
 obtain⟨p,h1,_,h3⟩:=qm6 hp
 rw[hR,onP (nm0 hn) hp h3,if_neg (by rw[hk];decide),if_neg (by rw[hk];decide)]
 have hA:qbk 109 r e=jw (f109 e r.day r.lots r.products r.units) fun v=>some (v.1,{ r with products:=v.2 }):=rfl
 rw[hA]
 have hD:=b.D p (List.mem_of_getElem? h1)
 obtain⟨d',g1,g2⟩:=jk1 (d:=⟨p.dn,p.dt⟩) (yg hD.2.1) (yg hD.2.2.1)
 have g3:q8i r.products (k:Int)=some (some ((r.products.getD []).set k { p with docs:=some (p.docs.getD []++[d']) })):=by
  unfold q8i
  exact qdt (yg b.P) h1 (by unfold q63;rw[g1];simp only[jw];rw[jkt (qeb hD.1)])
 have hok:({ r with products:=some ((r.products.getD []).set k { p with docs:=some (p.docs.getD []++[d']) }) }:qc).er=setProd r.er k { p.er with docs:=p.er.docs++[p.er.draft] }:=by
  rw[qga rfl]
  congr 1
  simp only[qi.er,Option.getD_some,List.map_append,List.map_cons,List.map_nil,g2]
  rfl
 have hd2:p.er.docs.length=(p.docs.getD []).length:=by show((p.docs.getD []).map qr.er).length=_;rw[List.length_map]
 have hd:(p.dn.getD []).isEmpty=decide (((p.dn.getD []).length:Int)=0):=by
  cases p.dn.getD []with
  |nil=>rfl
  |cons x l=>simp;omega
 unfold f109
 simp only[qc.eta,qcl hn,jw,qe6 (yg b.P),hp,qat,z6 h1,qca,g3,hd,hd2]
 rw[qbj (by simp[SM])]
 cases decide (((p.dn.getD []).length:Int)=0)with
 |true=>exact⟨_,_,rfl,rfl,by decide⟩
 |false=>
  by_cases h2:100≤(p.docs.getD []).length
  ·rw[show decide (100≤((p.docs.getD []).length:Int))=true from dT (by omega),if_pos h2]
   exact⟨_,_,rfl,rfl,by decide⟩
  ·rw[show decide (100≤((p.docs.getD []).length:Int))=false from dF (by omega),if_neg h2]
   exact⟨_,_,rfl,rfl,hok⟩
end Go.Z
namespace Go.Z
open Go Go.Abs Go.W
variable {r:qc}{e:ql}
theorem qbb {k:List UInt8}(hk:e.kind=k)(h:¬(k=qd8∨k=qbd∨k=qc7))(h2:¬(k=qc2∨k=qc9∨k=qdh)):z8 (j6 .i64) r.er e.er=if k=qdw∨k=qfg then qln r.er e.er else qe2 (j6 .i64) r.er e.er:=by
 unfold z8
 rw[show e.er.kind=k from hk,if_neg h,if_neg h2]
theorem zb6 (b:GB r){n0:List UInt8}{v0:Int}{k:Nat}(hk:e.kind=qdw)(hn:e.names.getD []=[n0])(hv:e.values.getD []=[v0])(hp:kx r.er n0=some k):
  qgx (qbk 115 r e) (z8 (j6 .i64) r.er e.er):=by
 rw[qbb hk (by decide) (by decide),if_pos (.inl rfl)]
 obtain⟨x,h1,_⟩:=qvi hp
 have hA:qbk 115 r e=jw (f115 e r.day r.lots r.products r.units) fun v=>some (v.1,{ r with lots:=v.2 }):=rfl
 rw[hA]
 have g1:ji6 r.lots (k:Int)=some (some ((r.lots.getD []).set k { x with held:=true })):=qdt (yg b.L) h1 rfl
 unfold qln
 rw[nm0 hn,hp]
 simp only[qf7,h1]
 rw[if_pos (show e.er.kind=qdw from hk)]
 unfold f115
 simp only[qc.eta,qcl hn,jw,qn7 (yg b.L),hp,qat,z6 h1,g1]
 cases x.held with
 |true=>exact⟨_,_,rfl,rfl,by decide⟩
 |false=>exact⟨_,_,rfl,rfl,qlt rfl⟩
theorem zdp (b:GB r){n0:List UInt8}{v0:Int}{k:Nat}(hk:e.kind=qfg)(hn:e.names.getD []=[n0])(hv:e.values.getD []=[v0])(hp:kx r.er n0=some k):
  qgx (qbk 116 r e) (z8 (j6 .i64) r.er e.er):=by
 rw[qbb hk (by decide) (by decide),if_pos (.inr rfl)]
 obtain⟨x,h1,_⟩:=qvi hp
 have hA:qbk 116 r e=jw (f116 e r.day r.lots r.products r.units) fun v=>some (v.1,{ r with lots:=v.2 }):=rfl
 rw[hA]
 have g1:jfo r.lots (k:Int)=some (some ((r.lots.getD []).set k { x with held:=false })):=qdt (yg b.L) h1 rfl
 unfold qln
 rw[nm0 hn,hp]
 simp only[qf7,h1]
 rw[if_neg (show ¬e.er.kind=qdw from fun h=>by rw[show e.er.kind=e.kind from rfl,hk]at h;exact absurd h (by decide))]
 unfold f116
 simp only[qc.eta,qcl hn,jw,qn7 (yg b.L),hp,qat,z6 h1,g1]
 cases x.held with
 |true=>exact⟨_,_,rfl,rfl,qlt rfl⟩
 |false=>exact⟨_,_,rfl,rfl,by decide⟩
structure ju (r:qc)(u:qf)(D:qr)(v:Int):Prop where
 doc:f134 r u=some D
 doc':f78 r u=some D
 pap:qct r.er u.er=some D.er
 new:qfu r.er u.er=some v
 needs:(D.needs.getD []).length≤BB
 tests:(D.tests.getD []).length≤BB
 uses:(u.uses.getD []).length≤BB
 results:(u.results.getD []).length≤BB
 lots:∀x∈u.uses.getD [],(kx r.er x.k).isSome=true
 keyed:qb5 (·.k) (u.uses.getD [])
 ver:u.version≠-1
theorem jam {u:qf}{d:jf}(h:qct r.er u.er=some d):∃(k:Nat) (p:qi),(r.products.getD [])[k]?=some p∧1≤u.version∧∃D:qr,D∈p.docs.getD []∧D.er=d:=by
 unfold qct at h
 cases hp:qc0 r.er u.er.product with
 |none=>rw[hp]at h;cases h
 |some sp=>
  rw[hp]at h
  obtain⟨k,p,_,h2,rfl,_⟩:=qua hp
  simp only[Option.bind_some,q9k]at h
  split at h
  ·rename_i hv
   refine⟨k,p,h2,hv,?_⟩
   have h3:((p.docs.getD []).map qr.er)[(u.er.version-1).toNat]?=some d:=h
   rw[List.getElem?_map]at h3
   cases hD:(p.docs.getD [])[(u.er.version-1).toNat]? with
   |none=>rw[hD]at h3;cases h3
   |some D=>rw[hD]at h3;exact⟨D,List.mem_of_getElem? hD,by simpa using h3⟩
  ·cases h
theorem qj9 (b:GB r)(w:WF r.er){i:Nat}{u:qf}(hu:(r.units.getD [])[i]?=some u):∃D v,ju r u D v:=by
 have hm:=List.mem_of_getElem? hu
 have hme:u.er∈r.er.units:=by rw[qgw];exact List.mem_map_of_mem hm
 obtain⟨d,hd⟩:=Option.isSome_iff_exists.1 (w.papers _ hme)
 obtain⟨D,g1,g2,rfl⟩:=jpy (yg b.P) (fun p hp=>yg (b.D p hp).1) hd
 obtain⟨k,p,hp,hv,D',hD',he⟩:=jam hd
 have hb:=(b.D p (List.mem_of_getElem? hp)).2.2.2 D' hD'
 have h1:D.needs.getD []=D'.needs.getD []:=congrArg jf.needs he.symm
 have h2:D.tests.getD []=D'.tests.getD []:=congrArg jf.tests he.symm
 have hnew:(qfu r.er u.er).isSome=true:=by
  unfold qfu
  unfold qct at hd
  cases hq:qc0 r.er u.er.product with
  |none=>rw[hq]at hd;cases hd
  |some sp=>rfl
 obtain⟨v,hnv⟩:=Option.isSome_iff_exists.1 hnew
 exact⟨D,v,g1,g2,hd,hnv,by rw[h1];exact hb.1,by rw[h2];exact hb.2,(b.N u hm).1,(b.N u hm).2,(w.uses _ hme).2,(w.uses _ hme).1,by omega⟩
theorem onU {n0:List UInt8}{k:Nat}{u:qf}(hn:nm e.er 0=n0)(hp:km r.er n0=some k)(h3:r.er.units[k]?=some u.er):qe2 (j6 .i64) r.er e.er =
   if e.kind=qd7 then qpk (j6 .i64) r.er k u.er e.er
   else if e.kind=qda then qkv r.er k u.er e.er
   else if e.kind=qbz then
    (if u.shipped then .error 21 else if !((qct r.er u.er).any fun d=>d.tests.any (isT (nm e.er 1)))then .error 7 else if 64≤(u.results.getD []).length then .error 5 else
     .ok (setUnit r.er k { u.er with results:=u.results.getD []++[⟨nm e.er 1,u.version,vl e.er 1⟩] }))
   else if e.kind=qcw then
    (if u.shipped then .error 21 else match qfu r.er u.er with
     |none=>.error 32
     |some v=>if u.version=v then .error 32 else .ok (setUnit r.er k { u.er with version:=v }))
   else if e.kind=qb6 then(if qgn (j6 .i64) r.er u.er≠0 then .error (qgn (j6 .i64) r.er u.er)else .ok (setUnit r.er k { u.er with shipped:=true }))
   else(if !u.shipped then .error 20 else .ok (setUnit r.er k { u.er with complaints:=j6 .i64 (u.complaints+1) })):=by
 unfold qe2
 rw[hn,hp]
 simp only[h3]
 rfl
theorem j91 (b:GB r)(w:WF r.er){n0:List UInt8}{v0:Int}{k:Nat}(hk:e.kind=qcw)(hn:e.names.getD []=[n0])(hv:e.values.getD []=[v0])(hp:km r.er n0=some k):
  qgx (qbk 113 r e) (z8 (j6 .i64) r.er e.er):=by
 rw[qbb hk (by decide) (by decide),if_neg (by decide)]
 obtain⟨u,h1,_,h3⟩:=qfo hp
 obtain⟨D,v,o⟩:=qj9 b w h1
 rw[onU (nm0 hn) hp h3,if_neg (by rw[hk];decide),if_neg (by rw[hk];decide),if_neg (by rw[hk];decide),if_pos hk,o.new]
 have hA:qbk 113 r e=jw (f113 e r.day r.lots r.products r.units) fun v=>some (v.1,{ r with units:=v.2 }):=rfl
 rw[hA]
 have g1:ji1 r.units (k:Int) v=some (some ((r.units.getD []).set k { u with version:=v })):=qdt (yg b.U) h1 rfl
 generalize hU:({ u with version:=v }:qf)=U' at g1
 have hok:({ r with units:=some ((r.units.getD []).set k U') }:qc).er=setUnit r.er k { u.er with version:=v }:=by rw[qdl rfl,←hU];rfl
 unfold f113
 simp only[qc.eta,qcl hn,jw,qi6 (yg b.U),hp,qat,z6 h1,(qlp (yg b.P) o.new).1,qca,g1]
 rw[qbj (by simp[SM])]
 cases u.shipped with
 |true=>exact⟨_,_,rfl,rfl,by decide⟩
 |false=>
  by_cases h:u.version=v
  ·rw[dT h,if_pos h];exact⟨_,_,rfl,rfl,by decide⟩
  ·rw[dF h,if_neg h];exact⟨_,_,rfl,rfl,hok⟩
theorem zeu (b:GB r)(w:WF r.er){n0:List UInt8}{v0:Int}{k:Nat}(hk:e.kind=qb6)(hn:e.names.getD []=[n0])(hv:e.values.getD []=[v0])(hp:km r.er n0=some k):
  qgx (qbk 117 r e) (z8 (j6 .i64) r.er e.er):=by
 rw[qbb hk (by decide) (by decide),if_neg (by decide)]
 obtain⟨u,h1,_,h3⟩:=qfo hp
 obtain⟨D,v,o⟩:=qj9 b w h1
 rw[onU (nm0 hn) hp h3,if_neg (by rw[hk];decide),if_neg (by rw[hk];decide),if_neg (by rw[hk];decide),if_neg (by rw[hk];decide),if_pos hk]
 have hA:qbk 117 r e=jw (f117 e r.day r.lots r.products r.units) fun v=>some (v.1,{ r with units:=v.2 }):=rfl
 rw[hA]
 have g1:jhc r.units (k:Int)=some (some ((r.units.getD []).set k { u with shipped:=true })):=qdt (yg b.U) h1 rfl
 have g2:=jpq (yg b.P) o.new (yg b.L) (yg o.uses) o.lots o.doc o.pap (yg o.needs) (yg o.results) (yg o.tests) o.ver
 unfold f117
 simp only[qc.eta,qcl hn,jw,qi6 (yg b.U),hp,qat,z6 h1,g2,g1]
 by_cases h:qgn (j6 .i64) r.er u.er=0
 ·rw[dT h,if_neg (fun hh=>hh h)];exact⟨_,_,rfl,rfl,qdl rfl⟩
 ·rw[dF h,if_pos h];exact⟨_,_,rfl,rfl,h⟩
theorem zhd (b:GB r){n0:List UInt8}{v0:Int}{k:Nat}(hk:e.kind=qdk)(hn:e.names.getD []=[n0])(hv:e.values.getD []=[v0])(hp:km r.er n0=some k):
  qgx (qbk 118 r e) (z8 (j6 .i64) r.er e.er):=by
 rw[qbb hk (by decide) (by decide),if_neg (by decide)]
 obtain⟨u,h1,_,h3⟩:=qfo hp
 rw[onU (nm0 hn) hp h3,if_neg (by rw[hk];decide),if_neg (by rw[hk];decide),if_neg (by rw[hk];decide),if_neg (by rw[hk];decide),if_neg (by rw[hk];decide)]
 have hA:qbk 118 r e=jw (f118 e r.day r.lots r.products r.units) fun v=>some (v.1,{ r with units:=v.2 }):=rfl
 rw[hA]
 have g1:ji9 r.units (k:Int)=some (some ((r.units.getD []).set k { u with complaints:=j6 .i64 (u.complaints+1) })):=qdt (yg b.U) h1 rfl
 generalize hU:({ u with complaints:=j6 .i64 (u.complaints+1) }:qf)=U' at g1
 have hok:({ r with units:=some ((r.units.getD []).set k U') }:qc).er=setUnit r.er k { u.er with complaints:=j6 .i64 (u.complaints+1) }:=by rw[qdl rfl,←hU];rfl
 unfold f118
 simp only[qc.eta,qcl hn,jw,qi6 (yg b.U),hp,qat,z6 h1,g1]
 cases u.shipped with
 |true=>exact⟨_,_,rfl,rfl,hok⟩
 |false=>exact⟨_,_,rfl,rfl,by decide⟩
theorem zg6 (b:GB r)(w:WF r.er){n0 n1:List UInt8}{v0 v1:Int}{k:Nat}(hk:e.kind=qbz)(hn:e.names.getD []=[n0,n1])(hv:e.values.getD []=[v0,v1])(hp:km r.er n0=some k):
  qgx (qbk 112 r e) (z8 (j6 .i64) r.er e.er):=by
 rw[qbb hk (by decide) (by decide),if_neg (by decide)]
 obtain⟨u,h1,_,h3⟩:=qfo hp
 obtain⟨D,v,o⟩:=qj9 b w h1
 rw[onU (nm0 hn) hp h3,if_neg (by rw[hk];decide),if_neg (by rw[hk];decide),if_pos hk,nm1 hn,vl1 hv,o.pap]
 have hA:qbk 112 r e=jw (f112 e r.day r.lots r.products r.units) fun v=>some (v.1,{ r with units:=v.2 }):=rfl
 rw[hA]
 have g1:jhn r.units (k:Int) e=some (some ((r.units.getD []).set k { u with results:=some (u.results.getD []++[⟨n1,u.version,v1⟩]) })):=qdt (yg b.U) h1 (by
  unfold q97
  rw[qcc hn,qcc hv]
  simp only[jw]
  rw[jly (qeb o.results)])
 generalize hU:({ u with results:=some (u.results.getD []++[⟨n1,u.version,v1⟩]) }:qf)=U' at g1
 have hok:({ r with units:=some ((r.units.getD []).set k U') }:qc).er=setUnit r.er k { u.er with results:=u.results.getD []++[⟨n1,u.version,v1⟩] }:=by rw[qdl rfl,←hU];rfl
 unfold f112
 simp only[qc.eta,qcl hn,jw,qi6 (yg b.U),hp,qat,z6 h1,o.doc,jet (qcc hn) (yg o.tests),qca,g1,Option.any_some]
 rw[qbj (by simp[SM]),show D.er.tests=D.tests.getD []from rfl]
 cases u.shipped with
 |true=>exact⟨_,_,rfl,rfl,by decide⟩
 |false=>
  cases (D.tests.getD []).any (isT n1)with
  |false=>exact⟨_,_,rfl,rfl,by decide⟩
  |true=>
   by_cases h2:64≤(u.results.getD []).length
   ·rw[show decide (64≤((u.results.getD []).length:Int))=true from dT (by omega),if_pos h2]
    exact⟨_,_,rfl,rfl,by decide⟩
   ·rw[show decide (64≤((u.results.getD []).length:Int))=false from dF (by omega),if_neg h2]
    exact⟨_,_,rfl,rfl,hok⟩
theorem zeq (b:GB r)(w:WF r.er){n0 n1:List UInt8}{v0 v1:Int}{k j:Nat}(hk:e.kind=qd7)(hn:e.names.getD []=[n0,n1])(hv:e.values.getD []=[v0,v1])(hp:km r.er n0=some k)(hq:kx r.er n1=some j):
  qgx (qbk 111 r e) (z8 (j6 .i64) r.er e.er):=by
 rw[qbb hk (by decide) (by decide),if_neg (by decide)]
 obtain⟨u,h1,_,h3⟩:=qfo hp
 obtain⟨x,h4,hxn⟩:=qvi hq
 obtain⟨D,v,o⟩:=qj9 b w h1
 rw[onU (nm0 hn) hp h3,if_pos hk]
 unfold qpk
 rw[nm1 hn,hq,vl1 hv,o.pap]
 simp only[qf7,h4]
 have hA:qbk 111 r e=jw (f111 e r.day r.lots r.products r.units) fun v=>some (v.1,{ r with lots:=v.2.1,units:=v.2.2 }):=rfl
 rw[hA]
 have g1:jg4 r.lots (j:Int) v1=some (some ((r.lots.getD []).set j { x with left:=j6 .i64 (x.left-v1) })):=qdt (yg b.L) h4 rfl
 unfold f111
 simp only[qc.eta,qcl hn,qcc hn,qcc hv,jw,qi6 (yg b.U),qn7 (yg b.L),hp,hq,qat,z6 h1,z6 h4,o.doc,jhu (yg o.needs),qca,g1,jmx (yg o.uses),Option.any_some]
 rw[qbj (by simp[SM])]
 have hdn:D.er.needs=D.needs.getD []:=rfl
 simp only[hdn]
 have hfin:∀(s:qm),qgg (j6 .i64) (u.uses.getD []) x.name v1=qbs (isK x.name) s (u.uses.getD [])→∃us,chO r.units (k:Int) (qzf s x)=some us∧({ r with lots:=some ((r.lots.getD []).set j { x with left:=j6 .i64 (x.left-v1) }),units:=us }:qc).er=setUnit (setLot r.er j { x with left:=j6 .i64 (x.left-v1) }) k { u.er with uses:=qgg (j6 .i64) u.er.uses x.name v1 }:=by
  intro s hs
  obtain⟨q,wq,q1,q2⟩:=jm4 (x:=s) (t:=x) (o:=u.uses) (qeb o.uses)
  refine⟨_,qdt (y:={ u with uses:=q }) (yg b.U) h1 (by unfold qzf;rw[q1];rfl),?_⟩
  simp only[qc.er,setUnit,setLot,Option.getD_some,List.map_set]
  congr 2
  simp only[qf.er,q2,hs]
 by_cases hs:u.shipped=true
 ·simp only[if_pos hs,if_pos (show u.er.shipped=true from hs)]
  exact⟨_,_,rfl,rfl,by decide⟩
 simp only[if_neg hs,if_neg (show ¬u.er.shipped=true from hs)]
 by_cases hz:v1=0
 ·simp only[if_pos hz,dT hz,if_true]
  exact⟨_,_,rfl,rfl,by decide⟩
 simp only[if_neg hz,dF hz,Bool.false_eq_true,if_false]
 by_cases hh:x.held=true
 ·simp only[if_pos hh]
  exact⟨_,_,rfl,rfl,by decide⟩
 simp only[if_neg hh]
 cases (D.needs.getD []).any (isK x.kind)with
 |false=>exact⟨_,_,rfl,rfl,by decide⟩
 |true=>
 simp only[Bool.not_true,Bool.false_eq_true,if_false]
 by_cases hl:x.left<v1
 ·simp only[if_pos hl,dT hl,if_true]
  exact⟨_,_,rfl,rfl,by decide⟩
 simp only[if_neg hl,dF hl,Bool.false_eq_true,if_false]
 have hfst:∀ {α:Type} (A B:Option α),cond (decide (qbr [0,0,0,0,0]=0)) A B=A:=fun A B=>rfl
 cases hi:(u.uses.getD []).findIdx? (isK x.name)with
 |none=>
  obtain⟨us,q1,q2⟩:=hfin ⟨x.name,v1⟩ (by unfold qgg qbs;rw[hi])
  rw[hfst]
  rw[show decide (0≤ixI none)=false from rfl]
  simp only[cond_false,q1]
  exact⟨_,_,rfl,rfl,q2⟩
 |some i=>
  obtain⟨y,hy,_⟩:=findIdx?_get hi
  obtain⟨us,q1,q2⟩:=hfin ⟨x.name,j6 .i64 (v1+y.n)⟩ (by unfold qgg qbs;rw[hi];simp only[hy])
  rw[hfst]
  rw[show decide (0≤ixI (some i))=true from qeq (some i)]
  simp only[cT,qat,z6 hy,q1]
  exact⟨_,_,rfl,rfl,q2⟩
end Go.Z
set_option maxHeartbeats 4000000
namespace Go.Z
open Go Go.Abs Go.W
variable {r:qc}{e:ql}
theorem jv7 {a b c d:Int}:f51 (some [a,b,c,d])=some (qbr [a,b,c,d]):=qbj (by simp[SM])
theorem zgm (b:GB r){n0 n1:List UInt8}{v0:Int}{k j:Nat}(hk:e.kind=qda)(hn:e.names.getD []=[n0,n1])(hv:e.values.getD []=[v0])(hp:km r.er n0=some k)(hq:km r.er n1=some j):
  qgx (qbk 114 r e) (z8 (j6 .i64) r.er e.er):=by
 rw[qbb hk (by decide) (by decide),if_neg (by decide)]
 obtain⟨u,h1,_,h3⟩:=qfo hp
 obtain⟨v,h4,_,h5⟩:=qfo hq
 rw[onU (nm0 hn) hp h3,if_neg (by rw[hk];decide),if_pos hk]
 unfold qkv
 rw[nm1 hn,hq]
 simp only[h5]
 have hA:qbk 114 r e=jw (f114 e r.day r.lots r.products r.units) fun v=>some (v.1,{ r with units:=v.2 }):=rfl
 rw[hA]
 have g1:qmb r.units (k:Int) v=some (some ((r.units.getD []).set k { u with partner:=v.name })):=qdt (yg b.U) h1 rfl
 have g2:k≠j→∀bb,qmj (some ((r.units.getD []).set k { u with partner:=v.name })) (j:Int) ⟨u.name,u.product,u.version,u.uses,u.results,u.partner,bb,u.complaints⟩=some (some (((r.units.getD []).set k { u with partner:=v.name }).set j { v with partner:=u.name })):=by
  intro hkj bb
  exact qdt (x:=v) (by rw[Option.getD_some,List.length_set];exact yg b.U) (by rw[Option.getD_some,List.getElem?_set_ne hkj];exact h4) rfl
 have hok:({ r with units:=some (((r.units.getD []).set k { u with partner:=v.name }).set j { v with partner:=u.name }) }:qc).er=setUnit (setUnit r.er k { u.er with partner:=v.er.name }) j { v.er with partner:=u.er.name }:=by
  simp only[qc.er,setUnit,Option.getD_some,List.map_set]
  rfl
 generalize hz:setUnit (setUnit r.er k { u.er with partner:=v.er.name }) j { v.er with partner:=u.er.name }=Z at hok ⊢
 generalize hX:some (some (((r.units.getD []).set k { u with partner:=v.name }).set j { v with partner:=u.name }))=X at g2
 generalize hY:some ((r.units.getD []).set k { u with partner:=v.name })=Y at g1 g2
 unfold f114
 simp only[qc.eta,qcl hn,qcc hn,jw,qi6 (yg b.U),hp,hq,qat,z6 h1,z6 h4,qca,jv7,g1]
 have e1:decide ((k:Int)=(j:Int))=decide (k=j):=by
  by_cases h:k=j
  ·rw[dT h];exact dT (by omega)
  ·rw[dF h];exact dF (by omega)
 have e2:u.er.product=u.product:=rfl
 have e3:v.er.product=v.product:=rfl
 have e4:u.er.version=u.version:=rfl
 have e5:v.er.version=v.version:=rfl
 have e6:u.er.shipped=u.shipped:=rfl
 have e7:v.er.shipped=v.shipped:=rfl
 have e8:u.er.partner=u.partner:=rfl
 have e9:v.er.partner=v.partner:=rfl
 simp only[e1,e2,e3,e4,e5,e6,e7,e8,e9]
 by_cases c1:k=j<;>by_cases c2:u.product=v.product<;>by_cases c3:u.version=v.version<;>cases c4:u.shipped<;>cases c5:v.shipped<;>by_cases c6:u.partner=[]<;>by_cases c7:v.partner=[] <;>
  simp only[c1,c2,c3,c6,c7,decide_true,decide_false,cT,cond_false,Bool.not_true,Bool.not_false,if_true,if_false,Bool.false_eq_true,ne_eq,not_true_eq_false,not_false_eq_true,or_true,true_or,or_false,false_or,or_self] <;>
  first
  |exact⟨_,_,rfl,rfl,by decide⟩
  |(have g3:=g2 c1 false
    simp only[c2,c3,c6]at g3
    rw[g3,←hX]
    exact⟨_,_,rfl,rfl,hok⟩)
end Go.Z
