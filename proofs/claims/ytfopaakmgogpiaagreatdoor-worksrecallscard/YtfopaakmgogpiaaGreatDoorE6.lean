/- Chapter 10, plain. -/
import Derived.Test.YtfopaakmgogpiaaGreatDoorE1
import Derived.Test.YtfopaakmgogpiaaGreatDoorV8
set_option linter.unusedVariables false
set_option linter.unusedSimpArgs false
set_option maxRecDepth 100000
open Option renaming some→I,getD_some→Ek,isSome_iff_exists→Ev,any_some→Gx
open Bool renaming false_eq_true→Eh,true_and→Eo,and_true→Ep,true→Eu,false→Ga,not_true→Gf,not_false→Gr,and_eq_true→Gw
open List renaming mem_of_getElem?→En,length_map→Gb,getElem?_map→Gc,map_cons→Ge,length_cons→Gh,map_nil→Gi,map_set→Gk,map_append→Gl,length_nil→Gm,length_singleton→Gn,mem_map_of_mem→Gv
namespace Go.Z
open Go Go.Abs Go.W
abbrev BB:Nat:=1000000
structure GB (r:qc):Prop where
 L:(r.ar.getD []).length≤BB
 P:(r.ae.getD []).length≤BB
 U:(r.units.getD []).length≤BB
 D:∀p∈r.ae.getD [],(p.aO.getD []).length≤BB∧(p.dn.getD []).length≤BB∧(p.dt.getD []).length≤BB∧∀d∈p.aO.getD [],(d.aI.getD []).length≤BB∧(d.aH.getD []).length≤BB
 N:∀u∈r.units.getD [],(u.uses.getD []).length≤BB∧(u.results.getD []).length≤BB
theorem yb {n}(h:n≤BB):n≤SM:=by unfold BB at h;unfold SM;omega
theorem mG {n}(h:n≤BB):n<SM:=by unfold BB at h;unfold SM;omega
def np (x:Option (Int×qc))(y:pJ):Prop:=∃c r',x=I (c,r')∧match y with
 | .error k=>c=k∧k≠0
 | .ok s=>c=0∧r'.er=s
variable {r:qc}{e:ql}
theorem O2 {a lo hi}:f52 a lo hi=I (if a<lo∨hi<a then 3 else 0):=by
 unfold f52
 by_cases h1:a<lo
 ·simp[h1,iO,jw]
 ·by_cases h2:hi<a<;>simp[h1,h2,iO,jw]
theorem jF {k}:dH (I k)=(k:Int):=rfl
theorem wx {o}:decide (0≤dH o)=o.isSome:=vk o
theorem Iy {n k}(h:kg r.er n=I k):∃x,(r.ar.getD [])[k]?=I x∧x.name=n:=by
 obtain⟨x,h1,h2,_⟩:=bC h
 exact⟨x,h1,of_decide_eq_true h2⟩
theorem E3 {n k}(h:kw r.er n=I k):∃p,(r.ae.getD [])[k]?=I p∧p.name=n∧r.er.ae[k]?=I p.er:=by
 rw[OZ]at h
 obtain⟨x,h1,h2,_⟩:=bC h
 exact⟨x,h1,of_decide_eq_true h2,by rw[yn,Gc,h1];rfl⟩
theorem oL {n k}(h:yg r.er n=I k):∃u,(r.units.getD [])[k]?=I u∧u.name=n∧r.er.units[k]?=I u.er:=by
 rw[WE]at h
 obtain⟨x,h1,h2,_⟩:=bC h
 exact⟨x,h1,of_decide_eq_true h2,by rw[rG,Gc,h1];rfl⟩
theorem gE {α:Type}{l:List α}{a t}(h:l=a::t):zn l 0=I a:=by subst h;rfl
theorem gi {α:Type}{l:List α}{a b t}(h:l=a::b::t):zn l 1=I b:=by subst h;rfl
theorem jwj {α:Type}{l:List α}{a b c t}(h:l=a::b::c::t):zn l 2=I c:=by subst h;rfl
theorem eF {a t}(h:e.names.getD []=a::t):nm e.er 0=a:=by unfold nm;rw[show e.er.names=e.names.getD []from rfl,h];rfl
theorem lQ {a b t}(h:e.names.getD []=a::b::t):nm e.er 1=b:=by unfold nm;rw[show e.er.names=e.names.getD []from rfl,h];rfl
theorem vl0 {a t}(h:e.values.getD []=a::t):vl e.er 0=a:=by unfold vl;rw[show e.er.values=e.values.getD []from rfl,h];rfl
theorem vn {a b t}(h:e.values.getD []=a::b::t):vl e.er 1=b:=by unfold vl;rw[show e.er.values=e.values.getD []from rfl,h];rfl
theorem vl2 {a b c t}(h:e.values.getD []=a::b::c::t):vl e.er 2=c:=by unfold vl;rw[show e.er.values=e.values.getD []from rfl,h];rfl
theorem wy:r.er.ar=r.ar.getD []:=rfl
theorem qc.eta (r:qc):(⟨r.day,r.ar,r.ae,r.units⟩:qc)=r:=rfl
theorem a105 (b:GB r){n0 n1:List UInt8}{v0 v1:Int}(hk:e.kind=mf)(hn:e.names.getD []=[n0,n1])(hv:e.values.getD []=[v0,v1]):
  np (eT 105 r e) (apply (j6 .i64) r.er e.er):=by
 have hR:apply (j6 .i64) r.er e.er=n8 r.er e.er:=by unfold apply;rw[if_pos (.inl hk)]
 rw[hR]
 unfold n8
 rw[if_pos (show e.er.kind=mf from hk),eF hn,lQ hn,vn hv,wy]
 have hA:eT 105 r e=jw (f105 e r.day r.ar r.ae r.units) fun v=>I (v.1,{ r with ar:=v.2.1 }):=rfl
 rw[hA]
 unfold f105
 simp only[qc.eta,gE hn,gi hn,gi hv,jw,Ba (yb b.L),iO,O2,wx]
 rw[hM (by simp[SM])]
 simp only[jol (mG b.L)]
 cases (kg r.er n0).isSome with
 |true=>exact⟨_,_,rfl,rfl,by decide⟩
 |false=>
  by_cases h1:v1<1∨10000<v1
  ·simp only[Eh,if_false,h1,if_true,dp]
   exact⟨_,_,rfl,rfl,by decide⟩
  ·by_cases h2:64≤(r.ar.getD []).length
   ·have oB:decide (64≤((r.ar.getD []).length:Int))=Eu:=dT (by omega)
    simp only[Eh,if_false,h1,h2,oB,if_true,dp]
    exact⟨_,_,rfl,rfl,by decide⟩
   ·have oB:decide (64≤((r.ar.getD []).length:Int))=Ga:=dF (by omega)
    simp only[Eh,if_false,h1,h2,oB,if_true,dp]
    exact⟨_,_,rfl,rfl,rfl⟩
theorem qyo {o p}(h:o=I (r.ae.getD []++[p])):({ r with ae:=o }:qc).er={ r.er with ae:=r.er.ae++[p.er] }:=by
 subst h
 simp only[qc.er,Ek,Gl,Ge,Gi]
theorem qw6 {o p}(h:o=I (r.units.getD []++[p])):({ r with units:=o }:qc).er={ r.er with units:=r.er.units++[p.er] }:=by
 subst h
 simp only[qc.er,Ek,Gl,Ge,Gi]
theorem E4 {o p k}(h:o=I ((r.ae.getD []).set k p)):({ r with ae:=o }:qc).er=bD r.er k p.er:=by
 subst h
 simp only[qc.er,bD,Ek,Gk]
theorem yG {o p k}(h:o=I ((r.units.getD []).set k p)):({ r with units:=o }:qc).er=aw r.er k p.er:=by
 subst h
 simp only[qc.er,aw,Ek,Gk]
theorem O3 {o p k}(h:o=I ((r.ar.getD []).set k p)):({ r with ar:=o }:qc).er=b8 r.er k p:=by
 subst h
 simp only[qc.er,b8,Ek]
theorem zbg (b:GB r){n0:List UInt8}{v0:Int}(hk:e.kind=ng)(hn:e.names.getD []=[n0])(hv:e.values.getD []=[v0]):
  np (eT 106 r e) (apply (j6 .i64) r.er e.er):=by
 have hR:apply (j6 .i64) r.er e.er=n8 r.er e.er:=by unfold apply;rw[if_pos (.inr (.inl hk))]
 rw[hR]
 unfold n8
 rw[if_neg (show ¬e.er.kind=mf from fun h=>by rw[show e.er.kind=e.kind from rfl,hk]at h;exact absurd h (by decide)),if_pos (show e.er.kind=ng from hk),eF hn]
 have hA:eT 106 r e=jw (f106 e r.day r.ar r.ae r.units) fun v=>I (v.1,{ r with ae:=v.2.1 }):=rfl
 rw[hA]
 unfold f106
 simp only[qc.eta,gE hn,jw,vi (yb b.P),iO,wx]
 rw[hM (by simp[SM])]
 simp only[jm5 (mG b.P)]
 have hl:r.er.ae.length=(r.ae.getD []).length:=by rw[yn,Gb]
 rw[hl]
 cases (kw r.er n0).isSome with
 |true=>exact⟨_,_,rfl,rfl,by decide⟩
 |false=>
  by_cases h2:16≤(r.ae.getD []).length
  ·have oB:decide (16≤((r.ae.getD []).length:Int))=Eu:=dT (by omega)
   simp only[Eh,if_false,h2,oB,if_true,dp]
   exact⟨_,_,rfl,rfl,by decide⟩
  ·have oB:decide (16≤((r.ae.getD []).length:Int))=Ga:=dF (by omega)
   simp only[Eh,if_false,h2,oB,if_true,dp]
   exact⟨_,_,rfl,rfl,qyo rfl⟩
theorem zfy (b:GB r){n0 n1:List UInt8}{v0:Int}{k}(hk:e.kind=mr)(hn:e.names.getD []=[n0,n1])(hv:e.values.getD []=[v0])(hp:kw r.er n1=I k):
  np (eT 110 r e) (apply (j6 .i64) r.er e.er):=by
 have hR:apply (j6 .i64) r.er e.er=n8 r.er e.er:=by unfold apply;rw[if_pos (.inr (.inr hk))]
 rw[hR]
 obtain⟨p,h1,_,h3⟩:=E3 hp
 have hpo:hJ r.er n1=I p.er:=by unfold hJ;rw[hp];exact h3
 unfold n8
 rw[if_neg (show ¬e.er.kind=mf from fun h=>by rw[show e.er.kind=e.kind from rfl,hk]at h;exact absurd h (by decide)),if_neg (show ¬e.er.kind=ng from fun h=>by rw[show e.er.kind=e.kind from rfl,hk]at h;exact absurd h (by decide)),eF hn,lQ hn,hpo]
 have hA:eT 110 r e=jw (f110 e r.day r.ar r.ae r.units) fun v=>I (v.1,{ r with units:=v.2.1 }):=rfl
 rw[hA]
 unfold f110 f182
 simp only[qc.eta,gE hn,gi hn,jw,vi (yb b.P),vj (yb b.U),iO,wx,hp,jF,zy h1]
 rw[hM (by simp[SM])]
 simp only[jmk (mG b.U)]
 have hl:r.er.units.length=(r.units.getD []).length:=by rw[rG,Gb]
 have hd:p.er.aO.isEmpty=decide (((p.aO.getD []).length:Int)=0):=by
  show((p.aO.getD []).map qt.er).isEmpty=_
  cases p.aO.getD []with
  |nil=>rfl
  |cons x l=>simp;omega
 have oJ:p.er.aO.length=(p.aO.getD []).length:=by show((p.aO.getD []).map qt.er).length=_;rw[Gb]
 simp only[hl,hd,oJ]
 cases (yg r.er n0).isSome with
 |true=>exact⟨_,_,rfl,rfl,by decide⟩
 |false=>
  cases hz:decide (((p.aO.getD []).length:Int)=0)with
  |true=>exact⟨_,_,rfl,rfl,by decide⟩
  |false=>
   by_cases h2:256≤(r.units.getD []).length
   ·have oB:decide (256≤((r.units.getD []).length:Int))=Eu:=dT (by omega)
    simp only[Eh,if_false,h2,oB,if_true,dp]
    exact⟨_,_,rfl,rfl,by decide⟩
   ·have oB:decide (256≤((r.units.getD []).length:Int))=Ga:=dF (by omega)
    simp only[Eh,if_false,h2,oB,if_true,dp]
    exact⟨_,_,rfl,rfl,qw6 rfl⟩
theorem jmy {p c n}(hl:(p.dn.getD []).length<SM):∃v,Iz c n n p=I { p with dn:=v }∧v.getD []=jE (p.dn.getD []) n c:=by
 unfold Iz jE
 by_cases h:c=0
 ·simp only[h,decide_true,cT,if_true,jna (Nat.le_of_lt hl),jw]
  exact⟨_,rfl,yp _⟩
 ·obtain⟨v,w,h1,h2⟩:=jnf (x:=⟨n,c⟩) (k:=n) hl
  simp only[h,decide_false,cond_false,if_false,h1,jw]
  exact⟨_,rfl,h2⟩
theorem jfc (b:GB r){n0 n1 c k p}(hp:kw r.er n0=I k)(hx:(r.ae.getD [])[k]?=I p):∃v,Bq n0 c n1 n1 r.day r.ar r.ae r.units=I (I ((r.ae.getD []).set k { p with dn:=v }))∧v.getD []=jE (p.dn.getD []) n1 c:=by
 obtain⟨v,h1,h2⟩:=jmy (c:=c) (n:=n1) (mG (b.D p (En hx)).2.1)
 refine⟨v,?_,h2⟩
 unfold Bq WO
 simp only[qc.eta,vi (yb b.P),hp,jF,jw]
 rw[n6 (yb b.P) hx h1]
theorem jj6 (b:GB r){n0 t k p}(hp:kw r.er n0=I k)(hx:(r.ae.getD [])[k]?=I p):∃v,E5 n0 t t r.day r.ar r.ae r.units=I (I ((r.ae.getD []).set k { p with dt:=v }))∧v.getD []=eS (ec t.k) t (p.dt.getD []):=by
 obtain⟨v,w,h1,h2⟩:=jmx (x:=t) (s:=t) (o:=p.dt) (mG (b.D p (En hx)).2.2.1)
 refine⟨v,?_,h2⟩
 unfold E5 WQ
 simp only[qc.eta,vi (yb b.P),hp,jF,jw]
 rw[n6 (yb b.P) hx (show IA t t p=I { p with dt:=v } by unfold IA;rw[h1];rfl)]
theorem O4 {n0:List UInt8}{k:Nat}{p:qq}(hn:nm e.er 0=n0)(hp:kw r.er n0=I k)(h3:r.er.ae[k]?=I p.er):n9 r.er e.er =
   if e.kind=mg then
    (if vl e.er 1<0∨10000<vl e.er 1 then .error 3 else if 0<vl e.er 1∧!((p.dn.getD []).any (cN (nm e.er 1)))∧16≤(p.dn.getD []).length then .error 5 else
     .ok (bD r.er k { p.er with bK:={ p.er.bK with aI:=jE (p.dn.getD []) (nm e.er 1) (vl e.er 1) } }))
   else if e.kind=nh then
    (if vl e.er 2<vl e.er 1 then .error 11 else if !((p.dt.getD []).any (ec (nm e.er 1)))∧16≤(p.dt.getD []).length then .error 5 else
     .ok (bD r.er k { p.er with bK:={ p.er.bK with aH:=eS (ec (nm e.er 1)) ⟨nm e.er 1,vl e.er 1,vl e.er 2⟩ (p.dt.getD []) } }))
   else(if(p.dn.getD []).isEmpty then .error 12 else if 100≤p.er.aO.length then .error 5 else .ok (bD r.er k { p.er with aO:=p.er.aO++[p.er.bK] })):=by
 unfold n9
 rw[hn,hp]
 simp only[h3]
 rfl
theorem zja (b:GB r){n0 n1:List UInt8}{v0 v1:Int}{k:Nat}(hk:e.kind=mg)(hn:e.names.getD []=[n0,n1])(hv:e.values.getD []=[v0,v1])(hp:kw r.er n0=I k):
  np (eT 107 r e) (apply (j6 .i64) r.er e.er):=by
 have hR:apply (j6 .i64) r.er e.er=n9 r.er e.er:=by
  unfold apply
  rw[show e.er.kind=mg from hk,if_neg (by decide),if_pos (.inl rfl)]
 obtain⟨p,h1,_,h3⟩:=E3 hp
 rw[hR,O4 (eF hn) hp h3,if_pos hk,lQ hn,vn hv]
 have hA:eT 107 r e=jw (f107 e r.day r.ar r.ae r.units) fun v=>I (v.1,{ r with ae:=v.2 }):=rfl
 rw[hA]
 obtain⟨v,g1,g2⟩:=jfc b (n1:=n1) (c:=v1) hp h1
 have Al:=(b.D p (En h1)).2.1
 have di:({ r with ae:=I ((r.ae.getD []).set k { p with dn:=v }) }:qc).er=bD r.er k { p.er with bK:={ p.er.bK with aI:=jE (p.dn.getD []) n1 v1 } }:=by
  rw[E4 rfl]
  congr 1
  simp only[qq.er,g2]
 unfold f107
 simp only[qc.eta,gE hn,gi hn,gi hv,jw,vi (yb b.P),hp,jF,zy h1,O2,iO,jj2 (yb Al),g1]
 by_cases hz:v1<0∨10000<v1
 ·simp only[hz,if_true,if_false,Eh]
  cases decide (0<v1)<;>cases (p.dn.getD []).any (cN n1)<;>(simp only[cT,cond_false];rw[hM (by simp[SM])];exact⟨_,_,rfl,rfl,by decide⟩)
 ·simp only[hz,if_false,if_true,Eh]
  by_cases h0:0<v1
  ·rw[dT h0]
   cases ha:(p.dn.getD []).any (cN n1)with
   |true=>
    simp only[cT,Gf,Eh,false_and,and_false,if_false]
    rw[hM (by simp[SM])]
    exact⟨_,_,rfl,rfl,di⟩
   |false=>
    simp only[cT,cond_false,Gr,true_and,h0]
    rw[hM (by simp[SM])]
    by_cases h2:16≤(p.dn.getD []).length
    ·rw[show decide (16≤((p.dn.getD []).length:Int))=Eu from dT (by omega),if_pos h2]
     exact⟨_,_,rfl,rfl,by decide⟩
    ·rw[show decide (16≤((p.dn.getD []).length:Int))=Ga from dF (by omega),if_neg h2]
     exact⟨_,_,rfl,rfl,di⟩
  ·rw[dF h0,if_neg (show ¬(0<v1∧(!(p.dn.getD []).any (cN n1))=Eu∧16≤(p.dn.getD []).length)from fun h=>h0 h.1)]
   simp only[cond_false]
   rw[hM (by simp[SM])]
   exact⟨_,_,rfl,rfl,di⟩
theorem zi9 (b:GB r){n0 n1:List UInt8}{v0 v1 v2:Int}{k:Nat}(hk:e.kind=nh)(hn:e.names.getD []=[n0,n1])(hv:e.values.getD []=[v0,v1,v2])(hp:kw r.er n0=I k):
  np (eT 108 r e) (apply (j6 .i64) r.er e.er):=by
 have hR:apply (j6 .i64) r.er e.er=n9 r.er e.er:=by
  unfold apply
  rw[show e.er.kind=nh from hk,if_neg (by decide),if_pos (.inr (.inl rfl))]
 obtain⟨p,h1,_,h3⟩:=E3 hp
 rw[hR,O4 (eF hn) hp h3,if_neg (by rw[hk];decide),if_pos hk,lQ hn,vn hv,vl2 hv]
 have hA:eT 108 r e=jw (f108 e r.day r.ar r.ae r.units) fun v=>I (v.1,{ r with ae:=v.2 }):=rfl
 rw[hA]
 obtain⟨v,g1,g2⟩:=jj6 b (t:=⟨n1,v1,v2⟩) hp h1
 have Al:=(b.D p (En h1)).2.2.1
 have di:({ r with ae:=I ((r.ae.getD []).set k { p with dt:=v }) }:qc).er=bD r.er k { p.er with bK:={ p.er.bK with aH:=eS (ec n1) ⟨n1,v1,v2⟩ (p.dt.getD []) } }:=by
  rw[E4 rfl]
  congr 1
  simp only[qq.er,g2]
 unfold f108
 simp only[qc.eta,gE hn,gi hn,gi hv,jwj hv,jw,vi (yb b.P),hp,jF,zy h1,iO,jhr (yb Al),g1]
 by_cases hz:v2<v1
 ·rw[dT hz,if_pos hz]
  cases (p.dt.getD []).any (ec n1)<;>(simp only[cT,cond_false];rw[hM (by simp[SM])];exact⟨_,_,rfl,rfl,by decide⟩)
 ·rw[dF hz,if_neg hz]
  cases ha:(p.dt.getD []).any (ec n1)with
  |true=>
   simp only[cT,Gf,Eh,false_and,if_false]
   rw[hM (by simp[SM])]
   exact⟨_,_,rfl,rfl,di⟩
  |false=>
   simp only[cond_false,Gr,true_and]
   rw[hM (by simp[SM])]
   by_cases h2:16≤(p.dt.getD []).length
   ·rw[show decide (16≤((p.dt.getD []).length:Int))=Eu from dT (by omega),if_pos h2]
    exact⟨_,_,rfl,rfl,by decide⟩
   ·rw[show decide (16≤((p.dt.getD []).length:Int))=Ga from dF (by omega),if_neg h2]
    exact⟨_,_,rfl,rfl,di⟩
theorem q37 {α:Type}{o:Option (List α)}(h:(o.getD []).length≤SM):∃v w,(cond o.isNone (I (none,Ga)) (jw (bj (I []) (o.getD [])) fun v=>I (v,Eu)))=I (v,w)∧v.getD []=o.getD []:=by
 cases o with
 |none=>exact⟨none,Ga,rfl,rfl⟩
 |some l=>
  have h':l.length≤SM:=h
  simp only[Option.isNone_some,cond_false,Ek]
  rw[Bl h']
  exact⟨_,_,rfl,rfl⟩
theorem jnv {d:qt}(h1:(d.aI.getD []).length≤SM)(h2:(d.aH.getD []).length≤SM):∃d',f181 d=I d'∧d'.er=d.er:=by
 obtain⟨v,w,g1,g2⟩:=q37 h1
 obtain⟨v',w',g3,g4⟩:=q37 h2
 unfold f181
 rw[show f245 d.aI=I (v,w)from g1,show f246 d.aH=I (v',w')from g3]
 exact⟨⟨v,v'⟩,rfl,by simp only[qt.er,g2,g4]⟩
theorem a109 (b:GB r){n0:List UInt8}{v0:Int}{k:Nat}(hk:e.kind=pG)(hn:e.names.getD []=[n0])(hv:e.values.getD []=[v0])(hp:kw r.er n0=I k):
  np (eT 109 r e) (apply (j6 .i64) r.er e.er):=by
 have hR:apply (j6 .i64) r.er e.er=n9 r.er e.er:=by
  unfold apply
  rw[show e.er.kind=pG from hk,if_neg (by decide),if_pos (.inr (.inr rfl))]
 obtain⟨p,h1,_,h3⟩:=E3 hp
 rw[hR,O4 (eF hn) hp h3,if_neg (by rw[hk];decide),if_neg (by rw[hk];decide)]
 have hA:eT 109 r e=jw (f109 e r.day r.ar r.ae r.units) fun v=>I (v.1,{ r with ae:=v.2 }):=rfl
 rw[hA]
 have hD:=b.D p (En h1)
 obtain⟨d',g1,g2⟩:=jnv (d:=⟨p.dn,p.dt⟩) (yb hD.2.1) (yb hD.2.2.1)
 have g3:O5 r.ae (k:Int)=I (I ((r.ae.getD []).set k { p with aO:=I (p.aO.getD []++[d']) })):=by
  unfold O5
  exact n6 (yb b.P) h1 (by unfold O6;rw[g1];simp only[jw];rw[joc (mG hD.1)])
 have di:({ r with ae:=I ((r.ae.getD []).set k { p with aO:=I (p.aO.getD []++[d']) }) }:qc).er=bD r.er k { p.er with aO:=p.er.aO++[p.er.bK] }:=by
  rw[E4 rfl]
  congr 1
  simp only[qq.er,Ek,Gl,Ge,Gi,g2]
  rfl
 have oJ:p.er.aO.length=(p.aO.getD []).length:=by show((p.aO.getD []).map qt.er).length=_;rw[Gb]
 have hd:(p.dn.getD []).isEmpty=decide (((p.dn.getD []).length:Int)=0):=by
  cases p.dn.getD []with
  |nil=>rfl
  |cons x l=>simp;omega
 unfold f109
 simp only[qc.eta,gE hn,jw,vi (yb b.P),hp,jF,zy h1,iO,g3,hd,oJ]
 rw[hM (by simp[SM])]
 cases decide (((p.dn.getD []).length:Int)=0)with
 |true=>exact⟨_,_,rfl,rfl,by decide⟩
 |false=>
  by_cases h2:100≤(p.aO.getD []).length
  ·rw[show decide (100≤((p.aO.getD []).length:Int))=Eu from dT (by omega),if_pos h2]
   exact⟨_,_,rfl,rfl,by decide⟩
  ·rw[show decide (100≤((p.aO.getD []).length:Int))=Ga from dF (by omega),if_neg h2]
   exact⟨_,_,rfl,rfl,di⟩
end Go.Z
namespace Go.Z
open Go Go.Abs Go.W
variable {r:qc}{e:ql}
theorem jU {k}(hk:e.kind=k)(h:¬(k=mf∨k=ng∨k=mr))(h2:¬(k=mg∨k=nh∨k=pG)):apply (j6 .i64) r.er e.er=if k=nZ∨k=rF then vo r.er e.er else oc (j6 .i64) r.er e.er:=by
 unfold apply
 rw[show e.er.kind=k from hk,if_neg h,if_neg h2]
theorem zcr (b:GB r){n0 v0 k}(hk:e.kind=nZ)(hn:e.names.getD []=[n0])(hv:e.values.getD []=[v0])(hp:kg r.er n0=I k):
  np (eT 115 r e) (apply (j6 .i64) r.er e.er):=by
 rw[jU hk (by decide) (by decide),if_pos (.inl rfl)]
 obtain⟨x,h1,_⟩:=Iy hp
 have hA:eT 115 r e=jw (f115 e r.day r.ar r.ae r.units) fun v=>I (v.1,{ r with ar:=v.2 }):=rfl
 rw[hA]
 have g1:WR r.ar (k:Int)=I (I ((r.ar.getD []).set k { x with held:=Eu })):=n6 (yb b.L) h1 rfl
 unfold vo
 rw[eF hn,hp]
 simp only[wy,h1]
 rw[if_pos (show e.er.kind=nZ from hk)]
 unfold f115
 simp only[qc.eta,gE hn,jw,Ba (yb b.L),hp,jF,zy h1,g1]
 cases x.held with
 |true=>exact⟨_,_,rfl,rfl,by decide⟩
 |false=>exact⟨_,_,rfl,rfl,O3 rfl⟩
theorem zct (b:GB r){n0 v0 k}(hk:e.kind=rF)(hn:e.names.getD []=[n0])(hv:e.values.getD []=[v0])(hp:kg r.er n0=I k):
  np (eT 116 r e) (apply (j6 .i64) r.er e.er):=by
 rw[jU hk (by decide) (by decide),if_pos (.inr rfl)]
 obtain⟨x,h1,_⟩:=Iy hp
 have hA:eT 116 r e=jw (f116 e r.day r.ar r.ae r.units) fun v=>I (v.1,{ r with ar:=v.2 }):=rfl
 rw[hA]
 have g1:WS r.ar (k:Int)=I (I ((r.ar.getD []).set k { x with held:=Ga })):=n6 (yb b.L) h1 rfl
 unfold vo
 rw[eF hn,hp]
 simp only[wy,h1]
 rw[if_neg (show ¬e.er.kind=nZ from fun h=>by rw[show e.er.kind=e.kind from rfl,hk]at h;exact absurd h (by decide))]
 unfold f116
 simp only[qc.eta,gE hn,jw,Ba (yb b.L),hp,jF,zy h1,g1]
 cases x.held with
 |true=>exact⟨_,_,rfl,rfl,O3 rfl⟩
 |false=>exact⟨_,_,rfl,rfl,by decide⟩
structure ju (r:qc)(u:qf)(D:qt)(v:Int):Prop where
 doc:f134 r u=I D
 Br:f78 r u=I D
 E6:gS r.er u.er=I D.er
 new:pI r.er u.er=I v
 aI:(D.aI.getD []).length≤BB
 aH:(D.aH.getD []).length≤BB
 uses:(u.uses.getD []).length≤BB
 results:(u.results.getD []).length≤BB
 ar:∀x∈u.uses.getD [],(kg r.er x.k).isSome=Eu
 keyed:kz (·.k) (u.uses.getD [])
 bz:u.version≠-1
theorem jce {u:qf}{d}(h:gS r.er u.er=I d):∃(k:Nat) (p:qq),(r.ae.getD [])[k]?=I p∧1≤u.version∧∃D:qt,D∈p.aO.getD []∧D.er=d:=by
 unfold gS at h
 cases hp:hJ r.er u.er.product with
 |none=>rw[hp]at h;cases h
 |some sp=>
  rw[hp]at h
  obtain⟨k,p,_,h2,rfl,_⟩:=WG hp
  simp only[Option.bind_some,EW]at h
  split at h
  ·rename_i hv
   refine⟨k,p,h2,hv,?_⟩
   have h3:((p.aO.getD []).map qt.er)[(u.er.version-1).toNat]?=I d:=h
   rw[Gc]at h3
   cases hD:(p.aO.getD [])[(u.er.version-1).toNat]? with
   |none=>rw[hD]at h3;cases h3
   |some D=>rw[hD]at h3;exact⟨D,En hD,by simpa using h3⟩
  ·cases h
theorem E7 (b:GB r)(w:WF r.er){i:Nat}{u}(hu:(r.units.getD [])[i]?=I u):∃D v,ju r u D v:=by
 have hm:=En hu
 have IB:u.er∈r.er.units:=by rw[rG];exact Gv hm
 obtain⟨d,hd⟩:=Ev.1 (w.dI _ IB)
 obtain⟨D,g1,g2,rfl⟩:=jwc (yb b.P) (fun p hp=>yb (b.D p hp).1) hd
 obtain⟨k,p,hp,hv,D',od,he⟩:=jce hd
 have hb:=(b.D p (En hp)).2.2.2 D' od
 have h1:D.aI.getD []=D'.aI.getD []:=congrArg jm.aI he.symm
 have h2:D.aH.getD []=D'.aH.getD []:=congrArg jm.aH he.symm
 have cQ:(pI r.er u.er).isSome=Eu:=by
  unfold pI
  unfold gS at hd
  cases hq:hJ r.er u.er.product with
  |none=>rw[hq]at hd;cases hd
  |some sp=>rfl
 obtain⟨v,U1⟩:=Ev.1 cQ
 exact⟨D,v,g1,g2,hd,U1,by rw[h1];exact hb.1,by rw[h2];exact hb.2,(b.N u hm).1,(b.N u hm).2,(w.uses _ IB).2,(w.uses _ IB).1,by omega⟩
theorem wz {n0:List UInt8}{k:Nat}{u:qf}(hn:nm e.er 0=n0)(hp:yg r.er n0=I k)(h3:r.er.units[k]?=I u.er):oc (j6 .i64) r.er e.er =
   if e.kind=mA then wA (j6 .i64) r.er k u.er e.er
   else if e.kind=ni then wC r.er k u.er e.er
   else if e.kind=oG then
    (if u.aq then .error 21 else if !((gS r.er u.er).any fun d=>d.aH.any (ec (nm e.er 1)))then .error 7 else if 64≤(u.results.getD []).length then .error 5 else
     .ok (aw r.er k { u.er with results:=u.results.getD []++[⟨nm e.er 1,u.version,vl e.er 1⟩] }))
   else if e.kind=pH then
    (if u.aq then .error 21 else match pI r.er u.er with
     |none=>.error 32
     |some v=>if u.version=v then .error 32 else .ok (aw r.er k { u.er with version:=v }))
   else if e.kind=kP then(if vm (j6 .i64) r.er u.er≠0 then .error (vm (j6 .i64) r.er u.er)else .ok (aw r.er k { u.er with aq:=Eu }))
   else(if !u.aq then .error 20 else .ok (aw r.er k { u.er with aj:=j6 .i64 (u.aj+1) })):=by
 unfold oc
 rw[hn,hp]
 simp only[h3]
 rfl
theorem zga (b:GB r)(w:WF r.er){n0:List UInt8}{v0:Int}{k:Nat}(hk:e.kind=pH)(hn:e.names.getD []=[n0])(hv:e.values.getD []=[v0])(hp:yg r.er n0=I k):
  np (eT 113 r e) (apply (j6 .i64) r.er e.er):=by
 rw[jU hk (by decide) (by decide),if_neg (by decide)]
 obtain⟨u,h1,_,h3⟩:=oL hp
 obtain⟨D,v,o⟩:=E7 b w h1
 rw[wz (eF hn) hp h3,if_neg (by rw[hk];decide),if_neg (by rw[hk];decide),if_neg (by rw[hk];decide),if_pos hk,o.new]
 have hA:eT 113 r e=jw (f113 e r.day r.ar r.ae r.units) fun v=>I (v.1,{ r with units:=v.2 }):=rfl
 rw[hA]
 have g1:WT r.units (k:Int) v=I (I ((r.units.getD []).set k { u with version:=v })):=n6 (yb b.U) h1 rfl
 generalize hU:({ u with version:=v }:qf)=U' at g1
 have di:({ r with units:=I ((r.units.getD []).set k U') }:qc).er=aw r.er k { u.er with version:=v }:=by rw[yG rfl,←hU];rfl
 unfold f113
 simp only[qc.eta,gE hn,jw,vj (yb b.U),hp,jF,zy h1,(O0 (yb b.P) o.new).1,iO,g1]
 rw[hM (by simp[SM])]
 cases u.aq with
 |true=>exact⟨_,_,rfl,rfl,by decide⟩
 |false=>
  by_cases h:u.version=v
  ·rw[dT h,if_pos h];exact⟨_,_,rfl,rfl,by decide⟩
  ·rw[dF h,if_neg h];exact⟨_,_,rfl,rfl,di⟩
theorem zel (b:GB r)(w:WF r.er){n0:List UInt8}{v0:Int}{k:Nat}(hk:e.kind=kP)(hn:e.names.getD []=[n0])(hv:e.values.getD []=[v0])(hp:yg r.er n0=I k):
  np (eT 117 r e) (apply (j6 .i64) r.er e.er):=by
 rw[jU hk (by decide) (by decide),if_neg (by decide)]
 obtain⟨u,h1,_,h3⟩:=oL hp
 obtain⟨D,v,o⟩:=E7 b w h1
 rw[wz (eF hn) hp h3,if_neg (by rw[hk];decide),if_neg (by rw[hk];decide),if_neg (by rw[hk];decide),if_neg (by rw[hk];decide),if_pos hk]
 have hA:eT 117 r e=jw (f117 e r.day r.ar r.ae r.units) fun v=>I (v.1,{ r with units:=v.2 }):=rfl
 rw[hA]
 have g1:WU r.units (k:Int)=I (I ((r.units.getD []).set k { u with aq:=Eu })):=n6 (yb b.U) h1 rfl
 have g2:=jrz (yb b.P) o.new (yb b.L) (yb o.uses) o.ar o.doc o.E6 (yb o.aI) (yb o.results) (yb o.aH) o.bz
 unfold f117
 simp only[qc.eta,gE hn,jw,vj (yb b.U),hp,jF,zy h1,g2,g1]
 by_cases h:vm (j6 .i64) r.er u.er=0
 ·rw[dT h,if_neg (fun hh=>hh h)];exact⟨_,_,rfl,rfl,yG rfl⟩
 ·rw[dF h,if_pos h];exact⟨_,_,rfl,rfl,h⟩
theorem zdw (b:GB r){n0:List UInt8}{v0:Int}{k:Nat}(hk:e.kind=x9)(hn:e.names.getD []=[n0])(hv:e.values.getD []=[v0])(hp:yg r.er n0=I k):
  np (eT 118 r e) (apply (j6 .i64) r.er e.er):=by
 rw[jU hk (by decide) (by decide),if_neg (by decide)]
 obtain⟨u,h1,_,h3⟩:=oL hp
 rw[wz (eF hn) hp h3,if_neg (by rw[hk];decide),if_neg (by rw[hk];decide),if_neg (by rw[hk];decide),if_neg (by rw[hk];decide),if_neg (by rw[hk];decide)]
 have hA:eT 118 r e=jw (f118 e r.day r.ar r.ae r.units) fun v=>I (v.1,{ r with units:=v.2 }):=rfl
 rw[hA]
 have g1:WV r.units (k:Int)=I (I ((r.units.getD []).set k { u with aj:=j6 .i64 (u.aj+1) })):=n6 (yb b.U) h1 rfl
 generalize hU:({ u with aj:=j6 .i64 (u.aj+1) }:qf)=U' at g1
 have di:({ r with units:=I ((r.units.getD []).set k U') }:qc).er=aw r.er k { u.er with aj:=j6 .i64 (u.aj+1) }:=by rw[yG rfl,←hU];rfl
 unfold f118
 simp only[qc.eta,gE hn,jw,vj (yb b.U),hp,jF,zy h1,g1]
 cases u.aq with
 |true=>exact⟨_,_,rfl,rfl,di⟩
 |false=>exact⟨_,_,rfl,rfl,by decide⟩
theorem zbd (b:GB r)(w:WF r.er){n0 n1:List UInt8}{v0 v1:Int}{k:Nat}(hk:e.kind=oG)(hn:e.names.getD []=[n0,n1])(hv:e.values.getD []=[v0,v1])(hp:yg r.er n0=I k):
  np (eT 112 r e) (apply (j6 .i64) r.er e.er):=by
 rw[jU hk (by decide) (by decide),if_neg (by decide)]
 obtain⟨u,h1,_,h3⟩:=oL hp
 obtain⟨D,v,o⟩:=E7 b w h1
 rw[wz (eF hn) hp h3,if_neg (by rw[hk];decide),if_neg (by rw[hk];decide),if_pos hk,lQ hn,vn hv,o.E6]
 have hA:eT 112 r e=jw (f112 e r.day r.ar r.ae r.units) fun v=>I (v.1,{ r with units:=v.2 }):=rfl
 rw[hA]
 have g1:WW r.units (k:Int) e=I (I ((r.units.getD []).set k { u with results:=I (u.results.getD []++[⟨n1,u.version,v1⟩]) })):=n6 (yb b.U) h1 (by
  unfold O7
  rw[gi hn,gi hv]
  simp only[jw]
  rw[jnu (mG o.results)])
 generalize hU:({ u with results:=I (u.results.getD []++[⟨n1,u.version,v1⟩]) }:qf)=U' at g1
 have di:({ r with units:=I ((r.units.getD []).set k U') }:qc).er=aw r.er k { u.er with results:=u.results.getD []++[⟨n1,u.version,v1⟩] }:=by rw[yG rfl,←hU];rfl
 unfold f112
 simp only[qc.eta,gE hn,jw,vj (yb b.U),hp,jF,zy h1,o.doc,jku (gi hn) (yb o.aH),iO,g1,Gx]
 rw[hM (by simp[SM]),show D.er.aH=D.aH.getD []from rfl]
 cases u.aq with
 |true=>exact⟨_,_,rfl,rfl,by decide⟩
 |false=>
  cases (D.aH.getD []).any (ec n1)with
  |false=>exact⟨_,_,rfl,rfl,by decide⟩
  |true=>
   by_cases h2:64≤(u.results.getD []).length
   ·rw[show decide (64≤((u.results.getD []).length:Int))=Eu from dT (by omega),if_pos h2]
    exact⟨_,_,rfl,rfl,by decide⟩
   ·rw[show decide (64≤((u.results.getD []).length:Int))=Ga from dF (by omega),if_neg h2]
    exact⟨_,_,rfl,rfl,di⟩
theorem zhh (b:GB r)(w:WF r.er){n0 n1:List UInt8}{v0 v1:Int}{k j:Nat}(hk:e.kind=mA)(hn:e.names.getD []=[n0,n1])(hv:e.values.getD []=[v0,v1])(hp:yg r.er n0=I k)(hq:kg r.er n1=I j):
  np (eT 111 r e) (apply (j6 .i64) r.er e.er):=by
 rw[jU hk (by decide) (by decide),if_neg (by decide)]
 obtain⟨u,h1,_,h3⟩:=oL hp
 obtain⟨x,h4,EG⟩:=Iy hq
 obtain⟨D,v,o⟩:=E7 b w h1
 rw[wz (eF hn) hp h3,if_pos hk]
 unfold wA
 rw[lQ hn,hq,vn hv,o.E6]
 simp only[wy,h4]
 have hA:eT 111 r e=jw (f111 e r.day r.ar r.ae r.units) fun v=>I (v.1,{ r with ar:=v.2.1,units:=v.2.2 }):=rfl
 rw[hA]
 have g1:WX r.ar (j:Int) v1=I (I ((r.ar.getD []).set j { x with left:=j6 .i64 (x.left-v1) })):=n6 (yb b.L) h4 rfl
 unfold f111
 simp only[qc.eta,gE hn,gi hn,gi hv,jw,vj (yb b.U),Ba (yb b.L),hp,hq,jF,zy h1,zy h4,o.doc,jig (yb o.aI),iO,g1,joe (yb o.uses),Gx]
 rw[hM (by simp[SM])]
 have hdn:D.er.aI=D.aI.getD []:=rfl
 simp only[hdn]
 have lM:∀(s:qk),mF (j6 .i64) (u.uses.getD []) x.name v1=eS (cN x.name) s (u.uses.getD [])→∃us,fQ r.units (k:Int) (E9 s x)=I us∧({ r with ar:=I ((r.ar.getD []).set j { x with left:=j6 .i64 (x.left-v1) }),units:=us }:qc).er=aw (b8 r.er j { x with left:=j6 .i64 (x.left-v1) }) k { u.er with uses:=mF (j6 .i64) u.er.uses x.name v1 }:=by
  intro s hs
  obtain⟨q,wq,q1,q2⟩:=jml (x:=s) (t:=x) (o:=u.uses) (mG o.uses)
  refine⟨_,n6 (y:={ u with uses:=q }) (yb b.U) h1 (by unfold E9;rw[q1];rfl),?_⟩
  simp only[qc.er,aw,b8,Ek,Gk]
  congr 2
  simp only[qf.er,q2,hs]
 by_cases hs:u.aq=Eu
 ·simp only[if_pos hs,if_pos (show u.er.aq=Eu from hs)]
  exact⟨_,_,rfl,rfl,by decide⟩
 simp only[if_neg hs,if_neg (show ¬u.er.aq=Eu from hs)]
 by_cases hz:v1=0
 ·simp only[if_pos hz,dT hz,if_true]
  exact⟨_,_,rfl,rfl,by decide⟩
 simp only[if_neg hz,dF hz,Eh,if_false]
 by_cases hh:x.held=Eu
 ·simp only[if_pos hh]
  exact⟨_,_,rfl,rfl,by decide⟩
 simp only[if_neg hh]
 cases (D.aI.getD []).any (cN x.kind)with
 |false=>exact⟨_,_,rfl,rfl,by decide⟩
 |true=>
 simp only[Gf,Eh,if_false]
 by_cases hl:x.left<v1
 ·simp only[if_pos hl,dT hl,if_true]
  exact⟨_,_,rfl,rfl,by decide⟩
 simp only[if_neg hl,dF hl,Eh,if_false]
 have IC:∀ {α:Type} (A B:Option α),cond (decide (dp [0,0,0,0,0]=0)) A B=A:=fun A B=>rfl
 cases hi:(u.uses.getD []).findIdx? (cN x.name)with
 |none=>
  obtain⟨us,q1,q2⟩:=lM ⟨x.name,v1⟩ (by unfold mF eS;rw[hi])
  rw[IC]
  rw[show decide (0≤dH none)=Ga from rfl]
  simp only[cond_false,q1]
  exact⟨_,_,rfl,rfl,q2⟩
 |some i=>
  obtain⟨y,hy,_⟩:=bC hi
  obtain⟨us,q1,q2⟩:=lM ⟨x.name,j6 .i64 (v1+y.n)⟩ (by unfold mF eS;rw[hi];simp only[hy])
  rw[IC]
  rw[show decide (0≤dH (I i))=Eu from vk (I i)]
  simp only[cT,jF,zy hy,q1]
  exact⟨_,_,rfl,rfl,q2⟩
end Go.Z
set_option maxHeartbeats 4000000
namespace Go.Z
open Go Go.Abs Go.W
variable {r:qc}{e:ql}
theorem j0d {a b c d}:f51 (I [a,b,c,d])=I (dp [a,b,c,d]):=hM (by simp[SM])
theorem zcj (b:GB r){n0 n1 v0 k j}(hk:e.kind=ni)(hn:e.names.getD []=[n0,n1])(hv:e.values.getD []=[v0])(hp:yg r.er n0=I k)(hq:yg r.er n1=I j):
  np (eT 114 r e) (apply (j6 .i64) r.er e.er):=by
 rw[jU hk (by decide) (by decide),if_neg (by decide)]
 obtain⟨u,h1,_,h3⟩:=oL hp
 obtain⟨v,h4,_,h5⟩:=oL hq
 rw[wz (eF hn) hp h3,if_neg (by rw[hk];decide),if_pos hk]
 unfold wC
 rw[lQ hn,hq]
 simp only[h5]
 have hA:eT 114 r e=jw (f114 e r.day r.ar r.ae r.units) fun v=>I (v.1,{ r with units:=v.2 }):=rfl
 rw[hA]
 have g1:vp r.units (k:Int) v=I (I ((r.units.getD []).set k { u with partner:=v.name })):=n6 (yb b.U) h1 rfl
 have g2:k≠j→∀bb,vq (I ((r.units.getD []).set k { u with partner:=v.name })) (j:Int) ⟨u.name,u.product,u.version,u.uses,u.results,u.partner,bb,u.aj⟩=I (I (((r.units.getD []).set k { u with partner:=v.name }).set j { v with partner:=u.name })):=by
  intro hkj bb
  exact n6 (x:=v) (by rw[Ek,List.length_set];exact yb b.U) (by rw[Ek,List.getElem?_set_ne hkj];exact h4) rfl
 have di:({ r with units:=I (((r.units.getD []).set k { u with partner:=v.name }).set j { v with partner:=u.name }) }:qc).er=aw (aw r.er k { u.er with partner:=v.er.name }) j { v.er with partner:=u.er.name }:=by
  simp only[qc.er,aw,Ek,Gk]
  rfl
 generalize hz:aw (aw r.er k { u.er with partner:=v.er.name }) j { v.er with partner:=u.er.name }=Z at di ⊢
 generalize hX:I (I (((r.units.getD []).set k { u with partner:=v.name }).set j { v with partner:=u.name }))=X at g2
 generalize hY:I ((r.units.getD []).set k { u with partner:=v.name })=Y at g1 g2
 unfold f114
 simp only[qc.eta,gE hn,gi hn,jw,vj (yb b.U),hp,hq,jF,zy h1,zy h4,iO,j0d,g1]
 have e1:decide ((k:Int)=(j:Int))=decide (k=j):=by
  by_cases h:k=j
  ·rw[dT h];exact dT (by omega)
  ·rw[dF h];exact dF (by omega)
 have e2:u.er.product=u.product:=rfl
 have e3:v.er.product=v.product:=rfl
 have e4:u.er.version=u.version:=rfl
 have e5:v.er.version=v.version:=rfl
 have e6:u.er.aq=u.aq:=rfl
 have e7:v.er.aq=v.aq:=rfl
 have e8:u.er.partner=u.partner:=rfl
 have e9:v.er.partner=v.partner:=rfl
 simp only[e1,e2,e3,e4,e5,e6,e7,e8,e9]
 by_cases c1:k=j<;>by_cases c2:u.product=v.product<;>by_cases c3:u.version=v.version<;>cases c4:u.aq<;>cases c5:v.aq<;>by_cases c6:u.partner=[]<;>by_cases c7:v.partner=[] <;>
  simp only[c1,c2,c3,c6,c7,decide_true,decide_false,cT,cond_false,Gf,Gr,if_true,if_false,Eh,ne_eq,not_true_eq_false,not_false_eq_true,or_true,true_or,or_false,false_or,or_self] <;>
  first
  |exact⟨_,_,rfl,rfl,by decide⟩
  |(have g3:=g2 c1 Ga
    simp only[c2,c3,c6]at g3
    rw[g3,←hX]
    exact⟨_,_,rfl,rfl,di⟩)
end Go.Z
namespace Go.Z
open Go Go.Abs Go.W
variable {r:qc}{e:ql}
def Fc (r:qu)(c:Int)(n:List UInt8):Bool:=if c=108 then(kg r n).isSome else if c=112 then(kw r n).isSome else if c=117 then(yg r n).isSome else Eu
theorem WY (b:GB r){c n}:f202 r c n=I (Fc r.er c n):=by
 unfold f202 Fc
 by_cases h1:c=108
 ·simp only[h1,decide_true,cT,if_true,Ba (yb b.L),jw,wx]
 ·by_cases h2:c=112
  ·simp only[h1,h2,decide_true,decide_false,cT,cond_false,if_true,if_false,vi (yb b.P),jw,wx];rfl
  ·by_cases h3:c=117
   ·simp only[h1,h2,h3,decide_true,decide_false,cT,cond_false,if_true,if_false,vj (yb b.U),jw,wx];rfl
   ·simp only[h1,h2,h3,decide_false,cond_false,if_false]
def eN (r:qu)(c:UInt8)(n:List UInt8):Bool:=decide ((c.toNat:Int)=45)||Fc r (c.toNat:Int) n
theorem Bs (b:GB r){a n0 t}(hr:yu e.kind=[a])(hd:zg [a] 0=(a.toNat,1))(hn:e.names.getD []=n0::t):
  ∃d,aY (Fe r e) none=I (if eN r.er a n0 then .inr d else .inl d):=by
 have z:Bt r e=I (if eN r.er a n0 then .inl (I 1)else .inr (.inl 1)):=by
  unfold Bt eN
  simp only[hr,hd,jw,gE hn,WY b]
  simp only[Gn,Nat.lt_irrefl,show decide (0<1)=Eu from rfl,cT]
  cases decide ((a.toNat:Int)=45)<;>cases Fc r.er (a.toNat:Int) n0<;>rfl
 cases hk:eN r.er a n0 with
 |true=>
  rw[hk]at z
  refine⟨1,?_⟩
  rw[oF (s':=I 1) z]
  refine jD (d:=(Sum.inr 1:Nat⊕Nat)) ?_
  show wD r e 1=_
  unfold wD
  simp only[hr,Gn]
  rfl
 |false=>
  rw[hk]at z
  exact⟨1,jD z⟩
theorem Bu (b:GB r){a c n0 n1 t}(hr:yu e.kind=[a,c])(hd:zg [a,c] 0=(a.toNat,1))(hd1:zg [a,c] 1=(c.toNat,1))(hn:e.names.getD []=n0::n1::t):
  ∃d,aY (Fe r e) none=I (if eN r.er a n0&&eN r.er c n1 then .inr d else .inl d):=by
 have z:Bt r e=I (if eN r.er a n0 then .inl (I 1)else .inr (.inl 1)):=by
  unfold Bt eN
  simp only[hr,hd,jw,gE hn,WY b]
  simp only[Gh,Gm,show decide (0<0+1+1)=Eu from rfl,cT]
  cases decide ((a.toNat:Int)=45)<;>cases Fc r.er (a.toNat:Int) n0<;>rfl
 have y:wD r e 1=I (if eN r.er c n1 then .inl (I 2)else .inr (.inl 2)):=by
  unfold wD eN
  simp only[hr,hd1,jw,show((1:Nat):Int)=1 from rfl,gi hn,WY b]
  simp only[Gh,Gm,show decide (1<0+1+1)=Eu from rfl,cT]
  cases decide ((c.toNat:Int)=45)<;>cases Fc r.er (c.toNat:Int) n1<;>rfl
 cases hk:eN r.er a n0 with
 |false=>
  rw[hk]at z
  exact⟨1,jD z⟩
 |true=>
  rw[hk]at z
  cases cV:eN r.er c n1 with
  |false=>
   rw[cV]at y
   refine⟨2,?_⟩
   rw[oF (s':=I 1) z]
   exact jD (d:=(Sum.inl 2:Nat⊕Nat)) y
  |true=>
   rw[cV]at y
   refine⟨2,?_⟩
   rw[oF (s':=I 1) z,oF (s':=I 2) y]
   refine jD (d:=(Sum.inr 2:Nat⊕Nat)) ?_
   show wD r e 2=_
   unfold wD
   simp only[hr,Gh,Gm]
   rfl
def gj (x:Option (qc×Int))(y:pJ):Prop:=∃r' c,x=I (r',c)∧match y with
 | .error k=>c=k∧k≠0
 | .ok s=>c=0∧r'.er=s
theorem oe {v0 t K}(hv:e.values.getD []=v0::t)(hl:∃d,aY (Fe r e) none=I (if K then .inr d else .inl d))(hK:K=Ga→apply (j6 .i64) r.er e.er=.error 10)(hA:K=Eu→np (eT (IE e.kind) r e) (apply (j6 .i64) r.er e.er)):
  gj (f121 r e) (after (j6 .i64) r.er e.er):=by
 unfold f121 after
 rw[gE hv,vl0 hv]
 simp only[jw]
 by_cases h:v0<r.day
 ·rw[dT h,if_pos (show v0<r.er.day from h)]
  exact⟨_,_,rfl,rfl,by decide⟩
 ·rw[dF h,if_neg (show ¬v0<r.er.day from h)]
  obtain⟨d,hd⟩:=hl
  rw[hd]
  cases K with
  |false=>
   rw[hK rfl]
   exact⟨_,_,rfl,rfl,by decide⟩
  |true=>
   obtain⟨c,r',h1,h2⟩:=hA rfl
   simp only[if_true,cond_false]
   rw[h1]
   simp only[]
   cases ha:apply (j6 .i64) r.er e.er with
   |error k=>
    rw[ha]at h2
    obtain⟨rfl,h3⟩:=h2
    rw[dF h3]
    exact⟨_,_,rfl,rfl,h3⟩
   |ok s=>
    rw[ha]at h2
    obtain⟨rfl,rfl⟩:=h2
    exact⟨_,_,rfl,rfl,rfl⟩
theorem og {α:Type}{o:Option α}(h:o.isSome=Eu):∃x,o=I x:=Ev.1 h
theorem pK {α:Type}{o:Option α}(h:o.isSome=Ga):o=none:=by cases o<;>simp at h ⊢
theorem fa {k a c}(hk:e.kind=k)(hf:fR k=I (a,c))(hc:ki e.er=0):(e.names.getD []).length=a∧(e.values.getD []).length=c:=by
 obtain⟨_,f,h1,h2,h3⟩:=O8 hc
 rw[show e.er.kind=k from hk,hf]at h1
 cases h1
 exact⟨h2,h3⟩
theorem iP {α:Type}{l:List α}(h:l.length=1):∃a,l=[a]:=List.length_eq_one_iff.1 h
theorem gk {α:Type}{l:List α}(h:l.length=2):∃a b,l=[a,b]:=by
 match l,h with
 | [a,b],_=>exact⟨a,b,rfl⟩
theorem jrc {α:Type}{l:List α}(h:l.length=3):∃a b c,l=[a,b,c]:=by
 match l,h with
 | [a,b,c],_=>exact⟨a,b,c,rfl⟩
theorem oh {r n}:eN r 45 n=Eu:=rfl
theorem rl {r n}:eN r 108 n=(kg r n).isSome:=rfl
theorem rp {r n}:eN r 112 n=(kw r n).isSome:=rfl
theorem ru {r n}:eN r 117 n=(yg r n).isSome:=rfl
theorem jvx (b:GB r)(hk:e.kind=mf)(hc:ki e.er=0):gj (f121 r e) (after (j6 .i64) r.er e.er):=by
 obtain⟨h1,h2⟩:=fa hk (show fR mf=I (2,2)from rfl) hc
 obtain⟨n0,n1,hn⟩:=gk h1
 obtain⟨v0,v1,hv⟩:=gk h2
 refine oe (K:=true) hv (by have:=Bu (a:=45) (c:=45) b (by rw[hk];rfl) rfl rfl hn;simpa[oh]using this) (fun h=>by cases h) (fun _=>?_)
 rw[hk]
 exact a105 b hk hn hv
theorem q8y (b:GB r)(hk:e.kind=ng)(hc:ki e.er=0):gj (f121 r e) (after (j6 .i64) r.er e.er):=by
 obtain⟨h1,h2⟩:=fa hk (show fR ng=I (1,1)from rfl) hc
 obtain⟨n0,hn⟩:=iP h1
 obtain⟨v0,hv⟩:=iP h2
 refine oe (K:=true) hv (by have:=Bs (a:=45) b (by rw[hk];rfl) rfl hn;simpa[oh]using this) (fun h=>by cases h) (fun _=>?_)
 rw[hk]
 exact zbg b hk hn hv
theorem jop (b:GB r)(hk:e.kind=mg)(hc:ki e.er=0):gj (f121 r e) (after (j6 .i64) r.er e.er):=by
 obtain⟨h1,h2⟩:=fa hk (show fR mg=I (2,2)from rfl) hc
 obtain⟨n0,n1,hn⟩:=gk h1
 obtain⟨v0,v1,hv⟩:=gk h2
 refine oe (K:=(kw r.er n0).isSome) hv (by have:=Bu (a:=112) (c:=45) b (by rw[hk];rfl) rfl rfl hn;rw[show(eN r.er 112 n0&&eN r.er 45 n1)=((kw r.er n0).isSome)from by simp only[oh,rl,rp,ru,Eo,Ep]]at this;exact this) (fun h=>?_) (fun h=>?_)
 ·have h:=pK h
  unfold apply n9
  rw[show e.er.kind=mg from hk,if_neg (by decide),if_pos (by decide),eF hn,h]
 ·obtain⟨k,hp⟩:=og h
  rw[hk]
  exact zja b hk hn hv hp
theorem jl8 (b:GB r)(hk:e.kind=nh)(hc:ki e.er=0):gj (f121 r e) (after (j6 .i64) r.er e.er):=by
 obtain⟨h1,h2⟩:=fa hk (show fR nh=I (2,3)from rfl) hc
 obtain⟨n0,n1,hn⟩:=gk h1
 obtain⟨v0,v1,v2,hv⟩:=jrc h2
 refine oe (K:=(kw r.er n0).isSome) hv (by have:=Bu (a:=112) (c:=45) b (by rw[hk];rfl) rfl rfl hn;rw[show(eN r.er 112 n0&&eN r.er 45 n1)=((kw r.er n0).isSome)from by simp only[oh,rl,rp,ru,Eo,Ep]]at this;exact this) (fun h=>?_) (fun h=>?_)
 ·have h:=pK h
  unfold apply n9
  rw[show e.er.kind=nh from hk,if_neg (by decide),if_pos (by decide),eF hn,h]
 ·obtain⟨k,hp⟩:=og h
  rw[hk]
  exact zi9 b hk hn hv hp
theorem jeu (b:GB r)(hk:e.kind=pG)(hc:ki e.er=0):gj (f121 r e) (after (j6 .i64) r.er e.er):=by
 obtain⟨h1,h2⟩:=fa hk (show fR pG=I (1,1)from rfl) hc
 obtain⟨n0,hn⟩:=iP h1
 obtain⟨v0,hv⟩:=iP h2
 refine oe (K:=(kw r.er n0).isSome) hv (by have:=Bs (a:=112)  b (by rw[hk];rfl) rfl hn;rw[show(eN r.er 112 n0)=((kw r.er n0).isSome)from by simp only[oh,rl,rp,ru,Eo,Ep]]at this;exact this) (fun h=>?_) (fun h=>?_)
 ·have h:=pK h
  unfold apply n9
  rw[show e.er.kind=pG from hk,if_neg (by decide),if_pos (by decide),eF hn,h]
 ·obtain⟨k,hp⟩:=og h
  rw[hk]
  exact a109 b hk hn hv hp
theorem jhc (b:GB r)(hk:e.kind=mr)(hc:ki e.er=0):gj (f121 r e) (after (j6 .i64) r.er e.er):=by
 obtain⟨h1,h2⟩:=fa hk (show fR mr=I (2,1)from rfl) hc
 obtain⟨n0,n1,hn⟩:=gk h1
 obtain⟨v0,hv⟩:=iP h2
 refine oe (K:=(kw r.er n1).isSome) hv (by have:=Bu (a:=45) (c:=112) b (by rw[hk];rfl) rfl rfl hn;rw[show(eN r.er 45 n0&&eN r.er 112 n1)=((kw r.er n1).isSome)from by simp only[oh,rl,rp,ru,Eo,Ep]]at this;exact this) (fun h=>?_) (fun h=>?_)
 ·have h:=pK h
  unfold apply n8
  rw[show e.er.kind=mr from hk,if_pos (by decide),if_neg (by decide),if_neg (by decide),lQ hn]
  unfold hJ
  rw[h];rfl
 ·obtain⟨k,hp⟩:=og h
  rw[hk]
  exact zfy b hk hn hv hp
theorem jvo (b:GB r)(w:WF r.er)(hk:e.kind=mA)(hc:ki e.er=0):gj (f121 r e) (after (j6 .i64) r.er e.er):=by
 obtain⟨h1,h2⟩:=fa hk (show fR mA=I (2,2)from rfl) hc
 obtain⟨n0,n1,hn⟩:=gk h1
 obtain⟨v0,v1,hv⟩:=gk h2
 refine oe (K:=(yg r.er n0).isSome&&(kg r.er n1).isSome) hv (by have:=Bu (a:=117) (c:=108) b (by rw[hk];rfl) rfl rfl hn;rw[show(eN r.er 117 n0&&eN r.er 108 n1)=((yg r.er n0).isSome&&(kg r.er n1).isSome)from by simp only[oh,rl,rp,ru,Eo,Ep]]at this;exact this) (fun h=>?_) (fun h=>?_)
 ·cases h1:yg r.er n0 with
  |none=>
   rw[jU hk (by decide) (by decide),if_neg (by decide)]
   unfold oc
   rw[eF hn,h1]
  |some k=>
   rw[h1]at h
   have h:=pK (show(kg r.er n1).isSome=Ga from h)
   obtain⟨u,g1,_,g3⟩:=oL h1
   rw[jU hk (by decide) (by decide),if_neg (by decide),wz (eF hn) h1 g3,if_pos hk]
   unfold wA
   rw[lQ hn,h]
 ·rw[Gw]at h
  obtain⟨k,hp⟩:=og h.1
  obtain⟨j,hq⟩:=og h.2
  rw[hk]
  exact zhh b w hk hn hv hp hq
theorem q9w (b:GB r)(w:WF r.er)(hk:e.kind=oG)(hc:ki e.er=0):gj (f121 r e) (after (j6 .i64) r.er e.er):=by
 obtain⟨h1,h2⟩:=fa hk (show fR oG=I (2,2)from rfl) hc
 obtain⟨n0,n1,hn⟩:=gk h1
 obtain⟨v0,v1,hv⟩:=gk h2
 refine oe (K:=(yg r.er n0).isSome) hv (by have:=Bu (a:=117) (c:=45) b (by rw[hk];rfl) rfl rfl hn;rw[show(eN r.er 117 n0&&eN r.er 45 n1)=((yg r.er n0).isSome)from by simp only[oh,rl,rp,ru,Eo,Ep]]at this;exact this) (fun h=>?_) (fun h=>?_)
 ·have h:=pK h
  rw[jU hk (by decide) (by decide),if_neg (by decide)]
  unfold oc
  rw[eF hn,h]
 ·obtain⟨k,hp⟩:=og h
  rw[hk]
  exact zbd b w hk hn hv hp
theorem jdp (b:GB r)(w:WF r.er)(hk:e.kind=pH)(hc:ki e.er=0):gj (f121 r e) (after (j6 .i64) r.er e.er):=by
 obtain⟨h1,h2⟩:=fa hk (show fR pH=I (1,1)from rfl) hc
 obtain⟨n0,hn⟩:=iP h1
 obtain⟨v0,hv⟩:=iP h2
 refine oe (K:=(yg r.er n0).isSome) hv (by have:=Bs (a:=117)  b (by rw[hk];rfl) rfl hn;rw[show(eN r.er 117 n0)=((yg r.er n0).isSome)from by simp only[oh,rl,rp,ru,Eo,Ep]]at this;exact this) (fun h=>?_) (fun h=>?_)
 ·have h:=pK h
  rw[jU hk (by decide) (by decide),if_neg (by decide)]
  unfold oc
  rw[eF hn,h]
 ·obtain⟨k,hp⟩:=og h
  rw[hk]
  exact zga b w hk hn hv hp
theorem jno (b:GB r)(hk:e.kind=ni)(hc:ki e.er=0):gj (f121 r e) (after (j6 .i64) r.er e.er):=by
 obtain⟨h1,h2⟩:=fa hk (show fR ni=I (2,1)from rfl) hc
 obtain⟨n0,n1,hn⟩:=gk h1
 obtain⟨v0,hv⟩:=iP h2
 refine oe (K:=(yg r.er n0).isSome&&(yg r.er n1).isSome) hv (by have:=Bu (a:=117) (c:=117) b (by rw[hk];rfl) rfl rfl hn;rw[show(eN r.er 117 n0&&eN r.er 117 n1)=((yg r.er n0).isSome&&(yg r.er n1).isSome)from by simp only[oh,rl,rp,ru,Eo,Ep]]at this;exact this) (fun h=>?_) (fun h=>?_)
 ·cases h1:yg r.er n0 with
  |none=>
   rw[jU hk (by decide) (by decide),if_neg (by decide)]
   unfold oc
   rw[eF hn,h1]
  |some k=>
   rw[h1]at h
   have h:=pK (show(yg r.er n1).isSome=Ga from h)
   obtain⟨u,g1,_,g3⟩:=oL h1
   rw[jU hk (by decide) (by decide),if_neg (by decide),wz (eF hn) h1 g3,if_neg (by rw[hk];decide),if_pos hk]
   unfold wC
   rw[lQ hn,h]
 ·rw[Gw]at h
  obtain⟨k,hp⟩:=og h.1
  obtain⟨j,hq⟩:=og h.2
  rw[hk]
  exact zcj b hk hn hv hp hq
theorem jl5 (b:GB r)(hk:e.kind=nZ)(hc:ki e.er=0):gj (f121 r e) (after (j6 .i64) r.er e.er):=by
 obtain⟨h1,h2⟩:=fa hk (show fR nZ=I (1,1)from rfl) hc
 obtain⟨n0,hn⟩:=iP h1
 obtain⟨v0,hv⟩:=iP h2
 refine oe (K:=(kg r.er n0).isSome) hv (by have:=Bs (a:=108)  b (by rw[hk];rfl) rfl hn;rw[show(eN r.er 108 n0)=((kg r.er n0).isSome)from by simp only[oh,rl,rp,ru,Eo,Ep]]at this;exact this) (fun h=>?_) (fun h=>?_)
 ·have h:=pK h
  rw[jU hk (by decide) (by decide),if_pos (by decide)]
  unfold vo
  rw[eF hn,h]
 ·obtain⟨k,hp⟩:=og h
  rw[hk]
  exact zcr b hk hn hv hp
theorem jor (b:GB r)(hk:e.kind=rF)(hc:ki e.er=0):gj (f121 r e) (after (j6 .i64) r.er e.er):=by
 obtain⟨h1,h2⟩:=fa hk (show fR rF=I (1,1)from rfl) hc
 obtain⟨n0,hn⟩:=iP h1
 obtain⟨v0,hv⟩:=iP h2
 refine oe (K:=(kg r.er n0).isSome) hv (by have:=Bs (a:=108)  b (by rw[hk];rfl) rfl hn;rw[show(eN r.er 108 n0)=((kg r.er n0).isSome)from by simp only[oh,rl,rp,ru,Eo,Ep]]at this;exact this) (fun h=>?_) (fun h=>?_)
 ·have h:=pK h
  rw[jU hk (by decide) (by decide),if_pos (by decide)]
  unfold vo
  rw[eF hn,h]
 ·obtain⟨k,hp⟩:=og h
  rw[hk]
  exact zct b hk hn hv hp
theorem jov (b:GB r)(w:WF r.er)(hk:e.kind=kP)(hc:ki e.er=0):gj (f121 r e) (after (j6 .i64) r.er e.er):=by
 obtain⟨h1,h2⟩:=fa hk (show fR kP=I (1,1)from rfl) hc
 obtain⟨n0,hn⟩:=iP h1
 obtain⟨v0,hv⟩:=iP h2
 refine oe (K:=(yg r.er n0).isSome) hv (by have:=Bs (a:=117)  b (by rw[hk];rfl) rfl hn;rw[show(eN r.er 117 n0)=((yg r.er n0).isSome)from by simp only[oh,rl,rp,ru,Eo,Ep]]at this;exact this) (fun h=>?_) (fun h=>?_)
 ·have h:=pK h
  rw[jU hk (by decide) (by decide),if_neg (by decide)]
  unfold oc
  rw[eF hn,h]
 ·obtain⟨k,hp⟩:=og h
  rw[hk]
  exact zel b w hk hn hv hp
theorem q6f (b:GB r)(hk:e.kind=x9)(hc:ki e.er=0):gj (f121 r e) (after (j6 .i64) r.er e.er):=by
 obtain⟨h1,h2⟩:=fa hk (show fR x9=I (1,1)from rfl) hc
 obtain⟨n0,hn⟩:=iP h1
 obtain⟨v0,hv⟩:=iP h2
 refine oe (K:=(yg r.er n0).isSome) hv (by have:=Bs (a:=117)  b (by rw[hk];rfl) rfl hn;rw[show(eN r.er 117 n0)=((yg r.er n0).isSome)from by simp only[oh,rl,rp,ru,Eo,Ep]]at this;exact this) (fun h=>?_) (fun h=>?_)
 ·have h:=pK h
  rw[jU hk (by decide) (by decide),if_neg (by decide)]
  unfold oc
  rw[eF hn,h]
 ·obtain⟨k,hp⟩:=og h
  rw[hk]
  exact zdw b hk hn hv hp
theorem q7j (b:GB r)(w:WF r.er)(hc:ki e.er=0)(hu:e.kind≠oH):gj (f121 r e) (after (j6 .i64) r.er e.er):=by
 obtain⟨_,f,h1,_,_⟩:=O8 hc
 have hm:e.kind∈cW.map (·.1):=by
  unfold fR at h1
  cases hf:cW.find? (fun x=>decide (x.1=e.er.kind))with
  |none=>rw[hf]at h1;cases h1
  |some x=>
   have h2:=List.find?_some hf
   have h3:=List.mem_of_find?_eq_some hf
   rw[show e.kind=x.1 from(of_decide_eq_true h2).symm]
   exact Gv h3
 simp only[cW,Ge,Gi,List.mem_cons,List.mem_singleton,List.not_mem_nil,or_false]at hm
 rcases hm with h|h|h|h|h|h|h|h|h|h|h|h|h|h|h
 ·exact jvx b h hc
 ·exact q8y b h hc
 ·exact jop b h hc
 ·exact jl8 b h hc
 ·exact jeu b h hc
 ·exact jhc b h hc
 ·exact jvo b w h hc
 ·exact q9w b w h hc
 ·exact jdp b w h hc
 ·exact jno b h hc
 ·exact jl5 b h hc
 ·exact jor b h hc
 ·exact jov b w h hc
 ·exact q6f b h hc
 ·exact absurd h hu
end Go.Z
