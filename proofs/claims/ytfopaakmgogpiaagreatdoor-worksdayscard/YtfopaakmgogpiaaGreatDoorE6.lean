/- Chapter 10, plain. -/
import Derived.Test.YtfopaakmgogpiaaGreatDoorE1
import Derived.Test.YtfopaakmgogpiaaGreatDoorV8
set_option maxRecDepth 100000
open Option renaming some→I,getD_some→E1,isSome_iff_exists→Gk,any_some→Mw
open Bool renaming false_eq_true→En,true_and→E3,and_true→E4,true→E6,false→Gl,not_true→Gq,not_false→Mm,and_eq_true→Mr
open List renaming mem_of_getElem?→E2,length_map→Gm,getElem?_map→Gn,map_cons→Gp,length_cons→Ha,map_nil→Hb,map_set→Hd,map_append→H7,length_nil→If,length_singleton→Md,mem_map_of_mem→Mn
namespace Go.Z
open Go Go.Abs Go.W
abbrev BB:Nat:=1000000
structure GB (r:qc):Prop where
 L:(r.au.getD []).length≤BB
 P:(r.ae.getD []).length≤BB
 U:(r.units.getD []).length≤BB
 D:∀p∈r.ae.getD [],(p.aH.getD []).length≤BB∧(p.dn.getD []).length≤BB∧(p.dt.getD []).length≤BB∧∀d∈p.aH.getD [],(d.ax.getD []).length≤BB∧(d.aw.getD []).length≤BB
 N:∀u∈r.units.getD [],(u.uses.getD []).length≤BB∧(u.results.getD []).length≤BB
theorem yf {n:Nat}(h:n≤BB):n≤SM:=by unfold BB at h;unfold SM;omega
theorem lZ {n:Nat}(h:n≤BB):n<SM:=by unfold BB at h;unfold SM;omega
def mS (x:Option (Int×qc))(y:oh):Prop:=∃c r',x=I (c,r')∧match y with
 | .error k=>c=k∧k≠0
 | .ok s=>c=0∧r'.er=s
variable {r:qc}{e:qm}
theorem DP {a lo hi:Int}:f52 a lo hi=I (if a<lo∨hi<a then 3 else 0):=by
 unfold f52
 by_cases h1:a<lo
 ·simp[h1,lA,jx]
 ·by_cases h2:hi<a<;>simp[h1,h2,lA,jx]
theorem iQ {k:Nat}:dY (I k)=(k:Int):=rfl
theorem vA {o:Option Nat}:decide (0≤dY o)=o.isSome:=xm o
theorem GZ {n:List UInt8}{k:Nat}(h:ku r.er n=I k):∃x,(r.au.getD [])[k]?=I x∧x.name=n:=by
 obtain⟨x,h1,h2,_⟩:=bG h
 exact⟨x,h1,of_decide_eq_true h2⟩
theorem DQ {n:List UInt8}{k:Nat}(h:kq r.er n=I k):∃p,(r.ae.getD [])[k]?=I p∧p.name=n∧r.er.ae[k]?=I p.er:=by
 rw[Nq]at h
 obtain⟨x,h1,h2,_⟩:=bG h
 exact⟨x,h1,of_decide_eq_true h2,by rw[xj,Gn,h1];rfl⟩
theorem qJ {n:List UInt8}{k:Nat}(h:km r.er n=I k):∃u,(r.units.getD [])[k]?=I u∧u.name=n∧r.er.units[k]?=I u.er:=by
 rw[U4]at h
 obtain⟨x,h1,h2,_⟩:=bG h
 exact⟨x,h1,of_decide_eq_true h2,by rw[Ae,Gn,h1];rfl⟩
theorem gh {α:Type}{l:List α}{a:α}{t:List α}(h:l=a::t):zp l 0=I a:=by subst h;rfl
theorem gi {α:Type}{l:List α}{a b:α}{t:List α}(h:l=a::b::t):zp l 1=I b:=by subst h;rfl
theorem jry {α:Type}{l:List α}{a b c:α}{t:List α}(h:l=a::b::c::t):zp l 2=I c:=by subst h;rfl
theorem eA {a:List UInt8}{t:List (List UInt8)}(h:e.names.getD []=a::t):nm e.er 0=a:=by unfold nm;rw[show e.er.names=e.names.getD []from rfl,h];rfl
theorem lB {a b:List UInt8}{t:List (List UInt8)}(h:e.names.getD []=a::b::t):nm e.er 1=b:=by unfold nm;rw[show e.er.names=e.names.getD []from rfl,h];rfl
theorem Vf {a:Int}{t:List Int}(h:e.values.getD []=a::t):vl e.er 0=a:=by unfold vl;rw[show e.er.values=e.values.getD []from rfl,h];rfl
theorem uE {a b:Int}{t:List Int}(h:e.values.getD []=a::b::t):vl e.er 1=b:=by unfold vl;rw[show e.er.values=e.values.getD []from rfl,h];rfl
theorem vl2 {a b c:Int}{t:List Int}(h:e.values.getD []=a::b::c::t):vl e.er 2=c:=by unfold vl;rw[show e.er.values=e.values.getD []from rfl,h];rfl
theorem vB:r.er.au=r.au.getD []:=rfl
theorem qc.eta (r:qc):(⟨r.day,r.au,r.ae,r.units⟩:qc)=r:=rfl
theorem a105 (b:GB r){n0 n1:List UInt8}{v0 v1:Int}(hk:e.kind=lU)(hn:e.names.getD []=[n0,n1])(hv:e.values.getD []=[v0,v1]):
  mS (eL 105 r e) (apply (j9 .i64) r.er e.er):=by
 have hR:apply (j9 .i64) r.er e.er=oi r.er e.er:=by unfold apply;rw[if_pos (.inl hk)]
 rw[hR]
 unfold oi
 rw[if_pos (show e.er.kind=lU from hk),eA hn,lB hn,uE hv,vB]
 have hA:eL 105 r e=jx (f105 e r.day r.au r.ae r.units) fun v=>I (v.1,{ r with au:=v.2.1 }):=rfl
 rw[hA]
 unfold f105
 simp only[qc.eta,gh hn,gi hn,gi hv,jx,DF (yf b.L),lA,DP,vA]
 rw[iq (by simp[SM])]
 simp only[jl8 (lZ b.L)]
 cases (ku r.er n0).isSome with
 |true=>exact⟨_,_,rfl,rfl,by decide⟩
 |false=>
  by_cases h1:v1<1∨10000<v1
  ·simp only[En,if_false,h1,if_true,fP]
   exact⟨_,_,rfl,rfl,by decide⟩
  ·by_cases h2:64≤(r.au.getD []).length
   ·have nZ:decide (64≤((r.au.getD []).length:Int))=E6:=dT (by omega)
    simp only[En,if_false,h1,h2,nZ,if_true,fP]
    exact⟨_,_,rfl,rfl,by decide⟩
   ·have nZ:decide (64≤((r.au.getD []).length:Int))=Gl:=dF (by omega)
    simp only[En,if_false,h1,h2,nZ,if_true,fP]
    exact⟨_,_,rfl,rfl,rfl⟩
theorem qvw {o:Option (List qi)}{p:qi}(h:o=I (r.ae.getD []++[p])):({ r with ae:=o }:qc).er={ r.er with ae:=r.er.ae++[p.er] }:=by
 subst h
 simp only[qc.er,E1,H7,Gp,Hb]
theorem qx7 {o:Option (List qe)}{p:qe}(h:o=I (r.units.getD []++[p])):({ r with units:=o }:qc).er={ r.er with units:=r.er.units++[p.er] }:=by
 subst h
 simp only[qc.er,E1,H7,Gp,Hb]
theorem DR {o:Option (List qi)}{p:qi}{k:Nat}(h:o=I ((r.ae.getD []).set k p)):({ r with ae:=o }:qc).er=bE r.er k p.er:=by
 subst h
 simp only[qc.er,bE,E1,Hd]
theorem xu {o:Option (List qe)}{p:qe}{k:Nat}(h:o=I ((r.units.getD []).set k p)):({ r with units:=o }:qc).er=aA r.er k p.er:=by
 subst h
 simp only[qc.er,aA,E1,Hd]
theorem Nv {o:Option (List qj)}{p:qj}{k:Nat}(h:o=I ((r.au.getD []).set k p)):({ r with au:=o }:qc).er=cf r.er k p:=by
 subst h
 simp only[qc.er,cf,E1]
theorem zik (b:GB r){n0:List UInt8}{v0:Int}(hk:e.kind=mM)(hn:e.names.getD []=[n0])(hv:e.values.getD []=[v0]):
  mS (eL 106 r e) (apply (j9 .i64) r.er e.er):=by
 have hR:apply (j9 .i64) r.er e.er=oi r.er e.er:=by unfold apply;rw[if_pos (.inr (.inl hk))]
 rw[hR]
 unfold oi
 rw[if_neg (show ¬e.er.kind=lU from fun h=>by rw[show e.er.kind=e.kind from rfl,hk]at h;exact absurd h (by decide)),if_pos (show e.er.kind=mM from hk),eA hn]
 have hA:eL 106 r e=jx (f106 e r.day r.au r.ae r.units) fun v=>I (v.1,{ r with ae:=v.2.1 }):=rfl
 rw[hA]
 unfold f106
 simp only[qc.eta,gh hn,jx,uC (yf b.P),lA,vA]
 rw[iq (by simp[SM])]
 simp only[jlm (lZ b.P)]
 have hl:r.er.ae.length=(r.ae.getD []).length:=by rw[xj,Gm]
 rw[hl]
 cases (kq r.er n0).isSome with
 |true=>exact⟨_,_,rfl,rfl,by decide⟩
 |false=>
  by_cases h2:16≤(r.ae.getD []).length
  ·have nZ:decide (16≤((r.ae.getD []).length:Int))=E6:=dT (by omega)
   simp only[En,if_false,h2,nZ,if_true,fP]
   exact⟨_,_,rfl,rfl,by decide⟩
  ·have nZ:decide (16≤((r.ae.getD []).length:Int))=Gl:=dF (by omega)
   simp only[En,if_false,h2,nZ,if_true,fP]
   exact⟨_,_,rfl,rfl,qvw rfl⟩
theorem zec (b:GB r){n0 n1:List UInt8}{v0:Int}{k:Nat}(hk:e.kind=n9)(hn:e.names.getD []=[n0,n1])(hv:e.values.getD []=[v0])(hp:kq r.er n1=I k):
  mS (eL 110 r e) (apply (j9 .i64) r.er e.er):=by
 have hR:apply (j9 .i64) r.er e.er=oi r.er e.er:=by unfold apply;rw[if_pos (.inr (.inr hk))]
 rw[hR]
 obtain⟨p,h1,_,h3⟩:=DQ hp
 have hpo:hH r.er n1=I p.er:=by unfold hH;rw[hp];exact h3
 unfold oi
 rw[if_neg (show ¬e.er.kind=lU from fun h=>by rw[show e.er.kind=e.kind from rfl,hk]at h;exact absurd h (by decide)),if_neg (show ¬e.er.kind=mM from fun h=>by rw[show e.er.kind=e.kind from rfl,hk]at h;exact absurd h (by decide)),eA hn,lB hn,hpo]
 have hA:eL 110 r e=jx (f110 e r.day r.au r.ae r.units) fun v=>I (v.1,{ r with units:=v.2.1 }):=rfl
 rw[hA]
 unfold f110 f182
 simp only[qc.eta,gh hn,gi hn,jx,uC (yf b.P),xk (yf b.U),lA,vA,hp,iQ,z7 h1]
 rw[iq (by simp[SM])]
 simp only[jm8 (lZ b.U)]
 have hl:r.er.units.length=(r.units.getD []).length:=by rw[Ae,Gm]
 have hd:p.er.aH.isEmpty=decide (((p.aH.getD []).length:Int)=0):=by
  show((p.aH.getD []).map qr.er).isEmpty=_
  cases p.aH.getD []with
  |nil=>rfl
  |cons x l=>simp;omega
 have oe:p.er.aH.length=(p.aH.getD []).length:=by show((p.aH.getD []).map qr.er).length=_;rw[Gm]
 simp only[hl,hd,oe]
 cases (km r.er n0).isSome with
 |true=>exact⟨_,_,rfl,rfl,by decide⟩
 |false=>
  cases hz:decide (((p.aH.getD []).length:Int)=0)with
  |true=>exact⟨_,_,rfl,rfl,by decide⟩
  |false=>
   by_cases h2:256≤(r.units.getD []).length
   ·have nZ:decide (256≤((r.units.getD []).length:Int))=E6:=dT (by omega)
    simp only[En,if_false,h2,nZ,if_true,fP]
    exact⟨_,_,rfl,rfl,by decide⟩
   ·have nZ:decide (256≤((r.units.getD []).length:Int))=Gl:=dF (by omega)
    simp only[En,if_false,h2,nZ,if_true,fP]
    exact⟨_,_,rfl,rfl,qx7 rfl⟩
theorem jni {p:qi}{c:Int}{n:List UInt8}(hl:(p.dn.getD []).length<SM):∃v,G0 c n n p=I { p with dn:=v }∧v.getD []=iP (p.dn.getD []) n c:=by
 unfold G0 iP
 by_cases h:c=0
 ·simp only[h,decide_true,cT,if_true,jk0 (Nat.le_of_lt hl),jx]
  exact⟨_,rfl,kj _⟩
 ·obtain⟨v,w,h1,h2⟩:=jlz (x:=⟨n,c⟩) (k:=n) hl
  simp only[h,decide_false,cond_false,if_false,h1,jx]
  exact⟨_,rfl,h2⟩
theorem jgk (b:GB r){n0 n1:List UInt8}{c:Int}{k:Nat}{p:qi}(hp:kq r.er n0=I k)(hx:(r.ae.getD [])[k]?=I p):∃v,Au n0 c n1 n1 r.day r.au r.ae r.units=I (I ((r.ae.getD []).set k { p with dn:=v }))∧v.getD []=iP (p.dn.getD []) n1 c:=by
 obtain⟨v,h1,h2⟩:=jni (c:=c) (n:=n1) (lZ (b.D p (E2 hx)).2.1)
 refine⟨v,?_,h2⟩
 unfold Au Vg
 simp only[qc.eta,uC (yf b.P),hp,iQ,jx]
 rw[nG (yf b.P) hx h1]
theorem jfr (b:GB r){n0:List UInt8}{t:qk}{k:Nat}{p:qi}(hp:kq r.er n0=I k)(hx:(r.ae.getD [])[k]?=I p):∃v,DS n0 t t r.day r.au r.ae r.units=I (I ((r.ae.getD []).set k { p with dt:=v }))∧v.getD []=eW (dZ t.k) t (p.dt.getD []):=by
 obtain⟨v,w,h1,h2⟩:=jnj (x:=t) (s:=t) (o:=p.dt) (lZ (b.D p (E2 hx)).2.2.1)
 refine⟨v,?_,h2⟩
 unfold DS Vh
 simp only[qc.eta,uC (yf b.P),hp,iQ,jx]
 rw[nG (yf b.P) hx (show G1 t t p=I { p with dt:=v } by unfold G1;rw[h1];rfl)]
theorem Nw {n0:List UInt8}{k:Nat}{p:qi}(hn:nm e.er 0=n0)(hp:kq r.er n0=I k)(h3:r.er.ae[k]?=I p.er):oj r.er e.er =
   if e.kind=lV then
    (if vl e.er 1<0∨10000<vl e.er 1 then .error 3 else if 0<vl e.er 1∧!((p.dn.getD []).any (cN (nm e.er 1)))∧16≤(p.dn.getD []).length then .error 5 else
     .ok (bE r.er k { p.er with bH:={ p.er.bH with ax:=iP (p.dn.getD []) (nm e.er 1) (vl e.er 1) } }))
   else if e.kind=mN then
    (if vl e.er 2<vl e.er 1 then .error 11 else if !((p.dt.getD []).any (dZ (nm e.er 1)))∧16≤(p.dt.getD []).length then .error 5 else
     .ok (bE r.er k { p.er with bH:={ p.er.bH with aw:=eW (dZ (nm e.er 1)) ⟨nm e.er 1,vl e.er 1,vl e.er 2⟩ (p.dt.getD []) } }))
   else(if(p.dn.getD []).isEmpty then .error 12 else if 100≤p.er.aH.length then .error 5 else .ok (bE r.er k { p.er with aH:=p.er.aH++[p.er.bH] })):=by
 unfold oj
 rw[hn,hp]
 simp only[h3]
 rfl
theorem zfi (b:GB r){n0 n1:List UInt8}{v0 v1:Int}{k:Nat}(hk:e.kind=lV)(hn:e.names.getD []=[n0,n1])(hv:e.values.getD []=[v0,v1])(hp:kq r.er n0=I k):
  mS (eL 107 r e) (apply (j9 .i64) r.er e.er):=by
 have hR:apply (j9 .i64) r.er e.er=oj r.er e.er:=by
  unfold apply
  rw[show e.er.kind=lV from hk,if_neg (by decide),if_pos (.inl rfl)]
 obtain⟨p,h1,_,h3⟩:=DQ hp
 rw[hR,Nw (eA hn) hp h3,if_pos hk,lB hn,uE hv]
 have hA:eL 107 r e=jx (f107 e r.day r.au r.ae r.units) fun v=>I (v.1,{ r with ae:=v.2 }):=rfl
 rw[hA]
 obtain⟨v,g1,g2⟩:=jgk b (n1:=n1) (c:=v1) hp h1
 have yY:=(b.D p (E2 h1)).2.1
 have df:({ r with ae:=I ((r.ae.getD []).set k { p with dn:=v }) }:qc).er=bE r.er k { p.er with bH:={ p.er.bH with ax:=iP (p.dn.getD []) n1 v1 } }:=by
  rw[DR rfl]
  congr 1
  simp only[qi.er,g2]
 unfold f107
 simp only[qc.eta,gh hn,gi hn,gi hv,jx,uC (yf b.P),hp,iQ,z7 h1,DP,lA,jf3 (yf yY),g1]
 by_cases hz:v1<0∨10000<v1
 ·simp only[hz,if_true,if_false,En]
  cases decide (0<v1)<;>cases (p.dn.getD []).any (cN n1)<;>(simp only[cT,cond_false];rw[iq (by simp[SM])];exact⟨_,_,rfl,rfl,by decide⟩)
 ·simp only[hz,if_false,if_true,En]
  by_cases h0:0<v1
  ·rw[dT h0]
   cases ha:(p.dn.getD []).any (cN n1)with
   |true=>
    simp only[cT,Gq,En,false_and,and_false,if_false]
    rw[iq (by simp[SM])]
    exact⟨_,_,rfl,rfl,df⟩
   |false=>
    simp only[cT,cond_false,Mm,true_and,h0]
    rw[iq (by simp[SM])]
    by_cases h2:16≤(p.dn.getD []).length
    ·rw[show decide (16≤((p.dn.getD []).length:Int))=E6 from dT (by omega),if_pos h2]
     exact⟨_,_,rfl,rfl,by decide⟩
    ·rw[show decide (16≤((p.dn.getD []).length:Int))=Gl from dF (by omega),if_neg h2]
     exact⟨_,_,rfl,rfl,df⟩
  ·rw[dF h0,if_neg (show ¬(0<v1∧(!(p.dn.getD []).any (cN n1))=E6∧16≤(p.dn.getD []).length)from fun h=>h0 h.1)]
   simp only[cond_false]
   rw[iq (by simp[SM])]
   exact⟨_,_,rfl,rfl,df⟩
theorem zfn (b:GB r){n0 n1:List UInt8}{v0 v1 v2:Int}{k:Nat}(hk:e.kind=mN)(hn:e.names.getD []=[n0,n1])(hv:e.values.getD []=[v0,v1,v2])(hp:kq r.er n0=I k):
  mS (eL 108 r e) (apply (j9 .i64) r.er e.er):=by
 have hR:apply (j9 .i64) r.er e.er=oj r.er e.er:=by
  unfold apply
  rw[show e.er.kind=mN from hk,if_neg (by decide),if_pos (.inr (.inl rfl))]
 obtain⟨p,h1,_,h3⟩:=DQ hp
 rw[hR,Nw (eA hn) hp h3,if_neg (by rw[hk];decide),if_pos hk,lB hn,uE hv,vl2 hv]
 have hA:eL 108 r e=jx (f108 e r.day r.au r.ae r.units) fun v=>I (v.1,{ r with ae:=v.2 }):=rfl
 rw[hA]
 obtain⟨v,g1,g2⟩:=jfr b (t:=⟨n1,v1,v2⟩) hp h1
 have yY:=(b.D p (E2 h1)).2.2.1
 have df:({ r with ae:=I ((r.ae.getD []).set k { p with dt:=v }) }:qc).er=bE r.er k { p.er with bH:={ p.er.bH with aw:=eW (dZ n1) ⟨n1,v1,v2⟩ (p.dt.getD []) } }:=by
  rw[DR rfl]
  congr 1
  simp only[qi.er,g2]
 unfold f108
 simp only[qc.eta,gh hn,gi hn,gi hv,jry hv,jx,uC (yf b.P),hp,iQ,z7 h1,lA,jey (yf yY),g1]
 by_cases hz:v2<v1
 ·rw[dT hz,if_pos hz]
  cases (p.dt.getD []).any (dZ n1)<;>(simp only[cT,cond_false];rw[iq (by simp[SM])];exact⟨_,_,rfl,rfl,by decide⟩)
 ·rw[dF hz,if_neg hz]
  cases ha:(p.dt.getD []).any (dZ n1)with
  |true=>
   simp only[cT,Gq,En,false_and,if_false]
   rw[iq (by simp[SM])]
   exact⟨_,_,rfl,rfl,df⟩
  |false=>
   simp only[cond_false,Mm,true_and]
   rw[iq (by simp[SM])]
   by_cases h2:16≤(p.dt.getD []).length
   ·rw[show decide (16≤((p.dt.getD []).length:Int))=E6 from dT (by omega),if_pos h2]
    exact⟨_,_,rfl,rfl,by decide⟩
   ·rw[show decide (16≤((p.dt.getD []).length:Int))=Gl from dF (by omega),if_neg h2]
    exact⟨_,_,rfl,rfl,df⟩
theorem q4r {α:Type}{o:Option (List α)}(h:(o.getD []).length≤SM):∃v w,(cond o.isNone (I (none,Gl)) (jx (bg (I []) (o.getD [])) fun v=>I (v,E6)))=I (v,w)∧v.getD []=o.getD []:=by
 cases o with
 |none=>exact⟨none,Gl,rfl,rfl⟩
 |some l=>
  have h':l.length≤SM:=h
  simp only[Option.isNone_some,cond_false,E1]
  rw[Ao h']
  exact⟨_,_,rfl,rfl⟩
theorem jmj {d:qr}(h1:(d.ax.getD []).length≤SM)(h2:(d.aw.getD []).length≤SM):∃d',f181 d=I d'∧d'.er=d.er:=by
 obtain⟨v,w,g1,g2⟩:=q4r h1
 obtain⟨v',w',g3,g4⟩:=q4r h2
 unfold f181
 rw[show f245 d.ax=I (v,w)from g1,show f246 d.aw=I (v',w')from g3]
 exact⟨⟨v,v'⟩,rfl,by simp only[qr.er,g2,g4]⟩
theorem a109 (b:GB r){n0:List UInt8}{v0:Int}{k:Nat}(hk:e.kind=oX)(hn:e.names.getD []=[n0])(hv:e.values.getD []=[v0])(hp:kq r.er n0=I k):
  mS (eL 109 r e) (apply (j9 .i64) r.er e.er):=by
 have hR:apply (j9 .i64) r.er e.er=oj r.er e.er:=by
  unfold apply
  rw[show e.er.kind=oX from hk,if_neg (by decide),if_pos (.inr (.inr rfl))]
 obtain⟨p,h1,_,h3⟩:=DQ hp
 rw[hR,Nw (eA hn) hp h3,if_neg (by rw[hk];decide),if_neg (by rw[hk];decide)]
 have hA:eL 109 r e=jx (f109 e r.day r.au r.ae r.units) fun v=>I (v.1,{ r with ae:=v.2 }):=rfl
 rw[hA]
 have hD:=b.D p (E2 h1)
 obtain⟨d',g1,g2⟩:=jmj (d:=⟨p.dn,p.dt⟩) (yf hD.2.1) (yf hD.2.2.1)
 have g3:Nx r.ae (k:Int)=I (I ((r.ae.getD []).set k { p with aH:=I (p.aH.getD []++[d']) })):=by
  unfold Nx
  exact nG (yf b.P) h1 (by unfold Ny;rw[g1];simp only[jx];rw[jlb (lZ hD.1)])
 have df:({ r with ae:=I ((r.ae.getD []).set k { p with aH:=I (p.aH.getD []++[d']) }) }:qc).er=bE r.er k { p.er with aH:=p.er.aH++[p.er.bH] }:=by
  rw[DR rfl]
  congr 1
  simp only[qi.er,E1,H7,Gp,Hb,g2]
  rfl
 have oe:p.er.aH.length=(p.aH.getD []).length:=by show((p.aH.getD []).map qr.er).length=_;rw[Gm]
 have hd:(p.dn.getD []).isEmpty=decide (((p.dn.getD []).length:Int)=0):=by
  cases p.dn.getD []with
  |nil=>rfl
  |cons x l=>simp;omega
 unfold f109
 simp only[qc.eta,gh hn,jx,uC (yf b.P),hp,iQ,z7 h1,lA,g3,hd,oe]
 rw[iq (by simp[SM])]
 cases decide (((p.dn.getD []).length:Int)=0)with
 |true=>exact⟨_,_,rfl,rfl,by decide⟩
 |false=>
  by_cases h2:100≤(p.aH.getD []).length
  ·rw[show decide (100≤((p.aH.getD []).length:Int))=E6 from dT (by omega),if_pos h2]
   exact⟨_,_,rfl,rfl,by decide⟩
  ·rw[show decide (100≤((p.aH.getD []).length:Int))=Gl from dF (by omega),if_neg h2]
   exact⟨_,_,rfl,rfl,df⟩
end Go.Z
namespace Go.Z
open Go Go.Abs Go.W
variable {r:qc}{e:qm}
theorem jE {k:List UInt8}(hk:e.kind=k)(h:¬(k=lU∨k=mM∨k=n9))(h2:¬(k=lV∨k=mN∨k=oX)):apply (j9 .i64) r.er e.er=if k=nE∨k=qH then vC r.er e.er else ol (j9 .i64) r.er e.er:=by
 unfold apply
 rw[show e.er.kind=k from hk,if_neg h,if_neg h2]
theorem zbv (b:GB r){n0:List UInt8}{v0:Int}{k:Nat}(hk:e.kind=nE)(hn:e.names.getD []=[n0])(hv:e.values.getD []=[v0])(hp:ku r.er n0=I k):
  mS (eL 115 r e) (apply (j9 .i64) r.er e.er):=by
 rw[jE hk (by decide) (by decide),if_pos (.inl rfl)]
 obtain⟨x,h1,_⟩:=GZ hp
 have hA:eL 115 r e=jx (f115 e r.day r.au r.ae r.units) fun v=>I (v.1,{ r with au:=v.2 }):=rfl
 rw[hA]
 have g1:Vi r.au (k:Int)=I (I ((r.au.getD []).set k { x with held:=E6 })):=nG (yf b.L) h1 rfl
 unfold vC
 rw[eA hn,hp]
 simp only[vB,h1]
 rw[if_pos (show e.er.kind=nE from hk)]
 unfold f115
 simp only[qc.eta,gh hn,jx,DF (yf b.L),hp,iQ,z7 h1,g1]
 cases x.held with
 |true=>exact⟨_,_,rfl,rfl,by decide⟩
 |false=>exact⟨_,_,rfl,rfl,Nv rfl⟩
theorem j97 (b:GB r){n0:List UInt8}{v0:Int}{k:Nat}(hk:e.kind=qH)(hn:e.names.getD []=[n0])(hv:e.values.getD []=[v0])(hp:ku r.er n0=I k):
  mS (eL 116 r e) (apply (j9 .i64) r.er e.er):=by
 rw[jE hk (by decide) (by decide),if_pos (.inr rfl)]
 obtain⟨x,h1,_⟩:=GZ hp
 have hA:eL 116 r e=jx (f116 e r.day r.au r.ae r.units) fun v=>I (v.1,{ r with au:=v.2 }):=rfl
 rw[hA]
 have g1:Vj r.au (k:Int)=I (I ((r.au.getD []).set k { x with held:=Gl })):=nG (yf b.L) h1 rfl
 unfold vC
 rw[eA hn,hp]
 simp only[vB,h1]
 rw[if_neg (show ¬e.er.kind=nE from fun h=>by rw[show e.er.kind=e.kind from rfl,hk]at h;exact absurd h (by decide))]
 unfold f116
 simp only[qc.eta,gh hn,jx,DF (yf b.L),hp,iQ,z7 h1,g1]
 cases x.held with
 |true=>exact⟨_,_,rfl,rfl,Nv rfl⟩
 |false=>exact⟨_,_,rfl,rfl,by decide⟩
structure jw (r:qc)(u:qe)(D:qr)(v:Int):Prop where
 doc:f134 r u=I D
 Av:f78 r u=I D
 DT:gR r.er u.er=I D.er
 new:oZ r.er u.er=I v
 ax:(D.ax.getD []).length≤BB
 aw:(D.aw.getD []).length≤BB
 uses:(u.uses.getD []).length≤BB
 results:(u.results.getD []).length≤BB
 au:∀x∈u.uses.getD [],(ku r.er x.k).isSome=E6
 keyed:dP (·.k) (u.uses.getD [])
 bu:u.version≠-1
theorem jbh {u:qe}{d:jg}(h:gR r.er u.er=I d):∃(k:Nat) (p:qi),(r.ae.getD [])[k]?=I p∧1≤u.version∧∃D:qr,D∈p.aH.getD []∧D.er=d:=by
 unfold gR at h
 cases hp:hH r.er u.er.product with
 |none=>rw[hp]at h;cases h
 |some sp=>
  rw[hp]at h
  obtain⟨k,p,_,h2,rfl,_⟩:=U5 hp
  simp only[Option.bind_some,DH]at h
  split at h
  ·rename_i hv
   refine⟨k,p,h2,hv,?_⟩
   have h3:((p.aH.getD []).map qr.er)[(u.er.version-1).toNat]?=I d:=h
   rw[Gn]at h3
   cases hD:(p.aH.getD [])[(u.er.version-1).toNat]? with
   |none=>rw[hD]at h3;cases h3
   |some D=>rw[hD]at h3;exact⟨D,E2 hD,by simpa using h3⟩
  ·cases h
theorem DU (b:GB r)(w:WF r.er){i:Nat}{u:qe}(hu:(r.units.getD [])[i]?=I u):∃D v,jw r u D v:=by
 have hm:=E2 hu
 have Vk:u.er∈r.er.units:=by rw[Ae];exact Mn hm
 obtain⟨d,hd⟩:=Gk.1 (w.dD _ Vk)
 obtain⟨D,g1,g2,rfl⟩:=jtd (yf b.P) (fun p hp=>yf (b.D p hp).1) hd
 obtain⟨k,p,hp,hv,D',nH,he⟩:=jbh hd
 have hb:=(b.D p (E2 hp)).2.2.2 D' nH
 have h1:D.ax.getD []=D'.ax.getD []:=congrArg jg.ax he.symm
 have h2:D.aw.getD []=D'.aw.getD []:=congrArg jg.aw he.symm
 have cW:(oZ r.er u.er).isSome=E6:=by
  unfold oZ
  unfold gR at hd
  cases hq:hH r.er u.er.product with
  |none=>rw[hq]at hd;cases hd
  |some sp=>rfl
 obtain⟨v,Tk⟩:=Gk.1 cW
 exact⟨D,v,g1,g2,hd,Tk,by rw[h1];exact hb.1,by rw[h2];exact hb.2,(b.N u hm).1,(b.N u hm).2,(w.uses _ Vk).2,(w.uses _ Vk).1,by omega⟩
theorem vD {n0:List UInt8}{k:Nat}{u:qe}(hn:nm e.er 0=n0)(hp:km r.er n0=I k)(h3:r.er.units[k]?=I u.er):ol (j9 .i64) r.er e.er =
   if e.kind=lW then xw (j9 .i64) r.er k u.er e.er
   else if e.kind=mO then xy r.er k u.er e.er
   else if e.kind=oc then
    (if u.ar then .error 21 else if !((gR r.er u.er).any fun d=>d.aw.any (dZ (nm e.er 1)))then .error 7 else if 64≤(u.results.getD []).length then .error 5 else
     .ok (aA r.er k { u.er with results:=u.results.getD []++[⟨nm e.er 1,u.version,vl e.er 1⟩] }))
   else if e.kind=oY then
    (if u.ar then .error 21 else match oZ r.er u.er with
     |none=>.error 32
     |some v=>if u.version=v then .error 32 else .ok (aA r.er k { u.er with version:=v }))
   else if e.kind=jW then(if uD (j9 .i64) r.er u.er≠0 then .error (uD (j9 .i64) r.er u.er)else .ok (aA r.er k { u.er with ar:=E6 }))
   else(if !u.ar then .error 20 else .ok (aA r.er k { u.er with ai:=j9 .i64 (u.ai+1) })):=by
 unfold ol
 rw[hn,hp]
 simp only[h3]
 rfl
theorem j94 (b:GB r)(w:WF r.er){n0:List UInt8}{v0:Int}{k:Nat}(hk:e.kind=oY)(hn:e.names.getD []=[n0])(hv:e.values.getD []=[v0])(hp:km r.er n0=I k):
  mS (eL 113 r e) (apply (j9 .i64) r.er e.er):=by
 rw[jE hk (by decide) (by decide),if_neg (by decide)]
 obtain⟨u,h1,_,h3⟩:=qJ hp
 obtain⟨D,v,o⟩:=DU b w h1
 rw[vD (eA hn) hp h3,if_neg (by rw[hk];decide),if_neg (by rw[hk];decide),if_neg (by rw[hk];decide),if_pos hk,o.new]
 have hA:eL 113 r e=jx (f113 e r.day r.au r.ae r.units) fun v=>I (v.1,{ r with units:=v.2 }):=rfl
 rw[hA]
 have g1:Vl r.units (k:Int) v=I (I ((r.units.getD []).set k { u with version:=v })):=nG (yf b.U) h1 rfl
 generalize hU:({ u with version:=v }:qe)=U' at g1
 have df:({ r with units:=I ((r.units.getD []).set k U') }:qc).er=aA r.er k { u.er with version:=v }:=by rw[xu rfl,←hU];rfl
 unfold f113
 simp only[qc.eta,gh hn,jx,xk (yf b.U),hp,iQ,z7 h1,(Ns (yf b.P) o.new).1,lA,g1]
 rw[iq (by simp[SM])]
 cases u.ar with
 |true=>exact⟨_,_,rfl,rfl,by decide⟩
 |false=>
  by_cases h:u.version=v
  ·rw[dT h,if_pos h];exact⟨_,_,rfl,rfl,by decide⟩
  ·rw[dF h,if_neg h];exact⟨_,_,rfl,rfl,df⟩
theorem zag (b:GB r)(w:WF r.er){n0:List UInt8}{v0:Int}{k:Nat}(hk:e.kind=jW)(hn:e.names.getD []=[n0])(hv:e.values.getD []=[v0])(hp:km r.er n0=I k):
  mS (eL 117 r e) (apply (j9 .i64) r.er e.er):=by
 rw[jE hk (by decide) (by decide),if_neg (by decide)]
 obtain⟨u,h1,_,h3⟩:=qJ hp
 obtain⟨D,v,o⟩:=DU b w h1
 rw[vD (eA hn) hp h3,if_neg (by rw[hk];decide),if_neg (by rw[hk];decide),if_neg (by rw[hk];decide),if_neg (by rw[hk];decide),if_pos hk]
 have hA:eL 117 r e=jx (f117 e r.day r.au r.ae r.units) fun v=>I (v.1,{ r with units:=v.2 }):=rfl
 rw[hA]
 have g1:Vm r.units (k:Int)=I (I ((r.units.getD []).set k { u with ar:=E6 })):=nG (yf b.U) h1 rfl
 have g2:=jtn (yf b.P) o.new (yf b.L) (yf o.uses) o.au o.doc o.DT (yf o.ax) (yf o.results) (yf o.aw) o.bu
 unfold f117
 simp only[qc.eta,gh hn,jx,xk (yf b.U),hp,iQ,z7 h1,g2,g1]
 by_cases h:uD (j9 .i64) r.er u.er=0
 ·rw[dT h,if_neg (fun hh=>hh h)];exact⟨_,_,rfl,rfl,xu rfl⟩
 ·rw[dF h,if_pos h];exact⟨_,_,rfl,rfl,h⟩
theorem j9p (b:GB r){n0:List UInt8}{v0:Int}{k:Nat}(hk:e.kind=xi)(hn:e.names.getD []=[n0])(hv:e.values.getD []=[v0])(hp:km r.er n0=I k):
  mS (eL 118 r e) (apply (j9 .i64) r.er e.er):=by
 rw[jE hk (by decide) (by decide),if_neg (by decide)]
 obtain⟨u,h1,_,h3⟩:=qJ hp
 rw[vD (eA hn) hp h3,if_neg (by rw[hk];decide),if_neg (by rw[hk];decide),if_neg (by rw[hk];decide),if_neg (by rw[hk];decide),if_neg (by rw[hk];decide)]
 have hA:eL 118 r e=jx (f118 e r.day r.au r.ae r.units) fun v=>I (v.1,{ r with units:=v.2 }):=rfl
 rw[hA]
 have g1:Vn r.units (k:Int)=I (I ((r.units.getD []).set k { u with ai:=j9 .i64 (u.ai+1) })):=nG (yf b.U) h1 rfl
 generalize hU:({ u with ai:=j9 .i64 (u.ai+1) }:qe)=U' at g1
 have df:({ r with units:=I ((r.units.getD []).set k U') }:qc).er=aA r.er k { u.er with ai:=j9 .i64 (u.ai+1) }:=by rw[xu rfl,←hU];rfl
 unfold f118
 simp only[qc.eta,gh hn,jx,xk (yf b.U),hp,iQ,z7 h1,g1]
 cases u.ar with
 |true=>exact⟨_,_,rfl,rfl,df⟩
 |false=>exact⟨_,_,rfl,rfl,by decide⟩
theorem zd8 (b:GB r)(w:WF r.er){n0 n1:List UInt8}{v0 v1:Int}{k:Nat}(hk:e.kind=oc)(hn:e.names.getD []=[n0,n1])(hv:e.values.getD []=[v0,v1])(hp:km r.er n0=I k):
  mS (eL 112 r e) (apply (j9 .i64) r.er e.er):=by
 rw[jE hk (by decide) (by decide),if_neg (by decide)]
 obtain⟨u,h1,_,h3⟩:=qJ hp
 obtain⟨D,v,o⟩:=DU b w h1
 rw[vD (eA hn) hp h3,if_neg (by rw[hk];decide),if_neg (by rw[hk];decide),if_pos hk,lB hn,uE hv,o.DT]
 have hA:eL 112 r e=jx (f112 e r.day r.au r.ae r.units) fun v=>I (v.1,{ r with units:=v.2 }):=rfl
 rw[hA]
 have g1:Vo r.units (k:Int) e=I (I ((r.units.getD []).set k { u with results:=I (u.results.getD []++[⟨n1,u.version,v1⟩]) })):=nG (yf b.U) h1 (by
  unfold Nz
  rw[gi hn,gi hv]
  simp only[jx]
  rw[jmf (lZ o.results)])
 generalize hU:({ u with results:=I (u.results.getD []++[⟨n1,u.version,v1⟩]) }:qe)=U' at g1
 have df:({ r with units:=I ((r.units.getD []).set k U') }:qc).er=aA r.er k { u.er with results:=u.results.getD []++[⟨n1,u.version,v1⟩] }:=by rw[xu rfl,←hU];rfl
 unfold f112
 simp only[qc.eta,gh hn,jx,xk (yf b.U),hp,iQ,z7 h1,o.doc,jh5 (gi hn) (yf o.aw),lA,g1,Mw]
 rw[iq (by simp[SM]),show D.er.aw=D.aw.getD []from rfl]
 cases u.ar with
 |true=>exact⟨_,_,rfl,rfl,by decide⟩
 |false=>
  cases (D.aw.getD []).any (dZ n1)with
  |false=>exact⟨_,_,rfl,rfl,by decide⟩
  |true=>
   by_cases h2:64≤(u.results.getD []).length
   ·rw[show decide (64≤((u.results.getD []).length:Int))=E6 from dT (by omega),if_pos h2]
    exact⟨_,_,rfl,rfl,by decide⟩
   ·rw[show decide (64≤((u.results.getD []).length:Int))=Gl from dF (by omega),if_neg h2]
    exact⟨_,_,rfl,rfl,df⟩
theorem j96 (b:GB r)(w:WF r.er){n0 n1:List UInt8}{v0 v1:Int}{k j:Nat}(hk:e.kind=lW)(hn:e.names.getD []=[n0,n1])(hv:e.values.getD []=[v0,v1])(hp:km r.er n0=I k)(hq:ku r.er n1=I j):
  mS (eL 111 r e) (apply (j9 .i64) r.er e.er):=by
 rw[jE hk (by decide) (by decide),if_neg (by decide)]
 obtain⟨u,h1,_,h3⟩:=qJ hp
 obtain⟨x,h4,Dr⟩:=GZ hq
 obtain⟨D,v,o⟩:=DU b w h1
 rw[vD (eA hn) hp h3,if_pos hk]
 unfold xw
 rw[lB hn,hq,uE hv,o.DT]
 simp only[vB,h4]
 have hA:eL 111 r e=jx (f111 e r.day r.au r.ae r.units) fun v=>I (v.1,{ r with au:=v.2.1,units:=v.2.2 }):=rfl
 rw[hA]
 have g1:Vp r.au (j:Int) v1=I (I ((r.au.getD []).set j { x with left:=j9 .i64 (x.left-v1) })):=nG (yf b.L) h4 rfl
 unfold f111
 simp only[qc.eta,gh hn,gi hn,gi hv,jx,xk (yf b.U),DF (yf b.L),hp,hq,iQ,z7 h1,z7 h4,o.doc,jgc (yf o.ax),lA,g1,jmx (yf o.uses),Mw]
 rw[iq (by simp[SM])]
 have hdn:D.er.ax=D.ax.getD []:=rfl
 simp only[hdn]
 have lx:∀(s:ql),mR (j9 .i64) (u.uses.getD []) x.name v1=eW (cN x.name) s (u.uses.getD [])→∃us,fL r.units (k:Int) (DV s x)=I us∧({ r with au:=I ((r.au.getD []).set j { x with left:=j9 .i64 (x.left-v1) }),units:=us }:qc).er=aA (cf r.er j { x with left:=j9 .i64 (x.left-v1) }) k { u.er with uses:=mR (j9 .i64) u.er.uses x.name v1 }:=by
  intro s hs
  obtain⟨q,wq,q1,q2⟩:=jku (x:=s) (t:=x) (o:=u.uses) (lZ o.uses)
  refine⟨_,nG (y:={ u with uses:=q }) (yf b.U) h1 (by unfold DV;rw[q1];rfl),?_⟩
  simp only[qc.er,aA,cf,E1,Hd]
  congr 2
  simp only[qe.er,q2,hs]
 by_cases hs:u.ar=E6
 ·simp only[if_pos hs,if_pos (show u.er.ar=E6 from hs)]
  exact⟨_,_,rfl,rfl,by decide⟩
 simp only[if_neg hs,if_neg (show ¬u.er.ar=E6 from hs)]
 by_cases hz:v1=0
 ·simp only[if_pos hz,dT hz,if_true]
  exact⟨_,_,rfl,rfl,by decide⟩
 simp only[if_neg hz,dF hz,En,if_false]
 by_cases hh:x.held=E6
 ·simp only[if_pos hh]
  exact⟨_,_,rfl,rfl,by decide⟩
 simp only[if_neg hh]
 cases (D.ax.getD []).any (cN x.kind)with
 |false=>exact⟨_,_,rfl,rfl,by decide⟩
 |true=>
 simp only[Gq,En,if_false]
 by_cases hl:x.left<v1
 ·simp only[if_pos hl,dT hl,if_true]
  exact⟨_,_,rfl,rfl,by decide⟩
 simp only[if_neg hl,dF hl,En,if_false]
 have G2:∀ {α:Type} (A B:Option α),cond (decide (fP [0,0,0,0,0]=0)) A B=A:=fun A B=>rfl
 cases hi:(u.uses.getD []).findIdx? (cN x.name)with
 |none=>
  obtain⟨us,q1,q2⟩:=lx ⟨x.name,v1⟩ (by unfold mR eW;rw[hi])
  rw[G2]
  rw[show decide (0≤dY none)=Gl from rfl]
  simp only[cond_false,q1]
  exact⟨_,_,rfl,rfl,q2⟩
 |some i=>
  obtain⟨y,hy,_⟩:=bG hi
  obtain⟨us,q1,q2⟩:=lx ⟨x.name,j9 .i64 (v1+y.n)⟩ (by unfold mR eW;rw[hi];simp only[hy])
  rw[G2]
  rw[show decide (0≤dY (I i))=E6 from xm (I i)]
  simp only[cT,iQ,z7 hy,q1]
  exact⟨_,_,rfl,rfl,q2⟩
end Go.Z
set_option maxHeartbeats 4000000
namespace Go.Z
open Go Go.Abs Go.W
variable {r:qc}{e:qm}
theorem j5x {a b c d:Int}:f51 (I [a,b,c,d])=I (fP [a,b,c,d]):=iq (by simp[SM])
theorem zax (b:GB r){n0 n1:List UInt8}{v0:Int}{k j:Nat}(hk:e.kind=mO)(hn:e.names.getD []=[n0,n1])(hv:e.values.getD []=[v0])(hp:km r.er n0=I k)(hq:km r.er n1=I j):
  mS (eL 114 r e) (apply (j9 .i64) r.er e.er):=by
 rw[jE hk (by decide) (by decide),if_neg (by decide)]
 obtain⟨u,h1,_,h3⟩:=qJ hp
 obtain⟨v,h4,_,h5⟩:=qJ hq
 rw[vD (eA hn) hp h3,if_neg (by rw[hk];decide),if_pos hk]
 unfold xy
 rw[lB hn,hq]
 simp only[h5]
 have hA:eL 114 r e=jx (f114 e r.day r.au r.ae r.units) fun v=>I (v.1,{ r with units:=v.2 }):=rfl
 rw[hA]
 have g1:uF r.units (k:Int) v=I (I ((r.units.getD []).set k { u with partner:=v.name })):=nG (yf b.U) h1 rfl
 have g2:k≠j→∀bb,uG (I ((r.units.getD []).set k { u with partner:=v.name })) (j:Int) ⟨u.name,u.product,u.version,u.uses,u.results,u.partner,bb,u.ai⟩=I (I (((r.units.getD []).set k { u with partner:=v.name }).set j { v with partner:=u.name })):=by
  intro hkj bb
  exact nG (x:=v) (by rw[E1,List.length_set];exact yf b.U) (by rw[E1,List.getElem?_set_ne hkj];exact h4) rfl
 have df:({ r with units:=I (((r.units.getD []).set k { u with partner:=v.name }).set j { v with partner:=u.name }) }:qc).er=aA (aA r.er k { u.er with partner:=v.er.name }) j { v.er with partner:=u.er.name }:=by
  simp only[qc.er,aA,E1,Hd]
  rfl
 generalize hz:aA (aA r.er k { u.er with partner:=v.er.name }) j { v.er with partner:=u.er.name }=Z at df ⊢
 generalize hX:I (I (((r.units.getD []).set k { u with partner:=v.name }).set j { v with partner:=u.name }))=X at g2
 generalize hY:I ((r.units.getD []).set k { u with partner:=v.name })=Y at g1 g2
 unfold f114
 simp only[qc.eta,gh hn,gi hn,jx,xk (yf b.U),hp,hq,iQ,z7 h1,z7 h4,lA,j5x,g1]
 have e1:decide ((k:Int)=(j:Int))=decide (k=j):=by
  by_cases h:k=j
  ·rw[dT h];exact dT (by omega)
  ·rw[dF h];exact dF (by omega)
 have e2:u.er.product=u.product:=rfl
 have e3:v.er.product=v.product:=rfl
 have e4:u.er.version=u.version:=rfl
 have e5:v.er.version=v.version:=rfl
 have e6:u.er.ar=u.ar:=rfl
 have e7:v.er.ar=v.ar:=rfl
 have e8:u.er.partner=u.partner:=rfl
 have e9:v.er.partner=v.partner:=rfl
 simp only[e1,e2,e3,e4,e5,e6,e7,e8,e9]
 by_cases c1:k=j<;>by_cases c2:u.product=v.product<;>by_cases c3:u.version=v.version<;>cases c4:u.ar<;>cases c5:v.ar<;>by_cases c6:u.partner=[]<;>by_cases c7:v.partner=[] <;>
  simp only[c1,c2,c3,c6,c7,decide_true,decide_false,cT,cond_false,Gq,Mm,if_true,if_false,En,ne_eq,not_true_eq_false,not_false_eq_true,or_true,true_or,or_false,false_or,or_self] <;>
  first
  |exact⟨_,_,rfl,rfl,by decide⟩
  |(have g3:=g2 c1 Gl
    simp only[c2,c3,c6]at g3
    rw[g3,←hX]
    exact⟨_,_,rfl,rfl,df⟩)
end Go.Z
namespace Go.Z
open Go Go.Abs Go.W
variable {r:qc}{e:qm}
def DW (r:qu)(c:Int)(n:List UInt8):Bool:=if c=108 then(ku r n).isSome else if c=112 then(kq r n).isSome else if c=117 then(km r n).isSome else E6
theorem Vq (b:GB r){c:Int}{n:List UInt8}:f202 r c n=I (DW r.er c n):=by
 unfold f202 DW
 by_cases h1:c=108
 ·simp only[h1,decide_true,cT,if_true,DF (yf b.L),jx,vA]
 ·by_cases h2:c=112
  ·simp only[h1,h2,decide_true,decide_false,cT,cond_false,if_true,if_false,uC (yf b.P),jx,vA];rfl
  ·by_cases h3:c=117
   ·simp only[h1,h2,h3,decide_true,decide_false,cT,cond_false,if_true,if_false,xk (yf b.U),jx,vA];rfl
   ·simp only[h1,h2,h3,decide_false,cond_false,if_false]
def eG (r:qu)(c:UInt8)(n:List UInt8):Bool:=decide ((c.toNat:Int)=45)||DW r (c.toNat:Int) n
theorem Aw (b:GB r){a:UInt8}{n0:List UInt8}{t:List (List UInt8)}(hr:yt e.kind=[a])(hd:zf [a] 0=(a.toNat,1))(hn:e.names.getD []=n0::t):
  ∃d,bf (DX r e) none=I (if eG r.er a n0 then .inr d else .inl d):=by
 have z:Ax r e=I (if eG r.er a n0 then .inl (I 1)else .inr (.inl 1)):=by
  unfold Ax eG
  simp only[hr,hd,jx,gh hn,Vq b]
  simp only[Md,Nat.lt_irrefl,show decide (0<1)=E6 from rfl,cT]
  cases decide ((a.toNat:Int)=45)<;>cases DW r.er (a.toNat:Int) n0<;>rfl
 cases hk:eG r.er a n0 with
 |true=>
  rw[hk]at z
  refine⟨1,?_⟩
  rw[mL (s':=I 1) z]
  refine iF (d:=(Sum.inr 1:Nat⊕Nat)) ?_
  show vE r e 1=_
  unfold vE
  simp only[hr,Md]
  rfl
 |false=>
  rw[hk]at z
  exact⟨1,iF z⟩
theorem Ay (b:GB r){a c:UInt8}{n0 n1:List UInt8}{t:List (List UInt8)}(hr:yt e.kind=[a,c])(hd:zf [a,c] 0=(a.toNat,1))(hd1:zf [a,c] 1=(c.toNat,1))(hn:e.names.getD []=n0::n1::t):
  ∃d,bf (DX r e) none=I (if eG r.er a n0&&eG r.er c n1 then .inr d else .inl d):=by
 have z:Ax r e=I (if eG r.er a n0 then .inl (I 1)else .inr (.inl 1)):=by
  unfold Ax eG
  simp only[hr,hd,jx,gh hn,Vq b]
  simp only[Ha,If,show decide (0<0+1+1)=E6 from rfl,cT]
  cases decide ((a.toNat:Int)=45)<;>cases DW r.er (a.toNat:Int) n0<;>rfl
 have y:vE r e 1=I (if eG r.er c n1 then .inl (I 2)else .inr (.inl 2)):=by
  unfold vE eG
  simp only[hr,hd1,jx,show((1:Nat):Int)=1 from rfl,gi hn,Vq b]
  simp only[Ha,If,show decide (1<0+1+1)=E6 from rfl,cT]
  cases decide ((c.toNat:Int)=45)<;>cases DW r.er (c.toNat:Int) n1<;>rfl
 cases hk:eG r.er a n0 with
 |false=>
  rw[hk]at z
  exact⟨1,iF z⟩
 |true=>
  rw[hk]at z
  cases cV:eG r.er c n1 with
  |false=>
   rw[cV]at y
   refine⟨2,?_⟩
   rw[mL (s':=I 1) z]
   exact iF (d:=(Sum.inl 2:Nat⊕Nat)) y
  |true=>
   rw[cV]at y
   refine⟨2,?_⟩
   rw[mL (s':=I 1) z,mL (s':=I 2) y]
   refine iF (d:=(Sum.inr 2:Nat⊕Nat)) ?_
   show vE r e 2=_
   unfold vE
   simp only[hr,Ha,If]
   rfl
def gj (x:Option (qc×Int))(y:oh):Prop:=∃r' c,x=I (r',c)∧match y with
 | .error k=>c=k∧k≠0
 | .ok s=>c=0∧r'.er=s
theorem nI {v0:Int}{t:List Int}{K:Bool}(hv:e.values.getD []=v0::t)(hl:∃d,bf (DX r e) none=I (if K then .inr d else .inl d))(hK:K=Gl→apply (j9 .i64) r.er e.er=.error 10)(hA:K=E6→mS (eL (G3 e.kind) r e) (apply (j9 .i64) r.er e.er)):
  gj (f121 r e) (after (j9 .i64) r.er e.er):=by
 unfold f121 after
 rw[gh hv,Vf hv]
 simp only[jx]
 by_cases h:v0<r.day
 ·rw[dT h,if_pos (show v0<r.er.day from h)]
  exact⟨_,_,rfl,rfl,by decide⟩
 ·rw[dF h,if_neg (show ¬v0<r.er.day from h)]
  obtain⟨d,hd⟩:=hl
  rw[hd]
  cases K with
  |false=>
   rw[hK rfl]
   exact⟨_,_,rfl,rfl,by decide⟩
  |true=>
   obtain⟨c,r',h1,h2⟩:=hA rfl
   simp only[if_true,cond_false]
   rw[h1]
   simp only[]
   cases ha:apply (j9 .i64) r.er e.er with
   |error k=>
    rw[ha]at h2
    obtain⟨rfl,h3⟩:=h2
    rw[dF h3]
    exact⟨_,_,rfl,rfl,h3⟩
   |ok s=>
    rw[ha]at h2
    obtain⟨rfl,rfl⟩:=h2
    exact⟨_,_,rfl,rfl,rfl⟩
theorem nJ {α:Type}{o:Option α}(h:o.isSome=E6):∃x,o=I x:=Gk.1 h
theorem pe {α:Type}{o:Option α}(h:o.isSome=Gl):o=none:=by cases o<;>simp at h ⊢
theorem eX {k:List UInt8}{a c:Nat}(hk:e.kind=k)(hf:fM k=I (a,c))(hc:kc e.er=0):(e.names.getD []).length=a∧(e.values.getD []).length=c:=by
 obtain⟨_,f,h1,h2,h3⟩:=NA hc
 rw[show e.er.kind=k from hk,hf]at h1
 cases h1
 exact⟨h2,h3⟩
theorem iG {α:Type}{l:List α}(h:l.length=1):∃a,l=[a]:=List.length_eq_one_iff.1 h
theorem gk {α:Type}{l:List α}(h:l.length=2):∃a b,l=[a,b]:=by
 match l,h with
 | [a,b],_=>exact⟨a,b,rfl⟩
theorem jpo {α:Type}{l:List α}(h:l.length=3):∃a b c,l=[a,b,c]:=by
 match l,h with
 | [a,b,c],_=>exact⟨a,b,c,rfl⟩
theorem nK {r:qu}{n:List UInt8}:eG r 45 n=E6:=rfl
theorem rl {r:qu}{n:List UInt8}:eG r 108 n=(ku r n).isSome:=rfl
theorem rp {r:qu}{n:List UInt8}:eG r 112 n=(kq r n).isSome:=rfl
theorem ru {r:qu}{n:List UInt8}:eG r 117 n=(km r n).isSome:=rfl
theorem jrr (b:GB r)(hk:e.kind=lU)(hc:kc e.er=0):gj (f121 r e) (after (j9 .i64) r.er e.er):=by
 obtain⟨h1,h2⟩:=eX hk (show fM lU=I (2,2)from rfl) hc
 obtain⟨n0,n1,hn⟩:=gk h1
 obtain⟨v0,v1,hv⟩:=gk h2
 refine nI (K:=true) hv (by have:=Ay (a:=45) (c:=45) b (by rw[hk];rfl) rfl rfl hn;simpa[nK]using this) (fun h=>by cases h) (fun _=>?_)
 rw[hk]
 exact a105 b hk hn hv
theorem jay (b:GB r)(hk:e.kind=mM)(hc:kc e.er=0):gj (f121 r e) (after (j9 .i64) r.er e.er):=by
 obtain⟨h1,h2⟩:=eX hk (show fM mM=I (1,1)from rfl) hc
 obtain⟨n0,hn⟩:=iG h1
 obtain⟨v0,hv⟩:=iG h2
 refine nI (K:=true) hv (by have:=Aw (a:=45) b (by rw[hk];rfl) rfl hn;simpa[nK]using this) (fun h=>by cases h) (fun _=>?_)
 rw[hk]
 exact zik b hk hn hv
theorem jlf (b:GB r)(hk:e.kind=lV)(hc:kc e.er=0):gj (f121 r e) (after (j9 .i64) r.er e.er):=by
 obtain⟨h1,h2⟩:=eX hk (show fM lV=I (2,2)from rfl) hc
 obtain⟨n0,n1,hn⟩:=gk h1
 obtain⟨v0,v1,hv⟩:=gk h2
 refine nI (K:=(kq r.er n0).isSome) hv (by have:=Ay (a:=112) (c:=45) b (by rw[hk];rfl) rfl rfl hn;rw[show(eG r.er 112 n0&&eG r.er 45 n1)=((kq r.er n0).isSome)from by simp only[nK,rl,rp,ru,E3,E4]]at this;exact this) (fun h=>?_) (fun h=>?_)
 ·have h:=pe h
  unfold apply oj
  rw[show e.er.kind=lV from hk,if_neg (by decide),if_pos (by decide),eA hn,h]
 ·obtain⟨k,hp⟩:=nJ h
  rw[hk]
  exact zfi b hk hn hv hp
theorem jkv (b:GB r)(hk:e.kind=mN)(hc:kc e.er=0):gj (f121 r e) (after (j9 .i64) r.er e.er):=by
 obtain⟨h1,h2⟩:=eX hk (show fM mN=I (2,3)from rfl) hc
 obtain⟨n0,n1,hn⟩:=gk h1
 obtain⟨v0,v1,v2,hv⟩:=jpo h2
 refine nI (K:=(kq r.er n0).isSome) hv (by have:=Ay (a:=112) (c:=45) b (by rw[hk];rfl) rfl rfl hn;rw[show(eG r.er 112 n0&&eG r.er 45 n1)=((kq r.er n0).isSome)from by simp only[nK,rl,rp,ru,E3,E4]]at this;exact this) (fun h=>?_) (fun h=>?_)
 ·have h:=pe h
  unfold apply oj
  rw[show e.er.kind=mN from hk,if_neg (by decide),if_pos (by decide),eA hn,h]
 ·obtain⟨k,hp⟩:=nJ h
  rw[hk]
  exact zfn b hk hn hv hp
theorem jel (b:GB r)(hk:e.kind=oX)(hc:kc e.er=0):gj (f121 r e) (after (j9 .i64) r.er e.er):=by
 obtain⟨h1,h2⟩:=eX hk (show fM oX=I (1,1)from rfl) hc
 obtain⟨n0,hn⟩:=iG h1
 obtain⟨v0,hv⟩:=iG h2
 refine nI (K:=(kq r.er n0).isSome) hv (by have:=Aw (a:=112)  b (by rw[hk];rfl) rfl hn;rw[show(eG r.er 112 n0)=((kq r.er n0).isSome)from by simp only[nK,rl,rp,ru,E3,E4]]at this;exact this) (fun h=>?_) (fun h=>?_)
 ·have h:=pe h
  unfold apply oj
  rw[show e.er.kind=oX from hk,if_neg (by decide),if_pos (by decide),eA hn,h]
 ·obtain⟨k,hp⟩:=nJ h
  rw[hk]
  exact a109 b hk hn hv hp
theorem jdq (b:GB r)(hk:e.kind=n9)(hc:kc e.er=0):gj (f121 r e) (after (j9 .i64) r.er e.er):=by
 obtain⟨h1,h2⟩:=eX hk (show fM n9=I (2,1)from rfl) hc
 obtain⟨n0,n1,hn⟩:=gk h1
 obtain⟨v0,hv⟩:=iG h2
 refine nI (K:=(kq r.er n1).isSome) hv (by have:=Ay (a:=45) (c:=112) b (by rw[hk];rfl) rfl rfl hn;rw[show(eG r.er 45 n0&&eG r.er 112 n1)=((kq r.er n1).isSome)from by simp only[nK,rl,rp,ru,E3,E4]]at this;exact this) (fun h=>?_) (fun h=>?_)
 ·have h:=pe h
  unfold apply oi
  rw[show e.er.kind=n9 from hk,if_pos (by decide),if_neg (by decide),if_neg (by decide),lB hn]
  unfold hH
  rw[h];rfl
 ·obtain⟨k,hp⟩:=nJ h
  rw[hk]
  exact zec b hk hn hv hp
theorem jrf (b:GB r)(w:WF r.er)(hk:e.kind=lW)(hc:kc e.er=0):gj (f121 r e) (after (j9 .i64) r.er e.er):=by
 obtain⟨h1,h2⟩:=eX hk (show fM lW=I (2,2)from rfl) hc
 obtain⟨n0,n1,hn⟩:=gk h1
 obtain⟨v0,v1,hv⟩:=gk h2
 refine nI (K:=(km r.er n0).isSome&&(ku r.er n1).isSome) hv (by have:=Ay (a:=117) (c:=108) b (by rw[hk];rfl) rfl rfl hn;rw[show(eG r.er 117 n0&&eG r.er 108 n1)=((km r.er n0).isSome&&(ku r.er n1).isSome)from by simp only[nK,rl,rp,ru,E3,E4]]at this;exact this) (fun h=>?_) (fun h=>?_)
 ·cases h1:km r.er n0 with
  |none=>
   rw[jE hk (by decide) (by decide),if_neg (by decide)]
   unfold ol
   rw[eA hn,h1]
  |some k=>
   rw[h1]at h
   have h:=pe (show(ku r.er n1).isSome=Gl from h)
   obtain⟨u,g1,_,g3⟩:=qJ h1
   rw[jE hk (by decide) (by decide),if_neg (by decide),vD (eA hn) h1 g3,if_pos hk]
   unfold xw
   rw[lB hn,h]
 ·rw[Mr]at h
  obtain⟨k,hp⟩:=nJ h.1
  obtain⟨j,hq⟩:=nJ h.2
  rw[hk]
  exact j96 b w hk hn hv hp hq
theorem jaa (b:GB r)(w:WF r.er)(hk:e.kind=oc)(hc:kc e.er=0):gj (f121 r e) (after (j9 .i64) r.er e.er):=by
 obtain⟨h1,h2⟩:=eX hk (show fM oc=I (2,2)from rfl) hc
 obtain⟨n0,n1,hn⟩:=gk h1
 obtain⟨v0,v1,hv⟩:=gk h2
 refine nI (K:=(km r.er n0).isSome) hv (by have:=Ay (a:=117) (c:=45) b (by rw[hk];rfl) rfl rfl hn;rw[show(eG r.er 117 n0&&eG r.er 45 n1)=((km r.er n0).isSome)from by simp only[nK,rl,rp,ru,E3,E4]]at this;exact this) (fun h=>?_) (fun h=>?_)
 ·have h:=pe h
  rw[jE hk (by decide) (by decide),if_neg (by decide)]
  unfold ol
  rw[eA hn,h]
 ·obtain⟨k,hp⟩:=nJ h
  rw[hk]
  exact zd8 b w hk hn hv hp
theorem jbw (b:GB r)(w:WF r.er)(hk:e.kind=oY)(hc:kc e.er=0):gj (f121 r e) (after (j9 .i64) r.er e.er):=by
 obtain⟨h1,h2⟩:=eX hk (show fM oY=I (1,1)from rfl) hc
 obtain⟨n0,hn⟩:=iG h1
 obtain⟨v0,hv⟩:=iG h2
 refine nI (K:=(km r.er n0).isSome) hv (by have:=Aw (a:=117)  b (by rw[hk];rfl) rfl hn;rw[show(eG r.er 117 n0)=((km r.er n0).isSome)from by simp only[nK,rl,rp,ru,E3,E4]]at this;exact this) (fun h=>?_) (fun h=>?_)
 ·have h:=pe h
  rw[jE hk (by decide) (by decide),if_neg (by decide)]
  unfold ol
  rw[eA hn,h]
 ·obtain⟨k,hp⟩:=nJ h
  rw[hk]
  exact j94 b w hk hn hv hp
theorem jnk (b:GB r)(hk:e.kind=mO)(hc:kc e.er=0):gj (f121 r e) (after (j9 .i64) r.er e.er):=by
 obtain⟨h1,h2⟩:=eX hk (show fM mO=I (2,1)from rfl) hc
 obtain⟨n0,n1,hn⟩:=gk h1
 obtain⟨v0,hv⟩:=iG h2
 refine nI (K:=(km r.er n0).isSome&&(km r.er n1).isSome) hv (by have:=Ay (a:=117) (c:=117) b (by rw[hk];rfl) rfl rfl hn;rw[show(eG r.er 117 n0&&eG r.er 117 n1)=((km r.er n0).isSome&&(km r.er n1).isSome)from by simp only[nK,rl,rp,ru,E3,E4]]at this;exact this) (fun h=>?_) (fun h=>?_)
 ·cases h1:km r.er n0 with
  |none=>
   rw[jE hk (by decide) (by decide),if_neg (by decide)]
   unfold ol
   rw[eA hn,h1]
  |some k=>
   rw[h1]at h
   have h:=pe (show(km r.er n1).isSome=Gl from h)
   obtain⟨u,g1,_,g3⟩:=qJ h1
   rw[jE hk (by decide) (by decide),if_neg (by decide),vD (eA hn) h1 g3,if_neg (by rw[hk];decide),if_pos hk]
   unfold xy
   rw[lB hn,h]
 ·rw[Mr]at h
  obtain⟨k,hp⟩:=nJ h.1
  obtain⟨j,hq⟩:=nJ h.2
  rw[hk]
  exact zax b hk hn hv hp hq
theorem jll (b:GB r)(hk:e.kind=nE)(hc:kc e.er=0):gj (f121 r e) (after (j9 .i64) r.er e.er):=by
 obtain⟨h1,h2⟩:=eX hk (show fM nE=I (1,1)from rfl) hc
 obtain⟨n0,hn⟩:=iG h1
 obtain⟨v0,hv⟩:=iG h2
 refine nI (K:=(ku r.er n0).isSome) hv (by have:=Aw (a:=108)  b (by rw[hk];rfl) rfl hn;rw[show(eG r.er 108 n0)=((ku r.er n0).isSome)from by simp only[nK,rl,rp,ru,E3,E4]]at this;exact this) (fun h=>?_) (fun h=>?_)
 ·have h:=pe h
  rw[jE hk (by decide) (by decide),if_pos (by decide)]
  unfold vC
  rw[eA hn,h]
 ·obtain⟨k,hp⟩:=nJ h
  rw[hk]
  exact zbv b hk hn hv hp
theorem jnl (b:GB r)(hk:e.kind=qH)(hc:kc e.er=0):gj (f121 r e) (after (j9 .i64) r.er e.er):=by
 obtain⟨h1,h2⟩:=eX hk (show fM qH=I (1,1)from rfl) hc
 obtain⟨n0,hn⟩:=iG h1
 obtain⟨v0,hv⟩:=iG h2
 refine nI (K:=(ku r.er n0).isSome) hv (by have:=Aw (a:=108)  b (by rw[hk];rfl) rfl hn;rw[show(eG r.er 108 n0)=((ku r.er n0).isSome)from by simp only[nK,rl,rp,ru,E3,E4]]at this;exact this) (fun h=>?_) (fun h=>?_)
 ·have h:=pe h
  rw[jE hk (by decide) (by decide),if_pos (by decide)]
  unfold vC
  rw[eA hn,h]
 ·obtain⟨k,hp⟩:=nJ h
  rw[hk]
  exact j97 b hk hn hv hp
theorem jmu (b:GB r)(w:WF r.er)(hk:e.kind=jW)(hc:kc e.er=0):gj (f121 r e) (after (j9 .i64) r.er e.er):=by
 obtain⟨h1,h2⟩:=eX hk (show fM jW=I (1,1)from rfl) hc
 obtain⟨n0,hn⟩:=iG h1
 obtain⟨v0,hv⟩:=iG h2
 refine nI (K:=(km r.er n0).isSome) hv (by have:=Aw (a:=117)  b (by rw[hk];rfl) rfl hn;rw[show(eG r.er 117 n0)=((km r.er n0).isSome)from by simp only[nK,rl,rp,ru,E3,E4]]at this;exact this) (fun h=>?_) (fun h=>?_)
 ·have h:=pe h
  rw[jE hk (by decide) (by decide),if_neg (by decide)]
  unfold ol
  rw[eA hn,h]
 ·obtain⟨k,hp⟩:=nJ h
  rw[hk]
  exact zag b w hk hn hv hp
theorem q5x (b:GB r)(hk:e.kind=xi)(hc:kc e.er=0):gj (f121 r e) (after (j9 .i64) r.er e.er):=by
 obtain⟨h1,h2⟩:=eX hk (show fM xi=I (1,1)from rfl) hc
 obtain⟨n0,hn⟩:=iG h1
 obtain⟨v0,hv⟩:=iG h2
 refine nI (K:=(km r.er n0).isSome) hv (by have:=Aw (a:=117)  b (by rw[hk];rfl) rfl hn;rw[show(eG r.er 117 n0)=((km r.er n0).isSome)from by simp only[nK,rl,rp,ru,E3,E4]]at this;exact this) (fun h=>?_) (fun h=>?_)
 ·have h:=pe h
  rw[jE hk (by decide) (by decide),if_neg (by decide)]
  unfold ol
  rw[eA hn,h]
 ·obtain⟨k,hp⟩:=nJ h
  rw[hk]
  exact j9p b hk hn hv hp
theorem q6z (b:GB r)(w:WF r.er)(hc:kc e.er=0)(hu:e.kind≠lX):gj (f121 r e) (after (j9 .i64) r.er e.er):=by
 obtain⟨_,f,h1,_,_⟩:=NA hc
 have hm:e.kind∈cq.map (·.1):=by
  unfold fM at h1
  cases hf:cq.find? (fun x=>decide (x.1=e.er.kind))with
  |none=>rw[hf]at h1;cases h1
  |some x=>
   have h2:=List.find?_some hf
   have h3:=List.mem_of_find?_eq_some hf
   rw[show e.kind=x.1 from(of_decide_eq_true h2).symm]
   exact Mn h3
 simp only[cq,Gp,Hb,List.mem_cons,List.mem_singleton,List.not_mem_nil,or_false]at hm
 rcases hm with h|h|h|h|h|h|h|h|h|h|h|h|h|h|h
 ·exact jrr b h hc
 ·exact jay b h hc
 ·exact jlf b h hc
 ·exact jkv b h hc
 ·exact jel b h hc
 ·exact jdq b h hc
 ·exact jrf b w h hc
 ·exact jaa b w h hc
 ·exact jbw b w h hc
 ·exact jnk b h hc
 ·exact jll b h hc
 ·exact jnl b h hc
 ·exact jmu b w h hc
 ·exact q5x b h hc
 ·exact absurd h hu
end Go.Z
