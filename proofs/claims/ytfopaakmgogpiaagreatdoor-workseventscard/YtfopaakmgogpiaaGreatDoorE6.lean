/- Chapter 10, plain. -/
import Derived.Test.YtfopaakmgogpiaaGreatDoorE4
import Derived.Test.YtfopaakmgogpiaaGreatDoorV8
set_option linter.unusedVariables false
set_option linter.unusedSimpArgs false
set_option maxRecDepth 100000
open Option renaming some→I,getD_some→En,isSome_iff_exists→E9,any_some→Gm
open Bool renaming false_eq_true→Ef,true→E1,false→E4,not_true→E7,not_false→Gc
open List renaming mem_of_getElem?→E0,length_map→E3,getElem?_map→E6,map_set→Ga,map_append→Gb,map_cons→Gd,map_nil→Ge
namespace Go.Z
open Go Go.Abs Go.W
abbrev BB:Nat:=1000000
structure GB (r:qc):Prop where
 L:(r.au.getD []).length≤BB
 P:(r.ae.getD []).length≤BB
 U:(r.units.getD []).length≤BB
 D:∀p∈r.ae.getD [],(p.aH.getD []).length≤BB∧(p.dn.getD []).length≤BB∧(p.dt.getD []).length≤BB∧∀d∈p.aH.getD [],(d.ax.getD []).length≤BB∧(d.aw.getD []).length≤BB
 N:∀u∈r.units.getD [],(u.uses.getD []).length≤BB∧(u.results.getD []).length≤BB
theorem yf {n:Nat}(h:n≤BB):n≤SM:=by unfold BB at h;unfold SM;omega
theorem l9 {n:Nat}(h:n≤BB):n<SM:=by unfold BB at h;unfold SM;omega
def mX (x:Option (Int×qc))(y:oz):Prop:=∃c r',x=I (c,r')∧match y with
 | .error k=>c=k∧k≠0
 | .ok s=>c=0∧r'.er=s
variable {r:qc}{e:ql}
theorem Ns {a lo hi:Int}:f52 a lo hi=I (if a<lo∨hi<a then 3 else 0):=by
 unfold f52
 by_cases h1:a<lo
 ·simp[h1,kU,jw]
 ·by_cases h2:hi<a<;>simp[h1,h2,kU,jw]
theorem iV {k:Nat}:ec (I k)=(k:Int):=rfl
theorem vK {o:Option Nat}:decide (0≤ec o)=o.isSome:=xE o
theorem He {n:List UInt8}{k:Nat}(h:ku r.er n=I k):∃x,(r.au.getD [])[k]?=I x∧x.name=n:=by
 obtain⟨x,h1,h2,_⟩:=bI h
 exact⟨x,h1,of_decide_eq_true h2⟩
theorem D3 {n:List UInt8}{k:Nat}(h:kq r.er n=I k):∃p,(r.ae.getD [])[k]?=I p∧p.name=n∧r.er.ae[k]?=I p.er:=by
 rw[Nn]at h
 obtain⟨x,h1,h2,_⟩:=bI h
 exact⟨x,h1,of_decide_eq_true h2,by rw[xB,E6,h1];rfl⟩
theorem qQ {n:List UInt8}{k:Nat}(h:kl r.er n=I k):∃u,(r.units.getD [])[k]?=I u∧u.name=n∧r.er.units[k]?=I u.er:=by
 rw[U5]at h
 obtain⟨x,h1,h2,_⟩:=bI h
 exact⟨x,h1,of_decide_eq_true h2,by rw[Av,E6,h1];rfl⟩
theorem gF {α:Type}{l:List α}{a:α}{t:List α}(h:l=a::t):zo l 0=I a:=by subst h;rfl
theorem gj {α:Type}{l:List α}{a b:α}{t:List α}(h:l=a::b::t):zo l 1=I b:=by subst h;rfl
theorem juu {α:Type}{l:List α}{a b c:α}{t:List α}(h:l=a::b::c::t):zo l 2=I c:=by subst h;rfl
theorem eI {a:List UInt8}{t:List (List UInt8)}(h:e.names.getD []=a::t):nm e.er 0=a:=by unfold nm;rw[show e.er.names=e.names.getD []from rfl,h];rfl
theorem lI {a b:List UInt8}{t:List (List UInt8)}(h:e.names.getD []=a::b::t):nm e.er 1=b:=by unfold nm;rw[show e.er.names=e.names.getD []from rfl,h];rfl
theorem vl0 {a:Int}{t:List Int}(h:e.values.getD []=a::t):vl e.er 0=a:=by unfold vl;rw[show e.er.values=e.values.getD []from rfl,h];rfl
theorem uK {a b:Int}{t:List Int}(h:e.values.getD []=a::b::t):vl e.er 1=b:=by unfold vl;rw[show e.er.values=e.values.getD []from rfl,h];rfl
theorem vl2 {a b c:Int}{t:List Int}(h:e.values.getD []=a::b::c::t):vl e.er 2=c:=by unfold vl;rw[show e.er.values=e.values.getD []from rfl,h];rfl
theorem vL:r.er.au=r.au.getD []:=rfl
theorem qc.eta (r:qc):(⟨r.day,r.au,r.ae,r.units⟩:qc)=r:=rfl
theorem a105 (b:GB r){n0 n1:List UInt8}{v0 v1:Int}(hk:e.kind=l5)(hn:e.names.getD []=[n0,n1])(hv:e.values.getD []=[v0,v1]):
  mX (eO 105 r e) (apply (j6 .i64) r.er e.er):=by
 have hR:apply (j6 .i64) r.er e.er=oA r.er e.er:=by unfold apply;rw[if_pos (.inl hk)]
 rw[hR]
 unfold oA
 rw[if_pos (show e.er.kind=l5 from hk),eI hn,lI hn,uK hv,vL]
 have hA:eO 105 r e=jw (f105 e r.day r.au r.ae r.units) fun v=>I (v.1,{ r with au:=v.2.1 }):=rfl
 rw[hA]
 unfold f105
 simp only[qc.eta,gF hn,gj hn,gj hv,jw,DU (yf b.L),kU,Ns,vK]
 rw[iG (by simp[SM])]
 simp only[jll (l9 b.L)]
 cases (ku r.er n0).isSome with
 |true=>exact⟨_,_,rfl,rfl,by decide⟩
 |false=>
  by_cases h1:v1<1∨10000<v1
  ·simp only[Ef,if_false,h1,if_true,eW]
   exact⟨_,_,rfl,rfl,by decide⟩
  ·by_cases h2:64≤(r.au.getD []).length
   ·have oh:decide (64≤((r.au.getD []).length:Int))=E1:=dT (by omega)
    simp only[Ef,if_false,h1,h2,oh,if_true,eW]
    exact⟨_,_,rfl,rfl,by decide⟩
   ·have oh:decide (64≤((r.au.getD []).length:Int))=E4:=dF (by omega)
    simp only[Ef,if_false,h1,h2,oh,if_true,eW]
    exact⟨_,_,rfl,rfl,rfl⟩
theorem qyg {o:Option (List qi)}{p:qi}(h:o=I (r.ae.getD []++[p])):({ r with ae:=o }:qc).er={ r.er with ae:=r.er.ae++[p.er] }:=by
 subst h
 simp only[qc.er,En,Gb,Gd,Ge]
theorem qvr {o:Option (List qf)}{p:qf}(h:o=I (r.units.getD []++[p])):({ r with units:=o }:qc).er={ r.er with units:=r.er.units++[p.er] }:=by
 subst h
 simp only[qc.er,En,Gb,Gd,Ge]
theorem D4 {o:Option (List qi)}{p:qi}{k:Nat}(h:o=I ((r.ae.getD []).set k p)):({ r with ae:=o }:qc).er=bG r.er k p.er:=by
 subst h
 simp only[qc.er,bG,En,Ga]
theorem xK {o:Option (List qf)}{p:qf}{k:Nat}(h:o=I ((r.units.getD []).set k p)):({ r with units:=o }:qc).er=aA r.er k p.er:=by
 subst h
 simp only[qc.er,aA,En,Ga]
theorem Nt {o:Option (List qk)}{p:qk}{k:Nat}(h:o=I ((r.au.getD []).set k p)):({ r with au:=o }:qc).er=cj r.er k p:=by
 subst h
 simp only[qc.er,cj,En]
theorem zfs (b:GB r){n0:List UInt8}{v0:Int}(hk:e.kind=mR)(hn:e.names.getD []=[n0])(hv:e.values.getD []=[v0]):
  mX (eO 106 r e) (apply (j6 .i64) r.er e.er):=by
 have hR:apply (j6 .i64) r.er e.er=oA r.er e.er:=by unfold apply;rw[if_pos (.inr (.inl hk))]
 rw[hR]
 unfold oA
 rw[if_neg (show ¬e.er.kind=l5 from fun h=>by rw[show e.er.kind=e.kind from rfl,hk]at h;exact absurd h (by decide)),if_pos (show e.er.kind=mR from hk),eI hn]
 have hA:eO 106 r e=jw (f106 e r.day r.au r.ae r.units) fun v=>I (v.1,{ r with ae:=v.2.1 }):=rfl
 rw[hA]
 unfold f106
 simp only[qc.eta,gF hn,jw,uI (yf b.P),kU,vK]
 rw[iG (by simp[SM])]
 simp only[jmy (l9 b.P)]
 have hl:r.er.ae.length=(r.ae.getD []).length:=by rw[xB,E3]
 rw[hl]
 cases (kq r.er n0).isSome with
 |true=>exact⟨_,_,rfl,rfl,by decide⟩
 |false=>
  by_cases h2:16≤(r.ae.getD []).length
  ·have oh:decide (16≤((r.ae.getD []).length:Int))=E1:=dT (by omega)
   simp only[Ef,if_false,h2,oh,if_true,eW]
   exact⟨_,_,rfl,rfl,by decide⟩
  ·have oh:decide (16≤((r.ae.getD []).length:Int))=E4:=dF (by omega)
   simp only[Ef,if_false,h2,oh,if_true,eW]
   exact⟨_,_,rfl,rfl,qyg rfl⟩
theorem zey (b:GB r){n0 n1:List UInt8}{v0:Int}{k:Nat}(hk:e.kind=oq)(hn:e.names.getD []=[n0,n1])(hv:e.values.getD []=[v0])(hp:kq r.er n1=I k):
  mX (eO 110 r e) (apply (j6 .i64) r.er e.er):=by
 have hR:apply (j6 .i64) r.er e.er=oA r.er e.er:=by unfold apply;rw[if_pos (.inr (.inr hk))]
 rw[hR]
 obtain⟨p,h1,_,h3⟩:=D3 hp
 have hpo:hM r.er n1=I p.er:=by unfold hM;rw[hp];exact h3
 unfold oA
 rw[if_neg (show ¬e.er.kind=l5 from fun h=>by rw[show e.er.kind=e.kind from rfl,hk]at h;exact absurd h (by decide)),if_neg (show ¬e.er.kind=mR from fun h=>by rw[show e.er.kind=e.kind from rfl,hk]at h;exact absurd h (by decide)),eI hn,lI hn,hpo]
 have hA:eO 110 r e=jw (f110 e r.day r.au r.ae r.units) fun v=>I (v.1,{ r with units:=v.2.1 }):=rfl
 rw[hA]
 unfold f110 f182
 simp only[qc.eta,gF hn,gj hn,jw,uI (yf b.P),xC (yf b.U),kU,vK,hp,iV,z6 h1]
 rw[iG (by simp[SM])]
 simp only[jmc (l9 b.U)]
 have hl:r.er.units.length=(r.units.getD []).length:=by rw[Av,E3]
 have hd:p.er.aH.isEmpty=decide (((p.aH.getD []).length:Int)=0):=by
  show((p.aH.getD []).map qr.er).isEmpty=_
  cases p.aH.getD []with
  |nil=>rfl
  |cons x l=>simp;omega
 have ox:p.er.aH.length=(p.aH.getD []).length:=by show((p.aH.getD []).map qr.er).length=_;rw[E3]
 simp only[hl,hd,ox]
 cases (kl r.er n0).isSome with
 |true=>exact⟨_,_,rfl,rfl,by decide⟩
 |false=>
  cases hz:decide (((p.aH.getD []).length:Int)=0)with
  |true=>exact⟨_,_,rfl,rfl,by decide⟩
  |false=>
   by_cases h2:256≤(r.units.getD []).length
   ·have oh:decide (256≤((r.units.getD []).length:Int))=E1:=dT (by omega)
    simp only[Ef,if_false,h2,oh,if_true,eW]
    exact⟨_,_,rfl,rfl,by decide⟩
   ·have oh:decide (256≤((r.units.getD []).length:Int))=E4:=dF (by omega)
    simp only[Ef,if_false,h2,oh,if_true,eW]
    exact⟨_,_,rfl,rfl,qvr rfl⟩
theorem jkx {p:qi}{c:Int}{n:List UInt8}(hl:(p.dn.getD []).length<SM):∃v,Hf c n n p=I { p with dn:=v }∧v.getD []=iU (p.dn.getD []) n c:=by
 unfold Hf iU
 by_cases h:c=0
 ·simp only[h,decide_true,cT,if_true,jk8 (Nat.le_of_lt hl),jw]
  exact⟨_,rfl,kn _⟩
 ·obtain⟨v,w,h1,h2⟩:=jlw (x:=⟨n,c⟩) (k:=n) hl
  simp only[h,decide_false,cond_false,if_false,h1,jw]
  exact⟨_,rfl,h2⟩
theorem jhi (b:GB r){n0 n1:List UInt8}{c:Int}{k:Nat}{p:qi}(hp:kq r.er n0=I k)(hx:(r.ae.getD [])[k]?=I p):∃v,AO n0 c n1 n1 r.day r.au r.ae r.units=I (I ((r.ae.getD []).set k { p with dn:=v }))∧v.getD []=iU (p.dn.getD []) n1 c:=by
 obtain⟨v,h1,h2⟩:=jkx (c:=c) (n:=n1) (l9 (b.D p (E0 hx)).2.1)
 refine⟨v,?_,h2⟩
 unfold AO Vh
 simp only[qc.eta,uI (yf b.P),hp,iV,jw]
 rw[nP (yf b.P) hx h1]
theorem jhy (b:GB r){n0:List UInt8}{t:qj}{k:Nat}{p:qi}(hp:kq r.er n0=I k)(hx:(r.ae.getD [])[k]?=I p):∃v,D5 n0 t t r.day r.au r.ae r.units=I (I ((r.ae.getD []).set k { p with dt:=v }))∧v.getD []=eX (ef t.k) t (p.dt.getD []):=by
 obtain⟨v,w,h1,h2⟩:=jld (x:=t) (s:=t) (o:=p.dt) (l9 (b.D p (E0 hx)).2.2.1)
 refine⟨v,?_,h2⟩
 unfold D5 Vi
 simp only[qc.eta,uI (yf b.P),hp,iV,jw]
 rw[nP (yf b.P) hx (show Hg t t p=I { p with dt:=v } by unfold Hg;rw[h1];rfl)]
theorem Nu {n0:List UInt8}{k:Nat}{p:qi}(hn:nm e.er 0=n0)(hp:kq r.er n0=I k)(h3:r.er.ae[k]?=I p.er):oB r.er e.er =
   if e.kind=l6 then
    (if vl e.er 1<0∨10000<vl e.er 1 then .error 3 else if 0<vl e.er 1∧!((p.dn.getD []).any (cO (nm e.er 1)))∧16≤(p.dn.getD []).length then .error 5 else
     .ok (bG r.er k { p.er with bJ:={ p.er.bJ with ax:=iU (p.dn.getD []) (nm e.er 1) (vl e.er 1) } }))
   else if e.kind=mS then
    (if vl e.er 2<vl e.er 1 then .error 11 else if !((p.dt.getD []).any (ef (nm e.er 1)))∧16≤(p.dt.getD []).length then .error 5 else
     .ok (bG r.er k { p.er with bJ:={ p.er.bJ with aw:=eX (ef (nm e.er 1)) ⟨nm e.er 1,vl e.er 1,vl e.er 2⟩ (p.dt.getD []) } }))
   else(if(p.dn.getD []).isEmpty then .error 12 else if 100≤p.er.aH.length then .error 5 else .ok (bG r.er k { p.er with aH:=p.er.aH++[p.er.bJ] })):=by
 unfold oB
 rw[hn,hp]
 simp only[h3]
 rfl
theorem zem (b:GB r){n0 n1:List UInt8}{v0 v1:Int}{k:Nat}(hk:e.kind=l6)(hn:e.names.getD []=[n0,n1])(hv:e.values.getD []=[v0,v1])(hp:kq r.er n0=I k):
  mX (eO 107 r e) (apply (j6 .i64) r.er e.er):=by
 have hR:apply (j6 .i64) r.er e.er=oB r.er e.er:=by
  unfold apply
  rw[show e.er.kind=l6 from hk,if_neg (by decide),if_pos (.inl rfl)]
 obtain⟨p,h1,_,h3⟩:=D3 hp
 rw[hR,Nu (eI hn) hp h3,if_pos hk,lI hn,uK hv]
 have hA:eO 107 r e=jw (f107 e r.day r.au r.ae r.units) fun v=>I (v.1,{ r with ae:=v.2 }):=rfl
 rw[hA]
 obtain⟨v,g1,g2⟩:=jhi b (n1:=n1) (c:=v1) hp h1
 have zH:=(b.D p (E0 h1)).2.1
 have dj:({ r with ae:=I ((r.ae.getD []).set k { p with dn:=v }) }:qc).er=bG r.er k { p.er with bJ:={ p.er.bJ with ax:=iU (p.dn.getD []) n1 v1 } }:=by
  rw[D4 rfl]
  congr 1
  simp only[qi.er,g2]
 unfold f107
 simp only[qc.eta,gF hn,gj hn,gj hv,jw,uI (yf b.P),hp,iV,z6 h1,Ns,kU,jjd (yf zH),g1]
 by_cases hz:v1<0∨10000<v1
 ·simp only[hz,if_true,if_false,Ef]
  cases decide (0<v1)<;>cases (p.dn.getD []).any (cO n1)<;>(simp only[cT,cond_false];rw[iG (by simp[SM])];exact⟨_,_,rfl,rfl,by decide⟩)
 ·simp only[hz,if_false,if_true,Ef]
  by_cases h0:0<v1
  ·rw[dT h0]
   cases ha:(p.dn.getD []).any (cO n1)with
   |true=>
    simp only[cT,E7,Ef,false_and,and_false,if_false]
    rw[iG (by simp[SM])]
    exact⟨_,_,rfl,rfl,dj⟩
   |false=>
    simp only[cT,cond_false,Gc,true_and,h0]
    rw[iG (by simp[SM])]
    by_cases h2:16≤(p.dn.getD []).length
    ·rw[show decide (16≤((p.dn.getD []).length:Int))=E1 from dT (by omega),if_pos h2]
     exact⟨_,_,rfl,rfl,by decide⟩
    ·rw[show decide (16≤((p.dn.getD []).length:Int))=E4 from dF (by omega),if_neg h2]
     exact⟨_,_,rfl,rfl,dj⟩
  ·rw[dF h0,if_neg (show ¬(0<v1∧(!(p.dn.getD []).any (cO n1))=E1∧16≤(p.dn.getD []).length)from fun h=>h0 h.1)]
   simp only[cond_false]
   rw[iG (by simp[SM])]
   exact⟨_,_,rfl,rfl,dj⟩
theorem ze9 (b:GB r){n0 n1:List UInt8}{v0 v1 v2:Int}{k:Nat}(hk:e.kind=mS)(hn:e.names.getD []=[n0,n1])(hv:e.values.getD []=[v0,v1,v2])(hp:kq r.er n0=I k):
  mX (eO 108 r e) (apply (j6 .i64) r.er e.er):=by
 have hR:apply (j6 .i64) r.er e.er=oB r.er e.er:=by
  unfold apply
  rw[show e.er.kind=mS from hk,if_neg (by decide),if_pos (.inr (.inl rfl))]
 obtain⟨p,h1,_,h3⟩:=D3 hp
 rw[hR,Nu (eI hn) hp h3,if_neg (by rw[hk];decide),if_pos hk,lI hn,uK hv,vl2 hv]
 have hA:eO 108 r e=jw (f108 e r.day r.au r.ae r.units) fun v=>I (v.1,{ r with ae:=v.2 }):=rfl
 rw[hA]
 obtain⟨v,g1,g2⟩:=jhy b (t:=⟨n1,v1,v2⟩) hp h1
 have zH:=(b.D p (E0 h1)).2.2.1
 have dj:({ r with ae:=I ((r.ae.getD []).set k { p with dt:=v }) }:qc).er=bG r.er k { p.er with bJ:={ p.er.bJ with aw:=eX (ef n1) ⟨n1,v1,v2⟩ (p.dt.getD []) } }:=by
  rw[D4 rfl]
  congr 1
  simp only[qi.er,g2]
 unfold f108
 simp only[qc.eta,gF hn,gj hn,gj hv,juu hv,jw,uI (yf b.P),hp,iV,z6 h1,kU,ji4 (yf zH),g1]
 by_cases hz:v2<v1
 ·rw[dT hz,if_pos hz]
  cases (p.dt.getD []).any (ef n1)<;>(simp only[cT,cond_false];rw[iG (by simp[SM])];exact⟨_,_,rfl,rfl,by decide⟩)
 ·rw[dF hz,if_neg hz]
  cases ha:(p.dt.getD []).any (ef n1)with
  |true=>
   simp only[cT,E7,Ef,false_and,if_false]
   rw[iG (by simp[SM])]
   exact⟨_,_,rfl,rfl,dj⟩
  |false=>
   simp only[cond_false,Gc,true_and]
   rw[iG (by simp[SM])]
   by_cases h2:16≤(p.dt.getD []).length
   ·rw[show decide (16≤((p.dt.getD []).length:Int))=E1 from dT (by omega),if_pos h2]
    exact⟨_,_,rfl,rfl,by decide⟩
   ·rw[show decide (16≤((p.dt.getD []).length:Int))=E4 from dF (by omega),if_neg h2]
    exact⟨_,_,rfl,rfl,dj⟩
theorem q42 {α:Type}{o:Option (List α)}(h:(o.getD []).length≤SM):∃v w,(cond o.isNone (I (none,E4)) (jw (bh (I []) (o.getD [])) fun v=>I (v,E1)))=I (v,w)∧v.getD []=o.getD []:=by
 cases o with
 |none=>exact⟨none,E4,rfl,rfl⟩
 |some l=>
  have h':l.length≤SM:=h
  simp only[Option.isNone_some,cond_false,En]
  rw[AG h']
  exact⟨_,_,rfl,rfl⟩
theorem jli {d:qr}(h1:(d.ax.getD []).length≤SM)(h2:(d.aw.getD []).length≤SM):∃d',f181 d=I d'∧d'.er=d.er:=by
 obtain⟨v,w,g1,g2⟩:=q42 h1
 obtain⟨v',w',g3,g4⟩:=q42 h2
 unfold f181
 rw[show f245 d.ax=I (v,w)from g1,show f246 d.aw=I (v',w')from g3]
 exact⟨⟨v,v'⟩,rfl,by simp only[qr.er,g2,g4]⟩
theorem a109 (b:GB r){n0:List UInt8}{v0:Int}{k:Nat}(hk:e.kind=po)(hn:e.names.getD []=[n0])(hv:e.values.getD []=[v0])(hp:kq r.er n0=I k):
  mX (eO 109 r e) (apply (j6 .i64) r.er e.er):=by
 have hR:apply (j6 .i64) r.er e.er=oB r.er e.er:=by
  unfold apply
  rw[show e.er.kind=po from hk,if_neg (by decide),if_pos (.inr (.inr rfl))]
 obtain⟨p,h1,_,h3⟩:=D3 hp
 rw[hR,Nu (eI hn) hp h3,if_neg (by rw[hk];decide),if_neg (by rw[hk];decide)]
 have hA:eO 109 r e=jw (f109 e r.day r.au r.ae r.units) fun v=>I (v.1,{ r with ae:=v.2 }):=rfl
 rw[hA]
 have hD:=b.D p (E0 h1)
 obtain⟨d',g1,g2⟩:=jli (d:=⟨p.dn,p.dt⟩) (yf hD.2.1) (yf hD.2.2.1)
 have g3:Nv r.ae (k:Int)=I (I ((r.ae.getD []).set k { p with aH:=I (p.aH.getD []++[d']) })):=by
  unfold Nv
  exact nP (yf b.P) h1 (by unfold Nw;rw[g1];simp only[jw];rw[jmr (l9 hD.1)])
 have dj:({ r with ae:=I ((r.ae.getD []).set k { p with aH:=I (p.aH.getD []++[d']) }) }:qc).er=bG r.er k { p.er with aH:=p.er.aH++[p.er.bJ] }:=by
  rw[D4 rfl]
  congr 1
  simp only[qi.er,En,Gb,Gd,Ge,g2]
  rfl
 have ox:p.er.aH.length=(p.aH.getD []).length:=by show((p.aH.getD []).map qr.er).length=_;rw[E3]
 have hd:(p.dn.getD []).isEmpty=decide (((p.dn.getD []).length:Int)=0):=by
  cases p.dn.getD []with
  |nil=>rfl
  |cons x l=>simp;omega
 unfold f109
 simp only[qc.eta,gF hn,jw,uI (yf b.P),hp,iV,z6 h1,kU,g3,hd,ox]
 rw[iG (by simp[SM])]
 cases decide (((p.dn.getD []).length:Int)=0)with
 |true=>exact⟨_,_,rfl,rfl,by decide⟩
 |false=>
  by_cases h2:100≤(p.aH.getD []).length
  ·rw[show decide (100≤((p.aH.getD []).length:Int))=E1 from dT (by omega),if_pos h2]
   exact⟨_,_,rfl,rfl,by decide⟩
  ·rw[show decide (100≤((p.aH.getD []).length:Int))=E4 from dF (by omega),if_neg h2]
   exact⟨_,_,rfl,rfl,dj⟩
end Go.Z
namespace Go.Z
open Go Go.Abs Go.W
variable {r:qc}{e:ql}
theorem jL {k:List UInt8}(hk:e.kind=k)(h:¬(k=l5∨k=mR∨k=oq))(h2:¬(k=l6∨k=mS∨k=po)):apply (j6 .i64) r.er e.er=if k=nM∨k=qO then vM r.er e.er else oC (j6 .i64) r.er e.er:=by
 unfold apply
 rw[show e.er.kind=k from hk,if_neg h,if_neg h2]
theorem zeu (b:GB r){n0:List UInt8}{v0:Int}{k:Nat}(hk:e.kind=nM)(hn:e.names.getD []=[n0])(hv:e.values.getD []=[v0])(hp:ku r.er n0=I k):
  mX (eO 115 r e) (apply (j6 .i64) r.er e.er):=by
 rw[jL hk (by decide) (by decide),if_pos (.inl rfl)]
 obtain⟨x,h1,_⟩:=He hp
 have hA:eO 115 r e=jw (f115 e r.day r.au r.ae r.units) fun v=>I (v.1,{ r with au:=v.2 }):=rfl
 rw[hA]
 have g1:Vj r.au (k:Int)=I (I ((r.au.getD []).set k { x with held:=E1 })):=nP (yf b.L) h1 rfl
 unfold vM
 rw[eI hn,hp]
 simp only[vL,h1]
 rw[if_pos (show e.er.kind=nM from hk)]
 unfold f115
 simp only[qc.eta,gF hn,jw,DU (yf b.L),hp,iV,z6 h1,g1]
 cases x.held with
 |true=>exact⟨_,_,rfl,rfl,by decide⟩
 |false=>exact⟨_,_,rfl,rfl,Nt rfl⟩
theorem zbn (b:GB r){n0:List UInt8}{v0:Int}{k:Nat}(hk:e.kind=qO)(hn:e.names.getD []=[n0])(hv:e.values.getD []=[v0])(hp:ku r.er n0=I k):
  mX (eO 116 r e) (apply (j6 .i64) r.er e.er):=by
 rw[jL hk (by decide) (by decide),if_pos (.inr rfl)]
 obtain⟨x,h1,_⟩:=He hp
 have hA:eO 116 r e=jw (f116 e r.day r.au r.ae r.units) fun v=>I (v.1,{ r with au:=v.2 }):=rfl
 rw[hA]
 have g1:Vk r.au (k:Int)=I (I ((r.au.getD []).set k { x with held:=E4 })):=nP (yf b.L) h1 rfl
 unfold vM
 rw[eI hn,hp]
 simp only[vL,h1]
 rw[if_neg (show ¬e.er.kind=nM from fun h=>by rw[show e.er.kind=e.kind from rfl,hk]at h;exact absurd h (by decide))]
 unfold f116
 simp only[qc.eta,gF hn,jw,DU (yf b.L),hp,iV,z6 h1,g1]
 cases x.held with
 |true=>exact⟨_,_,rfl,rfl,Nt rfl⟩
 |false=>exact⟨_,_,rfl,rfl,by decide⟩
structure ju (r:qc)(u:qf)(D:qr)(v:Int):Prop where
 doc:f134 r u=I D
 AP:f78 r u=I D
 D6:gU r.er u.er=I D.er
 new:pv r.er u.er=I v
 ax:(D.ax.getD []).length≤BB
 aw:(D.aw.getD []).length≤BB
 uses:(u.uses.getD []).length≤BB
 results:(u.results.getD []).length≤BB
 au:∀x∈u.uses.getD [],(ku r.er x.k).isSome=E1
 keyed:k9 (·.k) (u.uses.getD [])
 bz:u.version≠-1
theorem jco {u:qf}{d:jg}(h:gU r.er u.er=I d):∃(k:Nat) (p:qi),(r.ae.getD [])[k]?=I p∧1≤u.version∧∃D:qr,D∈p.aH.getD []∧D.er=d:=by
 unfold gU at h
 cases hp:hM r.er u.er.product with
 |none=>rw[hp]at h;cases h
 |some sp=>
  rw[hp]at h
  obtain⟨k,p,_,h2,rfl,_⟩:=U6 hp
  simp only[Option.bind_some,DW]at h
  split at h
  ·rename_i hv
   refine⟨k,p,h2,hv,?_⟩
   have h3:((p.aH.getD []).map qr.er)[(u.er.version-1).toNat]?=I d:=h
   rw[E6]at h3
   cases hD:(p.aH.getD [])[(u.er.version-1).toNat]? with
   |none=>rw[hD]at h3;cases h3
   |some D=>rw[hD]at h3;exact⟨D,E0 hD,by simpa using h3⟩
  ·cases h
theorem D7 (b:GB r)(w:WF r.er){i:Nat}{u:qf}(hu:(r.units.getD [])[i]?=I u):∃D v,ju r u D v:=by
 have hm:=E0 hu
 have Vl:u.er∈r.er.units:=by rw[Av];exact List.mem_map_of_mem hm
 obtain⟨d,hd⟩:=E9.1 (w.dI _ Vl)
 obtain⟨D,g1,g2,rfl⟩:=jr6 (yf b.P) (fun p hp=>yf (b.D p hp).1) hd
 obtain⟨k,p,hp,hv,D',nQ,he⟩:=jco hd
 have hb:=(b.D p (E0 hp)).2.2.2 D' nQ
 have h1:D.ax.getD []=D'.ax.getD []:=congrArg jg.ax he.symm
 have h2:D.aw.getD []=D'.aw.getD []:=congrArg jg.aw he.symm
 have cZ:(pv r.er u.er).isSome=E1:=by
  unfold pv
  unfold gU at hd
  cases hq:hM r.er u.er.product with
  |none=>rw[hq]at hd;cases hd
  |some sp=>rfl
 obtain⟨v,Tj⟩:=E9.1 cZ
 exact⟨D,v,g1,g2,hd,Tj,by rw[h1];exact hb.1,by rw[h2];exact hb.2,(b.N u hm).1,(b.N u hm).2,(w.uses _ Vl).2,(w.uses _ Vl).1,by omega⟩
theorem vN {n0:List UInt8}{k:Nat}{u:qf}(hn:nm e.er 0=n0)(hp:kl r.er n0=I k)(h3:r.er.units[k]?=I u.er):oC (j6 .i64) r.er e.er =
   if e.kind=l7 then xM (j6 .i64) r.er k u.er e.er
   else if e.kind=mT then xN r.er k u.er e.er
   else if e.kind=ot then
    (if u.aq then .error 21 else if !((gU r.er u.er).any fun d=>d.aw.any (ef (nm e.er 1)))then .error 7 else if 64≤(u.results.getD []).length then .error 5 else
     .ok (aA r.er k { u.er with results:=u.results.getD []++[⟨nm e.er 1,u.version,vl e.er 1⟩] }))
   else if e.kind=pq then
    (if u.aq then .error 21 else match pv r.er u.er with
     |none=>.error 32
     |some v=>if u.version=v then .error 32 else .ok (aA r.er k { u.er with version:=v }))
   else if e.kind=kE then(if uJ (j6 .i64) r.er u.er≠0 then .error (uJ (j6 .i64) r.er u.er)else .ok (aA r.er k { u.er with aq:=E1 }))
   else(if !u.aq then .error 20 else .ok (aA r.er k { u.er with ai:=j6 .i64 (u.ai+1) })):=by
 unfold oC
 rw[hn,hp]
 simp only[h3]
 rfl
theorem zbt (b:GB r)(w:WF r.er){n0:List UInt8}{v0:Int}{k:Nat}(hk:e.kind=pq)(hn:e.names.getD []=[n0])(hv:e.values.getD []=[v0])(hp:kl r.er n0=I k):
  mX (eO 113 r e) (apply (j6 .i64) r.er e.er):=by
 rw[jL hk (by decide) (by decide),if_neg (by decide)]
 obtain⟨u,h1,_,h3⟩:=qQ hp
 obtain⟨D,v,o⟩:=D7 b w h1
 rw[vN (eI hn) hp h3,if_neg (by rw[hk];decide),if_neg (by rw[hk];decide),if_neg (by rw[hk];decide),if_pos hk,o.new]
 have hA:eO 113 r e=jw (f113 e r.day r.au r.ae r.units) fun v=>I (v.1,{ r with units:=v.2 }):=rfl
 rw[hA]
 have g1:Vm r.units (k:Int) v=I (I ((r.units.getD []).set k { u with version:=v })):=nP (yf b.U) h1 rfl
 generalize hU:({ u with version:=v }:qf)=U' at g1
 have dj:({ r with units:=I ((r.units.getD []).set k U') }:qc).er=aA r.er k { u.er with version:=v }:=by rw[xK rfl,←hU];rfl
 unfold f113
 simp only[qc.eta,gF hn,jw,xC (yf b.U),hp,iV,z6 h1,(Nq (yf b.P) o.new).1,kU,g1]
 rw[iG (by simp[SM])]
 cases u.aq with
 |true=>exact⟨_,_,rfl,rfl,by decide⟩
 |false=>
  by_cases h:u.version=v
  ·rw[dT h,if_pos h];exact⟨_,_,rfl,rfl,by decide⟩
  ·rw[dF h,if_neg h];exact⟨_,_,rfl,rfl,dj⟩
theorem zhr (b:GB r)(w:WF r.er){n0:List UInt8}{v0:Int}{k:Nat}(hk:e.kind=kE)(hn:e.names.getD []=[n0])(hv:e.values.getD []=[v0])(hp:kl r.er n0=I k):
  mX (eO 117 r e) (apply (j6 .i64) r.er e.er):=by
 rw[jL hk (by decide) (by decide),if_neg (by decide)]
 obtain⟨u,h1,_,h3⟩:=qQ hp
 obtain⟨D,v,o⟩:=D7 b w h1
 rw[vN (eI hn) hp h3,if_neg (by rw[hk];decide),if_neg (by rw[hk];decide),if_neg (by rw[hk];decide),if_neg (by rw[hk];decide),if_pos hk]
 have hA:eO 117 r e=jw (f117 e r.day r.au r.ae r.units) fun v=>I (v.1,{ r with units:=v.2 }):=rfl
 rw[hA]
 have g1:Vn r.units (k:Int)=I (I ((r.units.getD []).set k { u with aq:=E1 })):=nP (yf b.U) h1 rfl
 have g2:=jqd (yf b.P) o.new (yf b.L) (yf o.uses) o.au o.doc o.D6 (yf o.ax) (yf o.results) (yf o.aw) o.bz
 unfold f117
 simp only[qc.eta,gF hn,jw,xC (yf b.U),hp,iV,z6 h1,g2,g1]
 by_cases h:uJ (j6 .i64) r.er u.er=0
 ·rw[dT h,if_neg (fun hh=>hh h)];exact⟨_,_,rfl,rfl,xK rfl⟩
 ·rw[dF h,if_pos h];exact⟨_,_,rfl,rfl,h⟩
theorem zih (b:GB r){n0:List UInt8}{v0:Int}{k:Nat}(hk:e.kind=xy)(hn:e.names.getD []=[n0])(hv:e.values.getD []=[v0])(hp:kl r.er n0=I k):
  mX (eO 118 r e) (apply (j6 .i64) r.er e.er):=by
 rw[jL hk (by decide) (by decide),if_neg (by decide)]
 obtain⟨u,h1,_,h3⟩:=qQ hp
 rw[vN (eI hn) hp h3,if_neg (by rw[hk];decide),if_neg (by rw[hk];decide),if_neg (by rw[hk];decide),if_neg (by rw[hk];decide),if_neg (by rw[hk];decide)]
 have hA:eO 118 r e=jw (f118 e r.day r.au r.ae r.units) fun v=>I (v.1,{ r with units:=v.2 }):=rfl
 rw[hA]
 have g1:Vo r.units (k:Int)=I (I ((r.units.getD []).set k { u with ai:=j6 .i64 (u.ai+1) })):=nP (yf b.U) h1 rfl
 generalize hU:({ u with ai:=j6 .i64 (u.ai+1) }:qf)=U' at g1
 have dj:({ r with units:=I ((r.units.getD []).set k U') }:qc).er=aA r.er k { u.er with ai:=j6 .i64 (u.ai+1) }:=by rw[xK rfl,←hU];rfl
 unfold f118
 simp only[qc.eta,gF hn,jw,xC (yf b.U),hp,iV,z6 h1,g1]
 cases u.aq with
 |true=>exact⟨_,_,rfl,rfl,dj⟩
 |false=>exact⟨_,_,rfl,rfl,by decide⟩
theorem zh3 (b:GB r)(w:WF r.er){n0 n1:List UInt8}{v0 v1:Int}{k:Nat}(hk:e.kind=ot)(hn:e.names.getD []=[n0,n1])(hv:e.values.getD []=[v0,v1])(hp:kl r.er n0=I k):
  mX (eO 112 r e) (apply (j6 .i64) r.er e.er):=by
 rw[jL hk (by decide) (by decide),if_neg (by decide)]
 obtain⟨u,h1,_,h3⟩:=qQ hp
 obtain⟨D,v,o⟩:=D7 b w h1
 rw[vN (eI hn) hp h3,if_neg (by rw[hk];decide),if_neg (by rw[hk];decide),if_pos hk,lI hn,uK hv,o.D6]
 have hA:eO 112 r e=jw (f112 e r.day r.au r.ae r.units) fun v=>I (v.1,{ r with units:=v.2 }):=rfl
 rw[hA]
 have g1:Vp r.units (k:Int) e=I (I ((r.units.getD []).set k { u with results:=I (u.results.getD []++[⟨n1,u.version,v1⟩]) })):=nP (yf b.U) h1 (by
  unfold Nx
  rw[gj hn,gj hv]
  simp only[jw]
  rw[jng (l9 o.results)])
 generalize hU:({ u with results:=I (u.results.getD []++[⟨n1,u.version,v1⟩]) }:qf)=U' at g1
 have dj:({ r with units:=I ((r.units.getD []).set k U') }:qc).er=aA r.er k { u.er with results:=u.results.getD []++[⟨n1,u.version,v1⟩] }:=by rw[xK rfl,←hU];rfl
 unfold f112
 simp only[qc.eta,gF hn,jw,xC (yf b.U),hp,iV,z6 h1,o.doc,jec (gj hn) (yf o.aw),kU,g1,Gm]
 rw[iG (by simp[SM]),show D.er.aw=D.aw.getD []from rfl]
 cases u.aq with
 |true=>exact⟨_,_,rfl,rfl,by decide⟩
 |false=>
  cases (D.aw.getD []).any (ef n1)with
  |false=>exact⟨_,_,rfl,rfl,by decide⟩
  |true=>
   by_cases h2:64≤(u.results.getD []).length
   ·rw[show decide (64≤((u.results.getD []).length:Int))=E1 from dT (by omega),if_pos h2]
    exact⟨_,_,rfl,rfl,by decide⟩
   ·rw[show decide (64≤((u.results.getD []).length:Int))=E4 from dF (by omega),if_neg h2]
    exact⟨_,_,rfl,rfl,dj⟩
theorem zgj (b:GB r)(w:WF r.er){n0 n1:List UInt8}{v0 v1:Int}{k j:Nat}(hk:e.kind=l7)(hn:e.names.getD []=[n0,n1])(hv:e.values.getD []=[v0,v1])(hp:kl r.er n0=I k)(hq:ku r.er n1=I j):
  mX (eO 111 r e) (apply (j6 .i64) r.er e.er):=by
 rw[jL hk (by decide) (by decide),if_neg (by decide)]
 obtain⟨u,h1,_,h3⟩:=qQ hp
 obtain⟨x,h4,DG⟩:=He hq
 obtain⟨D,v,o⟩:=D7 b w h1
 rw[vN (eI hn) hp h3,if_pos hk]
 unfold xM
 rw[lI hn,hq,uK hv,o.D6]
 simp only[vL,h4]
 have hA:eO 111 r e=jw (f111 e r.day r.au r.ae r.units) fun v=>I (v.1,{ r with au:=v.2.1,units:=v.2.2 }):=rfl
 rw[hA]
 have g1:Vq r.au (j:Int) v1=I (I ((r.au.getD []).set j { x with left:=j6 .i64 (x.left-v1) })):=nP (yf b.L) h4 rfl
 unfold f111
 simp only[qc.eta,gF hn,gj hn,gj hv,jw,xC (yf b.U),DU (yf b.L),hp,hq,iV,z6 h1,z6 h4,o.doc,jfj (yf o.ax),kU,g1,jl6 (yf o.uses),Gm]
 rw[iG (by simp[SM])]
 have hdn:D.er.ax=D.ax.getD []:=rfl
 simp only[hdn]
 have lE:∀(s:qm),mW (j6 .i64) (u.uses.getD []) x.name v1=eX (cO x.name) s (u.uses.getD [])→∃us,fN r.units (k:Int) (D8 s x)=I us∧({ r with au:=I ((r.au.getD []).set j { x with left:=j6 .i64 (x.left-v1) }),units:=us }:qc).er=aA (cj r.er j { x with left:=j6 .i64 (x.left-v1) }) k { u.er with uses:=mW (j6 .i64) u.er.uses x.name v1 }:=by
  intro s hs
  obtain⟨q,wq,q1,q2⟩:=jnh (x:=s) (t:=x) (o:=u.uses) (l9 o.uses)
  refine⟨_,nP (y:={ u with uses:=q }) (yf b.U) h1 (by unfold D8;rw[q1];rfl),?_⟩
  simp only[qc.er,aA,cj,En,Ga]
  congr 2
  simp only[qf.er,q2,hs]
 by_cases hs:u.aq=E1
 ·simp only[if_pos hs,if_pos (show u.er.aq=E1 from hs)]
  exact⟨_,_,rfl,rfl,by decide⟩
 simp only[if_neg hs,if_neg (show ¬u.er.aq=E1 from hs)]
 by_cases hz:v1=0
 ·simp only[if_pos hz,dT hz,if_true]
  exact⟨_,_,rfl,rfl,by decide⟩
 simp only[if_neg hz,dF hz,Ef,if_false]
 by_cases hh:x.held=E1
 ·simp only[if_pos hh]
  exact⟨_,_,rfl,rfl,by decide⟩
 simp only[if_neg hh]
 cases (D.ax.getD []).any (cO x.kind)with
 |false=>exact⟨_,_,rfl,rfl,by decide⟩
 |true=>
 simp only[E7,Ef,if_false]
 by_cases hl:x.left<v1
 ·simp only[if_pos hl,dT hl,if_true]
  exact⟨_,_,rfl,rfl,by decide⟩
 simp only[if_neg hl,dF hl,Ef,if_false]
 have Hh:∀ {α:Type} (A B:Option α),cond (decide (eW [0,0,0,0,0]=0)) A B=A:=fun A B=>rfl
 cases hi:(u.uses.getD []).findIdx? (cO x.name)with
 |none=>
  obtain⟨us,q1,q2⟩:=lE ⟨x.name,v1⟩ (by unfold mW eX;rw[hi])
  rw[Hh]
  rw[show decide (0≤ec none)=E4 from rfl]
  simp only[cond_false,q1]
  exact⟨_,_,rfl,rfl,q2⟩
 |some i=>
  obtain⟨y,hy,_⟩:=bI hi
  obtain⟨us,q1,q2⟩:=lE ⟨x.name,j6 .i64 (v1+y.n)⟩ (by unfold mW eX;rw[hi];simp only[hy])
  rw[Hh]
  rw[show decide (0≤ec (I i))=E1 from xE (I i)]
  simp only[cT,iV,z6 hy,q1]
  exact⟨_,_,rfl,rfl,q2⟩
end Go.Z
set_option maxHeartbeats 4000000
namespace Go.Z
open Go Go.Abs Go.W
variable {r:qc}{e:ql}
theorem j3i {a b c d:Int}:f51 (I [a,b,c,d])=I (eW [a,b,c,d]):=iG (by simp[SM])
theorem zev (b:GB r){n0 n1:List UInt8}{v0:Int}{k j:Nat}(hk:e.kind=mT)(hn:e.names.getD []=[n0,n1])(hv:e.values.getD []=[v0])(hp:kl r.er n0=I k)(hq:kl r.er n1=I j):
  mX (eO 114 r e) (apply (j6 .i64) r.er e.er):=by
 rw[jL hk (by decide) (by decide),if_neg (by decide)]
 obtain⟨u,h1,_,h3⟩:=qQ hp
 obtain⟨v,h4,_,h5⟩:=qQ hq
 rw[vN (eI hn) hp h3,if_neg (by rw[hk];decide),if_pos hk]
 unfold xN
 rw[lI hn,hq]
 simp only[h5]
 have hA:eO 114 r e=jw (f114 e r.day r.au r.ae r.units) fun v=>I (v.1,{ r with units:=v.2 }):=rfl
 rw[hA]
 have g1:uL r.units (k:Int) v=I (I ((r.units.getD []).set k { u with partner:=v.name })):=nP (yf b.U) h1 rfl
 have g2:k≠j→∀bb,uM (I ((r.units.getD []).set k { u with partner:=v.name })) (j:Int) ⟨u.name,u.product,u.version,u.uses,u.results,u.partner,bb,u.ai⟩=I (I (((r.units.getD []).set k { u with partner:=v.name }).set j { v with partner:=u.name })):=by
  intro hkj bb
  exact nP (x:=v) (by rw[En,List.length_set];exact yf b.U) (by rw[En,List.getElem?_set_ne hkj];exact h4) rfl
 have dj:({ r with units:=I (((r.units.getD []).set k { u with partner:=v.name }).set j { v with partner:=u.name }) }:qc).er=aA (aA r.er k { u.er with partner:=v.er.name }) j { v.er with partner:=u.er.name }:=by
  simp only[qc.er,aA,En,Ga]
  rfl
 generalize hz:aA (aA r.er k { u.er with partner:=v.er.name }) j { v.er with partner:=u.er.name }=Z at dj ⊢
 generalize hX:I (I (((r.units.getD []).set k { u with partner:=v.name }).set j { v with partner:=u.name }))=X at g2
 generalize hY:I ((r.units.getD []).set k { u with partner:=v.name })=Y at g1 g2
 unfold f114
 simp only[qc.eta,gF hn,gj hn,jw,xC (yf b.U),hp,hq,iV,z6 h1,z6 h4,kU,j3i,g1]
 have e1:decide ((k:Int)=(j:Int))=decide (k=j):=by
  by_cases h:k=j
  ·rw[dT h];exact dT (by omega)
  ·rw[dF h];exact dF (by omega)
 have e2:u.er.product=u.product:=rfl
 have e3:v.er.product=v.product:=rfl
 have e4:u.er.version=u.version:=rfl
 have e5:v.er.version=v.version:=rfl
 have e6:u.er.aq=u.aq:=rfl
 have e7:v.er.aq=v.aq:=rfl
 have e8:u.er.partner=u.partner:=rfl
 have e9:v.er.partner=v.partner:=rfl
 simp only[e1,e2,e3,e4,e5,e6,e7,e8,e9]
 by_cases c1:k=j<;>by_cases c2:u.product=v.product<;>by_cases c3:u.version=v.version<;>cases c4:u.aq<;>cases c5:v.aq<;>by_cases c6:u.partner=[]<;>by_cases c7:v.partner=[] <;>
  simp only[c1,c2,c3,c6,c7,decide_true,decide_false,cT,cond_false,E7,Gc,if_true,if_false,Ef,ne_eq,not_true_eq_false,not_false_eq_true,or_true,true_or,or_false,false_or,or_self] <;>
  first
  |exact⟨_,_,rfl,rfl,by decide⟩
  |(have g3:=g2 c1 E4
    simp only[c2,c3,c6]at g3
    rw[g3,←hX]
    exact⟨_,_,rfl,rfl,dj⟩)
end Go.Z
