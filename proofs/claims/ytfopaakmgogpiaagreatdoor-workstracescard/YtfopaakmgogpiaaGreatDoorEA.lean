/- Chapter 10, plain. -/
import Derived.Test.YtfopaakmgogpiaaGreatDoorE6
import Derived.Test.YtfopaakmgogpiaaGreatDoorW12
set_option linter.unusedVariables false
set_option linter.unusedSimpArgs false
set_option maxRecDepth 100000
set_option maxHeartbeats 4000000
open Bool renaming false→I,false_eq_true→El,not_true→Eo,true→Ev,not_eq_true→Ga,false_or→Gh
open Option renaming getD_some→Eh,some→E5,isSome_some→E6,any_some→Gc
open List renaming length_singleton→En,length_map→E7,length_set→Gb,map_set→Gi
namespace Go.Z
open Go Go.Abs Go.W
variable {r:qc}{e:ql}
theorem Vn {a lo hi:Int}:f59 a lo hi=E5 (decide (a<lo∨hi<a)):=by
 unfold f59
 by_cases h:a<lo
 ·simp[h]
 ·simp[h]
theorem xX {o:Option Nat}:decide (dC o<0)=!o.isSome:=by
 cases o with
 |none=>rfl
 |some k=>exact dF (by show ¬(k:Int)<0;omega)
theorem jxe (b:GB r)(hk:e.kind=lY)(hc:kg e.er=0):gm (f124 r e) (apply (j9 .i64) r.er e.er):=by
 obtain⟨h1,h2⟩:=fa hk (show fP lY=E5 (2,2)from rfl) hc
 obtain⟨n0,n1,hn⟩:=gp h1
 obtain⟨v0,v1,hv⟩:=gp h2
 unfold apply nJ
 rw[show e.er.kind=lY from hk,if_pos (by decide),if_pos rfl,eH hn,lF hn,uS hv,vX]
 unfold f124
 simp only[gI hn,gk hn,gk hv,jx,D0 (z7 b.L),vW,Vn,AQ (z7 b.L)]
 rw[show decide (e.kind=([108,111,116]:List UInt8))=Ev from dT hk,D7 (o:=E5 (r.aq.getD [])) (by have:=l7 b.L;simp only[Eh,En];omega) (by simp)]
 simp only[cT]
 cases (y9 r.er n0).isSome with
 |true=>exact⟨_,_,rfl,rfl,by decide⟩
 |false=>
  by_cases h1:v1<1∨10000<v1
  ·simp only[dT h1,if_pos h1]
   exact⟨_,_,rfl,rfl,by decide⟩
  ·simp only[dF h1,if_neg h1]
   by_cases h2:64≤(r.aq.getD []).length
   ·simp only[show decide (64≤((r.aq.getD []).length:Int))=Ev from dT (by omega),vX,if_pos h2,El,if_false]
    exact⟨_,_,rfl,rfl,by decide⟩
   ·simp only[show decide (64≤((r.aq.getD []).length:Int))=I from dF (by omega),vX,if_neg h2,El,if_false]
    exact⟨_,_,rfl,rfl,rfl⟩
theorem jah (b:GB r)(hk:e.kind=mR)(hc:kg e.er=0):gm (f124 r e) (apply (j9 .i64) r.er e.er):=by
 obtain⟨h1,h2⟩:=fa hk (show fP mR=E5 (1,1)from rfl) hc
 obtain⟨n0,hn⟩:=iO h1
 unfold apply nJ
 rw[show e.er.kind=mR from hk,if_pos (by decide),if_neg (by decide),if_pos rfl,eH hn]
 have hl:r.er.ae.length=(r.ae.getD []).length:=by rw[xO,E7]
 unfold f124
 simp only[gI hn,jx,D1 (z7 b.P),vW,AQ (z7 b.P),hl]
 rw[show decide (e.kind=([108,111,116]:List UInt8))=I from dF (by rw[hk];decide),show decide (e.kind=([112,114,111,100,117,99,116]:List UInt8))=Ev from dT hk,D7 (o:=E5 (r.ae.getD [])) (by have:=l7 b.P;simp only[Eh,En];omega) (by simp)]
 simp only[cT,cond_false]
 cases (ku r.er n0).isSome with
 |true=>exact⟨_,_,rfl,rfl,by decide⟩
 |false=>
  by_cases h2:16≤(r.ae.getD []).length
  ·simp only[show decide (16≤((r.ae.getD []).length:Int))=Ev from dT (by omega),if_pos h2]
   exact⟨_,_,rfl,rfl,by decide⟩
  ·simp only[show decide (16≤((r.ae.getD []).length:Int))=I from dF (by omega),if_neg h2]
   exact⟨_,_,rfl,rfl,qwg rfl⟩
theorem jll (b:GB r)(hk:e.kind=l0)(hc:kg e.er=0):gm (f124 r e) (apply (j9 .i64) r.er e.er):=by
 obtain⟨h1,h2⟩:=fa hk (show fP l0=E5 (2,1)from rfl) hc
 obtain⟨n0,n1,hn⟩:=gp h1
 unfold apply nJ
 rw[show e.er.kind=l0 from hk,if_pos (by decide),if_neg (by decide),if_neg (by decide),eH hn,lF hn]
 have hl:r.er.units.length=(r.units.getD []).length:=by rw[xP,E7]
 unfold f124
 simp only[gI hn,gk hn,jx,D1 (z7 b.P),G2 (z7 b.U),vW,xX,AQ (z7 b.U),hl]
 rw[show decide (e.kind=([108,111,116]:List UInt8))=I from dF (by rw[hk];decide),show decide (e.kind=([112,114,111,100,117,99,116]:List UInt8))=I from dF (by rw[hk];decide)]
 simp only[cond_false]
 unfold ia
 cases hp:ku r.er n1 with
 |none=>exact⟨_,_,rfl,rfl,by decide⟩
 |some k=>
  obtain⟨p,g1,_,g3⟩:=Ea hp
  have hd:p.er.aO.isEmpty=decide (((p.aO.getD []).length:Int)=0):=by
   show((p.aO.getD []).map qt.er).isEmpty=_
   cases p.aO.getD []with
   |nil=>rfl
   |cons x l=>simp;omega
  have oq:p.er.aO.length=(p.aO.getD []).length:=by show((p.aO.getD []).map qt.er).length=_;rw[E7]
  simp only[E6,Eo,cond_false,jA,yb g1,Option.bind_some,g3,hd,oq]
  rw[D7 (o:=E5 (r.units.getD [])) (by have:=l7 b.U;simp only[Eh,En];omega) (by simp)]
  cases (kh r.er n0).isSome with
  |true=>exact⟨_,_,rfl,rfl,by decide⟩
  |false=>
   cases decide (((p.aO.getD []).length:Int)=0)with
   |true=>exact⟨_,_,rfl,rfl,by decide⟩
   |false=>
    by_cases h2:256≤(r.units.getD []).length
    ·simp only[show decide (256≤((r.units.getD []).length:Int))=Ev from dT (by omega),if_pos h2]
     exact⟨_,_,rfl,rfl,by decide⟩
    ·simp only[show decide (256≤((r.units.getD []).length:Int))=I from dF (by omega),if_neg h2]
     exact⟨_,_,rfl,rfl,qw0 rfl⟩
theorem q6j (b:GB r){k:Nat}{x:qj}(hk:k<(r.aq.getD []).length):f206 r (k:Int) x=E5 { r with aq:=E5 ((r.aq.getD []).set k x) }:=by
 unfold f206;rw[U8 (z7 b.L) hk];rfl
theorem jkp (b:GB r){k:Nat}{x:qn}(hk:k<(r.ae.getD []).length):f205 r (k:Int) x=E5 { r with ae:=E5 ((r.ae.getD []).set k x) }:=by
 unfold f205;rw[U8 (z7 b.P) hk];rfl
theorem A1 (hb:(r.units.getD []).length≤BB){k:Nat}{x:qe}(hk:k<(r.units.getD []).length):f209 r (k:Int) x=E5 { r with units:=E5 ((r.units.getD []).set k x) }:=by
 unfold f209;rw[U8 (z7 hb) hk];rfl
theorem uX {α:Type}{l:List α}{k:Nat}{x:α}(h:l[k]?=E5 x):k<l.length:=(List.getElem?_eq_some_iff.1 h).1
theorem jbq (b:GB r)(hold:Bool)(hk:e.kind=if hold then nG else qR)(hc:kg e.er=0):gm (f126 r e) (apply (j9 .i64) r.er e.er):=by
 obtain⟨h1,h2⟩:=fa (a:=1) (c:=1) hk (by cases hold<;>rfl) hc
 obtain⟨n0,hn⟩:=iO h1
 rw[jP hk (by cases hold<;>decide) (by cases hold<;>decide),if_pos (by cases hold<;>decide)]
 unfold uT
 rw[eH hn]
 unfold f126
 simp only[gI hn,jx,D0 (z7 b.L),xX]
 cases hp:y9 r.er n0 with
 |none=>exact⟨_,_,rfl,rfl,by decide⟩
 |some k=>
  obtain⟨x,g1,_⟩:=Hq hp
  simp only[E6,Eo,cond_false,jA,yb g1,vX,g1,q6j b (uX g1),show e.er.kind=e.kind from rfl]
  cases hold with
  |true=>
   have hk:e.kind=nG:=hk
   rw[show decide (e.kind=([104,111,108,100]:List UInt8))=Ev from dT hk,show decide (e.kind=([102,114,101,101]:List UInt8))=I from dF (by rw[hk];decide),if_pos hk]
   by_cases hh:x.held=Ev
   ·simp only[hh,cT,if_true];exact⟨_,_,rfl,rfl,by decide⟩
   ·rw[Ga]at hh
    simp only[hh,cT,cond_false,El,if_false];exact⟨_,_,rfl,rfl,NC rfl⟩
  |false=>
   have hk:e.kind=qR:=hk
   rw[show decide (e.kind=([104,111,108,100]:List UInt8))=I from dF (by rw[hk];decide),show decide (e.kind=([102,114,101,101]:List UInt8))=Ev from dT hk,if_neg (by rw[hk];decide)]
   by_cases hh:x.held=Ev
   ·simp only[hh,cT,cond_false,Eo,El,if_false];exact⟨_,_,rfl,rfl,NC rfl⟩
   ·rw[Ga]at hh
    simp only[hh,cT,cond_false,Bool.not_false,if_true];exact⟨_,_,rfl,rfl,by decide⟩
theorem q1z {α:Type}{l:List α}{p:α→Bool}{x:α}(h:l.length≤16):16<(eR p x l).length↔(!(l.any p))=Ev∧16≤l.length:=by
 unfold eR
 rw[D5]
 cases hi:l.findIdx? p with
 |some i=>
  simp only[Gb]
  constructor
  ·intro h2;omega
  ·rintro ⟨h2,_⟩;cases h2
 |none=>
  simp only[List.length_append,En]
  constructor
  ·intro h2;exact⟨rfl,by omega⟩
  ·rintro ⟨_,h2⟩;omega
theorem Vo (b:GB r)(w:WF r.er){kk:List UInt8}(gS:kk=lZ∨kk=mS∨kk=pj)(hk:e.kind=kk)(hc:kg e.er=0)(iJ:∀v∈e.values.getD [],0≤v):gm (f125 r e) (apply (j9 .i64) r.er e.er):=by
 have hR:apply (j9 .i64) r.er e.er=nK r.er e.er:=by
  unfold apply
  rw[show e.er.kind=kk from hk,if_neg (by rcases gS with rfl|rfl|rfl<;>decide),if_pos gS]
 rw[hR]
 obtain⟨n0,t,hn⟩:∃n0 t,e.names.getD []=n0::t:=by
  rcases gS with rfl|rfl|rfl
  ·obtain⟨a,c,h⟩:=gp (fa (c:=2) hk rfl hc).1;exact⟨_,_,h⟩
  ·obtain⟨a,c,h⟩:=gp (fa (c:=3) hk rfl hc).1;exact⟨_,_,h⟩
  ·obtain⟨a,h⟩:=iO (fa (c:=1) hk rfl hc).1;exact⟨_,_,h⟩
 cases hp:ku r.er n0 with
 |none=>
  unfold nK
  rw[eH hn,hp]
  unfold f125
  simp only[gI hn,jx,D1 (z7 b.P),xX,hp]
  exact⟨_,_,rfl,rfl,by decide⟩
 |some k=>
 obtain⟨p,g1,_,g3⟩:=Ea hp
 have hm:=List.mem_of_getElem? g1
 have hD:=b.D p hm
 have Hv:p.er∈r.er.ae:=by rw[xO];exact List.mem_map_of_mem hm
 have hkn:=w.aF _ Hv
 have hkt:=w.aB _ Hv
 have Vp:kx (·.k) (p.dn.getD []):=hkn.1
 have Vq:(p.dn.getD []).length≤16:=hkn.2
 have Vr:kx (·.k) (p.dt.getD []):=hkt.1
 have Vs:(p.dt.getD []).length≤16:=hkt.2
 rw[ND (eH hn) hp g3]
 unfold f125
 simp only[gI hn,jx,D1 (z7 b.P),xX,hp,E6,Eo,cond_false,jA,yb g1,jkp b (uX g1)]
 rcases gS with rfl|rfl|rfl
 ·obtain⟨h1,h2⟩:=fa (a:=2) (c:=2) hk rfl hc
  obtain⟨n0',n1,iK⟩:=gp h1
  obtain⟨v0,v1,hv⟩:=gp h2
  have h0:0≤v1:=iJ v1 (by rw[hv];simp)
  obtain⟨v,ww,f1,f2⟩:=jlb (x:=⟨n1,v1⟩) (l7 hD.2.1) Vp h0
  have f2:v.getD []=iZ (p.dn.getD []) n1 v1:=f2
  rw[if_pos hk,lF iK,uS hv]
  simp only[gk hv,gk iK,f1,show decide (e.kind=([110,101,101,100]:List UInt8))=Ev from dT hk,cT]
  by_cases hz:10000<v1
  ·rw[dT hz,if_pos (Or.inr hz)];exact⟨_,_,rfl,rfl,by decide⟩
  ·rw[dF hz,if_neg (show ¬(v1<0∨10000<v1) by omega)]
   have dh:({ r with ae:=E5 ((r.ae.getD []).set k ⟨p.name,v,p.dt,p.aO⟩) }:qc).er=bA r.er k { p.er with bJ:={ p.er.bJ with aF:=iZ (p.dn.getD []) n1 v1 } }:=by
    rw[Eb rfl]
    congr 1
    simp only[qn.er,f2]
   have hlen:decide (16<((v.getD []).length:Int))=decide (16<(iZ (p.dn.getD []) n1 v1).length):=by
    rw[f2]
    by_cases h:16<(iZ (p.dn.getD []) n1 v1).length
    ·rw[dT h];exact dT (by omega)
    ·rw[dF h];exact dF (by omega)
   have lG:16<(iZ (p.dn.getD []) n1 v1).length↔(0<v1∧(!(p.dn.getD []).any (cO n1))=Ev∧16≤(p.dn.getD []).length):=by
    unfold iZ
    by_cases pf:v1=0
    ·rw[if_pos pf]
     have:=List.length_filter_le (fun x=>!cO n1 x) (p.dn.getD [])
     constructor
     ·intro h;omega
     ·rintro ⟨h,_⟩;omega
    ·rw[if_neg pf,q1z Vq]
     constructor
     ·intro h;exact⟨by omega,h⟩
     ·exact fun h=>h.2
   simp only[cond_false,hlen]
   by_cases ox:16<(iZ (p.dn.getD []) n1 v1).length
   ·rw[dT ox,if_pos (lG.1 ox)]
    cases ww<;>exact⟨_,_,rfl,rfl,by decide⟩
   ·rw[dF ox,if_neg (fun h=>ox (lG.2 h))]
    cases ww<;>exact⟨_,_,rfl,rfl,dh⟩
 ·obtain⟨h1,h2⟩:=fa (a:=2) (c:=3) hk rfl hc
  obtain⟨n0',n1,iK⟩:=gp h1
  obtain⟨v0,v1,v2,hv⟩:=jsd h2
  obtain⟨v,ww,f1,f2⟩:=jkk (x:=⟨n1,v1,v2⟩) (l7 hD.2.2.1) Vr
  have f2:v.getD []=eR (eg n1) ⟨n1,v1,v2⟩ (p.dt.getD []):=f2
  rw[if_neg (show ¬e.kind=lZ by rw[hk];decide),if_pos hk,lF iK,uS hv,vl2 hv]
  simp only[gk hv,jpz hv,gk iK,f1,show decide (e.kind=([110,101,101,100]:List UInt8))=I from dF (by rw[hk];decide),show decide (e.kind=([116,101,115,116]:List UInt8))=Ev from dT hk,cT,cond_false]
  by_cases hz:v2<v1
  ·rw[dT hz,if_pos hz];exact⟨_,_,rfl,rfl,by decide⟩
  ·rw[dF hz,if_neg hz]
   have dh:({ r with ae:=E5 ((r.ae.getD []).set k ⟨p.name,p.dn,v,p.aO⟩) }:qc).er=bA r.er k { p.er with bJ:={ p.er.bJ with aB:=eR (eg n1) ⟨n1,v1,v2⟩ (p.dt.getD []) } }:=by
    rw[Eb rfl]
    congr 1
    simp only[qn.er,f2]
   have hlen:decide (16<((v.getD []).length:Int))=decide (16<(eR (eg n1) ⟨n1,v1,v2⟩ (p.dt.getD [])).length):=by
    rw[f2]
    by_cases h:16<(eR (eg n1) ⟨n1,v1,v2⟩ (p.dt.getD [])).length
    ·rw[dT h];exact dT (by omega)
    ·rw[dF h];exact dF (by omega)
   have lG:=q1z (p:=eg n1) (x:=(⟨n1,v1,v2⟩:qi)) Vs
   simp only[cond_false,hlen]
   by_cases ox:16<(eR (eg n1) ⟨n1,v1,v2⟩ (p.dt.getD [])).length
   ·rw[dT ox,if_pos (lG.1 ox)]
    cases ww<;>exact⟨_,_,rfl,rfl,by decide⟩
   ·rw[dF ox,if_neg (fun h=>ox (lG.2 h))]
    cases ww<;>exact⟨_,_,rfl,rfl,dh⟩
 ·rw[if_neg (show ¬e.kind=lZ by rw[hk];decide),if_neg (show ¬e.kind=mS by rw[hk];decide)]
  simp only[show decide (e.kind=([110,101,101,100]:List UInt8))=I from dF (by rw[hk];decide),show decide (e.kind=([116,101,115,116]:List UInt8))=I from dF (by rw[hk];decide),cond_false,AQ (z7 hD.1)]
  rw[D7 (o:=E5 (p.aO.getD [])) (by have:=l7 hD.1;simp only[Eh,En];omega) (by simp)]
  have oq:p.er.aO.length=(p.aO.getD []).length:=by show((p.aO.getD []).map qt.er).length=_;rw[E7]
  have hd:(p.dn.getD []).isEmpty=decide (((p.dn.getD []).length:Int)=0):=by
   cases p.dn.getD []with
   |nil=>rfl
   |cons x l=>simp;omega
  have dh:({ r with ae:=E5 ((r.ae.getD []).set k ⟨p.name,p.dn,p.dt,E5 (p.aO.getD []++[⟨p.dn,p.dt⟩])⟩) }:qc).er=bA r.er k { p.er with aO:=p.er.aO++[p.er.bJ] }:=by
   rw[Eb rfl]
   congr 1
   simp only[qn.er,Eh,List.map_append,List.map_cons,List.map_nil]
   rfl
  simp only[hd,oq]
  cases decide (((p.dn.getD []).length:Int)=0)with
  |true=>exact⟨_,_,rfl,rfl,by decide⟩
  |false=>
   by_cases h2:100≤(p.aO.getD []).length
   ·simp only[show decide (100≤((p.aO.getD []).length:Int))=Ev from dT (by omega),if_pos h2,El,if_false]
    exact⟨_,_,rfl,rfl,by decide⟩
   ·simp only[show decide (100≤((p.aO.getD []).length:Int))=I from dF (by omega),if_neg h2,El,if_false]
    exact⟨_,_,rfl,rfl,dh⟩
end Go.Z
namespace Go.Z
open Go Go.Abs Go.W
variable {r:qc}{e:ql}
theorem Vt {α:Type}(p:α→Bool):∀(l:List α) (c:Bool),l.foldl (fun c x=>if c then Ev else p x) c=(c||l.any p)
 | [],c=>by simp
 |x::l,c=>by
  rw[List.foldl_cons,Vt p l,List.any_cons]
  cases c<;>simp
theorem Vu {u:qe}(h:u.ar=I):(⟨u.name,u.product,u.version,u.uses,u.results,u.partner,I,u.aj⟩:qe)=u:=by cases u;simp only at h;rw[h]
theorem j4g (b:GB r)(w:WF r.er)(hk:e.kind=l3)(hc:kg e.er=0){k:Nat}{u:qe}{n0 n1:List UInt8}{v0 v1:Int}(hn:e.names.getD []=[n0,n1])(hv:e.values.getD []=[v0,v1])(h1:(r.units.getD [])[k]?=E5 u):gm (f207 r (k:Int) e) (vZ (j9 .i64) r.er k u.er e.er):=by
 obtain⟨D,v,o⟩:=xW b w h1
 unfold vZ
 rw[lF hn,uS hv,o.uU]
 unfold f207
 simp only[yb h1,gk hn,gk hv,jx,D0 (z7 b.L),xX]
 cases hq:y9 r.er n1 with
 |none=>exact⟨_,_,rfl,rfl,by decide⟩
 |some j=>
 obtain⟨x,h4,_⟩:=Hq hq
 simp only[E6,Eo,cond_false,jA,yb h4,vX,h4]
 by_cases hs:u.ar=Ev
 ·rw[hs,if_pos (show u.er.ar=Ev from hs)];exact⟨_,_,rfl,rfl,by decide⟩
 rw[if_neg (show ¬u.er.ar=Ev from hs)]
 rw[Ga]at hs
 simp only[Vu hs,o.qV]
 rw[hs]
 simp only[cond_false]
 by_cases hz:v1=0
 ·rw[dT hz,if_pos hz];exact⟨_,_,rfl,rfl,by decide⟩
 rw[dF hz,if_neg hz]
 simp only[cond_false]
 by_cases hh:x.held=Ev
 ·rw[hh];exact⟨_,_,rfl,rfl,by decide⟩
 have Tw:x.held=I:=by simpa using hh
 have L:=D3 (D.aF.getD []) (xY r (k:Int) e u (j:Int) x D) (fun i (c:Bool)=>(c,(i:Int))) (fun c y=>if c then Ev else cO x.kind y) (fun c=>(c,((D.aF.getD []).length:Int))) I (fun c=>by unfold xY;simp only[fU];rfl)
  (fun i c y hy hi=>by
   unfold xY
   simp only[gH hi,cT,jx,yb hy]
   rw[gj (by have:=o.aF;unfold BB at this;omega)]
   cases c<;>rfl)
 rw[Vt,Gh]at L
 have L':bj (xY r (k:Int) e u (j:Int) x D) (I,0)=E5 ((D.aF.getD []).any (cO x.kind),((D.aF.getD []).length:Int)):=L
 rw[if_neg hh]
 simp only[Tw,cond_false,L',Gc,show D.er.aF=D.aF.getD []from rfl]
 cases (D.aF.getD []).any (cO x.kind)with
 |false=>exact⟨_,_,rfl,rfl,by decide⟩
 |true=>
 simp only[cT,Eo,El,if_false]
 by_cases hl:x.left<v1
 ·rw[dT hl,if_pos hl];exact⟨_,_,rfl,rfl,by decide⟩
 rw[dF hl,if_neg hl]
 obtain⟨q,wq,q1,q2⟩:=jln (o:=u.uses) (k:=x.name) (n:=v1) (l7 o.uses) o.keyed
 rw[q1]
 simp only[cond_false,q6j b (uX h4)]
 rw[show(⟨u.name,u.product,u.version,q,u.results,u.partner,I,u.aj⟩:qe)={ u with uses:=q } by rw[←hs]]
 have f9:=A1 (r:={ r with aq:=E5 ((r.aq.getD []).set j ⟨x.name,x.kind,x.count,j9 .i64 (x.left-v1),I⟩) }) (x:={ u with uses:=q }) b.U (uX h1)
 have dh:({ r with aq:=E5 ((r.aq.getD []).set j ⟨x.name,x.kind,x.count,j9 .i64 (x.left-v1),I⟩),units:=E5 ((r.units.getD []).set k { u with uses:=q }) }:qc).er=aw (b6 r.er j ⟨x.name,x.kind,x.count,j9 .i64 (x.left-v1),I⟩) k { u.er with uses:=l6 (j9 .i64) u.er.uses x.name v1 }:=by
  simp only[qc.er,aw,b6,Eh,Gi]
  congr 2
  simp only[qe.er,q2]
 simp only[f9]
 cases wq<;>exact⟨_,_,rfl,rfl,dh⟩
theorem jqp (b:GB r)(hk:e.kind=mT)(hc:kg e.er=0){k:Nat}{u:qe}{n0 n1:List UInt8}(hn:e.names.getD []=[n0,n1])(h1:(r.units.getD [])[k]?=E5 u):gm (f208 r (k:Int) e) (wc r.er k u.er e.er):=by
 unfold wc
 rw[lF hn]
 unfold f208
 simp only[yb h1,gk hn,jx,G2 (z7 b.U),xX]
 cases hq:kh r.er n1 with
 |none=>exact⟨_,_,rfl,rfl,by decide⟩
 |some j=>
 obtain⟨v,h4,_,h5⟩:=ov hq
 rw[jA]
 simp only[E6,Eo,cond_false,yb h4,h5]
 by_cases c1:k=j
 ·rw[if_pos c1,@dT ((j:Int)=(k:Int)) _ (by omega)];exact⟨_,_,rfl,rfl,by decide⟩
 rw[if_neg c1,@dF ((j:Int)=(k:Int)) _ (by omega)]
 simp only[cond_false]
 by_cases c2:u.product=v.product
 case neg=>rw[dF c2,if_pos (show u.er.product≠v.er.product∨u.er.version≠v.er.version from Or.inl c2)];exact⟨_,_,rfl,rfl,by decide⟩
 by_cases c3:u.version=v.version
 case neg=>rw[dT c2,dF c3,if_pos (show u.er.product≠v.er.product∨u.er.version≠v.er.version from Or.inr c3)];exact⟨_,_,rfl,rfl,by decide⟩
 rw[if_neg (show ¬(u.er.product≠v.er.product∨u.er.version≠v.er.version)from fun h=>h.elim (fun h=>h c2) (fun h=>h c3)),dT c2,dT c3]
 simp only[cT]
 by_cases c4:u.ar=Ev
 ·rw[if_pos (show u.er.ar=Ev∨v.er.ar=Ev from Or.inl c4),c4];exact⟨_,_,rfl,rfl,by decide⟩
 by_cases c5:v.ar=Ev
 ·rw[if_pos (show u.er.ar=Ev∨v.er.ar=Ev from Or.inr c5)]
  have NI:u.ar=I:=by simpa using c4
  rw[NI,c5];exact⟨_,_,rfl,rfl,by decide⟩
 have NI:u.ar=I:=by simpa using c4
 have c5':v.ar=I:=by simpa using c5
 rw[if_neg (show ¬(u.er.ar=Ev∨v.er.ar=Ev)from fun h=>h.elim c4 c5)]
 have f1:=A1 (r:=r) (x:={ u with partner:=v.name }) b.U (uX h1)
 have f2:=A1 (r:={ r with units:=E5 ((r.units.getD []).set k { u with partner:=v.name }) }) (k:=j) (x:={ v with partner:=u.name }) (by rw[Eh,Gb];exact b.U) (by rw[Eh,Gb];exact uX h4)
 have dh:({ r with units:=E5 (((r.units.getD []).set k { u with partner:=v.name }).set j { v with partner:=u.name }) }:qc).er=aw (aw r.er k { u.er with partner:=v.er.name }) j { v.er with partner:=u.er.name }:=by
  simp only[qc.er,aw,Eh,Gi]
  rfl
 rw[show(⟨u.name,u.product,u.version,u.uses,u.results,v.name,I,u.aj⟩:qe)={ u with partner:=v.name } by rw[←NI],show(⟨v.name,v.product,v.version,v.uses,v.results,u.name,I,v.aj⟩:qe)={ v with partner:=u.name } by rw[←c5']]
 simp only[f1,f2]
 rw[NI,c5']at dh ⊢
 simp only[cond_false]
 by_cases c6:u.partner=[]
 case neg=>rw[if_pos (show u.er.partner≠[]∨v.er.partner≠[]from Or.inl c6),dF c6];exact⟨_,_,rfl,rfl,by decide⟩
 by_cases c7:v.partner=[]
 case neg=>rw[if_pos (show u.er.partner≠[]∨v.er.partner≠[]from Or.inr c7),dT c6,dF c7];exact⟨_,_,rfl,rfl,by decide⟩
 rw[if_neg (show ¬(u.er.partner≠[]∨v.er.partner≠[])from fun h=>h.elim (fun h=>h c6) (fun h=>h c7)),dT c6,dT c7]
 exact⟨_,_,rfl,rfl,dh⟩
theorem Eg (b:GB r)(w:WF r.er){kk:List UInt8}(gS:kk=l3∨kk=mT∨kk=oj∨kk=pk∨kk=kH∨kk=xM)(hk:e.kind=kk)(hc:kg e.er=0):gm (f127 r e) (apply (j9 .i64) r.er e.er):=by
 rw[jP hk (by rcases gS with rfl|rfl|rfl|rfl|rfl|rfl<;>decide) (by rcases gS with rfl|rfl|rfl|rfl|rfl|rfl<;>decide),if_neg (by rcases gS with rfl|rfl|rfl|rfl|rfl|rfl<;>decide)]
 obtain⟨n0,t,hn⟩:∃n0 t,e.names.getD []=n0::t:=by
  rcases gS with rfl|rfl|rfl|rfl|rfl|rfl
  ·obtain⟨a,c,h⟩:=gp (fa (c:=2) hk rfl hc).1;exact⟨_,_,h⟩
  ·obtain⟨a,c,h⟩:=gp (fa (c:=1) hk rfl hc).1;exact⟨_,_,h⟩
  ·obtain⟨a,c,h⟩:=gp (fa (c:=2) hk rfl hc).1;exact⟨_,_,h⟩
  ·obtain⟨a,h⟩:=iO (fa (c:=1) hk rfl hc).1;exact⟨_,_,h⟩
  ·obtain⟨a,h⟩:=iO (fa (c:=1) hk rfl hc).1;exact⟨_,_,h⟩
  ·obtain⟨a,h⟩:=iO (fa (c:=1) hk rfl hc).1;exact⟨_,_,h⟩
 cases hp:kh r.er n0 with
 |none=>
  unfold nL
  rw[eH hn,hp]
  unfold f127
  simp only[gI hn,jx,G2 (z7 b.U),xX,hp]
  exact⟨_,_,rfl,rfl,by decide⟩
 |some k=>
 obtain⟨u,h1,_,h3⟩:=ov hp
 obtain⟨D,v,o⟩:=xW b w h1
 rw[vY (eH hn) hp h3]
 unfold f127
 simp only[gI hn,jx,G2 (z7 b.U),xX,hp,E6,Eo,cond_false,jA,yb h1]
 rcases gS with rfl|rfl|rfl|rfl|rfl|rfl
 ·obtain⟨g1,g2⟩:=fa (a:=2) (c:=2) hk rfl hc
  obtain⟨a,c,iK⟩:=gp g1
  obtain⟨v0,v1,hv⟩:=gp g2
  rw[if_pos hk,show decide (e.kind=([117,115,101]:List UInt8))=Ev from dT hk]
  obtain⟨r',cc,q1,q2⟩:=j4g b w hk hc iK hv h1
  simp only[cT,q1]
  exact⟨_,_,rfl,q2⟩
 ·obtain⟨g1,g2⟩:=fa (a:=2) (c:=1) hk rfl hc
  obtain⟨a,c,iK⟩:=gp g1
  rw[if_neg (show ¬e.kind=l3 by rw[hk];decide),if_pos hk,show decide (e.kind=([117,115,101]:List UInt8))=I from dF (by rw[hk];decide),show decide (e.kind=([112,97,105,114]:List UInt8))=Ev from dT hk]
  obtain⟨r',cc,q1,q2⟩:=jqp b hk hc iK h1
  simp only[cT,cond_false,q1]
  exact⟨_,_,rfl,q2⟩
 ·obtain⟨g1,g2⟩:=fa (a:=2) (c:=2) hk rfl hc
  obtain⟨a,n1,iK⟩:=gp g1
  obtain⟨v0,v1,hv⟩:=gp g2
  rw[if_neg (show ¬e.kind=l3 by rw[hk];decide),if_neg (show ¬e.kind=mT by rw[hk];decide),if_pos hk,show decide (e.kind=([117,115,101]:List UInt8))=I from dF (by rw[hk];decide),show decide (e.kind=([112,97,105,114]:List UInt8))=I from dF (by rw[hk];decide),show decide (e.kind=([109,101,97,115,117,114,101]:List UInt8))=Ev from dT hk,lF iK,uS hv,o.uU]
  simp only[cT,cond_false]
  by_cases hs:u.ar=Ev
  ·rw[hs];exact⟨_,_,rfl,rfl,by decide⟩
  have gB:u.ar=I:=by simpa using hs
  have L:=D3 (D.aB.getD []) (xZ r e (k:Int) u D) (fun i (c:Bool)=>(c,(i:Int))) (fun c y=>if c then Ev else eg n1 y) (fun c=>(c,((D.aB.getD []).length:Int))) I (fun c=>by unfold xZ;simp only[fU];rfl)
   (fun i c y hy hi=>by
    unfold xZ
    simp only[gH hi,cT,jx,yb hy,gk iK]
    rw[gj (by have:=o.aB;unfold BB at this;omega)]
    cases c<;>rfl)
  rw[Vt,Gh]at L
  have L':bj (xZ r e (k:Int) u D) (I,0)=E5 ((D.aB.getD []).any (eg n1),((D.aB.getD []).length:Int)):=L
  rw[if_neg hs]
  simp only[Vu gB,o.qV,L',gk iK,gk hv,AQ (z7 o.results)]
  rw[gB,D7 (o:=E5 (u.results.getD [])) (by have:=l7 o.results;simp only[Eh,En];omega) (by simp)]
  simp only[cond_false,Gc,show D.er.aB=D.aB.getD []from rfl]
  cases (D.aB.getD []).any (eg n1)with
  |false=>exact⟨_,_,rfl,rfl,by decide⟩
  |true=>
   have f9:=A1 (r:=r) (x:={ u with results:=E5 (u.results.getD []++[⟨n1,u.version,v1⟩]) }) b.U (uX h1)
   have dh:({ r with units:=E5 ((r.units.getD []).set k { u with results:=E5 (u.results.getD []++[⟨n1,u.version,v1⟩]) }) }:qc).er=aw r.er k { u.er with results:=u.results.getD []++[⟨n1,u.version,v1⟩] }:=by rw[xV rfl];rfl
   rw[gB]at f9
   by_cases h2:64≤(u.results.getD []).length
   ·simp only[show decide (64≤((u.results.getD []).length:Int))=Ev from dT (by omega),if_pos h2,Eo,El,if_false,cT]
    exact⟨_,_,rfl,rfl,by decide⟩
   ·simp only[show decide (64≤((u.results.getD []).length:Int))=I from dF (by omega),if_neg h2,Eo,El,if_false,cT,cond_false,Eh,f9]
    rw[gB]at dh
    exact⟨_,_,rfl,rfl,dh⟩
 ·rw[if_neg (show ¬e.kind=l3 by rw[hk];decide),if_neg (show ¬e.kind=mT by rw[hk];decide),if_neg (show ¬e.kind=oj by rw[hk];decide),if_pos hk,show decide (e.kind=([117,115,101]:List UInt8))=I from dF (by rw[hk];decide),show decide (e.kind=([112,97,105,114]:List UInt8))=I from dF (by rw[hk];decide),show decide (e.kind=([109,101,97,115,117,114,101]:List UInt8))=I from dF (by rw[hk];decide),show decide (e.kind=([117,112,100,97,116,101]:List UInt8))=Ev from dT hk,o.new]
  simp only[cT,cond_false]
  by_cases hs:u.ar=Ev
  ·rw[hs];exact⟨_,_,rfl,rfl,by decide⟩
  have gB:u.ar=I:=by simpa using hs
  rw[if_neg hs]
  have f9:=A1 (r:=r) (x:={ u with version:=v }) b.U (uX h1)
  have dh:({ r with units:=E5 ((r.units.getD []).set k { u with version:=v }) }:qc).er=aw r.er k { u.er with version:=v }:=by rw[xV rfl];rfl
  rw[gB]at f9 dh
  simp only[Vu gB,(Ny (z7 b.P) o.new).2,f9]
  rw[gB]
  simp only[cond_false]
  by_cases h:u.version=v
  ·rw[dT h,if_pos h];exact⟨_,_,rfl,rfl,by decide⟩
  ·rw[dF h,if_neg h];exact⟨_,_,rfl,rfl,dh⟩
 ·rw[if_neg (show ¬e.kind=l3 by rw[hk];decide),if_neg (show ¬e.kind=mT by rw[hk];decide),if_neg (show ¬e.kind=oj by rw[hk];decide),if_neg (show ¬e.kind=pk by rw[hk];decide),if_pos hk,show decide (e.kind=([117,115,101]:List UInt8))=I from dF (by rw[hk];decide),show decide (e.kind=([112,97,105,114]:List UInt8))=I from dF (by rw[hk];decide),show decide (e.kind=([109,101,97,115,117,114,101]:List UInt8))=I from dF (by rw[hk];decide),show decide (e.kind=([117,112,100,97,116,101]:List UInt8))=I from dF (by rw[hk];decide),show decide (e.kind=([115,104,105,112]:List UInt8))=Ev from dT hk]
  have g2:=q97 (z7 b.P) o.new (z7 b.L) (z7 o.uses) o.aq o.qV o.uU (z7 o.aF) (z7 o.results) (z7 o.aB)
  have f9:=A1 (r:=r) (x:={ u with ar:=Ev }) b.U (uX h1)
  simp only[cT,cond_false,g2,f9]
  by_cases h:qU (j9 .i64) r.er u.er=0
  ·rw[dT h,if_neg (fun hh=>hh h)];exact⟨_,_,rfl,rfl,xV rfl⟩
  ·rw[dF h,if_pos h];exact⟨_,_,rfl,rfl,h⟩
 ·rw[if_neg (show ¬e.kind=l3 by rw[hk];decide),if_neg (show ¬e.kind=mT by rw[hk];decide),if_neg (show ¬e.kind=oj by rw[hk];decide),if_neg (show ¬e.kind=pk by rw[hk];decide),if_neg (show ¬e.kind=kH by rw[hk];decide),show decide (e.kind=([117,115,101]:List UInt8))=I from dF (by rw[hk];decide),show decide (e.kind=([112,97,105,114]:List UInt8))=I from dF (by rw[hk];decide),show decide (e.kind=([109,101,97,115,117,114,101]:List UInt8))=I from dF (by rw[hk];decide),show decide (e.kind=([117,112,100,97,116,101]:List UInt8))=I from dF (by rw[hk];decide),show decide (e.kind=([115,104,105,112]:List UInt8))=I from dF (by rw[hk];decide)]
  have f9:=A1 (r:=r) (x:={ u with aj:=j9 .i64 (u.aj+1) }) b.U (uX h1)
  have dh:({ r with units:=E5 ((r.units.getD []).set k { u with aj:=j9 .i64 (u.aj+1) }) }:qc).er=aw r.er k { u.er with aj:=j9 .i64 (u.aj+1) }:=by rw[xV rfl];rfl
  simp only[cond_false]
  by_cases hs:u.ar=Ev
  ·rw[hs]at f9 dh ⊢
   simp only[f9]
   exact⟨_,_,rfl,rfl,dh⟩
  ·have gB:u.ar=I:=by simpa using hs
   rw[gB]
   exact⟨_,_,rfl,rfl,by decide⟩
end Go.Z
