/- Chapter 10, plain. -/
import Derived.Test.YtfopaakmgogpiaaGreatDoorE6
import Derived.Test.YtfopaakmgogpiaaGreatDoorW12
set_option maxRecDepth 100000
set_option maxHeartbeats 4000000
open Bool renaming false→I,false_eq_true→E1,not_true→E3,true→E4,not_eq_true→Gm,false_or→Gq
open Option renaming getD_some→En,some→E6,isSome_some→Gk,any_some→Gp
open List renaming length_singleton→E2,length_map→Gl,length_set→Gn,map_set→G2
namespace Go.Z
open Go Go.Abs Go.W
variable {r:qc}{e:qm}
theorem NB {a lo hi:Int}:f59 a lo hi=E6 (decide (a<lo∨hi<a)):=by
 unfold f59
 by_cases h:a<lo
 ·simp[h]
 ·simp[h]
theorem xB {o:Option Nat}:decide (dY o<0)=!o.isSome:=by
 cases o with
 |none=>rfl
 |some k=>exact dF (by show ¬(k:Int)<0;omega)
theorem j13 (b:GB r)(hk:e.kind=lU)(hc:kc e.er=0):gj (f124 r e) (apply (j9 .i64) r.er e.er):=by
 obtain⟨h1,h2⟩:=eX hk (show fM lU=E6 (2,2)from rfl) hc
 obtain⟨n0,n1,hn⟩:=gk h1
 obtain⟨v0,v1,hv⟩:=gk h2
 unfold apply oi
 rw[show e.er.kind=lU from hk,if_pos (by decide),if_pos rfl,eA hn,lB hn,uE hv,vB]
 unfold f124
 simp only[gh hn,gi hn,gi hv,jx,Gt (yf b.L),vA,NB,Ao (yf b.L)]
 rw[show decide (e.kind=([108,111,116]:List UInt8))=E4 from dT hk,DL (o:=E6 (r.au.getD [])) (by have:=lZ b.L;simp only[En,E2];omega) (by simp)]
 simp only[cT]
 cases (ku r.er n0).isSome with
 |true=>exact⟨_,_,rfl,rfl,by decide⟩
 |false=>
  by_cases h1:v1<1∨10000<v1
  ·simp only[dT h1,if_pos h1]
   exact⟨_,_,rfl,rfl,by decide⟩
  ·simp only[dF h1,if_neg h1]
   by_cases h2:64≤(r.au.getD []).length
   ·simp only[show decide (64≤((r.au.getD []).length:Int))=E4 from dT (by omega),vB,if_pos h2,E1,if_false]
    exact⟨_,_,rfl,rfl,by decide⟩
   ·simp only[show decide (64≤((r.au.getD []).length:Int))=I from dF (by omega),vB,if_neg h2,E1,if_false]
    exact⟨_,_,rfl,rfl,rfl⟩
theorem jbj (b:GB r)(hk:e.kind=mM)(hc:kc e.er=0):gj (f124 r e) (apply (j9 .i64) r.er e.er):=by
 obtain⟨h1,h2⟩:=eX hk (show fM mM=E6 (1,1)from rfl) hc
 obtain⟨n0,hn⟩:=iG h1
 unfold apply oi
 rw[show e.er.kind=mM from hk,if_pos (by decide),if_neg (by decide),if_pos rfl,eA hn]
 have hl:r.er.ae.length=(r.ae.getD []).length:=by rw[xj,Gl]
 unfold f124
 simp only[gh hn,jx,DG (yf b.P),vA,Ao (yf b.P),hl]
 rw[show decide (e.kind=([108,111,116]:List UInt8))=I from dF (by rw[hk];decide),show decide (e.kind=([112,114,111,100,117,99,116]:List UInt8))=E4 from dT hk,DL (o:=E6 (r.ae.getD [])) (by have:=lZ b.P;simp only[En,E2];omega) (by simp)]
 simp only[cT,cond_false]
 cases (kq r.er n0).isSome with
 |true=>exact⟨_,_,rfl,rfl,by decide⟩
 |false=>
  by_cases h2:16≤(r.ae.getD []).length
  ·simp only[show decide (16≤((r.ae.getD []).length:Int))=E4 from dT (by omega),if_pos h2]
   exact⟨_,_,rfl,rfl,by decide⟩
  ·simp only[show decide (16≤((r.ae.getD []).length:Int))=I from dF (by omega),if_neg h2]
   exact⟨_,_,rfl,rfl,qvw rfl⟩
theorem jnb (b:GB r)(hk:e.kind=n9)(hc:kc e.er=0):gj (f124 r e) (apply (j9 .i64) r.er e.er):=by
 obtain⟨h1,h2⟩:=eX hk (show fM n9=E6 (2,1)from rfl) hc
 obtain⟨n0,n1,hn⟩:=gk h1
 unfold apply oi
 rw[show e.er.kind=n9 from hk,if_pos (by decide),if_neg (by decide),if_neg (by decide),eA hn,lB hn]
 have hl:r.er.units.length=(r.units.getD []).length:=by rw[Ae,Gl]
 unfold f124
 simp only[gh hn,gi hn,jx,DG (yf b.P),Nr (yf b.U),vA,xB,Ao (yf b.U),hl]
 rw[show decide (e.kind=([108,111,116]:List UInt8))=I from dF (by rw[hk];decide),show decide (e.kind=([112,114,111,100,117,99,116]:List UInt8))=I from dF (by rw[hk];decide)]
 simp only[cond_false]
 unfold hH
 cases hp:kq r.er n1 with
 |none=>exact⟨_,_,rfl,rfl,by decide⟩
 |some k=>
  obtain⟨p,g1,_,g3⟩:=DQ hp
  have hd:p.er.aH.isEmpty=decide (((p.aH.getD []).length:Int)=0):=by
   show((p.aH.getD []).map qr.er).isEmpty=_
   cases p.aH.getD []with
   |nil=>rfl
   |cons x l=>simp;omega
  have oe:p.er.aH.length=(p.aH.getD []).length:=by show((p.aH.getD []).map qr.er).length=_;rw[Gl]
  simp only[Gk,E3,cond_false,iQ,z7 g1,Option.bind_some,g3,hd,oe]
  rw[DL (o:=E6 (r.units.getD [])) (by have:=lZ b.U;simp only[En,E2];omega) (by simp)]
  cases (km r.er n0).isSome with
  |true=>exact⟨_,_,rfl,rfl,by decide⟩
  |false=>
   cases decide (((p.aH.getD []).length:Int)=0)with
   |true=>exact⟨_,_,rfl,rfl,by decide⟩
   |false=>
    by_cases h2:256≤(r.units.getD []).length
    ·simp only[show decide (256≤((r.units.getD []).length:Int))=E4 from dT (by omega),if_pos h2]
     exact⟨_,_,rfl,rfl,by decide⟩
    ·simp only[show decide (256≤((r.units.getD []).length:Int))=I from dF (by omega),if_neg h2]
     exact⟨_,_,rfl,rfl,qx7 rfl⟩
theorem q6e (b:GB r){k:Nat}{x:qj}(hk:k<(r.au.getD []).length):f206 r (k:Int) x=E6 { r with au:=E6 ((r.au.getD []).set k x) }:=by
 unfold f206;rw[Vb (yf b.L) hk];rfl
theorem jmd (b:GB r){k:Nat}{x:qi}(hk:k<(r.ae.getD []).length):f205 r (k:Int) x=E6 { r with ae:=E6 ((r.ae.getD []).set k x) }:=by
 unfold f205;rw[Vb (yf b.P) hk];rfl
theorem Az (hb:(r.units.getD []).length≤BB){k:Nat}{x:qe}(hk:k<(r.units.getD []).length):f209 r (k:Int) x=E6 { r with units:=E6 ((r.units.getD []).set k x) }:=by
 unfold f209;rw[Vb (yf hb) hk];rfl
theorem uH {α:Type}{l:List α}{k:Nat}{x:α}(h:l[k]?=E6 x):k<l.length:=(List.getElem?_eq_some_iff.1 h).1
theorem jci (b:GB r)(hold:Bool)(hk:e.kind=if hold then nE else qH)(hc:kc e.er=0):gj (f126 r e) (apply (j9 .i64) r.er e.er):=by
 obtain⟨h1,h2⟩:=eX (a:=1) (c:=1) hk (by cases hold<;>rfl) hc
 obtain⟨n0,hn⟩:=iG h1
 rw[jE hk (by cases hold<;>decide) (by cases hold<;>decide),if_pos (by cases hold<;>decide)]
 unfold vC
 rw[eA hn]
 unfold f126
 simp only[gh hn,jx,Gt (yf b.L),xB]
 cases hp:ku r.er n0 with
 |none=>exact⟨_,_,rfl,rfl,by decide⟩
 |some k=>
  obtain⟨x,g1,_⟩:=GZ hp
  simp only[Gk,E3,cond_false,iQ,z7 g1,vB,g1,q6e b (uH g1),show e.er.kind=e.kind from rfl]
  cases hold with
  |true=>
   have hk:e.kind=nE:=hk
   rw[show decide (e.kind=([104,111,108,100]:List UInt8))=E4 from dT hk,show decide (e.kind=([102,114,101,101]:List UInt8))=I from dF (by rw[hk];decide),if_pos hk]
   by_cases hh:x.held=E4
   ·simp only[hh,cT,if_true];exact⟨_,_,rfl,rfl,by decide⟩
   ·rw[Gm]at hh
    simp only[hh,cT,cond_false,E1,if_false];exact⟨_,_,rfl,rfl,Nv rfl⟩
  |false=>
   have hk:e.kind=qH:=hk
   rw[show decide (e.kind=([104,111,108,100]:List UInt8))=I from dF (by rw[hk];decide),show decide (e.kind=([102,114,101,101]:List UInt8))=E4 from dT hk,if_neg (by rw[hk];decide)]
   by_cases hh:x.held=E4
   ·simp only[hh,cT,cond_false,E3,E1,if_false];exact⟨_,_,rfl,rfl,Nv rfl⟩
   ·rw[Gm]at hh
    simp only[hh,cT,cond_false,Bool.not_false,if_true];exact⟨_,_,rfl,rfl,by decide⟩
theorem q34 {α:Type}{l:List α}{p:α→Bool}{x:α}(h:l.length≤16):16<(eW p x l).length↔(!(l.any p))=E4∧16≤l.length:=by
 unfold eW
 rw[DJ]
 cases hi:l.findIdx? p with
 |some i=>
  simp only[Gn]
  constructor
  ·intro h2;omega
  ·rintro ⟨h2,_⟩;cases h2
 |none=>
  simp only[List.length_append,E2]
  constructor
  ·intro h2;exact⟨rfl,by omega⟩
  ·rintro ⟨_,h2⟩;omega
theorem Vr (b:GB r)(w:WF r.er){kk:List UInt8}(gM:kk=lV∨kk=mN∨kk=oX)(hk:e.kind=kk)(hc:kc e.er=0)(fF:∀v∈e.values.getD [],0≤v):gj (f125 r e) (apply (j9 .i64) r.er e.er):=by
 have hR:apply (j9 .i64) r.er e.er=oj r.er e.er:=by
  unfold apply
  rw[show e.er.kind=kk from hk,if_neg (by rcases gM with rfl|rfl|rfl<;>decide),if_pos gM]
 rw[hR]
 obtain⟨n0,t,hn⟩:∃n0 t,e.names.getD []=n0::t:=by
  rcases gM with rfl|rfl|rfl
  ·obtain⟨a,c,h⟩:=gk (eX (c:=2) hk rfl hc).1;exact⟨_,_,h⟩
  ·obtain⟨a,c,h⟩:=gk (eX (c:=3) hk rfl hc).1;exact⟨_,_,h⟩
  ·obtain⟨a,h⟩:=iG (eX (c:=1) hk rfl hc).1;exact⟨_,_,h⟩
 cases hp:kq r.er n0 with
 |none=>
  unfold oj
  rw[eA hn,hp]
  unfold f125
  simp only[gh hn,jx,DG (yf b.P),xB,hp]
  exact⟨_,_,rfl,rfl,by decide⟩
 |some k=>
 obtain⟨p,g1,_,g3⟩:=DQ hp
 have hm:=List.mem_of_getElem? g1
 have hD:=b.D p hm
 have hpe:p.er∈r.er.ae:=by rw[xj];exact List.mem_map_of_mem hm
 have hkn:=w.ax _ hpe
 have hkt:=w.aw _ hpe
 have Vs:dP (·.k) (p.dn.getD []):=hkn.1
 have Vt:(p.dn.getD []).length≤16:=hkn.2
 have Vu:dP (·.k) (p.dt.getD []):=hkt.1
 have Vv:(p.dt.getD []).length≤16:=hkt.2
 rw[Nw (eA hn) hp g3]
 unfold f125
 simp only[gh hn,jx,DG (yf b.P),xB,hp,Gk,E3,cond_false,iQ,z7 g1,jmd b (uH g1)]
 rcases gM with rfl|rfl|rfl
 ·obtain⟨h1,h2⟩:=eX (a:=2) (c:=2) hk rfl hc
  obtain⟨n0',n1,jP⟩:=gk h1
  obtain⟨v0,v1,hv⟩:=gk h2
  have h0:0≤v1:=fF v1 (by rw[hv];simp)
  obtain⟨v,ww,f1,f2⟩:=jlp (x:=⟨n1,v1⟩) (lZ hD.2.1) Vs h0
  have f2:v.getD []=iP (p.dn.getD []) n1 v1:=f2
  rw[if_pos hk,lB jP,uE hv]
  simp only[gi hv,gi jP,f1,show decide (e.kind=([110,101,101,100]:List UInt8))=E4 from dT hk,cT]
  by_cases hz:10000<v1
  ·rw[dT hz,if_pos (Or.inr hz)];exact⟨_,_,rfl,rfl,by decide⟩
  ·rw[dF hz,if_neg (show ¬(v1<0∨10000<v1) by omega)]
   have df:({ r with ae:=E6 ((r.ae.getD []).set k ⟨p.name,v,p.dt,p.aH⟩) }:qc).er=bE r.er k { p.er with bH:={ p.er.bH with ax:=iP (p.dn.getD []) n1 v1 } }:=by
    rw[DR rfl]
    congr 1
    simp only[qi.er,f2]
   have hlen:decide (16<((v.getD []).length:Int))=decide (16<(iP (p.dn.getD []) n1 v1).length):=by
    rw[f2]
    by_cases h:16<(iP (p.dn.getD []) n1 v1).length
    ·rw[dT h];exact dT (by omega)
    ·rw[dF h];exact dF (by omega)
   have lC:16<(iP (p.dn.getD []) n1 v1).length↔(0<v1∧(!(p.dn.getD []).any (cN n1))=E4∧16≤(p.dn.getD []).length):=by
    unfold iP
    by_cases vq:v1=0
    ·rw[if_pos vq]
     have:=List.length_filter_le (fun x=>!cN n1 x) (p.dn.getD [])
     constructor
     ·intro h;omega
     ·rintro ⟨h,_⟩;omega
    ·rw[if_neg vq,q34 Vt]
     constructor
     ·intro h;exact⟨by omega,h⟩
     ·exact fun h=>h.2
   simp only[cond_false,hlen]
   by_cases oo:16<(iP (p.dn.getD []) n1 v1).length
   ·rw[dT oo,if_pos (lC.1 oo)]
    cases ww<;>exact⟨_,_,rfl,rfl,by decide⟩
   ·rw[dF oo,if_neg (fun h=>oo (lC.2 h))]
    cases ww<;>exact⟨_,_,rfl,rfl,df⟩
 ·obtain⟨h1,h2⟩:=eX (a:=2) (c:=3) hk rfl hc
  obtain⟨n0',n1,jP⟩:=gk h1
  obtain⟨v0,v1,v2,hv⟩:=jpo h2
  obtain⟨v,ww,f1,f2⟩:=jmi (x:=⟨n1,v1,v2⟩) (lZ hD.2.2.1) Vu
  have f2:v.getD []=eW (dZ n1) ⟨n1,v1,v2⟩ (p.dt.getD []):=f2
  rw[if_neg (show ¬e.kind=lV by rw[hk];decide),if_pos hk,lB jP,uE hv,vl2 hv]
  simp only[gi hv,jry hv,gi jP,f1,show decide (e.kind=([110,101,101,100]:List UInt8))=I from dF (by rw[hk];decide),show decide (e.kind=([116,101,115,116]:List UInt8))=E4 from dT hk,cT,cond_false]
  by_cases hz:v2<v1
  ·rw[dT hz,if_pos hz];exact⟨_,_,rfl,rfl,by decide⟩
  ·rw[dF hz,if_neg hz]
   have df:({ r with ae:=E6 ((r.ae.getD []).set k ⟨p.name,p.dn,v,p.aH⟩) }:qc).er=bE r.er k { p.er with bH:={ p.er.bH with aw:=eW (dZ n1) ⟨n1,v1,v2⟩ (p.dt.getD []) } }:=by
    rw[DR rfl]
    congr 1
    simp only[qi.er,f2]
   have hlen:decide (16<((v.getD []).length:Int))=decide (16<(eW (dZ n1) ⟨n1,v1,v2⟩ (p.dt.getD [])).length):=by
    rw[f2]
    by_cases h:16<(eW (dZ n1) ⟨n1,v1,v2⟩ (p.dt.getD [])).length
    ·rw[dT h];exact dT (by omega)
    ·rw[dF h];exact dF (by omega)
   have lC:=q34 (p:=dZ n1) (x:=(⟨n1,v1,v2⟩:qk)) Vv
   simp only[cond_false,hlen]
   by_cases oo:16<(eW (dZ n1) ⟨n1,v1,v2⟩ (p.dt.getD [])).length
   ·rw[dT oo,if_pos (lC.1 oo)]
    cases ww<;>exact⟨_,_,rfl,rfl,by decide⟩
   ·rw[dF oo,if_neg (fun h=>oo (lC.2 h))]
    cases ww<;>exact⟨_,_,rfl,rfl,df⟩
 ·rw[if_neg (show ¬e.kind=lV by rw[hk];decide),if_neg (show ¬e.kind=mN by rw[hk];decide)]
  simp only[show decide (e.kind=([110,101,101,100]:List UInt8))=I from dF (by rw[hk];decide),show decide (e.kind=([116,101,115,116]:List UInt8))=I from dF (by rw[hk];decide),cond_false,Ao (yf hD.1)]
  rw[DL (o:=E6 (p.aH.getD [])) (by have:=lZ hD.1;simp only[En,E2];omega) (by simp)]
  have oe:p.er.aH.length=(p.aH.getD []).length:=by show((p.aH.getD []).map qr.er).length=_;rw[Gl]
  have hd:(p.dn.getD []).isEmpty=decide (((p.dn.getD []).length:Int)=0):=by
   cases p.dn.getD []with
   |nil=>rfl
   |cons x l=>simp;omega
  have df:({ r with ae:=E6 ((r.ae.getD []).set k ⟨p.name,p.dn,p.dt,E6 (p.aH.getD []++[⟨p.dn,p.dt⟩])⟩) }:qc).er=bE r.er k { p.er with aH:=p.er.aH++[p.er.bH] }:=by
   rw[DR rfl]
   congr 1
   simp only[qi.er,En,List.map_append,List.map_cons,List.map_nil]
   rfl
  simp only[hd,oe]
  cases decide (((p.dn.getD []).length:Int)=0)with
  |true=>exact⟨_,_,rfl,rfl,by decide⟩
  |false=>
   by_cases h2:100≤(p.aH.getD []).length
   ·simp only[show decide (100≤((p.aH.getD []).length:Int))=E4 from dT (by omega),if_pos h2,E1,if_false]
    exact⟨_,_,rfl,rfl,by decide⟩
   ·simp only[show decide (100≤((p.aH.getD []).length:Int))=I from dF (by omega),if_neg h2,E1,if_false]
    exact⟨_,_,rfl,rfl,df⟩
end Go.Z
namespace Go.Z
open Go Go.Abs Go.W
variable {r:qc}{e:qm}
theorem Vw {α:Type}(p:α→Bool):∀(l:List α) (c:Bool),l.foldl (fun c x=>if c then E4 else p x) c=(c||l.any p)
 | [],c=>by simp
 |x::l,c=>by
  rw[List.foldl_cons,Vw p l,List.any_cons]
  cases c<;>simp
theorem Vx {u:qe}(h:u.ar=I):(⟨u.name,u.product,u.version,u.uses,u.results,u.partner,I,u.ai⟩:qe)=u:=by cases u;simp only at h;rw[h]
theorem j6e (b:GB r)(w:WF r.er)(hk:e.kind=lW)(hc:kc e.er=0){k:Nat}{u:qe}{n0 n1:List UInt8}{v0 v1:Int}(hn:e.names.getD []=[n0,n1])(hv:e.values.getD []=[v0,v1])(h1:(r.units.getD [])[k]?=E6 u):gj (f207 r (k:Int) e) (xw (j9 .i64) r.er k u.er e.er):=by
 obtain⟨D,v,o⟩:=DU b w h1
 unfold xw
 rw[lB hn,uE hv,o.DT]
 unfold f207
 simp only[z7 h1,gi hn,gi hv,jx,Gt (yf b.L),xB]
 cases hq:ku r.er n1 with
 |none=>exact⟨_,_,rfl,rfl,by decide⟩
 |some j=>
 obtain⟨x,h4,_⟩:=GZ hq
 simp only[Gk,E3,cond_false,iQ,z7 h4,vB,h4]
 by_cases hs:u.ar=E4
 ·rw[hs,if_pos (show u.er.ar=E4 from hs)];exact⟨_,_,rfl,rfl,by decide⟩
 rw[if_neg (show ¬u.er.ar=E4 from hs)]
 rw[Gm]at hs
 simp only[Vx hs,o.Av]
 rw[hs]
 simp only[cond_false]
 by_cases hz:v1=0
 ·rw[dT hz,if_pos hz];exact⟨_,_,rfl,rfl,by decide⟩
 rw[dF hz,if_neg hz]
 simp only[cond_false]
 by_cases hh:x.held=E4
 ·rw[hh];exact⟨_,_,rfl,rfl,by decide⟩
 have Tq:x.held=I:=by simpa using hh
 have L:=GD (D.ax.getD []) (xC r (k:Int) e u (j:Int) x D) (fun i (c:Bool)=>(c,(i:Int))) (fun c y=>if c then E4 else cN x.kind y) (fun c=>(c,((D.ax.getD []).length:Int))) I (fun c=>by unfold xC;simp only[kr];rfl)
  (fun i c y hy hi=>by
   unfold xC
   simp only[eV hi,cT,jx,z7 hy]
   rw[il (by have:=o.ax;unfold BB at this;omega)]
   cases c<;>rfl)
 rw[Vw,Gq]at L
 have L':bf (xC r (k:Int) e u (j:Int) x D) (I,0)=E6 ((D.ax.getD []).any (cN x.kind),((D.ax.getD []).length:Int)):=L
 rw[if_neg hh]
 simp only[Tq,cond_false,L',Gp,show D.er.ax=D.ax.getD []from rfl]
 cases (D.ax.getD []).any (cN x.kind)with
 |false=>exact⟨_,_,rfl,rfl,by decide⟩
 |true=>
 simp only[cT,E3,E1,if_false]
 by_cases hl:x.left<v1
 ·rw[dT hl,if_pos hl];exact⟨_,_,rfl,rfl,by decide⟩
 rw[dF hl,if_neg hl]
 obtain⟨q,wq,q1,q2⟩:=jnd (o:=u.uses) (k:=x.name) (n:=v1) (lZ o.uses) o.keyed
 rw[q1]
 simp only[cond_false,q6e b (uH h4)]
 rw[show(⟨u.name,u.product,u.version,q,u.results,u.partner,I,u.ai⟩:qe)={ u with uses:=q } by rw[←hs]]
 have f9:=Az (r:={ r with au:=E6 ((r.au.getD []).set j ⟨x.name,x.kind,x.count,j9 .i64 (x.left-v1),I⟩) }) (x:={ u with uses:=q }) b.U (uH h1)
 have df:({ r with au:=E6 ((r.au.getD []).set j ⟨x.name,x.kind,x.count,j9 .i64 (x.left-v1),I⟩),units:=E6 ((r.units.getD []).set k { u with uses:=q }) }:qc).er=aA (cf r.er j ⟨x.name,x.kind,x.count,j9 .i64 (x.left-v1),I⟩) k { u.er with uses:=mR (j9 .i64) u.er.uses x.name v1 }:=by
  simp only[qc.er,aA,cf,En,G2]
  congr 2
  simp only[qe.er,q2]
 simp only[f9]
 cases wq<;>exact⟨_,_,rfl,rfl,df⟩
theorem js9 (b:GB r)(hk:e.kind=mO)(hc:kc e.er=0){k:Nat}{u:qe}{n0 n1:List UInt8}(hn:e.names.getD []=[n0,n1])(h1:(r.units.getD [])[k]?=E6 u):gj (f208 r (k:Int) e) (xy r.er k u.er e.er):=by
 unfold xy
 rw[lB hn]
 unfold f208
 simp only[z7 h1,gi hn,jx,Nr (yf b.U),xB]
 cases hq:km r.er n1 with
 |none=>exact⟨_,_,rfl,rfl,by decide⟩
 |some j=>
 obtain⟨v,h4,_,h5⟩:=qJ hq
 rw[iQ]
 simp only[Gk,E3,cond_false,z7 h4,h5]
 by_cases c1:k=j
 ·rw[if_pos c1,@dT ((j:Int)=(k:Int)) _ (by omega)];exact⟨_,_,rfl,rfl,by decide⟩
 rw[if_neg c1,@dF ((j:Int)=(k:Int)) _ (by omega)]
 simp only[cond_false]
 by_cases c2:u.product=v.product
 case neg=>rw[dF c2,if_pos (show u.er.product≠v.er.product∨u.er.version≠v.er.version from Or.inl c2)];exact⟨_,_,rfl,rfl,by decide⟩
 by_cases c3:u.version=v.version
 case neg=>rw[dT c2,dF c3,if_pos (show u.er.product≠v.er.product∨u.er.version≠v.er.version from Or.inr c3)];exact⟨_,_,rfl,rfl,by decide⟩
 rw[if_neg (show ¬(u.er.product≠v.er.product∨u.er.version≠v.er.version)from fun h=>h.elim (fun h=>h c2) (fun h=>h c3)),dT c2,dT c3]
 simp only[cT]
 by_cases c4:u.ar=E4
 ·rw[if_pos (show u.er.ar=E4∨v.er.ar=E4 from Or.inl c4),c4];exact⟨_,_,rfl,rfl,by decide⟩
 by_cases c5:v.ar=E4
 ·rw[if_pos (show u.er.ar=E4∨v.er.ar=E4 from Or.inr c5)]
  have NC:u.ar=I:=by simpa using c4
  rw[NC,c5];exact⟨_,_,rfl,rfl,by decide⟩
 have NC:u.ar=I:=by simpa using c4
 have c5':v.ar=I:=by simpa using c5
 rw[if_neg (show ¬(u.er.ar=E4∨v.er.ar=E4)from fun h=>h.elim c4 c5)]
 have f1:=Az (r:=r) (x:={ u with partner:=v.name }) b.U (uH h1)
 have f2:=Az (r:={ r with units:=E6 ((r.units.getD []).set k { u with partner:=v.name }) }) (k:=j) (x:={ v with partner:=u.name }) (by rw[En,Gn];exact b.U) (by rw[En,Gn];exact uH h4)
 have df:({ r with units:=E6 (((r.units.getD []).set k { u with partner:=v.name }).set j { v with partner:=u.name }) }:qc).er=aA (aA r.er k { u.er with partner:=v.er.name }) j { v.er with partner:=u.er.name }:=by
  simp only[qc.er,aA,En,G2]
  rfl
 rw[show(⟨u.name,u.product,u.version,u.uses,u.results,v.name,I,u.ai⟩:qe)={ u with partner:=v.name } by rw[←NC],show(⟨v.name,v.product,v.version,v.uses,v.results,u.name,I,v.ai⟩:qe)={ v with partner:=u.name } by rw[←c5']]
 simp only[f1,f2]
 rw[NC,c5']at df ⊢
 simp only[cond_false]
 by_cases c6:u.partner=[]
 case neg=>rw[if_pos (show u.er.partner≠[]∨v.er.partner≠[]from Or.inl c6),dF c6];exact⟨_,_,rfl,rfl,by decide⟩
 by_cases c7:v.partner=[]
 case neg=>rw[if_pos (show u.er.partner≠[]∨v.er.partner≠[]from Or.inr c7),dT c6,dF c7];exact⟨_,_,rfl,rfl,by decide⟩
 rw[if_neg (show ¬(u.er.partner≠[]∨v.er.partner≠[])from fun h=>h.elim (fun h=>h c6) (fun h=>h c7)),dT c6,dT c7]
 exact⟨_,_,rfl,rfl,df⟩
theorem DY (b:GB r)(w:WF r.er){kk:List UInt8}(gM:kk=lW∨kk=mO∨kk=oc∨kk=oY∨kk=jW∨kk=xi)(hk:e.kind=kk)(hc:kc e.er=0):gj (f127 r e) (apply (j9 .i64) r.er e.er):=by
 rw[jE hk (by rcases gM with rfl|rfl|rfl|rfl|rfl|rfl<;>decide) (by rcases gM with rfl|rfl|rfl|rfl|rfl|rfl<;>decide),if_neg (by rcases gM with rfl|rfl|rfl|rfl|rfl|rfl<;>decide)]
 obtain⟨n0,t,hn⟩:∃n0 t,e.names.getD []=n0::t:=by
  rcases gM with rfl|rfl|rfl|rfl|rfl|rfl
  ·obtain⟨a,c,h⟩:=gk (eX (c:=2) hk rfl hc).1;exact⟨_,_,h⟩
  ·obtain⟨a,c,h⟩:=gk (eX (c:=1) hk rfl hc).1;exact⟨_,_,h⟩
  ·obtain⟨a,c,h⟩:=gk (eX (c:=2) hk rfl hc).1;exact⟨_,_,h⟩
  ·obtain⟨a,h⟩:=iG (eX (c:=1) hk rfl hc).1;exact⟨_,_,h⟩
  ·obtain⟨a,h⟩:=iG (eX (c:=1) hk rfl hc).1;exact⟨_,_,h⟩
  ·obtain⟨a,h⟩:=iG (eX (c:=1) hk rfl hc).1;exact⟨_,_,h⟩
 cases hp:km r.er n0 with
 |none=>
  unfold ol
  rw[eA hn,hp]
  unfold f127
  simp only[gh hn,jx,Nr (yf b.U),xB,hp]
  exact⟨_,_,rfl,rfl,by decide⟩
 |some k=>
 obtain⟨u,h1,_,h3⟩:=qJ hp
 obtain⟨D,v,o⟩:=DU b w h1
 rw[vD (eA hn) hp h3]
 unfold f127
 simp only[gh hn,jx,Nr (yf b.U),xB,hp,Gk,E3,cond_false,iQ,z7 h1]
 rcases gM with rfl|rfl|rfl|rfl|rfl|rfl
 ·obtain⟨g1,g2⟩:=eX (a:=2) (c:=2) hk rfl hc
  obtain⟨a,c,jP⟩:=gk g1
  obtain⟨v0,v1,hv⟩:=gk g2
  rw[if_pos hk,show decide (e.kind=([117,115,101]:List UInt8))=E4 from dT hk]
  obtain⟨r',cc,q1,q2⟩:=j6e b w hk hc jP hv h1
  simp only[cT,q1]
  exact⟨_,_,rfl,q2⟩
 ·obtain⟨g1,g2⟩:=eX (a:=2) (c:=1) hk rfl hc
  obtain⟨a,c,jP⟩:=gk g1
  rw[if_neg (show ¬e.kind=lW by rw[hk];decide),if_pos hk,show decide (e.kind=([117,115,101]:List UInt8))=I from dF (by rw[hk];decide),show decide (e.kind=([112,97,105,114]:List UInt8))=E4 from dT hk]
  obtain⟨r',cc,q1,q2⟩:=js9 b hk hc jP h1
  simp only[cT,cond_false,q1]
  exact⟨_,_,rfl,q2⟩
 ·obtain⟨g1,g2⟩:=eX (a:=2) (c:=2) hk rfl hc
  obtain⟨a,n1,jP⟩:=gk g1
  obtain⟨v0,v1,hv⟩:=gk g2
  rw[if_neg (show ¬e.kind=lW by rw[hk];decide),if_neg (show ¬e.kind=mO by rw[hk];decide),if_pos hk,show decide (e.kind=([117,115,101]:List UInt8))=I from dF (by rw[hk];decide),show decide (e.kind=([112,97,105,114]:List UInt8))=I from dF (by rw[hk];decide),show decide (e.kind=([109,101,97,115,117,114,101]:List UInt8))=E4 from dT hk,lB jP,uE hv,o.DT]
  simp only[cT,cond_false]
  by_cases hs:u.ar=E4
  ·rw[hs];exact⟨_,_,rfl,rfl,by decide⟩
  have gA:u.ar=I:=by simpa using hs
  have L:=GD (D.aw.getD []) (xD r e (k:Int) u D) (fun i (c:Bool)=>(c,(i:Int))) (fun c y=>if c then E4 else dZ n1 y) (fun c=>(c,((D.aw.getD []).length:Int))) I (fun c=>by unfold xD;simp only[kr];rfl)
   (fun i c y hy hi=>by
    unfold xD
    simp only[eV hi,cT,jx,z7 hy,gi jP]
    rw[il (by have:=o.aw;unfold BB at this;omega)]
    cases c<;>rfl)
  rw[Vw,Gq]at L
  have L':bf (xD r e (k:Int) u D) (I,0)=E6 ((D.aw.getD []).any (dZ n1),((D.aw.getD []).length:Int)):=L
  rw[if_neg hs]
  simp only[Vx gA,o.Av,L',gi jP,gi hv,Ao (yf o.results)]
  rw[gA,DL (o:=E6 (u.results.getD [])) (by have:=lZ o.results;simp only[En,E2];omega) (by simp)]
  simp only[cond_false,Gp,show D.er.aw=D.aw.getD []from rfl]
  cases (D.aw.getD []).any (dZ n1)with
  |false=>exact⟨_,_,rfl,rfl,by decide⟩
  |true=>
   have f9:=Az (r:=r) (x:={ u with results:=E6 (u.results.getD []++[⟨n1,u.version,v1⟩]) }) b.U (uH h1)
   have df:({ r with units:=E6 ((r.units.getD []).set k { u with results:=E6 (u.results.getD []++[⟨n1,u.version,v1⟩]) }) }:qc).er=aA r.er k { u.er with results:=u.results.getD []++[⟨n1,u.version,v1⟩] }:=by rw[xu rfl];rfl
   rw[gA]at f9
   by_cases h2:64≤(u.results.getD []).length
   ·simp only[show decide (64≤((u.results.getD []).length:Int))=E4 from dT (by omega),if_pos h2,E3,E1,if_false,cT]
    exact⟨_,_,rfl,rfl,by decide⟩
   ·simp only[show decide (64≤((u.results.getD []).length:Int))=I from dF (by omega),if_neg h2,E3,E1,if_false,cT,cond_false,En,f9]
    rw[gA]at df
    exact⟨_,_,rfl,rfl,df⟩
 ·rw[if_neg (show ¬e.kind=lW by rw[hk];decide),if_neg (show ¬e.kind=mO by rw[hk];decide),if_neg (show ¬e.kind=oc by rw[hk];decide),if_pos hk,show decide (e.kind=([117,115,101]:List UInt8))=I from dF (by rw[hk];decide),show decide (e.kind=([112,97,105,114]:List UInt8))=I from dF (by rw[hk];decide),show decide (e.kind=([109,101,97,115,117,114,101]:List UInt8))=I from dF (by rw[hk];decide),show decide (e.kind=([117,112,100,97,116,101]:List UInt8))=E4 from dT hk,o.new]
  simp only[cT,cond_false]
  by_cases hs:u.ar=E4
  ·rw[hs];exact⟨_,_,rfl,rfl,by decide⟩
  have gA:u.ar=I:=by simpa using hs
  rw[if_neg hs]
  have f9:=Az (r:=r) (x:={ u with version:=v }) b.U (uH h1)
  have df:({ r with units:=E6 ((r.units.getD []).set k { u with version:=v }) }:qc).er=aA r.er k { u.er with version:=v }:=by rw[xu rfl];rfl
  rw[gA]at f9 df
  simp only[Vx gA,(Ns (yf b.P) o.new).2,f9]
  rw[gA]
  simp only[cond_false]
  by_cases h:u.version=v
  ·rw[dT h,if_pos h];exact⟨_,_,rfl,rfl,by decide⟩
  ·rw[dF h,if_neg h];exact⟨_,_,rfl,rfl,df⟩
 ·rw[if_neg (show ¬e.kind=lW by rw[hk];decide),if_neg (show ¬e.kind=mO by rw[hk];decide),if_neg (show ¬e.kind=oc by rw[hk];decide),if_neg (show ¬e.kind=oY by rw[hk];decide),if_pos hk,show decide (e.kind=([117,115,101]:List UInt8))=I from dF (by rw[hk];decide),show decide (e.kind=([112,97,105,114]:List UInt8))=I from dF (by rw[hk];decide),show decide (e.kind=([109,101,97,115,117,114,101]:List UInt8))=I from dF (by rw[hk];decide),show decide (e.kind=([117,112,100,97,116,101]:List UInt8))=I from dF (by rw[hk];decide),show decide (e.kind=([115,104,105,112]:List UInt8))=E4 from dT hk]
  have g2:=jq2 (yf b.P) o.new (yf b.L) (yf o.uses) o.au o.Av o.DT (yf o.ax) (yf o.results) (yf o.aw)
  have f9:=Az (r:=r) (x:={ u with ar:=E4 }) b.U (uH h1)
  simp only[cT,cond_false,g2,f9]
  by_cases h:uD (j9 .i64) r.er u.er=0
  ·rw[dT h,if_neg (fun hh=>hh h)];exact⟨_,_,rfl,rfl,xu rfl⟩
  ·rw[dF h,if_pos h];exact⟨_,_,rfl,rfl,h⟩
 ·rw[if_neg (show ¬e.kind=lW by rw[hk];decide),if_neg (show ¬e.kind=mO by rw[hk];decide),if_neg (show ¬e.kind=oc by rw[hk];decide),if_neg (show ¬e.kind=oY by rw[hk];decide),if_neg (show ¬e.kind=jW by rw[hk];decide),show decide (e.kind=([117,115,101]:List UInt8))=I from dF (by rw[hk];decide),show decide (e.kind=([112,97,105,114]:List UInt8))=I from dF (by rw[hk];decide),show decide (e.kind=([109,101,97,115,117,114,101]:List UInt8))=I from dF (by rw[hk];decide),show decide (e.kind=([117,112,100,97,116,101]:List UInt8))=I from dF (by rw[hk];decide),show decide (e.kind=([115,104,105,112]:List UInt8))=I from dF (by rw[hk];decide)]
  have f9:=Az (r:=r) (x:={ u with ai:=j9 .i64 (u.ai+1) }) b.U (uH h1)
  have df:({ r with units:=E6 ((r.units.getD []).set k { u with ai:=j9 .i64 (u.ai+1) }) }:qc).er=aA r.er k { u.er with ai:=j9 .i64 (u.ai+1) }:=by rw[xu rfl];rfl
  simp only[cond_false]
  by_cases hs:u.ar=E4
  ·rw[hs]at f9 df ⊢
   simp only[f9]
   exact⟨_,_,rfl,rfl,df⟩
  ·have gA:u.ar=I:=by simpa using hs
   rw[gA]
   exact⟨_,_,rfl,rfl,by decide⟩
end Go.Z
