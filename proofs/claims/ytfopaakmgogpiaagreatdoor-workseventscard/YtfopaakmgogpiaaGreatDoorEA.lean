/- Chapter 10, plain. -/
import Derived.Test.YtfopaakmgogpiaaGreatDoorE9
import Derived.Test.YtfopaakmgogpiaaGreatDoorW12
set_option linter.unusedVariables false
set_option linter.unusedSimpArgs false
set_option maxRecDepth 100000
set_option maxHeartbeats 4000000
open Bool renaming false→I,false_eq_true→En,not_true→E1,true→E3,not_eq_true→E9,false_or→Gc
open Option renaming getD_some→Ef,some→E4,isSome_some→E6,any_some→Gb
open List renaming length_singleton→E0,length_map→E7,length_set→Ga,map_set→Gd
namespace Go.Z
open Go Go.Abs Go.W
variable {r:qc}{e:ql}
theorem Vt {a lo hi:Int}:f59 a lo hi=E4 (decide (a<lo∨hi<a)):=by
 unfold f59
 by_cases h:a<lo
 ·simp[h]
 ·simp[h]
theorem xO {o:Option Nat}:decide (ec o<0)=!o.isSome:=by
 cases o with
 |none=>rfl
 |some k=>exact dF (by show ¬(k:Int)<0;omega)
theorem jw7 (b:GB r)(hk:e.kind=l5)(hc:yt e.er=0):gk (f124 r e) (apply (j6 .i64) r.er e.er):=by
 obtain⟨h1,h2⟩:=eY hk (show fS l5=E4 (2,2)from rfl) hc
 obtain⟨n0,n1,hn⟩:=gm h1
 obtain⟨v0,v1,hv⟩:=gm h2
 unfold apply oA
 rw[show e.er.kind=l5 from hk,if_pos (by decide),if_pos rfl,eI hn,lI hn,uK hv,vL]
 unfold f124
 simp only[gF hn,gj hn,gj hv,jw,GK (yf b.L),vK,Vt,AG (yf b.L)]
 rw[show decide (e.kind=([108,111,116]:List UInt8))=E3 from dT hk,D0 (o:=E4 (r.au.getD [])) (by have:=l9 b.L;simp only[Ef,E0];omega) (by simp)]
 simp only[cT]
 cases (ku r.er n0).isSome with
 |true=>exact⟨_,_,rfl,rfl,by decide⟩
 |false=>
  by_cases h1:v1<1∨10000<v1
  ·simp only[dT h1,if_pos h1]
   exact⟨_,_,rfl,rfl,by decide⟩
  ·simp only[dF h1,if_neg h1]
   by_cases h2:64≤(r.au.getD []).length
   ·simp only[show decide (64≤((r.au.getD []).length:Int))=E3 from dT (by omega),vL,if_pos h2,En,if_false]
    exact⟨_,_,rfl,rfl,by decide⟩
   ·simp only[show decide (64≤((r.au.getD []).length:Int))=I from dF (by omega),vL,if_neg h2,En,if_false]
    exact⟨_,_,rfl,rfl,rfl⟩
theorem jb1 (b:GB r)(hk:e.kind=mR)(hc:yt e.er=0):gk (f124 r e) (apply (j6 .i64) r.er e.er):=by
 obtain⟨h1,h2⟩:=eY hk (show fS mR=E4 (1,1)from rfl) hc
 obtain⟨n0,hn⟩:=iH h1
 unfold apply oA
 rw[show e.er.kind=mR from hk,if_pos (by decide),if_neg (by decide),if_pos rfl,eI hn]
 have hl:r.er.ae.length=(r.ae.getD []).length:=by rw[xB,E7]
 unfold f124
 simp only[gF hn,jw,DV (yf b.P),vK,AG (yf b.P),hl]
 rw[show decide (e.kind=([108,111,116]:List UInt8))=I from dF (by rw[hk];decide),show decide (e.kind=([112,114,111,100,117,99,116]:List UInt8))=E3 from dT hk,D0 (o:=E4 (r.ae.getD [])) (by have:=l9 b.P;simp only[Ef,E0];omega) (by simp)]
 simp only[cT,cond_false]
 cases (kq r.er n0).isSome with
 |true=>exact⟨_,_,rfl,rfl,by decide⟩
 |false=>
  by_cases h2:16≤(r.ae.getD []).length
  ·simp only[show decide (16≤((r.ae.getD []).length:Int))=E3 from dT (by omega),if_pos h2]
   exact⟨_,_,rfl,rfl,by decide⟩
  ·simp only[show decide (16≤((r.ae.getD []).length:Int))=I from dF (by omega),if_neg h2]
   exact⟨_,_,rfl,rfl,qyg rfl⟩
theorem jmj (b:GB r)(hk:e.kind=oq)(hc:yt e.er=0):gk (f124 r e) (apply (j6 .i64) r.er e.er):=by
 obtain⟨h1,h2⟩:=eY hk (show fS oq=E4 (2,1)from rfl) hc
 obtain⟨n0,n1,hn⟩:=gm h1
 unfold apply oA
 rw[show e.er.kind=oq from hk,if_pos (by decide),if_neg (by decide),if_neg (by decide),eI hn,lI hn]
 have hl:r.er.units.length=(r.units.getD []).length:=by rw[Av,E7]
 unfold f124
 simp only[gF hn,gj hn,jw,DV (yf b.P),Np (yf b.U),vK,xO,AG (yf b.U),hl]
 rw[show decide (e.kind=([108,111,116]:List UInt8))=I from dF (by rw[hk];decide),show decide (e.kind=([112,114,111,100,117,99,116]:List UInt8))=I from dF (by rw[hk];decide)]
 simp only[cond_false]
 unfold hM
 cases hp:kq r.er n1 with
 |none=>exact⟨_,_,rfl,rfl,by decide⟩
 |some k=>
  obtain⟨p,g1,_,g3⟩:=D3 hp
  have hd:p.er.aH.isEmpty=decide (((p.aH.getD []).length:Int)=0):=by
   show((p.aH.getD []).map qr.er).isEmpty=_
   cases p.aH.getD []with
   |nil=>rfl
   |cons x l=>simp;omega
  have ox:p.er.aH.length=(p.aH.getD []).length:=by show((p.aH.getD []).map qr.er).length=_;rw[E7]
  simp only[E6,E1,cond_false,iV,z6 g1,Option.bind_some,g3,hd,ox]
  rw[D0 (o:=E4 (r.units.getD [])) (by have:=l9 b.U;simp only[Ef,E0];omega) (by simp)]
  cases (kl r.er n0).isSome with
  |true=>exact⟨_,_,rfl,rfl,by decide⟩
  |false=>
   cases decide (((p.aH.getD []).length:Int)=0)with
   |true=>exact⟨_,_,rfl,rfl,by decide⟩
   |false=>
    by_cases h2:256≤(r.units.getD []).length
    ·simp only[show decide (256≤((r.units.getD []).length:Int))=E3 from dT (by omega),if_pos h2]
     exact⟨_,_,rfl,rfl,by decide⟩
    ·simp only[show decide (256≤((r.units.getD []).length:Int))=I from dF (by omega),if_neg h2]
     exact⟨_,_,rfl,rfl,qvr rfl⟩
theorem q64 (b:GB r){k:Nat}{x:qk}(hk:k<(r.au.getD []).length):f206 r (k:Int) x=E4 { r with au:=E4 ((r.au.getD []).set k x) }:=by
 unfold f206;rw[Vd (yf b.L) hk];rfl
theorem jme (b:GB r){k:Nat}{x:qi}(hk:k<(r.ae.getD []).length):f205 r (k:Int) x=E4 { r with ae:=E4 ((r.ae.getD []).set k x) }:=by
 unfold f205;rw[Vd (yf b.P) hk];rfl
theorem AV (hb:(r.units.getD []).length≤BB){k:Nat}{x:qf}(hk:k<(r.units.getD []).length):f209 r (k:Int) x=E4 { r with units:=E4 ((r.units.getD []).set k x) }:=by
 unfold f209;rw[Vd (yf hb) hk];rfl
theorem uN {α:Type}{l:List α}{k:Nat}{x:α}(h:l[k]?=E4 x):k<l.length:=(List.getElem?_eq_some_iff.1 h).1
theorem jbx (b:GB r)(hold:Bool)(hk:e.kind=if hold then nM else qO)(hc:yt e.er=0):gk (f126 r e) (apply (j6 .i64) r.er e.er):=by
 obtain⟨h1,h2⟩:=eY (a:=1) (c:=1) hk (by cases hold<;>rfl) hc
 obtain⟨n0,hn⟩:=iH h1
 rw[jL hk (by cases hold<;>decide) (by cases hold<;>decide),if_pos (by cases hold<;>decide)]
 unfold vM
 rw[eI hn]
 unfold f126
 simp only[gF hn,jw,GK (yf b.L),xO]
 cases hp:ku r.er n0 with
 |none=>exact⟨_,_,rfl,rfl,by decide⟩
 |some k=>
  obtain⟨x,g1,_⟩:=He hp
  simp only[E6,E1,cond_false,iV,z6 g1,vL,g1,q64 b (uN g1),show e.er.kind=e.kind from rfl]
  cases hold with
  |true=>
   have hk:e.kind=nM:=hk
   rw[show decide (e.kind=([104,111,108,100]:List UInt8))=E3 from dT hk,show decide (e.kind=([102,114,101,101]:List UInt8))=I from dF (by rw[hk];decide),if_pos hk]
   by_cases hh:x.held=E3
   ·simp only[hh,cT,if_true];exact⟨_,_,rfl,rfl,by decide⟩
   ·rw[E9]at hh
    simp only[hh,cT,cond_false,En,if_false];exact⟨_,_,rfl,rfl,Nt rfl⟩
  |false=>
   have hk:e.kind=qO:=hk
   rw[show decide (e.kind=([104,111,108,100]:List UInt8))=I from dF (by rw[hk];decide),show decide (e.kind=([102,114,101,101]:List UInt8))=E3 from dT hk,if_neg (by rw[hk];decide)]
   by_cases hh:x.held=E3
   ·simp only[hh,cT,cond_false,E1,En,if_false];exact⟨_,_,rfl,rfl,Nt rfl⟩
   ·rw[E9]at hh
    simp only[hh,cT,cond_false,Bool.not_false,if_true];exact⟨_,_,rfl,rfl,by decide⟩
theorem q13 {α:Type}{l:List α}{p:α→Bool}{x:α}(h:l.length≤16):16<(eX p x l).length↔(!(l.any p))=E3∧16≤l.length:=by
 unfold eX
 rw[DY]
 cases hi:l.findIdx? p with
 |some i=>
  simp only[Ga]
  constructor
  ·intro h2;omega
  ·rintro ⟨h2,_⟩;cases h2
 |none=>
  simp only[List.length_append,E0]
  constructor
  ·intro h2;exact⟨rfl,by omega⟩
  ·rintro ⟨_,h2⟩;omega
theorem Vu (b:GB r)(w:WF r.er){kk:List UInt8}(gP:kk=l6∨kk=mS∨kk=po)(hk:e.kind=kk)(hc:yt e.er=0)(iO:∀v∈e.values.getD [],0≤v):gk (f125 r e) (apply (j6 .i64) r.er e.er):=by
 have hR:apply (j6 .i64) r.er e.er=oB r.er e.er:=by
  unfold apply
  rw[show e.er.kind=kk from hk,if_neg (by rcases gP with rfl|rfl|rfl<;>decide),if_pos gP]
 rw[hR]
 obtain⟨n0,t,hn⟩:∃n0 t,e.names.getD []=n0::t:=by
  rcases gP with rfl|rfl|rfl
  ·obtain⟨a,c,h⟩:=gm (eY (c:=2) hk rfl hc).1;exact⟨_,_,h⟩
  ·obtain⟨a,c,h⟩:=gm (eY (c:=3) hk rfl hc).1;exact⟨_,_,h⟩
  ·obtain⟨a,h⟩:=iH (eY (c:=1) hk rfl hc).1;exact⟨_,_,h⟩
 cases hp:kq r.er n0 with
 |none=>
  unfold oB
  rw[eI hn,hp]
  unfold f125
  simp only[gF hn,jw,DV (yf b.P),xO,hp]
  exact⟨_,_,rfl,rfl,by decide⟩
 |some k=>
 obtain⟨p,g1,_,g3⟩:=D3 hp
 have hm:=List.mem_of_getElem? g1
 have hD:=b.D p hm
 have hpe:p.er∈r.er.ae:=by rw[xB];exact List.mem_map_of_mem hm
 have hkn:=w.ax _ hpe
 have hkt:=w.aw _ hpe
 have Vv:k9 (·.k) (p.dn.getD []):=hkn.1
 have Vw:(p.dn.getD []).length≤16:=hkn.2
 have Vx:k9 (·.k) (p.dt.getD []):=hkt.1
 have Vy:(p.dt.getD []).length≤16:=hkt.2
 rw[Nu (eI hn) hp g3]
 unfold f125
 simp only[gF hn,jw,DV (yf b.P),xO,hp,E6,E1,cond_false,iV,z6 g1,jme b (uN g1)]
 rcases gP with rfl|rfl|rfl
 ·obtain⟨h1,h2⟩:=eY (a:=2) (c:=2) hk rfl hc
  obtain⟨n0',n1,jX⟩:=gm h1
  obtain⟨v0,v1,hv⟩:=gm h2
  have h0:0≤v1:=iO v1 (by rw[hv];simp)
  obtain⟨v,ww,f1,f2⟩:=jmp (x:=⟨n1,v1⟩) (l9 hD.2.1) Vv h0
  have f2:v.getD []=iU (p.dn.getD []) n1 v1:=f2
  rw[if_pos hk,lI jX,uK hv]
  simp only[gj hv,gj jX,f1,show decide (e.kind=([110,101,101,100]:List UInt8))=E3 from dT hk,cT]
  by_cases hz:10000<v1
  ·rw[dT hz,if_pos (Or.inr hz)];exact⟨_,_,rfl,rfl,by decide⟩
  ·rw[dF hz,if_neg (show ¬(v1<0∨10000<v1) by omega)]
   have dj:({ r with ae:=E4 ((r.ae.getD []).set k ⟨p.name,v,p.dt,p.aH⟩) }:qc).er=bG r.er k { p.er with bJ:={ p.er.bJ with ax:=iU (p.dn.getD []) n1 v1 } }:=by
    rw[D4 rfl]
    congr 1
    simp only[qi.er,f2]
   have hlen:decide (16<((v.getD []).length:Int))=decide (16<(iU (p.dn.getD []) n1 v1).length):=by
    rw[f2]
    by_cases h:16<(iU (p.dn.getD []) n1 v1).length
    ·rw[dT h];exact dT (by omega)
    ·rw[dF h];exact dF (by omega)
   have lJ:16<(iU (p.dn.getD []) n1 v1).length↔(0<v1∧(!(p.dn.getD []).any (cO n1))=E3∧16≤(p.dn.getD []).length):=by
    unfold iU
    by_cases vD:v1=0
    ·rw[if_pos vD]
     have:=List.length_filter_le (fun x=>!cO n1 x) (p.dn.getD [])
     constructor
     ·intro h;omega
     ·rintro ⟨h,_⟩;omega
    ·rw[if_neg vD,q13 Vw]
     constructor
     ·intro h;exact⟨by omega,h⟩
     ·exact fun h=>h.2
   simp only[cond_false,hlen]
   by_cases mY:16<(iU (p.dn.getD []) n1 v1).length
   ·rw[dT mY,if_pos (lJ.1 mY)]
    cases ww<;>exact⟨_,_,rfl,rfl,by decide⟩
   ·rw[dF mY,if_neg (fun h=>mY (lJ.2 h))]
    cases ww<;>exact⟨_,_,rfl,rfl,dj⟩
 ·obtain⟨h1,h2⟩:=eY (a:=2) (c:=3) hk rfl hc
  obtain⟨n0',n1,jX⟩:=gm h1
  obtain⟨v0,v1,v2,hv⟩:=jqv h2
  obtain⟨v,ww,f1,f2⟩:=jla (x:=⟨n1,v1,v2⟩) (l9 hD.2.2.1) Vx
  have f2:v.getD []=eX (ef n1) ⟨n1,v1,v2⟩ (p.dt.getD []):=f2
  rw[if_neg (show ¬e.kind=l6 by rw[hk];decide),if_pos hk,lI jX,uK hv,vl2 hv]
  simp only[gj hv,juu hv,gj jX,f1,show decide (e.kind=([110,101,101,100]:List UInt8))=I from dF (by rw[hk];decide),show decide (e.kind=([116,101,115,116]:List UInt8))=E3 from dT hk,cT,cond_false]
  by_cases hz:v2<v1
  ·rw[dT hz,if_pos hz];exact⟨_,_,rfl,rfl,by decide⟩
  ·rw[dF hz,if_neg hz]
   have dj:({ r with ae:=E4 ((r.ae.getD []).set k ⟨p.name,p.dn,v,p.aH⟩) }:qc).er=bG r.er k { p.er with bJ:={ p.er.bJ with aw:=eX (ef n1) ⟨n1,v1,v2⟩ (p.dt.getD []) } }:=by
    rw[D4 rfl]
    congr 1
    simp only[qi.er,f2]
   have hlen:decide (16<((v.getD []).length:Int))=decide (16<(eX (ef n1) ⟨n1,v1,v2⟩ (p.dt.getD [])).length):=by
    rw[f2]
    by_cases h:16<(eX (ef n1) ⟨n1,v1,v2⟩ (p.dt.getD [])).length
    ·rw[dT h];exact dT (by omega)
    ·rw[dF h];exact dF (by omega)
   have lJ:=q13 (p:=ef n1) (x:=(⟨n1,v1,v2⟩:qj)) Vy
   simp only[cond_false,hlen]
   by_cases mY:16<(eX (ef n1) ⟨n1,v1,v2⟩ (p.dt.getD [])).length
   ·rw[dT mY,if_pos (lJ.1 mY)]
    cases ww<;>exact⟨_,_,rfl,rfl,by decide⟩
   ·rw[dF mY,if_neg (fun h=>mY (lJ.2 h))]
    cases ww<;>exact⟨_,_,rfl,rfl,dj⟩
 ·rw[if_neg (show ¬e.kind=l6 by rw[hk];decide),if_neg (show ¬e.kind=mS by rw[hk];decide)]
  simp only[show decide (e.kind=([110,101,101,100]:List UInt8))=I from dF (by rw[hk];decide),show decide (e.kind=([116,101,115,116]:List UInt8))=I from dF (by rw[hk];decide),cond_false,AG (yf hD.1)]
  rw[D0 (o:=E4 (p.aH.getD [])) (by have:=l9 hD.1;simp only[Ef,E0];omega) (by simp)]
  have ox:p.er.aH.length=(p.aH.getD []).length:=by show((p.aH.getD []).map qr.er).length=_;rw[E7]
  have hd:(p.dn.getD []).isEmpty=decide (((p.dn.getD []).length:Int)=0):=by
   cases p.dn.getD []with
   |nil=>rfl
   |cons x l=>simp;omega
  have dj:({ r with ae:=E4 ((r.ae.getD []).set k ⟨p.name,p.dn,p.dt,E4 (p.aH.getD []++[⟨p.dn,p.dt⟩])⟩) }:qc).er=bG r.er k { p.er with aH:=p.er.aH++[p.er.bJ] }:=by
   rw[D4 rfl]
   congr 1
   simp only[qi.er,Ef,List.map_append,List.map_cons,List.map_nil]
   rfl
  simp only[hd,ox]
  cases decide (((p.dn.getD []).length:Int)=0)with
  |true=>exact⟨_,_,rfl,rfl,by decide⟩
  |false=>
   by_cases h2:100≤(p.aH.getD []).length
   ·simp only[show decide (100≤((p.aH.getD []).length:Int))=E3 from dT (by omega),if_pos h2,En,if_false]
    exact⟨_,_,rfl,rfl,by decide⟩
   ·simp only[show decide (100≤((p.aH.getD []).length:Int))=I from dF (by omega),if_neg h2,En,if_false]
    exact⟨_,_,rfl,rfl,dj⟩
end Go.Z
namespace Go.Z
open Go Go.Abs Go.W
variable {r:qc}{e:ql}
theorem Vz {α:Type}(p:α→Bool):∀(l:List α) (c:Bool),l.foldl (fun c x=>if c then E3 else p x) c=(c||l.any p)
 | [],c=>by simp
 |x::l,c=>by
  rw[List.foldl_cons,Vz p l,List.any_cons]
  cases c<;>simp
theorem VA {u:qf}(h:u.aq=I):(⟨u.name,u.product,u.version,u.uses,u.results,u.partner,I,u.ai⟩:qf)=u:=by cases u;simp only at h;rw[h]
theorem jws (b:GB r)(w:WF r.er)(hk:e.kind=l7)(hc:yt e.er=0){k:Nat}{u:qf}{n0 n1:List UInt8}{v0 v1:Int}(hn:e.names.getD []=[n0,n1])(hv:e.values.getD []=[v0,v1])(h1:(r.units.getD [])[k]?=E4 u):gk (f207 r (k:Int) e) (xM (j6 .i64) r.er k u.er e.er):=by
 obtain⟨D,v,o⟩:=D7 b w h1
 unfold xM
 rw[lI hn,uK hv,o.D6]
 unfold f207
 simp only[z6 h1,gj hn,gj hv,jw,GK (yf b.L),xO]
 cases hq:ku r.er n1 with
 |none=>exact⟨_,_,rfl,rfl,by decide⟩
 |some j=>
 obtain⟨x,h4,_⟩:=He hq
 simp only[E6,E1,cond_false,iV,z6 h4,vL,h4]
 by_cases hs:u.aq=E3
 ·rw[hs,if_pos (show u.er.aq=E3 from hs)];exact⟨_,_,rfl,rfl,by decide⟩
 rw[if_neg (show ¬u.er.aq=E3 from hs)]
 rw[E9]at hs
 simp only[VA hs,o.AP]
 rw[hs]
 simp only[cond_false]
 by_cases hz:v1=0
 ·rw[dT hz,if_pos hz];exact⟨_,_,rfl,rfl,by decide⟩
 rw[dF hz,if_neg hz]
 simp only[cond_false]
 by_cases hh:x.held=E3
 ·rw[hh];exact⟨_,_,rfl,rfl,by decide⟩
 have Tp:x.held=I:=by simpa using hh
 have L:=GU (D.ax.getD []) (xP r (k:Int) e u (j:Int) x D) (fun i (c:Bool)=>(c,(i:Int))) (fun c y=>if c then E3 else cO x.kind y) (fun c=>(c,((D.ax.getD []).length:Int))) I (fun c=>by unfold xP;simp only[kw];rfl)
  (fun i c y hy hi=>by
   unfold xP
   simp only[fA hi,cT,jw,z6 hy]
   rw[il (by have:=o.ax;unfold BB at this;omega)]
   cases c<;>rfl)
 rw[Vz,Gc]at L
 have L':bf (xP r (k:Int) e u (j:Int) x D) (I,0)=E4 ((D.ax.getD []).any (cO x.kind),((D.ax.getD []).length:Int)):=L
 rw[if_neg hh]
 simp only[Tp,cond_false,L',Gb,show D.er.ax=D.ax.getD []from rfl]
 cases (D.ax.getD []).any (cO x.kind)with
 |false=>exact⟨_,_,rfl,rfl,by decide⟩
 |true=>
 simp only[cT,E1,En,if_false]
 by_cases hl:x.left<v1
 ·rw[dT hl,if_pos hl];exact⟨_,_,rfl,rfl,by decide⟩
 rw[dF hl,if_neg hl]
 obtain⟨q,wq,q1,q2⟩:=jk2 (o:=u.uses) (k:=x.name) (n:=v1) (l9 o.uses) o.keyed
 rw[q1]
 simp only[cond_false,q64 b (uN h4)]
 rw[show(⟨u.name,u.product,u.version,q,u.results,u.partner,I,u.ai⟩:qf)={ u with uses:=q } by rw[←hs]]
 have f9:=AV (r:={ r with au:=E4 ((r.au.getD []).set j ⟨x.name,x.kind,x.count,j6 .i64 (x.left-v1),I⟩) }) (x:={ u with uses:=q }) b.U (uN h1)
 have dj:({ r with au:=E4 ((r.au.getD []).set j ⟨x.name,x.kind,x.count,j6 .i64 (x.left-v1),I⟩),units:=E4 ((r.units.getD []).set k { u with uses:=q }) }:qc).er=aA (cj r.er j ⟨x.name,x.kind,x.count,j6 .i64 (x.left-v1),I⟩) k { u.er with uses:=mW (j6 .i64) u.er.uses x.name v1 }:=by
  simp only[qc.er,aA,cj,Ef,Gd]
  congr 2
  simp only[qf.er,q2]
 simp only[f9]
 cases wq<;>exact⟨_,_,rfl,rfl,dj⟩
theorem jrr (b:GB r)(hk:e.kind=mT)(hc:yt e.er=0){k:Nat}{u:qf}{n0 n1:List UInt8}(hn:e.names.getD []=[n0,n1])(h1:(r.units.getD [])[k]?=E4 u):gk (f208 r (k:Int) e) (xN r.er k u.er e.er):=by
 unfold xN
 rw[lI hn]
 unfold f208
 simp only[z6 h1,gj hn,jw,Np (yf b.U),xO]
 cases hq:kl r.er n1 with
 |none=>exact⟨_,_,rfl,rfl,by decide⟩
 |some j=>
 obtain⟨v,h4,_,h5⟩:=qQ hq
 rw[iV]
 simp only[E6,E1,cond_false,z6 h4,h5]
 by_cases c1:k=j
 ·rw[if_pos c1,@dT ((j:Int)=(k:Int)) _ (by omega)];exact⟨_,_,rfl,rfl,by decide⟩
 rw[if_neg c1,@dF ((j:Int)=(k:Int)) _ (by omega)]
 simp only[cond_false]
 by_cases c2:u.product=v.product
 case neg=>rw[dF c2,if_pos (show u.er.product≠v.er.product∨u.er.version≠v.er.version from Or.inl c2)];exact⟨_,_,rfl,rfl,by decide⟩
 by_cases c3:u.version=v.version
 case neg=>rw[dT c2,dF c3,if_pos (show u.er.product≠v.er.product∨u.er.version≠v.er.version from Or.inr c3)];exact⟨_,_,rfl,rfl,by decide⟩
 rw[if_neg (show ¬(u.er.product≠v.er.product∨u.er.version≠v.er.version)from fun h=>h.elim (fun h=>h c2) (fun h=>h c3)),dT c2,dT c3]
 simp only[cT]
 by_cases c4:u.aq=E3
 ·rw[if_pos (show u.er.aq=E3∨v.er.aq=E3 from Or.inl c4),c4];exact⟨_,_,rfl,rfl,by decide⟩
 by_cases c5:v.aq=E3
 ·rw[if_pos (show u.er.aq=E3∨v.er.aq=E3 from Or.inr c5)]
  have Ny:u.aq=I:=by simpa using c4
  rw[Ny,c5];exact⟨_,_,rfl,rfl,by decide⟩
 have Ny:u.aq=I:=by simpa using c4
 have c5':v.aq=I:=by simpa using c5
 rw[if_neg (show ¬(u.er.aq=E3∨v.er.aq=E3)from fun h=>h.elim c4 c5)]
 have f1:=AV (r:=r) (x:={ u with partner:=v.name }) b.U (uN h1)
 have f2:=AV (r:={ r with units:=E4 ((r.units.getD []).set k { u with partner:=v.name }) }) (k:=j) (x:={ v with partner:=u.name }) (by rw[Ef,Ga];exact b.U) (by rw[Ef,Ga];exact uN h4)
 have dj:({ r with units:=E4 (((r.units.getD []).set k { u with partner:=v.name }).set j { v with partner:=u.name }) }:qc).er=aA (aA r.er k { u.er with partner:=v.er.name }) j { v.er with partner:=u.er.name }:=by
  simp only[qc.er,aA,Ef,Gd]
  rfl
 rw[show(⟨u.name,u.product,u.version,u.uses,u.results,v.name,I,u.ai⟩:qf)={ u with partner:=v.name } by rw[←Ny],show(⟨v.name,v.product,v.version,v.uses,v.results,u.name,I,v.ai⟩:qf)={ v with partner:=u.name } by rw[←c5']]
 simp only[f1,f2]
 rw[Ny,c5']at dj ⊢
 simp only[cond_false]
 by_cases c6:u.partner=[]
 case neg=>rw[if_pos (show u.er.partner≠[]∨v.er.partner≠[]from Or.inl c6),dF c6];exact⟨_,_,rfl,rfl,by decide⟩
 by_cases c7:v.partner=[]
 case neg=>rw[if_pos (show u.er.partner≠[]∨v.er.partner≠[]from Or.inr c7),dT c6,dF c7];exact⟨_,_,rfl,rfl,by decide⟩
 rw[if_neg (show ¬(u.er.partner≠[]∨v.er.partner≠[])from fun h=>h.elim (fun h=>h c6) (fun h=>h c7)),dT c6,dT c7]
 exact⟨_,_,rfl,rfl,dj⟩
theorem Eb (b:GB r)(w:WF r.er){kk:List UInt8}(gP:kk=l7∨kk=mT∨kk=ot∨kk=pq∨kk=kE∨kk=xy)(hk:e.kind=kk)(hc:yt e.er=0):gk (f127 r e) (apply (j6 .i64) r.er e.er):=by
 rw[jL hk (by rcases gP with rfl|rfl|rfl|rfl|rfl|rfl<;>decide) (by rcases gP with rfl|rfl|rfl|rfl|rfl|rfl<;>decide),if_neg (by rcases gP with rfl|rfl|rfl|rfl|rfl|rfl<;>decide)]
 obtain⟨n0,t,hn⟩:∃n0 t,e.names.getD []=n0::t:=by
  rcases gP with rfl|rfl|rfl|rfl|rfl|rfl
  ·obtain⟨a,c,h⟩:=gm (eY (c:=2) hk rfl hc).1;exact⟨_,_,h⟩
  ·obtain⟨a,c,h⟩:=gm (eY (c:=1) hk rfl hc).1;exact⟨_,_,h⟩
  ·obtain⟨a,c,h⟩:=gm (eY (c:=2) hk rfl hc).1;exact⟨_,_,h⟩
  ·obtain⟨a,h⟩:=iH (eY (c:=1) hk rfl hc).1;exact⟨_,_,h⟩
  ·obtain⟨a,h⟩:=iH (eY (c:=1) hk rfl hc).1;exact⟨_,_,h⟩
  ·obtain⟨a,h⟩:=iH (eY (c:=1) hk rfl hc).1;exact⟨_,_,h⟩
 cases hp:kl r.er n0 with
 |none=>
  unfold oC
  rw[eI hn,hp]
  unfold f127
  simp only[gF hn,jw,Np (yf b.U),xO,hp]
  exact⟨_,_,rfl,rfl,by decide⟩
 |some k=>
 obtain⟨u,h1,_,h3⟩:=qQ hp
 obtain⟨D,v,o⟩:=D7 b w h1
 rw[vN (eI hn) hp h3]
 unfold f127
 simp only[gF hn,jw,Np (yf b.U),xO,hp,E6,E1,cond_false,iV,z6 h1]
 rcases gP with rfl|rfl|rfl|rfl|rfl|rfl
 ·obtain⟨g1,g2⟩:=eY (a:=2) (c:=2) hk rfl hc
  obtain⟨a,c,jX⟩:=gm g1
  obtain⟨v0,v1,hv⟩:=gm g2
  rw[if_pos hk,show decide (e.kind=([117,115,101]:List UInt8))=E3 from dT hk]
  obtain⟨r',cc,q1,q2⟩:=jws b w hk hc jX hv h1
  simp only[cT,q1]
  exact⟨_,_,rfl,q2⟩
 ·obtain⟨g1,g2⟩:=eY (a:=2) (c:=1) hk rfl hc
  obtain⟨a,c,jX⟩:=gm g1
  rw[if_neg (show ¬e.kind=l7 by rw[hk];decide),if_pos hk,show decide (e.kind=([117,115,101]:List UInt8))=I from dF (by rw[hk];decide),show decide (e.kind=([112,97,105,114]:List UInt8))=E3 from dT hk]
  obtain⟨r',cc,q1,q2⟩:=jrr b hk hc jX h1
  simp only[cT,cond_false,q1]
  exact⟨_,_,rfl,q2⟩
 ·obtain⟨g1,g2⟩:=eY (a:=2) (c:=2) hk rfl hc
  obtain⟨a,n1,jX⟩:=gm g1
  obtain⟨v0,v1,hv⟩:=gm g2
  rw[if_neg (show ¬e.kind=l7 by rw[hk];decide),if_neg (show ¬e.kind=mT by rw[hk];decide),if_pos hk,show decide (e.kind=([117,115,101]:List UInt8))=I from dF (by rw[hk];decide),show decide (e.kind=([112,97,105,114]:List UInt8))=I from dF (by rw[hk];decide),show decide (e.kind=([109,101,97,115,117,114,101]:List UInt8))=E3 from dT hk,lI jX,uK hv,o.D6]
  simp only[cT,cond_false]
  by_cases hs:u.aq=E3
  ·rw[hs];exact⟨_,_,rfl,rfl,by decide⟩
  have gA:u.aq=I:=by simpa using hs
  have L:=GU (D.aw.getD []) (xQ r e (k:Int) u D) (fun i (c:Bool)=>(c,(i:Int))) (fun c y=>if c then E3 else ef n1 y) (fun c=>(c,((D.aw.getD []).length:Int))) I (fun c=>by unfold xQ;simp only[kw];rfl)
   (fun i c y hy hi=>by
    unfold xQ
    simp only[fA hi,cT,jw,z6 hy,gj jX]
    rw[il (by have:=o.aw;unfold BB at this;omega)]
    cases c<;>rfl)
  rw[Vz,Gc]at L
  have L':bf (xQ r e (k:Int) u D) (I,0)=E4 ((D.aw.getD []).any (ef n1),((D.aw.getD []).length:Int)):=L
  rw[if_neg hs]
  simp only[VA gA,o.AP,L',gj jX,gj hv,AG (yf o.results)]
  rw[gA,D0 (o:=E4 (u.results.getD [])) (by have:=l9 o.results;simp only[Ef,E0];omega) (by simp)]
  simp only[cond_false,Gb,show D.er.aw=D.aw.getD []from rfl]
  cases (D.aw.getD []).any (ef n1)with
  |false=>exact⟨_,_,rfl,rfl,by decide⟩
  |true=>
   have f9:=AV (r:=r) (x:={ u with results:=E4 (u.results.getD []++[⟨n1,u.version,v1⟩]) }) b.U (uN h1)
   have dj:({ r with units:=E4 ((r.units.getD []).set k { u with results:=E4 (u.results.getD []++[⟨n1,u.version,v1⟩]) }) }:qc).er=aA r.er k { u.er with results:=u.results.getD []++[⟨n1,u.version,v1⟩] }:=by rw[xK rfl];rfl
   rw[gA]at f9
   by_cases h2:64≤(u.results.getD []).length
   ·simp only[show decide (64≤((u.results.getD []).length:Int))=E3 from dT (by omega),if_pos h2,E1,En,if_false,cT]
    exact⟨_,_,rfl,rfl,by decide⟩
   ·simp only[show decide (64≤((u.results.getD []).length:Int))=I from dF (by omega),if_neg h2,E1,En,if_false,cT,cond_false,Ef,f9]
    rw[gA]at dj
    exact⟨_,_,rfl,rfl,dj⟩
 ·rw[if_neg (show ¬e.kind=l7 by rw[hk];decide),if_neg (show ¬e.kind=mT by rw[hk];decide),if_neg (show ¬e.kind=ot by rw[hk];decide),if_pos hk,show decide (e.kind=([117,115,101]:List UInt8))=I from dF (by rw[hk];decide),show decide (e.kind=([112,97,105,114]:List UInt8))=I from dF (by rw[hk];decide),show decide (e.kind=([109,101,97,115,117,114,101]:List UInt8))=I from dF (by rw[hk];decide),show decide (e.kind=([117,112,100,97,116,101]:List UInt8))=E3 from dT hk,o.new]
  simp only[cT,cond_false]
  by_cases hs:u.aq=E3
  ·rw[hs];exact⟨_,_,rfl,rfl,by decide⟩
  have gA:u.aq=I:=by simpa using hs
  rw[if_neg hs]
  have f9:=AV (r:=r) (x:={ u with version:=v }) b.U (uN h1)
  have dj:({ r with units:=E4 ((r.units.getD []).set k { u with version:=v }) }:qc).er=aA r.er k { u.er with version:=v }:=by rw[xK rfl];rfl
  rw[gA]at f9 dj
  simp only[VA gA,(Nq (yf b.P) o.new).2,f9]
  rw[gA]
  simp only[cond_false]
  by_cases h:u.version=v
  ·rw[dT h,if_pos h];exact⟨_,_,rfl,rfl,by decide⟩
  ·rw[dF h,if_neg h];exact⟨_,_,rfl,rfl,dj⟩
 ·rw[if_neg (show ¬e.kind=l7 by rw[hk];decide),if_neg (show ¬e.kind=mT by rw[hk];decide),if_neg (show ¬e.kind=ot by rw[hk];decide),if_neg (show ¬e.kind=pq by rw[hk];decide),if_pos hk,show decide (e.kind=([117,115,101]:List UInt8))=I from dF (by rw[hk];decide),show decide (e.kind=([112,97,105,114]:List UInt8))=I from dF (by rw[hk];decide),show decide (e.kind=([109,101,97,115,117,114,101]:List UInt8))=I from dF (by rw[hk];decide),show decide (e.kind=([117,112,100,97,116,101]:List UInt8))=I from dF (by rw[hk];decide),show decide (e.kind=([115,104,105,112]:List UInt8))=E3 from dT hk]
  have g2:=js3 (yf b.P) o.new (yf b.L) (yf o.uses) o.au o.AP o.D6 (yf o.ax) (yf o.results) (yf o.aw)
  have f9:=AV (r:=r) (x:={ u with aq:=E3 }) b.U (uN h1)
  simp only[cT,cond_false,g2,f9]
  by_cases h:uJ (j6 .i64) r.er u.er=0
  ·rw[dT h,if_neg (fun hh=>hh h)];exact⟨_,_,rfl,rfl,xK rfl⟩
  ·rw[dF h,if_pos h];exact⟨_,_,rfl,rfl,h⟩
 ·rw[if_neg (show ¬e.kind=l7 by rw[hk];decide),if_neg (show ¬e.kind=mT by rw[hk];decide),if_neg (show ¬e.kind=ot by rw[hk];decide),if_neg (show ¬e.kind=pq by rw[hk];decide),if_neg (show ¬e.kind=kE by rw[hk];decide),show decide (e.kind=([117,115,101]:List UInt8))=I from dF (by rw[hk];decide),show decide (e.kind=([112,97,105,114]:List UInt8))=I from dF (by rw[hk];decide),show decide (e.kind=([109,101,97,115,117,114,101]:List UInt8))=I from dF (by rw[hk];decide),show decide (e.kind=([117,112,100,97,116,101]:List UInt8))=I from dF (by rw[hk];decide),show decide (e.kind=([115,104,105,112]:List UInt8))=I from dF (by rw[hk];decide)]
  have f9:=AV (r:=r) (x:={ u with ai:=j6 .i64 (u.ai+1) }) b.U (uN h1)
  have dj:({ r with units:=E4 ((r.units.getD []).set k { u with ai:=j6 .i64 (u.ai+1) }) }:qc).er=aA r.er k { u.er with ai:=j6 .i64 (u.ai+1) }:=by rw[xK rfl];rfl
  simp only[cond_false]
  by_cases hs:u.aq=E3
  ·rw[hs]at f9 dj ⊢
   simp only[f9]
   exact⟨_,_,rfl,rfl,dj⟩
  ·have gA:u.aq=I:=by simpa using hs
   rw[gA]
   exact⟨_,_,rfl,rfl,by decide⟩
end Go.Z
